/- C44m, Pl44m, C44t, Pl44n in one text. -/
import Derived.Test.YtnfglkgahlaofaaGreatDoorExtsortTexts19
import Derived.Test.YtnfglkgahlaofaaGreatDoorExtsortTexts12
import Derived.Test.YtnfglkgahlaofaaGreatDoorExtsortTexts11
import Derived.Test.YtnfglkgahlaofaaGreatDoorC44s
namespace Go.Proofs.YtnfglkgahlaofaaGreatDoor
open Go.GV
set_option linter.unusedVariables false
set_option linter.unusedSimpArgs false
theorem c44m0_ {p : Prop} (h : p := by rw [← R44.runsV_yes hg1.2.1 hg1.1 (by assumption), List.length_map]) : p := h
set_option maxHeartbeats 4000000 in
set_option maxRecDepth 20000 in
theorem f18_ok (rs : List Bytes) (rsA : Option Addr) (rsC : Nat) (m : Int) (fan : Int) (l : List SortField) (lA : Option Addr) (lC : Nat) (w : World) (rsR : RO [] w rsA (rs.map vS)) (lR : RO [] w lA (l.flatMap SortField.enc)) (q0 : rs.length ≤ 1000000) (q1 : ∀ i, (rs.getD i []).length ≤ 1000000) (q2 : rs.length ≤ rsC) (q3 : l.length ≤ 9223372036854775807) : Calls Tryz.prog 18 #[vL rsA rs.length rsC, vG [vI m, vI fan], vL lA l.length lC, vG [Value.nilFunc, Value.nilFunc]] w (GivesW [] w fun v L wx => ∃ out : List Bytes, ∃ outA : Option Addr, ∃ outC : Nat, ∃ v1 : Int, ∃ v2 : Int, ∃ v3 : Int, ∃ e : Int, v = Value.tuple #[vL outA out.length outC, vG [vI v1, vI v2, vI v3], vI e] ∧ L = [] ∧ RO (List.range w.heap.size) wx outA (out.map vS) ∧ ((out, SortWork.mk v1 v2 v3, e) = R44.sortV l m fan R44.idF R44.noF rs)) := by
 refine calls_JNW [] 120 Tryz.func18 rfl Tryz.ntmps18 [(0, _), (1, _), (2, _), (3, _)] rfl rfl (Give.nil w) ?_
 refine q_ (g_ (o_ (bxG fun b1 => ?_)))
 refine o_ (bx1 fun b2 => ?_)
 refine o_ (bxG fun b3 => ?_)
 refine s_ av_ (o_ (al_ Ty.ze34 fun b4 => ?_))
 refine s_ av_ (z_ (n_ (q_ (q_ (g_ (r_ (ld_ 2 Ty.sc24) (c0 (cl_ Ty.ca21) (fun w hS => f21_ok l lA lC w (rno lR hS) hy_) (s_ (x_not rfl) (s_ mv_ ?_)))))))))
 refine or_ 3 (decide (m < 1)) (fun g5 => ?_) ?_
 ·have g5r := g5
  have g5r : (R44.valid l) = true := bnot_false g5r
  have hi6 := R44.valid_facts g5r
  refine sg_ g5 (fA 0 Ty.fi32_0) (rg_ g5 (ld_ 3 Ty.sc3) (sg_ g5 (x_lss_i rfl rfl) ?_))
  exact cr_
 refine s_ mv_ ?_
 refine or_ 3 (decide ((1024 : Int) < m)) (fun g7 => ?_) ?_
 ·have g7r := g7
  have ⟨g7r, h8⟩ := bor_false g7r
  have g7r : (R44.valid l) = true := bnot_false g7r
  have hi9 := R44.valid_facts g7r
  have h8 := of_decide_eq_false h8
  refine sg_ g7 (fA 0 Ty.fi32_0) (rg_ g7 (ld_ 3 Ty.sc3) (sg_ g7 (x_gtr_i rfl rfl) ?_))
  exact cr_
 refine s_ mv_ ?_
 refine or_ 3 (decide (fan < 2)) (fun g10 => ?_) ?_
 ·have g10r := g10
  have ⟨g10r, h11⟩ := bor_false g10r
  have ⟨g10r, h12⟩ := bor_false g10r
  have g10r : (R44.valid l) = true := bnot_false g10r
  have hi13 := R44.valid_facts g10r
  have h12 := of_decide_eq_false h12
  have h11 := of_decide_eq_false h11
  refine sg_ g10 (fA 1 Ty.fi32_1) (rg_ g10 (ld_ 3 Ty.sc3) (sg_ g10 (x_lss_i rfl rfl) ?_))
  exact cr_
 refine s_ mv_ ?_
 refine or_ 3 (decide ((16 : Int) < fan)) (fun g14 => ?_) ?_
 ·have g14r := g14
  have ⟨g14r, h15⟩ := bor_false g14r
  have ⟨g14r, h16⟩ := bor_false g14r
  have ⟨g14r, h17⟩ := bor_false g14r
  have g14r : (R44.valid l) = true := bnot_false g14r
  have hi18 := R44.valid_facts g14r
  have h17 := of_decide_eq_false h17
  have h16 := of_decide_eq_false h16
  have h15 := of_decide_eq_false h15
  refine sg_ g14 (fA 1 Ty.fi32_1) (rg_ g14 (ld_ 3 Ty.sc3) (sg_ g14 (x_gtr_i rfl rfl) ?_))
  exact cr_
 refine z_ (xk_ [0, 5, 6, 7, 8, 9, 10, 41] ?_)
 refine n_ ?_
 refine if_ (fun h19 => ?_) (fun h19 => ?_)
 ·have h19w := h19
  simp only [Bool.and_eq_true, Bool.or_eq_true, Bool.and_eq_false_iff, Bool.or_eq_false_iff, Bool.not_eq_true', Bool.not_eq_false', decide_eq_true_eq, decide_eq_false_iff_not] at h19
  refine q_ (g_ (js_ (vG [vI 0, vI 0, vI 0]) (x_build (by kernel_rfl)) (s_ av_ (o_ (stG 0 Ty.sz34 ?_)))))
  refine s_ av_ (z_ (n_ (rt_ (nr_ ?_))))
  refine JX_retsMW ([] : List Nat) [_, _, _] (Value.tuple #[_, _, _]) rfl Tryz.results18 [Ent.blk b4 34 [vI 0, vI 0, vI 0], Ent.blk b3 41 [Value.nilFunc, Value.nilFunc], Ent.blk b2 24 [vL lA l.length lC], Ent.blk b1 32 [vI m, vI fan]] (fun _ h => h) (fun w h => ⟨rfl, ⟨_, rfl, load_blkN 0 [vI 0, vI 0, vI 0] h rfl Ty.ag34 Ty.sz34 rfl⟩, rfl, trivial⟩) rfl [] (fun _ h => h.keep [false, false, false, false] rfl) (fun _ _ h => h) (fun wx hw => ⟨([] : List Bytes), none, 0, 0, 0, 0, 1, ?_, ?_, RO.nil, ?_⟩)
  ·have e_x0 : (0 : Nat) = (([] : List Bytes).length) := by first | rfl | omega | (simp_all; done) | (simp_all; omega)
   exact congrArg (fun (x0 : Nat) => Value.tuple #[vL none x0 0, vG [vI 0, vI 0, vI 0], vI 1]) e_x0
  ·rfl
  ·first | exact R44.sv_1 (by assumption) | exact R44.sv_2 (by assumption) (by assumption) | exact R44.sv_5 (fan := (kf : Int)) (by assumption) (by assumption) (R44.inR_id (by assumption)) (by first | decide | assumption) (R44.one_row (m := m.toNat) (by omega) (by omega) i1_0 (by omega)).1 R44.sums_no (by first | decide | assumption) c44m0_ (R44.one_row (m := m.toNat) (by omega) (by omega) i1_0 (by omega)).2 (by first | rfl | omega) | exact R44.sv_5 (fan := (kf : Int)) (by assumption) (by assumption) (R44.inR_id (by assumption)) (by first | decide | assumption) (R44.one_none (by omega) (R44.one_row (m := m.toNat) (by omega) (by omega) i1_0 (by omega)).1) R44.sums_no (by first | decide | assumption) c44m0_ (R44.one_row (m := m.toNat) (by omega) (by omega) i1_0 (by omega)).2 (by first | rfl | omega)
 ·have h19w := h19
  have ⟨h19, h20⟩ := bor_false h19
  have ⟨h19, h21⟩ := bor_false h19
  have ⟨h19, h22⟩ := bor_false h19
  have ⟨h19, h23⟩ := bor_false h19
  have h19 : (R44.valid l) = true := bnot_false h19
  have hi24 := R44.valid_facts h19
  have h23 := of_decide_eq_false h23
  have h22 := of_decide_eq_false h22
  have h21 := of_decide_eq_false h21
  have h20 := of_decide_eq_false h20
  obtain ⟨kf, rfl⟩ : ∃ kf : Nat, fan = (kf : Int) := ⟨fan.toNat, by omega⟩
  have hg1 := R44.g1_facts (l := l) (m := m) (fan := (kf : Int)) (by assumption)
  refine sk_ (n_ (q_ (q_ (g_ (s_ mv_ (s_ (lnS Tryz.underlying22) (s_ (x_gtr_i rfl rfl) (s_ mv_ ?_))))))))
  refine or_ 2 (R44.long rs) (fun g25 => ?_) ?_
  ·have g25r := g25
   have g25r := of_decide_eq_false g25r
   refine sg_ g25 mv_ (c0g g25 (cl_ Ty.ca37) (fun w hS => f37_ok rs rsA rsC w (rno rsR hS) hy_ (by first | assumption | exact fun i => Nat.le_trans (q1 i) (by decide))) ?_)
   exact cr_
  refine z_ (n_ ?_)
  refine if_ (fun h26 => ?_) (fun h26 => ?_)
  ·have h26w := h26
   simp only [Bool.and_eq_true, Bool.or_eq_true, Bool.and_eq_false_iff, Bool.or_eq_false_iff, Bool.not_eq_true', Bool.not_eq_false', decide_eq_true_eq, decide_eq_false_iff_not] at h26
   refine q_ (g_ (js_ (vG [vI 0, vI 0, vI 0]) (x_build (by kernel_rfl)) (s_ av_ (o_ (stG 0 Ty.sz34 ?_)))))
   refine s_ av_ (z_ (n_ (rt_ (nr_ ?_))))
   refine JX_retsMW ([] : List Nat) [_, _, _] (Value.tuple #[_, _, _]) rfl Tryz.results18 [Ent.blk b4 34 [vI 0, vI 0, vI 0], Ent.blk b3 41 [Value.nilFunc, Value.nilFunc], Ent.blk b2 24 [vL lA l.length lC], Ent.blk b1 32 [vI m, vI ((kf : Nat) : Int)]] (fun _ h => h) (fun w h => ⟨rfl, ⟨_, rfl, load_blkN 0 [vI 0, vI 0, vI 0] h rfl Ty.ag34 Ty.sz34 rfl⟩, rfl, trivial⟩) rfl [] (fun _ h => h.keep [false, false, false, false] rfl) (fun _ _ h => h) (fun wx hw => ⟨([] : List Bytes), none, 0, 0, 0, 0, 8, ?_, ?_, RO.nil, ?_⟩)
   ·have e_x0 : (0 : Nat) = (([] : List Bytes).length) := by first | rfl | omega | (simp_all; done) | (simp_all; omega)
    exact congrArg (fun (x0 : Nat) => Value.tuple #[vL none x0 0, vG [vI 0, vI 0, vI 0], vI 8]) e_x0
   ·rfl
   ·first | exact R44.sv_1 (by assumption) | exact R44.sv_2 (by assumption) (by assumption) | exact R44.sv_5 (fan := (kf : Int)) (by assumption) (by assumption) (R44.inR_id (by assumption)) (by first | decide | assumption) (R44.one_row (m := m.toNat) (by omega) (by omega) i1_0 (by omega)).1 R44.sums_no (by first | decide | assumption) c44m0_ (R44.one_row (m := m.toNat) (by omega) (by omega) i1_0 (by omega)).2 (by first | rfl | omega) | exact R44.sv_5 (fan := (kf : Int)) (by assumption) (by assumption) (R44.inR_id (by assumption)) (by first | decide | assumption) (R44.one_none (by omega) (R44.one_row (m := m.toNat) (by omega) (by omega) i1_0 (by omega)).1) R44.sums_no (by first | decide | assumption) c44m0_ (R44.one_row (m := m.toNat) (by omega) (by omega) i1_0 (by omega)).2 (by first | rfl | omega)
  ·have h26w := h26
   have ⟨h26, h27⟩ := bor_false h26
   have h26 := of_decide_eq_false h26
   have hi28 := R44.long_facts h27
   refine sk_ (n_ (q_ (g_ (s_ mv_ (s_ (fA 0 Ty.fi41_0) (r_ (ld_ 1 Ty.sc38) ?_))))))
   refine c1 (cl_ Ty.ca39) (fun w hS => f39_ok rs rsA rsC w (rno rsR hS) hy_ hy_) ?_
   rintro _ _ ⟨e29, e30, rfl, rfl⟩
   refine s_ mv_ (s_ (ex_ 0) (s_ (ex_ 1) (s_ (ex_ 2) (s_ av_ (s_ av_ (s_ av_ (z_ (xk_ [0, 5, 6, 7, 8, 9, 10, 11, 12] ?_))))))))
   refine n_ (q_ (q_ (g_ (s_ mv_ (jr_ (vB false) (z_ (n_ (iff_ (sk_ (n_ (q_ (g_ (s_ mv_ (s_ (fA 0 Ty.fi32_0) (r_ (ld_ 4 Ty.sc3) (r_ (ld_ 3 Ty.sc24) ?_))))))))))))))))
   refine JO_callB [] [] [Ent.row (.slice e29 rs.length e30) 9 1 rs.length (rs.map vS), Ent.blk b4 34 [vI 0, vI 0, vI 0], Ent.blk b3 41 [Value.nilFunc, Value.nilFunc], Ent.blk b2 24 [vL lA l.length lC], Ent.blk b1 32 [vI m, vI ((kf : Nat) : Int)]] rfl trivial (fun _ => x_call Ty.ca13 rfl) (fun _ h => h) (fun _ h => by cases h) (fun w hS => f13_ok rs e29 e30 m l lA lC w (RO.of_row hS 0 rfl) (lR.on hS (fun _ h => by cases h)) hy_ hy_ (by first | omega | assumption | exact row_le (hS.mem (j := 0) rfl) | exact row_le (hS.mem (j := 1) rfl) | exact row_le (hS.mem (j := 2) rfl) | exact row_le (hS.mem (j := 3) rfl) | exact row_le (hS.mem (j := 4) rfl) | exact row_le (hS.mem (j := 5) rfl)) hy_) ?_
   rintro wc _ _ wbhB32 ⟨rout, routA, routC, rfl, rfl, routR, routL, routN, routK, hf31⟩ hc0 hB32
   have rsR := rsR.again hB32
   have lR := lR.again hB32
   have routR0 := routR.mono (lown_rangeF (w00 := w) hc0 hc0.fr.size)
   have routN0 := fun i => (routN i).mono (lown_rangeF (w00 := w) hc0 hc0.fr.size)
   have routR := routR.mono (lown_range hc0)
   have routN := fun i => (routN i).mono (lown_range hc0)
   refine s_ av_ (z_ (n_ (q_ (g_ (s_ mv_ (s_ (lnS Tryz.underlying23) (s_ mv_ (js_ (vG [vI ((rout.length : Nat) : Int), vI 0, vI 0]) (x_build (by kernel_rfl)) (o_ (al_ Ty.ze34 fun b33 => ?_))))))))))
   refine o_ (stG 0 Ty.sz34 ?_)
   refine z_ (xk_ [5, 6, 7, 8, 9, 10, 12, 13, 14] ?_)
   refine n_ (q_ (k_ ?_))
   refine J_loopM (X := (List Rw) × (Option Addr) × Nat × Nat × (List Nat)) (fun (⟨runs, runsA, runsC, np, Ds⟩ : (List Rw) × (Option Addr) × Nat × Nat × (List Nat)) => Ds) (fun (⟨runs, runsA, runsC, np, Ds⟩ : (List Rw) × (Option Addr) × Nat × Nat × (List Nat)) => (R44.PassJ (R44.cmpL l) kf (Srt.runs (R44.cmpL l) m.toNat rs) (runs.map Rw.s) np)) (fun (⟨runs, runsA, runsC, np, Ds⟩ : (List Rw) × (Option Addr) × Nat × Nat × (List Nat)) wx => RO (Lown (Ent.blk b33 34 [vI ((rout.length : Nat) : Int), vI ((np : Nat) : Int), vI 0] :: Ent.blk b4 34 [vI 0, vI 0, vI 0] :: Ent.blk b3 41 [Value.nilFunc, Value.nilFunc] :: Ent.blk b2 24 [vL lA l.length lC] :: Ent.blk b1 32 [vI m, vI ((kf : Nat) : Int)] :: (Ds.map dfr)) ++ List.range w.heap.size) wx runsA (runs.flatMap Rw.enc) ∧ runs.length ≤ runsC ∧ (∀ i : Nat, RO (Lown (Ent.blk b33 34 [vI ((rout.length : Nat) : Int), vI ((np : Nat) : Int), vI 0] :: Ent.blk b4 34 [vI 0, vI 0, vI 0] :: Ent.blk b3 41 [Value.nilFunc, Value.nilFunc] :: Ent.blk b2 24 [vL lA l.length lC] :: Ent.blk b1 32 [vI m, vI ((kf : Nat) : Int)] :: (Ds.map dfr)) ++ List.range w.heap.size) wx (runs.getD i default).sA (((runs.getD i default).s).map vS)) ∧ (∀ i : Nat, (runs.getD i default).s.length ≤ (runs.getD i default).sC)) (fun (⟨runs, runsA, runsC, np, Ds⟩ : (List Rw) × (Option Addr) × Nat × Nat × (List Nat)) => [(5, pB b1 0), (6, pB b2 0), (7, pB b3 0), (8, vL none 0 0), (9, pB b4 0), (10, vI 0), (12, vI 0), (13, vL runsA runs.length runsC), (14, pB b33 0)]) (fun (⟨runs, runsA, runsC, np, Ds⟩ : (List Rw) × (Option Addr) × Nat × Nat × (List Nat)) => (Ent.blk b33 34 [vI ((rout.length : Nat) : Int), vI ((np : Nat) : Int), vI 0] :: Ent.blk b4 34 [vI 0, vI 0, vI 0] :: Ent.blk b3 41 [Value.nilFunc, Value.nilFunc] :: Ent.blk b2 24 [vL lA l.length lC] :: Ent.blk b1 32 [vI m, vI ((kf : Nat) : Int)] :: (Ds.map dfr))) (fun (⟨runs, runsA, runsC, np, Ds⟩ : (List Rw) × (Option Addr) × Nat × Nat × (List Nat)) => runs.length) ((rout, routA, routC, 0, ([] : List Nat)) : (List Rw) × (Option Addr) × Nat × Nat × (List Nat)) ?_ rfl ⟨rfl, rfl, rfl, rfl, rfl, rfl, rfl, rfl, rfl, trivial⟩ (fun _ h => h.keep [true, false, true, true, true, true] rfl) (fun wx hw => ⟨(routR0.againF (hw.keep [true, false, true, true, true, true] rfl)), routL, (fun i => (routN0 i).againF (hw.keep [true, false, true, true, true, true] rfl)), routK⟩) ?_
   ·try dsimp only
    exact R44.PassJ.start_of (R44.runsV_yes hg1.2.1 hg1.1 (by assumption))
   rintro ⟨runs, runsA, runsC, np, Ds⟩ wb1 hI1 hW1 hB1
   have rsR := rsR.again hB1
   have lR := lR.again hB1
   have routR0 := routR0.againF hB1
   have routR := routR.again hB1
   have routN0 := fun i => (routN0 i).againF hB1
   have routN := fun i => (routN i).again hB1
   obtain ⟨runsR0, runsL, runsN0, runsK⟩ := hW1
   have runsR := runsR0.fromF
   have runsN := fun i => (runsN0 i).fromF
   have i1_0 := hI1
   try dsimp only at i1_0
   have hcv := R44.cmpL_ok l
   have hpb := R44.pass_bounds (by omega) (by omega) i1_0 q0 q1
   have hil := R44.inner_len (lists := runs) 0
   try dsimp only
   refine q_ (q_ (g_ (s_ mv_ (s_ (lnS Tryz.underlying23) (s_ (x_gtr_i rfl rfl) (z_ (n_ ?_)))))))
   refine ifd (fun h34w h34 => ?_) (fun h34w h34 => ?_)
   ·refine sk_ (n_ (k_ (q_ (g_ (o_ (al_ Ty.ze23 fun b35 => ?_))))))
    refine z_ (n_ (q_ (q_ (g_ (s_ mv_ (s_ (fA 1 Ty.fi32_1) (r_ (ld_ 5 Ty.sc3) ?_)))))))
    refine c1 (cl_ Ty.ca40) (fun w hS => f40_ok runs _ _ kf w (rno runsR hS) (fun i => (runsN i).on hS (fun _ h => by cases h)) hy_ hy_) ?_
    rintro _ _ ⟨bp36, bq37, rfl, rfl⟩
    refine z_ (n_ (k_ ?_))
    refine J_rangeFunc (n := _) (gf := 69) (lb := [pB bp36 0, pB bq37 0]) (enc := Part.enc) (xs := (R44.parts kf runs runsA)) (fun (pre : List Part) (⟨next, nextA, nextC⟩ : (List Rw) × (Option Addr) × Nat) => (next.map Rw.s = pre.map (fun p => R44.mergeV l (p.s.map Rw.s)))) (fun (_ : List Part) (⟨next, nextA, nextC⟩ : (List Rw) × (Option Addr) × Nat) => (Ent.blk b35 23 [vL nextA next.length nextC] :: Ent.blk b33 34 [vI ((rout.length : Nat) : Int), vI ((np : Nat) : Int), vI 0] :: Ent.blk b4 34 [vI 0, vI 0, vI 0] :: Ent.blk b3 41 [Value.nilFunc, Value.nilFunc] :: Ent.blk b2 24 [vL lA l.length lC] :: Ent.blk b1 32 [vI m, vI ((kf : Nat) : Int)] :: Ent.row (.slice nextA next.length nextC) 22 1 next.length (next.flatMap Rw.enc) :: (next.map (RwE 9) ++ (Ds.map dfr)))) ((([] : List Rw), none, 0) : (List Rw) × (Option Addr) × Nat) [Ent.blk bp36 23 [vL runsA runs.length runsC], Ent.blk bq37 3 [vI ((kf : Nat) : Int)]] rfl rfl rfl Ty.ca69 (ps_ rfl) (fun _ => rfl) (fun _ h => (((((((((h.nilrow 22 1).front 8 _ rfl).front 8 _ rfl).front 8 _ rfl).front 8 _ rfl).front 8 _ rfl).front 8 _ rfl).front 8 _ rfl).front 8 _ rfl).keepN 9 [true, true, true, true, true, true, true, true, true] rfl) ?_ ?_ ?_
    ·intro wi39 li40 di41 ri42 hold43 hg44 hY45
     refine it_done (I := (fun (pre : List Part) (⟨next, nextA, nextC⟩ : (List Rw) × (Option Addr) × Nat) => (next.map Rw.s = pre.map (fun p => R44.mergeV l (p.s.map Rw.s))))) (Lf := LF li40 di41 ri42 (fun (_ : List Part) (⟨next, nextA, nextC⟩ : (List Rw) × (Option Addr) × Nat) => (Ent.blk b35 23 [vL nextA next.length nextC] :: Ent.blk b33 34 [vI ((rout.length : Nat) : Int), vI ((np : Nat) : Int), vI 0] :: Ent.blk b4 34 [vI 0, vI 0, vI 0] :: Ent.blk b3 41 [Value.nilFunc, Value.nilFunc] :: Ent.blk b2 24 [vL lA l.length lC] :: Ent.blk b1 32 [vI m, vI ((kf : Nat) : Int)] :: Ent.row (.slice nextA next.length nextC) 22 1 next.length (next.flatMap Rw.enc) :: (next.map (RwE 9) ++ (Ds.map dfr))))) ?_
     exact f69_ok li40 _ _ _ _ bp36 bq37 runs runsA runsC kf _ (runsR.old hold43) (fun i => (runsN i).old hold43) hY45 rfl (by omega) (by omega) (by omega) (by omega) hg44
    ·rintro wi46 li40 di41 ri42 pre ⟨ps, psA, psC⟩ rest48 ⟨next, nextA, nextC⟩ hp49 hI50 hold43
     have i2_0 := hI50
     try dsimp only at i2_0
     have rsR := rsR.old hold43
     have lR := lR.old hold43
     have routR := routR.old hold43
     have runsR := runsR.old hold43
     have routN := fun i => (routN i).old hold43
     have runsN := fun i => (runsN i).old hold43
     have hpl := R44.part_pre hp49
     have hnl := R44.map_lens i2_0
     have hp0 := R44.part_len hp49 hpb.1
     have hp1 := R44.part_short hp49 hpb.2.2.1
     have hp2 := R44.part_cap hp49 runsK
     have hp3 := R44.part_flat hp49 hpb.2.1
     have psR := R44.part_ro hp49 runsR
     have psN := R44.part_ron hp49 runsN
     refine J_weaken (E' := [(6, pB b2 0), (15, pB b35 0), (79, vL psA ps.length psC)]) (L' := (Ent.obj li40 (lp ri42 .ready) :: dfr di41 :: Ent.blk b35 23 [vL nextA next.length nextC] :: Ent.blk b33 34 [vI ((rout.length : Nat) : Int), vI ((np : Nat) : Int), vI 0] :: Ent.blk b4 34 [vI 0, vI 0, vI 0] :: Ent.blk b3 41 [Value.nilFunc, Value.nilFunc] :: Ent.blk b2 24 [vL lA l.length lC] :: Ent.blk b1 32 [vI m, vI ((kf : Nat) : Int)] :: Ent.row (.slice nextA next.length nextC) 22 1 next.length (next.flatMap Rw.enc) :: (next.map (RwE 9) ++ (Ds.map dfr)))) ⟨rfl, rfl, rfl, trivial⟩ (fun _ h => h) ?_
     refine g_ (s_ av_ (z_ (JX_begin (k_ ?_))))
     refine drU (Ent.obj li40 (lp ri42 .busy) :: dfr di41 :: Ent.blk b33 34 [vI ((rout.length : Nat) : Int), vI ((np : Nat) : Int), vI 0] :: Ent.blk b4 34 [vI 0, vI 0, vI 0] :: Ent.blk b3 41 [Value.nilFunc, Value.nilFunc] :: Ent.blk b2 24 [vL lA l.length lC] :: Ent.blk b1 32 [vI m, vI ((kf : Nat) : Int)] :: (Ds.map dfr)) [5, 6] 7 Ty.mixed ?_
     refine JA_early 0 (vL nextA next.length nextC) rfl (by kernel_rfl) (by kernel_rfl) (by kernel_rfl) rfl (by kernel_rfl) (fun _ _ _ h => h) rfl trivial (x_load 2 rfl rfl Ty.sc23 rfl) ?_
     refine jp_ 1 rfl mv_ (jq_ 2 rfl (ld_ 5 Ty.sc24) (j1_ 3 ?_ (fun _ h => ⟨(drop_seg 9 (G := next.map (RwE 9)) h rfl).keepN 9 [true, true, false, true, true, true, true, true, false] rfl, fun _ => h⟩)))
     refine jc1_ rfl (cl_ Ty.ca16) (fun w hS => f16_ok ps psA psC l lA lC w (rno psR hS) (fun i => (psN i).on hS (fun _ h => by cases h)) (rno lR hS) hy_ hy_ hy_ hy_ hy_) ?_
     rintro _ _ ⟨e51, e52, rfl, rfl⟩
     refine j1_ 4 (jio_ rfl (O_buildSlice (cs := [vL e51 ((R44.mergeV l (ps.map Rw.s)).length) e52]) Tryz.underlying23 Ty.sz22 Ty.ze22 (by decide) (by decide) (by kernel_rfl) fun b54 => ?_)) (fun _ h => ⟨(drop_seg 10 (G := next.map (RwE 9)) h rfl).keepN 10 [false, true, true, false, true, true, true, true, true, false] rfl, fun _ => h.keepN 10 [false, true, true, true, true, true, true, true, true, true] rfl⟩)
     refine j1_ 5 (jio_ rfl (O_append_f 10 Rw.enc 1 next [(Rw.mk (R44.mergeV l (ps.map Rw.s)) e51 e52)] Tryz.underlying23 Ty.sz22 Ty.by22 Ty.ze22 rfl (by decide) rfl rfl rfl rfl Rw.enc_len Rw.enc_one (cells_blk 0 (off := 0) (m := 1) rfl rfl) lt_ lt_ fun A57 c58 => ?_)) (fun _ h => ⟨(drop_seg 11 (G := next.map (RwE 9)) h rfl).keepN 11 [false, false, true, true, false, true, true, true, true, true, false] rfl, fun _ => h.keepN 11 [false, false, true, true, true, true, true, true, true, true, true] rfl⟩)
     refine JA_weaken (E' := [(6, pB b2 0), (15, pB b35 0), (79, vL psA ps.length psC), (16, vL psA ps.length psC), (80, vL nextA next.length nextC), (81, vL psA ps.length psC), (82, vL lA l.length lC), (83, vL e51 ((R44.mergeV l (ps.map Rw.s)).length) e52), (84, vL (some ⟨b54, 0, none⟩) 1 1), (85, vL A57 ((next ++ [(Rw.mk (R44.mergeV l (ps.map Rw.s)) e51 e52)]).length) c58)]) (L' := (Ent.blk b54 22 [vL e51 ((R44.mergeV l (ps.map Rw.s)).length) e52] :: Ent.obj li40 (lp ri42 .busy) :: dfr di41 :: Ent.blk b35 23 [vL nextA next.length nextC] :: Ent.blk b33 34 [vI ((rout.length : Nat) : Int), vI ((np : Nat) : Int), vI 0] :: Ent.blk b4 34 [vI 0, vI 0, vI 0] :: Ent.blk b3 41 [Value.nilFunc, Value.nilFunc] :: Ent.blk b2 24 [vL lA l.length lC] :: Ent.blk b1 32 [vI m, vI ((kf : Nat) : Int)] :: Ent.row (.slice A57 (next ++ [(Rw.mk (R44.mergeV l (ps.map Rw.s)) e51 e52)]).length c58) 22 1 (next ++ [(Rw.mk (R44.mergeV l (ps.map Rw.s)) e51 e52)]).length ((next ++ [(Rw.mk (R44.mergeV l (ps.map Rw.s)) e51 e52)]).flatMap Rw.enc) :: ((next ++ [(Rw.mk (R44.mergeV l (ps.map Rw.s)) e51 e52)]).map (RwE 9) ++ (Ds.map dfr)))) ⟨rfl, rfl, rfl, rfl, rfl, rfl, rfl, rfl, rfl, rfl, trivial⟩ (fun _ h => (seg_snoc 10 (X := next) (f := RwE 9) (x := (Rw.mk (R44.mergeV l (ps.map Rw.s)) e51 e52)) (h.front 1 _ rfl) rfl rfl)) ?_
     refine j1_ 6 (jio_ rfl (st1 3 Ty.sz23 ?_)) (gl_ rfl (fun _ h => (drop_seg 10 (G := (next ++ [(Rw.mk (R44.mergeV l (ps.map Rw.s)) e51 e52)]).map (RwE 9)) h rfl).keepN 10 [false, true, true, false, true, true, true, true, true, false] rfl))
     refine JA_done (by kernel_rfl) (gl_ rfl (fun _ h => (drop_seg 10 (G := (next ++ [(Rw.mk (R44.mergeV l (ps.map Rw.s)) e51 e52)]).map (RwE 9)) h rfl).keepN 10 [false, true, true, false, true, true, true, true, true, false] rfl)) ?_
     refine kx_ ?_
     refine JX_end (dfr di41 :: Ent.blk b35 23 [vL A57 ((next ++ [(Rw.mk (R44.mergeV l (ps.map Rw.s)) e51 e52)]).length) c58] :: Ent.blk b33 34 [vI ((rout.length : Nat) : Int), vI ((np : Nat) : Int), vI 0] :: Ent.blk b4 34 [vI 0, vI 0, vI 0] :: Ent.blk b3 41 [Value.nilFunc, Value.nilFunc] :: Ent.blk b2 24 [vL lA l.length lC] :: Ent.blk b1 32 [vI m, vI ((kf : Nat) : Int)] :: Ent.row (.slice A57 (next ++ [(Rw.mk (R44.mergeV l (ps.map Rw.s)) e51 e52)]).length c58) 22 1 (next ++ [(Rw.mk (R44.mergeV l (ps.map Rw.s)) e51 e52)]).length ((next ++ [(Rw.mk (R44.mergeV l (ps.map Rw.s)) e51 e52)]).flatMap Rw.enc) :: ((next ++ [(Rw.mk (R44.mergeV l (ps.map Rw.s)) e51 e52)]).map (RwE 9) ++ (Ds.map dfr))) (fun _ h => h.keepN 10 [false, true, true, true, true, true, true, true, true, true] rfl) (fun w hS => ⟨rfl, ((next ++ [(Rw.mk (R44.mergeV l (ps.map Rw.s)) e51 e52)], A57, c58) : (List Rw) × (Option Addr) × Nat), ?_, hS⟩)
     try dsimp only
     rw [List.map_append, List.map_append, i2_0]; rfl
    ·rintro D59 ⟨next, nextA, nextC⟩ hI50
     have i2_0 := hI50
     try dsimp only at i2_0
     try dsimp only
     refine kx_ (n_ (q_ (g_ (r_ (ld_ 1 Ty.sc23) (s_ av_ (z_ (n_ (g_ (s_ (fA 1 Ty.fi34_1) (r_ (ld_ 2 Ty.sc3) (s_ (x_add_n (a := np) (b := 1) rfl rfl (by omega)) (s_ (fA 1 Ty.fi34_1) (o_ (st1 2 Ty.sz3 ?_))))))))))))))
     refine z_ (kx_ ?_)
     refine JX_roundM ((next, nextA, nextC, np + 1, (D59 :: Ds)) : (List Rw) × (Option Addr) × Nat × Nat × (List Nat)) ?_ ?_ rfl ⟨rfl, rfl, rfl, rfl, rfl, rfl, rfl, rfl, rfl, trivial⟩ (fun _ _ h => (hB1.back _ _ h)) (fun _ h => (mark_tail 7 (G := []) (drop_seg 8 (G := next.map (RwE 9)) h rfl) rfl).keepN 7 [false, true, true, true, true, true, false] rfl) (fun wx hw => ⟨(RO.of_rowF (Lc := (Ent.blk b33 34 [vI ((rout.length : Nat) : Int), vI (((np + 1) : Nat) : Int), vI 0] :: Ent.blk b4 34 [vI 0, vI 0, vI 0] :: Ent.blk b3 41 [Value.nilFunc, Value.nilFunc] :: Ent.blk b2 24 [vL lA l.length lC] :: Ent.blk b1 32 [vI m, vI ((kf : Nat) : Int)] :: ((D59 :: Ds).map dfr))) (Lr := Ent.row (.slice nextA next.length nextC) 22 1 next.length (next.flatMap Rw.enc) :: next.map (RwE 9)) (split_last 5 (M := (Ent.blk b33 34 [vI ((rout.length : Nat) : Int), vI (((np + 1) : Nat) : Int), vI 0] :: Ent.blk b4 34 [vI 0, vI 0, vI 0] :: Ent.blk b3 41 [Value.nilFunc, Value.nilFunc] :: Ent.blk b2 24 [vL lA l.length lC] :: Ent.blk b1 32 [vI m, vI ((kf : Nat) : Int)] :: (next.map (RwE 9) ++ ((D59 :: Ds).map dfr)))) (G := next.map (RwE 9)) (T := ((D59 :: Ds).map dfr)) ((((((((mark_tail 7 (G := next.map (RwE 9)) hw rfl).front 5 _ rfl).front 5 _ rfl).front 5 _ rfl).front 5 _ rfl).front 5 _ rfl).front 6 _ rfl).keepN 7 [true, true, true, true, true, true, false] rfl) rfl) (hB32.back _ _ (hB1.back _ _ (split_last 5 (M := (Ent.blk b33 34 [vI ((rout.length : Nat) : Int), vI (((np + 1) : Nat) : Int), vI 0] :: Ent.blk b4 34 [vI 0, vI 0, vI 0] :: Ent.blk b3 41 [Value.nilFunc, Value.nilFunc] :: Ent.blk b2 24 [vL lA l.length lC] :: Ent.blk b1 32 [vI m, vI ((kf : Nat) : Int)] :: (next.map (RwE 9) ++ ((D59 :: Ds).map dfr)))) (G := next.map (RwE 9)) (T := ((D59 :: Ds).map dfr)) ((((((((mark_tail 7 (G := next.map (RwE 9)) hw rfl).front 5 _ rfl).front 5 _ rfl).front 5 _ rfl).front 5 _ rfl).front 5 _ rfl).front 6 _ rfl).keepN 7 [true, true, true, true, true, true, false] rfl) rfl))) 0 rfl), (row_le ((split_last 5 (M := (Ent.blk b33 34 [vI ((rout.length : Nat) : Int), vI (((np + 1) : Nat) : Int), vI 0] :: Ent.blk b4 34 [vI 0, vI 0, vI 0] :: Ent.blk b3 41 [Value.nilFunc, Value.nilFunc] :: Ent.blk b2 24 [vL lA l.length lC] :: Ent.blk b1 32 [vI m, vI ((kf : Nat) : Int)] :: (next.map (RwE 9) ++ ((D59 :: Ds).map dfr)))) (G := next.map (RwE 9)) (T := ((D59 :: Ds).map dfr)) ((((((((mark_tail 7 (G := next.map (RwE 9)) hw rfl).front 5 _ rfl).front 5 _ rfl).front 5 _ rfl).front 5 _ rfl).front 5 _ rfl).front 6 _ rfl).keepN 7 [true, true, true, true, true, true, false] rfl) rfl).hold _ (List.mem_append_right _ List.mem_cons_self))), (ron_segF (Lc := (Ent.blk b33 34 [vI ((rout.length : Nat) : Int), vI (((np + 1) : Nat) : Int), vI 0] :: Ent.blk b4 34 [vI 0, vI 0, vI 0] :: Ent.blk b3 41 [Value.nilFunc, Value.nilFunc] :: Ent.blk b2 24 [vL lA l.length lC] :: Ent.blk b1 32 [vI m, vI ((kf : Nat) : Int)] :: ((D59 :: Ds).map dfr))) (Lr := Ent.row (.slice nextA next.length nextC) 22 1 next.length (next.flatMap Rw.enc) :: next.map (RwE 9)) (X := next) (t := 9) (split_last 5 (M := (Ent.blk b33 34 [vI ((rout.length : Nat) : Int), vI (((np + 1) : Nat) : Int), vI 0] :: Ent.blk b4 34 [vI 0, vI 0, vI 0] :: Ent.blk b3 41 [Value.nilFunc, Value.nilFunc] :: Ent.blk b2 24 [vL lA l.length lC] :: Ent.blk b1 32 [vI m, vI ((kf : Nat) : Int)] :: (next.map (RwE 9) ++ ((D59 :: Ds).map dfr)))) (G := next.map (RwE 9)) (T := ((D59 :: Ds).map dfr)) ((((((((mark_tail 7 (G := next.map (RwE 9)) hw rfl).front 5 _ rfl).front 5 _ rfl).front 5 _ rfl).front 5 _ rfl).front 5 _ rfl).front 6 _ rfl).keepN 7 [true, true, true, true, true, true, false] rfl) rfl) (hB32.back _ _ (hB1.back _ _ (split_last 5 (M := (Ent.blk b33 34 [vI ((rout.length : Nat) : Int), vI (((np + 1) : Nat) : Int), vI 0] :: Ent.blk b4 34 [vI 0, vI 0, vI 0] :: Ent.blk b3 41 [Value.nilFunc, Value.nilFunc] :: Ent.blk b2 24 [vL lA l.length lC] :: Ent.blk b1 32 [vI m, vI ((kf : Nat) : Int)] :: (next.map (RwE 9) ++ ((D59 :: Ds).map dfr)))) (G := next.map (RwE 9)) (T := ((D59 :: Ds).map dfr)) ((((((((mark_tail 7 (G := next.map (RwE 9)) hw rfl).front 5 _ rfl).front 5 _ rfl).front 5 _ rfl).front 5 _ rfl).front 5 _ rfl).front 6 _ rfl).keepN 7 [true, true, true, true, true, true, false] rfl) rfl))) (fun _ h => List.mem_cons_of_mem _ h)), (cap_seg (X := next) (t := 9) (split_last 5 (M := (Ent.blk b33 34 [vI ((rout.length : Nat) : Int), vI (((np + 1) : Nat) : Int), vI 0] :: Ent.blk b4 34 [vI 0, vI 0, vI 0] :: Ent.blk b3 41 [Value.nilFunc, Value.nilFunc] :: Ent.blk b2 24 [vL lA l.length lC] :: Ent.blk b1 32 [vI m, vI ((kf : Nat) : Int)] :: (next.map (RwE 9) ++ ((D59 :: Ds).map dfr)))) (G := next.map (RwE 9)) (T := ((D59 :: Ds).map dfr)) ((((((((mark_tail 7 (G := next.map (RwE 9)) hw rfl).front 5 _ rfl).front 5 _ rfl).front 5 _ rfl).front 5 _ rfl).front 5 _ rfl).front 6 _ rfl).keepN 7 [true, true, true, true, true, true, false] rfl) rfl) (fun _ h => List.mem_append_right _ (List.mem_cons_of_mem _ h)))⟩)
     ·try dsimp only
      exact R44.pass_next hcv (by omega) i1_0 (by omega) hg1.1 i2_0
     ·try dsimp only
      exact R44.pass_dec (by omega) (by omega) hg1.1 i2_0
   ·refine J_exit (ne_ (JX_roundM_exit (kh_ (n_ (q_ ?_)))))
    refine g_ (s_ av_ (z_ (n_ (q_ (q_ (g_ (s_ mv_ (s_ (lnS Tryz.underlying23) (s_ (x_gtr_i rfl rfl) (z_ (n_ ?_)))))))))))
    refine ifd (fun h60w h60 => ?_) (fun h60w h60 => ?_)
    ·refine g_ (s_ mv_ (r_ (ixF (k := 0) Rw.enc_len (cells_ro runsR) Tryz.underlying23 Ty.sz22) (r_ (ldF (k := 0) 0 Rw.enc_len (cells_ro runsR) Ty.sc22) (s_ av_ (z_ (n_ (q_ (g_ (s_ mv_ (r_ (ld_ 3 Ty.sc24) (s_ (fA 1 Ty.fi41_1) (r_ (ld_ 2 Ty.sc39) ?_))))))))))))
     refine c0 (cl_ Ty.ca41) (fun w hS => f41_ok _ _ _ l lA lC w (rno (runsN 0) hS) (rno lR hS)) (s_ mv_ (s_ (ex_ 0) (s_ (ex_ 1) (s_ av_ (s_ av_ (z_ (xk_ [8, 9, 10, 12, 14, 17, 18] ?_)))))))
     refine n_ (q_ (q_ (g_ (s_ mv_ (jr_ (vB false) (z_ (n_ (iff_ (sk_ (n_ (q_ (g_ (s_ (fA 2 Ty.fi34_2) (r_ (ld_ 0 Ty.sc3) (s_ mv_ (s_ (lnS Tryz.underlying22) (s_ mv_ ?_)))))))))))))))))
     refine s_ (lnS Tryz.underlying22) (s_ (x_sub_i (a := (((runs.getD 0 default).s.length : Nat) : Int)) (b := ((((runs.getD 0 default).s).length : Nat) : Int)) rfl rfl (by omega) (by omega)) (s_ (x_add_i (a := 0) (b := (((runs.getD 0 default).s.length : Nat) : Int) - ((((runs.getD 0 default).s).length : Nat) : Int)) rfl rfl (by omega) (by omega)) (s_ (fA 2 Ty.fi34_2) (o_ (st1 0 Ty.sz3 ?_)))))
     refine z_ (n_ (q_ ?_))
     refine drU (Ent.blk b33 34 [vI ((rout.length : Nat) : Int), vI ((np : Nat) : Int), vI (0 + ((((runs.getD 0 default).s.length : Nat) : Int) - ((((runs.getD 0 default).s).length : Nat) : Int)))] :: Ent.blk b3 41 [Value.nilFunc, Value.nilFunc] :: Ent.blk b2 24 [vL lA l.length lC] :: Ent.blk b1 32 [vI m, vI ((kf : Nat) : Int)] :: (Ds.map dfr)) [3] 5 Ty.mixed ?_
     refine jp_ 0 rfl mv_ (jq_ 1 rfl (ldN 0 [vI ((rout.length : Nat) : Int), vI ((np : Nat) : Int), vI (0 + ((((runs.getD 0 default).s.length : Nat) : Int) - ((((runs.getD 0 default).s).length : Nat) : Int)))] Ty.ag34 Ty.sz34) (jp_ 2 rfl av_ (j1_ 3 (jio_ rfl (stG 1 Ty.sz34 ?_)) (fun _ h => ⟨h.keepN 5 [true, false, true, true, true] rfl, fun _ => h⟩))))
     refine jp_ 4 rfl av_ ?_
     refine JA_done (by kernel_rfl) (gl_ rfl (fun _ h => h.keepN 5 [true, false, true, true, true] rfl)) ?_
     refine n_ (rt_ ?_)
     refine JX_retsMW Ds [_, _, _] (Value.tuple #[_, _, _]) rfl Tryz.results18 [Ent.blk b33 34 [vI ((rout.length : Nat) : Int), vI ((np : Nat) : Int), vI (0 + ((((runs.getD 0 default).s.length : Nat) : Int) - ((((runs.getD 0 default).s).length : Nat) : Int)))], Ent.blk b4 34 [vI ((rout.length : Nat) : Int), vI ((np : Nat) : Int), vI (0 + ((((runs.getD 0 default).s.length : Nat) : Int) - ((((runs.getD 0 default).s).length : Nat) : Int)))], Ent.blk b3 41 [Value.nilFunc, Value.nilFunc], Ent.blk b2 24 [vL lA l.length lC], Ent.blk b1 32 [vI m, vI ((kf : Nat) : Int)]] (fun _ h => tail_front 5 h rfl) (fun w h => ⟨rfl, ⟨_, rfl, load_blkN 1 [vI ((rout.length : Nat) : Int), vI ((np : Nat) : Int), vI (0 + ((((runs.getD 0 default).s.length : Nat) : Int) - ((((runs.getD 0 default).s).length : Nat) : Int)))] h rfl Ty.ag34 Ty.sz34 rfl⟩, rfl, trivial⟩) rfl [] (fun _ h => h.keep [false, false, false, false, false] rfl) (fun _ _ h => (hB32.back _ _ (hB1.back _ _ h))) (fun wx hw => ⟨(runs.getD 0 default).s, ((runs.getD 0 default).sA), ((runs.getD 0 default).sC), ((rout.length : Nat) : Int), ((np : Nat) : Int), 0 + ((((runs.getD 0 default).s.length : Nat) : Int) - ((((runs.getD 0 default).s).length : Nat) : Int)), 0, ?_, ?_, ((runsN0 0).againF hw).freshF, ?_⟩)
     ·rfl
     ·rfl
     ·first | exact R44.sv_1 (by assumption) | exact R44.sv_2 (by assumption) (by assumption) | exact R44.sv_5 (fan := (kf : Int)) (by assumption) (by assumption) (R44.inR_id (by assumption)) (by first | decide | assumption) (R44.one_row (m := m.toNat) (by omega) (by omega) i1_0 (by omega)).1 R44.sums_no (by first | decide | assumption) c44m0_ (R44.one_row (m := m.toNat) (by omega) (by omega) i1_0 (by omega)).2 (by first | rfl | omega) | exact R44.sv_5 (fan := (kf : Int)) (by assumption) (by assumption) (R44.inR_id (by assumption)) (by first | decide | assumption) (R44.one_none (by omega) (R44.one_row (m := m.toNat) (by omega) (by omega) i1_0 (by omega)).1) R44.sums_no (by first | decide | assumption) c44m0_ (R44.one_row (m := m.toNat) (by omega) (by omega) i1_0 (by omega)).2 (by first | rfl | omega)
    ·refine sk_ (n_ (q_ (g_ (s_ mv_ (r_ (ld_ 3 Ty.sc24) (s_ (fA 1 Ty.fi41_1) (r_ (ld_ 2 Ty.sc39) (c0 (cl_ Ty.ca41) (fun w hS => f41_ok ([] : List Bytes) none 0 l lA lC w RO.nil (rno lR hS)) (s_ mv_ (s_ (ex_ 0) (s_ (ex_ 1) (s_ av_ ?_))))))))))))
     refine s_ av_ (z_ (xk_ [8, 9, 10, 12, 14, 17, 18] ?_))
     refine n_ (q_ (q_ (g_ (s_ mv_ (jr_ (vB false) (z_ (n_ (iff_ (sk_ (n_ (q_ (g_ (s_ (fA 2 Ty.fi34_2) (r_ (ld_ 0 Ty.sc3) (s_ mv_ (s_ (lnS Tryz.underlying22) (s_ mv_ ?_)))))))))))))))))
     refine s_ (lnS Tryz.underlying22) (s_ (x_sub_i (a := 0) (b := ((([] : List Bytes).length : Nat) : Int)) rfl rfl lt_ lt_) (s_ (x_add_i (a := 0) (b := 0 - ((([] : List Bytes).length : Nat) : Int)) rfl rfl lt_ lt_) (s_ (fA 2 Ty.fi34_2) (o_ (st1 0 Ty.sz3 ?_)))))
     refine z_ (n_ (q_ ?_))
     refine drU (Ent.blk b33 34 [vI ((rout.length : Nat) : Int), vI ((np : Nat) : Int), vI (0 + (0 - ((([] : List Bytes).length : Nat) : Int)))] :: Ent.blk b3 41 [Value.nilFunc, Value.nilFunc] :: Ent.blk b2 24 [vL lA l.length lC] :: Ent.blk b1 32 [vI m, vI ((kf : Nat) : Int)] :: (Ds.map dfr)) [3] 5 Ty.mixed ?_
     refine jp_ 0 rfl mv_ (jq_ 1 rfl (ldN 0 [vI ((rout.length : Nat) : Int), vI ((np : Nat) : Int), vI (0 + (0 - ((([] : List Bytes).length : Nat) : Int)))] Ty.ag34 Ty.sz34) (jp_ 2 rfl av_ (j1_ 3 (jio_ rfl (stG 1 Ty.sz34 ?_)) (fun _ h => ⟨h.keepN 5 [true, false, true, true, true] rfl, fun _ => h⟩))))
     refine jp_ 4 rfl av_ ?_
     refine JA_done (by kernel_rfl) (gl_ rfl (fun _ h => h.keepN 5 [true, false, true, true, true] rfl)) ?_
     refine n_ (rt_ ?_)
     refine JX_retsMW Ds [_, _, _] (Value.tuple #[_, _, _]) rfl Tryz.results18 [Ent.blk b33 34 [vI ((rout.length : Nat) : Int), vI ((np : Nat) : Int), vI (0 + (0 - ((([] : List Bytes).length : Nat) : Int)))], Ent.blk b4 34 [vI ((rout.length : Nat) : Int), vI ((np : Nat) : Int), vI (0 + (0 - ((([] : List Bytes).length : Nat) : Int)))], Ent.blk b3 41 [Value.nilFunc, Value.nilFunc], Ent.blk b2 24 [vL lA l.length lC], Ent.blk b1 32 [vI m, vI ((kf : Nat) : Int)]] (fun _ h => tail_front 5 h rfl) (fun w h => ⟨rfl, ⟨_, rfl, load_blkN 1 [vI ((rout.length : Nat) : Int), vI ((np : Nat) : Int), vI (0 + (0 - ((([] : List Bytes).length : Nat) : Int)))] h rfl Ty.ag34 Ty.sz34 rfl⟩, rfl, trivial⟩) rfl [] (fun _ h => h.keep [false, false, false, false, false] rfl) (fun _ _ h => (hB32.back _ _ (hB1.back _ _ h))) (fun wx hw => ⟨([] : List Bytes), none, 0, ((rout.length : Nat) : Int), ((np : Nat) : Int), 0 + (0 - ((([] : List Bytes).length : Nat) : Int)), 0, ?_, ?_, RO.nil, ?_⟩)
     ·rfl
     ·rfl
     ·first | exact R44.sv_1 (by assumption) | exact R44.sv_2 (by assumption) (by assumption) | exact R44.sv_5 (fan := (kf : Int)) (by assumption) (by assumption) (R44.inR_id (by assumption)) (by first | decide | assumption) (R44.one_row (m := m.toNat) (by omega) (by omega) i1_0 (by omega)).1 R44.sums_no (by first | decide | assumption) c44m0_ (R44.one_row (m := m.toNat) (by omega) (by omega) i1_0 (by omega)).2 (by first | rfl | omega) | exact R44.sv_5 (fan := (kf : Int)) (by assumption) (by assumption) (R44.inR_id (by assumption)) (by first | decide | assumption) (R44.one_none (by omega) (R44.one_row (m := m.toNat) (by omega) (by omega) i1_0 (by omega)).1) R44.sums_no (by first | decide | assumption) c44m0_ (R44.one_row (m := m.toNat) (by omega) (by omega) i1_0 (by omega)).2 (by first | rfl | omega)
end Go.Proofs.YtnfglkgahlaofaaGreatDoor

namespace Go.Proofs.YtnfglkgahlaofaaGreatDoor
open Go.GV
namespace R44
abbrev ONE : List SortField := [SortField.mk 0 1 0 false]
abbrev TWO : List SortField := [SortField.mk 0 1 0 true]
theorem aw_valid : valid ONE = true := by decide
theorem aw_cmp : cmpV ONE [97] [98] = -1 := by decide
theorem aw_runs : (runsV ONE 2 [[51], [49], [52], [49], [53], [57], [50], [54]]).map List.length = [5, 3] := by decide +kernel
theorem aw_sort : sortV TWO 1 2 idF noF [[97], [98], [97]] = ([[98], [97], [97]], SortWork.mk 2 1 0, 0) := by decide +kernel
theorem aw_merge : mergeV ONE [[[97]], [[98]]] = [[97], [98]] := by decide +kernel
theorem aw_parse : parseV [48, 32, 49, 32, 100, 101, 115, 99, 101, 110, 100, 105, 110, 103] = (TWO, 0) := by decide +kernel
theorem aw_all {rout : List Rw} {x : List Bytes} {a b c e g : Int} {f : List SortField} (h1 : rout.map Rw.s = runsV ONE 2 [[51], [49], [52], [49], [53], [57], [50], [54]]) (h2 : (x, SortWork.mk a b c, e) = sortV TWO 1 2 idF noF [[97], [98], [97]]) (h3 : (f, g) = parseV [48, 32, 49, 32, 100, 101, 115, 99, 101, 110, 100, 105, 110, 103]) :
    (((((((((((decide (((rout.length : Nat) : Int) = 2)) && (decide ((((rout.getD 0 default).s.length : Nat) : Int) = 5))) && (valid ONE)) && (decide (cmpV ONE [97] [98] = (-1)))) && (decide (e = 0))) && (decide (((x.length : Nat) : Int) = 3))) && (decide ((x.getD 0 []) = ([98] : Bytes)))) && (decide (a = 2))) && (decide (g = 0))) && (decide (((f.length : Nat) : Int) = 1))) && (decide (((mergeV ONE [[[97]], [[98]]]).length : Int) = 2)) : Bool) = true := by
  have h4 := congrArg (List.map List.length) h1
  rw [aw_runs, List.map_map] at h4
  rw [aw_sort] at h2
  rw [aw_parse] at h3
  cases h2; cases h3
  rw [aw_valid, aw_cmp, aw_merge]
  cases rout with
  | nil => cases h4
  | cons p t => cases t with
    | nil => cases (List.cons.inj h4).2
    | cons q t => cases t with
      | cons r t => cases (List.cons.inj (List.cons.inj h4).2).2
      | nil =>
        have hp : p.s.length = 5 := (List.cons.inj h4).1
        have h5 : ((([p, q] : List Rw).getD 0 default).s.length : Int) = 5 := by show ((p.s.length : Nat) : Int) = 5; rw [hp]; rfl
        rw [h5, show ([p, q] : List Rw).length = 2 from rfl]; decide
theorem short_all {l : List Bytes} (h : l.all (fun x => decide (x.length ≤ 1000000)) = true) (i : Nat) : (l.getD i []).length ≤ 1000000 := by
  by_cases hi : i < l.length
  · rw [List.getD_eq_getElem?_getD, List.getElem?_eq_getElem hi]; exact of_decide_eq_true (List.all_eq_true.1 h _ (List.getElem_mem hi))
  · rw [List.getD_eq_getElem?_getD, List.getElem?_eq_none (by omega)]; exact Nat.zero_le _
theorem rws_all {l : List Rw} {p : Rw → Bool} (h : l.all p = true) (hd : p default = true) (i : Nat) : p (l.getD i default) = true := by
  by_cases hi : i < l.length
  · rw [List.getD_eq_getElem?_getD, List.getElem?_eq_getElem hi]; exact List.all_eq_true.1 h _ (List.getElem_mem hi)
  · rw [List.getD_eq_getElem?_getD, List.getElem?_eq_none (by omega)]; exact hd
theorem rws_short {l : List Rw} (h : l.all (fun x => x.s.all fun y => decide (y.length ≤ 1000000)) = true) (i j : Nat) : ((l.getD i default).s.getD j []).length ≤ 1000000 := short_all (rws_all (p := fun x => x.s.all fun y => decide (y.length ≤ 1000000)) h rfl i) j
theorem rws_cap {l : List Rw} (h : l.all (fun x => decide (x.s.length ≤ x.sC)) = true) (i : Nat) : (l.getD i default).s.length ≤ (l.getD i default).sC := of_decide_eq_true (rws_all (p := fun x => decide (x.s.length ≤ x.sC)) h rfl i)
end R44
end Go.Proofs.YtnfglkgahlaofaaGreatDoor
namespace Go.GV
open Go.Lib
theorem ron_nil1 {α : Type} [Inhabited α] {S : List Nat} {w : World} {fA : α → Option Addr} {fl : α → List Value} (hd : RO S w (fA default) (fl default)) : ∀ i : Nat, RO S w (fA (([] : List α).getD i default)) (fl (([] : List α).getD i default)) := fun _ => hd
theorem ron_cons1 {α : Type} [Inhabited α] {S : List Nat} {w : World} {fA : α → Option Addr} {fl : α → List Value} {a : α} {l : List α} (h : RO S w (fA a) (fl a)) (h2 : ∀ i : Nat, RO S w (fA (l.getD i default)) (fl (l.getD i default))) : ∀ i : Nat, RO S w (fA ((a :: l).getD i default)) (fl ((a :: l).getD i default))
  | 0 => h
  | i + 1 => h2 i
end Go.GV

namespace Go.Proofs.YtnfglkgahlaofaaGreatDoor
open Go.GV
set_option linter.unusedVariables false
set_option linter.unusedSimpArgs false
set_option maxRecDepth 20000 in
theorem f11_ok (w : World) (hT : Tab [] w) : Calls Tryz.prog 11 #[] w (Gives [] w fun v L => v = vB true ∧ L = []) := by
 refine calls_J [] 84 Tryz.func11 rfl Tryz.ntmps11 [] rfl rfl (Give.nil w) ?_
 refine q_ (g_ (s_ av_ (z_ (n_ (q_ (g_ (js_ (vG [vI 0, vI 1, vI 0, vB false]) (x_build (by kernel_rfl)) (o_ (O_buildSlice (cs := [vI 0, vI 1, vI 0, vB false]) Tryz.underlying24 Ty.sz50 Ty.ze50 (by decide) (by decide) (by kernel_rfl) fun b1 => ?_)))))))))
 refine s_ av_ (z_ (n_ (q_ (g_ (o_ (O_buildSlice (cs := [vS [51], vS [49], vS [52], vS [49], vS [53], vS [57], vS [50], vS [54]]) Tryz.underlying22 Ty.sz9 Ty.ze9 (by decide) (by decide) (by kernel_rfl) fun b2 => ?_))))))
 refine s_ mv_ ?_
 refine JO_callB [] [] [Ent.blk b2 9 [vS [51], vS [49], vS [52], vS [49], vS [53], vS [57], vS [50], vS [54]], Ent.blk b1 50 [vI 0, vI 1, vI 0, vB false]] rfl trivial (fun _ => x_call Ty.ca13 rfl) (fun _ h => h) (fun _ h => by cases h) (fun w hS => f13_ok [[51], [49], [52], [49], [53], [57], [50], [54]] (some ⟨b2, 0, none⟩) 8 2 [(SortField.mk 0 1 0 false)] (some ⟨b1, 0, none⟩) 1 w (RO.of_blk hS 0 (off := 0) (m := 8) rfl rfl) (RO.of_blk hS 1 (off := 0) (m := 4) rfl rfl) hy_ (by exact R44.short_all (by decide)) (by decide) hy_) ?_
 rintro wc _ _ wbhB4 ⟨rout, routA, routC, rfl, rfl, routR, routL, routN, routK, hf3⟩ hc0 hB4
 have hT := hT.again hB4
 have routR := routR.mono (lown_range hc0)
 have routN := fun i => (routN i).mono (lown_range hc0)
 refine s_ av_ (z_ (n_ (q_ (g_ (o_ (O_buildSlice (cs := [vS [97], vS [98], vS [97]]) Tryz.underlying22 Ty.sz9 Ty.ze9 (by decide) (by decide) (by kernel_rfl) fun b5 => ?_))))))
 refine js_ (vG [vI 1, vI 2]) (x_build (by kernel_rfl)) (js_ (vG [vI 0, vI 1, vI 0, vB true]) (x_build (by kernel_rfl)) (o_ (O_buildSlice (cs := [vI 0, vI 1, vI 0, vB true]) Tryz.underlying24 Ty.sz50 Ty.ze50 (by decide) (by decide) (by kernel_rfl) fun b6 => ?_)))
 refine js_ (vG [Value.nilFunc, Value.nilFunc]) (x_build (by kernel_rfl)) ?_
 refine JO_callB [] [] [Ent.blk b6 50 [vI 0, vI 1, vI 0, vB true], Ent.blk b5 9 [vS [97], vS [98], vS [97]], Ent.blk b2 9 [vS [51], vS [49], vS [52], vS [49], vS [53], vS [57], vS [50], vS [54]], Ent.blk b1 50 [vI 0, vI 1, vI 0, vB false]] rfl trivial (fun _ => x_call Ty.ca18 rfl) (fun _ h => h) (fun _ h => by cases h) (fun w hS => f18_ok [[97], [98], [97]] (some ⟨b5, 0, none⟩) 3 1 2 [(SortField.mk 0 1 0 true)] (some ⟨b6, 0, none⟩) 1 w (RO.of_blk hS 1 (off := 0) (m := 3) rfl rfl) (RO.of_blk hS 0 (off := 0) (m := 4) rfl rfl) hy_ (by exact R44.short_all (by decide)) hy_ hy_) ?_
 rintro wc _ _ wbhB13 ⟨rout7, rout7A, rout7C, e8, e9, e10, e11, rfl, rfl, rout7R, hf12⟩ hc0 hB13
 have routR := routR.again hB13
 have routN := fun i => (routN i).again hB13
 have hT := hT.again hB13
 have rout7R := rout7R.mono (lown_range hc0)
 refine s_ mv_ (s_ (ex_ 0) (s_ (ex_ 1) (s_ (ex_ 2) (o_ (al_ Ty.ze34 fun b14 => ?_)))))
 refine s_ av_ (o_ (stG 0 Ty.sz34 ?_))
 refine s_ av_ (z_ (xk_ [0, 1, 2, 4, 3, 5] ?_))
 refine n_ (q_ (g_ ?_))
 refine c1 (cl_ Ty.ca27) (fun w hS => f27_ok [48, 32, 49, 32, 100, 101, 115, 99, 101, 110, 100, 105, 110, 103] w (hT.on hS (fun _ h => by cases h)) hy_) ?_
 rintro _ _ ⟨out15, outA16, outC17, e18, rfl, rfl, hf19⟩
 refine s_ mv_ (s_ (ex_ 0) (s_ (ex_ 1) (s_ av_ (s_ av_ (z_ (n_ (q_ (g_ (s_ mv_ (s_ (lnS Tryz.underlying23) (s_ (x_eql_i rfl rfl) (s_ mv_ ?_))))))))))))
 refine and_ 5 (decide ((((rout.getD 0 default).s.length : Nat) : Int) = 5)) (fun g20 => ?_) ?_
 ·have g20r := g20
  have g20r := of_decide_eq_true g20r
  refine sg_ g20 mv_ (rg_ g20 (ixF (k := 0) Rw.enc_len (cells_ro routR) Tryz.underlying23 Ty.sz22) (rg_ g20 (ldF (k := 0) 0 Rw.enc_len (cells_ro routR) Ty.sc22) (sg_ g20 (lnS Tryz.underlying22) (sg_ g20 (x_eql_i rfl rfl) ?_))))
  exact cr_
 refine s_ mv_ ?_
 refine and_ 2 (R44.valid [(SortField.mk 0 1 0 false)]) (fun g21 => ?_) ?_
 ·have g21r := g21
  have ⟨g21r, h22⟩ := band_true g21r
  have g21r := of_decide_eq_true g21r
  have h22 := of_decide_eq_true h22
  refine sg_ g21 mv_ (c0g g21 (cl_ Ty.ca21) (fun w hS => f21_ok [(SortField.mk 0 1 0 false)] _ 1 w (RO.of_blk hS 5 (off := 0) (m := 4) rfl rfl) hy_) ?_)
  exact cr_
 refine s_ mv_ ?_
 refine and_ 3 (decide (R44.cmpV [(SortField.mk 0 1 0 false)] [97] [98] = (-1))) (fun g23 => ?_) ?_
 ·have g23r := g23
  have ⟨g23r, h24⟩ := band_true g23r
  have ⟨g23r, h25⟩ := band_true g23r
  have g23r := of_decide_eq_true g23r
  have h25 := of_decide_eq_true h25
  have hi26 := R44.valid_facts h24
  refine sg_ g23 mv_ (c0g g23 (cl_ Ty.ca22) (fun w hS => f22_ok [97] [98] [(SortField.mk 0 1 0 false)] _ 1 w (RO.of_blk hS 5 (off := 0) (m := 4) rfl rfl) hy_ hy_ hy_) ?_)
  have ha27 := R44.cmpV_bd [(SortField.mk 0 1 0 false)] [97] [98]
  try simp only [List.length_cons, List.length_nil, Nat.zero_add, Nat.reduceAdd, Nat.reduceMul] at ha27
  refine sg_ g23 (x_eql_i rfl rfl) ?_
  exact cr_
 refine s_ mv_ ?_
 refine and_ 2 (decide (e11 = 0)) (fun g28 => ?_) ?_
 ·have g28r := g28
  have ⟨g28r, h29⟩ := band_true g28r
  have ⟨g28r, h30⟩ := band_true g28r
  have ⟨g28r, h31⟩ := band_true g28r
  have g28r := of_decide_eq_true g28r
  have h31 := of_decide_eq_true h31
  have hi32 := R44.valid_facts h30
  have h29 := of_decide_eq_true h29
  refine sg_ g28 mv_ (sg_ g28 (x_eql_i rfl rfl) ?_)
  exact cr_
 refine s_ mv_ ?_
 refine and_ 3 (decide (((rout7.length : Nat) : Int) = 3)) (fun g33 => ?_) ?_
 ·have g33r := g33
  have ⟨g33r, h34⟩ := band_true g33r
  have ⟨g33r, h35⟩ := band_true g33r
  have ⟨g33r, h36⟩ := band_true g33r
  have ⟨g33r, h37⟩ := band_true g33r
  have g33r := of_decide_eq_true g33r
  have h37 := of_decide_eq_true h37
  have hi38 := R44.valid_facts h36
  have h35 := of_decide_eq_true h35
  have h34 := of_decide_eq_true h34
  refine sg_ g33 mv_ (sg_ g33 (lnS Tryz.underlying22) (sg_ g33 (x_eql_i rfl rfl) ?_))
  exact cr_
 refine s_ mv_ ?_
 refine and_ 4 (decide ((rout7.getD 0 []) = ([98] : Bytes))) (fun g39 => ?_) ?_
 ·have g39r := g39
  have ⟨g39r, h40⟩ := band_true g39r
  have ⟨g39r, h41⟩ := band_true g39r
  have ⟨g39r, h42⟩ := band_true g39r
  have ⟨g39r, h43⟩ := band_true g39r
  have ⟨g39r, h44⟩ := band_true g39r
  have g39r := of_decide_eq_true g39r
  have h44 := of_decide_eq_true h44
  have hi45 := R44.valid_facts h43
  have h42 := of_decide_eq_true h42
  have h41 := of_decide_eq_true h41
  have h40 := of_decide_eq_true h40
  refine sg_ g39 mv_ (rg_ g39 (ixM (k := 0) (cells_ro rout7R) Tryz.underlying22 Ty.sz9) (rg_ g39 (ldM vS [] (cells_ro rout7R) Ty.sc9) (jg_ g39 (vB (decide ((rout7.getD 0 []) = ([98] : Bytes)))) (x_eql_s rfl rfl) ?_)))
  exact cr_
 refine s_ mv_ ?_
 refine and_ 3 (decide (e8 = 2)) (fun g46 => ?_) ?_
 ·have g46r := g46
  have ⟨g46r, h47⟩ := band_true g46r
  have ⟨g46r, h48⟩ := band_true g46r
  have ⟨g46r, h49⟩ := band_true g46r
  have ⟨g46r, h50⟩ := band_true g46r
  have ⟨g46r, h51⟩ := band_true g46r
  have ⟨g46r, h52⟩ := band_true g46r
  have g46r := of_decide_eq_true g46r
  have h52 := of_decide_eq_true h52
  have hi53 := R44.valid_facts h51
  have h50 := of_decide_eq_true h50
  have h49 := of_decide_eq_true h49
  have h48 := of_decide_eq_true h48
  have h47 := of_decide_eq_true h47
  refine sg_ g46 (fA 0 Ty.fi34_0) (rg_ g46 (ld_ 1 Ty.sc3) (sg_ g46 (x_eql_i rfl rfl) ?_))
  exact cr_
 refine s_ mv_ ?_
 refine and_ 2 (decide (e18 = 0)) (fun g54 => ?_) ?_
 ·have g54r := g54
  have ⟨g54r, h55⟩ := band_true g54r
  have ⟨g54r, h56⟩ := band_true g54r
  have ⟨g54r, h57⟩ := band_true g54r
  have ⟨g54r, h58⟩ := band_true g54r
  have ⟨g54r, h59⟩ := band_true g54r
  have ⟨g54r, h60⟩ := band_true g54r
  have ⟨g54r, h61⟩ := band_true g54r
  have g54r := of_decide_eq_true g54r
  have h61 := of_decide_eq_true h61
  have hi62 := R44.valid_facts h60
  have h59 := of_decide_eq_true h59
  have h58 := of_decide_eq_true h58
  have h57 := of_decide_eq_true h57
  have h56 := of_decide_eq_true h56
  have h55 := of_decide_eq_true h55
  refine sg_ g54 mv_ (sg_ g54 (x_eql_i rfl rfl) ?_)
  exact cr_
 refine s_ mv_ ?_
 refine and_ 3 (decide (((out15.length : Nat) : Int) = 1)) (fun g63 => ?_) ?_
 ·have g63r := g63
  have ⟨g63r, h64⟩ := band_true g63r
  have ⟨g63r, h65⟩ := band_true g63r
  have ⟨g63r, h66⟩ := band_true g63r
  have ⟨g63r, h67⟩ := band_true g63r
  have ⟨g63r, h68⟩ := band_true g63r
  have ⟨g63r, h69⟩ := band_true g63r
  have ⟨g63r, h70⟩ := band_true g63r
  have ⟨g63r, h71⟩ := band_true g63r
  have g63r := of_decide_eq_true g63r
  have h71 := of_decide_eq_true h71
  have hi72 := R44.valid_facts h70
  have h69 := of_decide_eq_true h69
  have h68 := of_decide_eq_true h68
  have h67 := of_decide_eq_true h67
  have h66 := of_decide_eq_true h66
  have h65 := of_decide_eq_true h65
  have h64 := of_decide_eq_true h64
  refine sg_ g63 mv_ (sg_ g63 (lnS Tryz.underlying24) (sg_ g63 (x_eql_i rfl rfl) ?_))
  exact cr_
 refine s_ mv_ ?_
 refine and_ 7 (decide ((((R44.mergeV [(SortField.mk 0 1 0 false)] ([[[97]], [[98]]])).length : Nat) : Int) = 2)) (fun g73 => ?_) ?_
 ·have g73r := g73
  have ⟨g73r, h74⟩ := band_true g73r
  have ⟨g73r, h75⟩ := band_true g73r
  have ⟨g73r, h76⟩ := band_true g73r
  have ⟨g73r, h77⟩ := band_true g73r
  have ⟨g73r, h78⟩ := band_true g73r
  have ⟨g73r, h79⟩ := band_true g73r
  have ⟨g73r, h80⟩ := band_true g73r
  have ⟨g73r, h81⟩ := band_true g73r
  have ⟨g73r, h82⟩ := band_true g73r
  have g73r := of_decide_eq_true g73r
  have h82 := of_decide_eq_true h82
  have hi83 := R44.valid_facts h81
  have h80 := of_decide_eq_true h80
  have h79 := of_decide_eq_true h79
  have h78 := of_decide_eq_true h78
  have h77 := of_decide_eq_true h77
  have h76 := of_decide_eq_true h76
  have h75 := of_decide_eq_true h75
  have h74 := of_decide_eq_true h74
  refine og_ g73 (O_buildSlice (cs := [vS [97]]) Tryz.underlying22 Ty.sz9 Ty.ze9 (by decide) (by decide) (by kernel_rfl) fun b84 => ?_)
  refine og_ g73 (O_buildSlice (cs := [vS [98]]) Tryz.underlying22 Ty.sz9 Ty.ze9 (by decide) (by decide) (by kernel_rfl) fun b85 => ?_)
  refine og_ g73 (O_buildSlice (cs := [vL (some ⟨b84, 0, none⟩) 1 1, vL (some ⟨b85, 0, none⟩) 1 1]) Tryz.underlying23 Ty.sz22 Ty.ze22 (by decide) (by decide) (by kernel_rfl) fun b86 => ?_)
  refine sg_ g73 mv_ ?_
  refine c1g g73 (cl_ Ty.ca16) (fun w hS => f16_ok [(Rw.mk [[97]] (some ⟨b84, 0, none⟩) 1), (Rw.mk [[98]] (some ⟨b85, 0, none⟩) 1)] _ 2 [(SortField.mk 0 1 0 false)] _ 1 w (RO.of_blk hS 0 (off := 0) (m := 2) rfl rfl) (ron_cons1 (fA := Rw.sA) (fl := fun x => x.s.map vS) (RO.of_blk hS 2 (off := 0) (m := 1) rfl rfl) (ron_cons1 (fA := Rw.sA) (fl := fun x => x.s.map vS) (RO.of_blk hS 1 (off := 0) (m := 1) rfl rfl) (ron_nil1 (fA := Rw.sA) (fl := fun x => x.s.map vS) RO.nil))) (RO.of_blk hS 8 (off := 0) (m := 4) rfl rfl) hy_ (by exact R44.rws_short rfl) (by exact R44.rws_cap rfl) hy_ hy_) ?_
  rintro _ _ ⟨e87, e88, rfl, rfl⟩
  refine sg_ g73 (lnS Tryz.underlying22) (sg_ g73 (x_eql_i rfl rfl) ?_)
  exact cr_ (fun _ h => h.keep [false, false, false, false, true, true, true, true, true, true] rfl)
 refine s_ av_ (z_ (xk_ [0] ?_))
 refine n_ (rt_ ?_)
 refine JX_retsC [_] _ Tryz.results11 (fun w h => ⟨rfl, trivial⟩) rfl _ (fun _ h => h.keep [false, false, false, false, false, false] rfl) (fun _ _ h => (hB4.back _ _ (hB13.back _ _ h))) ⟨?_, ?_⟩
 ·have e_x0 : (((((((((((decide (((rout.length : Nat) : Int) = 2)) && (decide ((((rout.getD 0 default).s.length : Nat) : Int) = 5))) && (R44.valid [(SortField.mk 0 1 0 false)])) && (decide (R44.cmpV [(SortField.mk 0 1 0 false)] [97] [98] = (-1)))) && (decide (e11 = 0))) && (decide (((rout7.length : Nat) : Int) = 3))) && (decide ((rout7.getD 0 []) = ([98] : Bytes)))) && (decide (e8 = 2))) && (decide (e18 = 0))) && (decide (((out15.length : Nat) : Int) = 1))) && (decide ((((R44.mergeV [(SortField.mk 0 1 0 false)] ([[[97]], [[98]]])).length : Nat) : Int) = 2)) : Bool) = true := R44.aw_all (by assumption) (by assumption) (by assumption)
  exact congrArg (fun (x0 : Bool) => vB x0) e_x0
 ·rfl
end Go.Proofs.YtnfglkgahlaofaaGreatDoor

namespace Go.Proofs.YtnfglkgahlaofaaGreatDoor
open Go.GV
namespace R44
theorem fields_cnt : ∀ {ps : List Bytes} {r : List SortField}, fieldsW ps = some r → r.length = ps.length
  | [], r, h => by cases h; rfl
  | p :: t, r, h => by
    rw [fieldsW] at h
    cases hf : fieldW (words p) with
    | none => rw [hf] at h; cases h
    | some f =>
      rw [hf] at h
      cases ht : fieldsW t with
      | none => rw [ht] at h; cases h
      | some q => rw [ht] at h; cases h; simp only [List.length_cons, fields_cnt ht]
theorem parse_cnt (s : Bytes) : (parseV s).1.length ≤ s.length + 1 := by
  unfold parseV
  split
  · exact Nat.zero_le _
  · cases hf : fieldsW (splitC 44 s) with
    | none => exact Nat.zero_le _
    | some r =>
      have h1 := fields_cnt hf
      have h2 := splitC_count 44 s
      show (if valid r = true then (r, (0 : Int)) else ([], 1)).1.length ≤ _
      split
      · show r.length ≤ _; omega
      · exact Nat.zero_le _
theorem pv_cnt {s : Bytes} {out : List SortField} {e : Int} (h : (out, e) = parseV s) : out.length ≤ s.length + 1 := by
  have := parse_cnt s; rw [← h] at this; exact this
theorem fmtV_len (l : List SortField) : (fmtV l).length ≤ 62 * l.length := by
  unfold fmtV
  split
  · rename_i hv
    have := fmt_join hv l.length (Nat.le_refl _)
    rwa [List.take_length] at this
  · exact Nat.zero_le _
theorem law_pars {s : Bytes} {o1 o2 : List SortField} {e1 e2 : Int} (h3 : ((!(decide (o1 = o2))) || decide (e1 ≠ e2)) = true) (h : (o1, e1) = parseV s) (h2 : (o2, e2) = parseV s) : False := by
  rw [← h2] at h; cases h; simp at h3
end R44
end Go.Proofs.YtnfglkgahlaofaaGreatDoor
