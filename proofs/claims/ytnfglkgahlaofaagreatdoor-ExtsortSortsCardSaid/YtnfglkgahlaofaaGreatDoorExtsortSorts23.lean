/- C44o, Pl44n, L44c in one text. -/
import Derived.Test.YtnfglkgahlaofaaGreatDoorCards
import Derived.Test.YtnfglkgahlaofaaGreatDoorTie
import Derived.Test.YtnfglkgahlaofaaGreatDoorC44n
import Derived.Test.YtnfglkgahlaofaaGreatDoorExtsortSorts11
import Derived.Test.YtnfglkgahlaofaaGreatDoorExtsortSorts21
import Derived.Test.YtnfglkgahlaofaaGreatDoorC44e
import Derived.Test.YtnfglkgahlaofaaGreatDoorRows
import GoSem.ClaimSeven
import Derived.LaidByTextLater
import Derived.SevenTiedAt
import Derived.LaidSub
import Derived.LaidOnce
namespace Go.Proofs.YtnfglkgahlaofaaGreatDoor
open Go.GV
set_option linter.unusedVariables false
set_option linter.unusedSimpArgs false
theorem c44o0_ {p : Prop} (h : p := by first | exact R44.sv_1 (by assumption) | exact R44.sv_2 (by assumption) (by assumption) | exact R44.sv_in (by assumption) (by assumption) (R44.inTo_bad (by omega) i1_1 (by simp_all) (by omega)) | exact R44.sv_e (by assumption) (by assumption) (R44.inTo_end (by omega) i1_1) (R44.sums_8 (by omega) i2_1 ⟨by omega, by omega, by assumption⟩ (by omega)) (by decide) | exact R44.sv_e (by assumption) (by assumption) (R44.inTo_end (by omega) i1_1) (R44.sums_9' hcv (by omega) i2_1 ⟨by omega, by omega, by assumption⟩ (by omega) (by omega)) (by decide) | exact R44.sv_R (by assumption) (by assumption) (R44.inTo_end (by omega) i1_1) (R44.sums_end (by omega) i2_1) (by assumption)) : p := h
theorem c44o1_ {p : Prop} (h : p := by first | exact R44.sums_set' hcv (by omega) i2_1 ⟨by omega, by omega, by assumption⟩ (by omega) (by omega) | exact R44.sums_add (by omega) i2_1 (fun hh => by first | omega | simp_all)) : p := h
theorem c44o2_ {p : Prop} (h : p := by first | omega | (rw [List.length_set]; omega) | (rw [List.length_append, List.length_singleton]; omega)) : p := h
theorem c44o3_ {p : Prop} (h : p := by first | exact R44.short_set i2_3 (by omega) | exact R44.short_snoc i2_3 (by omega)) : p := h
theorem c44o4_ {p : Prop} (h : p := by exact congrArg (fun (x0 : Nat) => Value.tuple #[vL none x0 0, vG [vI 0, vI 0, vI 0], vI 8]) e_x0) : p := h
theorem c44o5_ {p : Prop} (h : p := by first | exact R44.inTo_take (by omega) i1_1 (by assumption) (by omega) | exact R44.inTo_skip (by omega) i1_1 (by simp_all)) : p := h
set_option maxHeartbeats 4000000 in
set_option maxRecDepth 20000 in
theorem f20_ok (rs : List Bytes) (rsA : Option Addr) (rsC : Nat) (m : Int) (fan : Int) (l : List SortField) (lA : Option Addr) (lC : Nat) (ki : Int) (ks : Int) (w : World) (rsR : RO [] w rsA (rs.map vS)) (lR : RO [] w lA (l.flatMap SortField.enc)) (q0 : rs.length ≤ 1000000) (q1 : ∀ i, (rs.getD i []).length ≤ 1000000) (q2 : l.length ≤ 9223372036854775807) : Calls Tryz.prog 20 #[vL rsA rs.length rsC, vG [vI m, vI fan], vL lA l.length lC, vI ki, vI ks] w (Gives [] w fun v L => ∃ out : List Bytes, ∃ outA : Option Addr, ∃ outC : Nat, ∃ v1 : Int, ∃ v2 : Int, ∃ v3 : Int, ∃ e : Int, v = Value.tuple #[vL outA out.length outC, vG [vI v1, vI v2, vI v3], vI e] ∧ L = [Ent.row (.slice outA out.length outC) 9 1 out.length (out.map vS)] ∧ ((out, SortWork.mk v1 v2 v3, e) = R44.sortV l m fan (R44.inK ki) (R44.smK ks) rs)) := by
 refine calls_J [] 171 Tryz.func20 rfl Tryz.ntmps20 [(0, _), (1, _), (2, _), (3, _), (4, _)] rfl rfl (Give.nil w) ?_
 refine q_ (g_ (o_ (bxG fun b1 => ?_)))
 refine s_ av_ (o_ (al_ Ty.ze34 fun b2 => ?_))
 refine s_ av_ (z_ (n_ (q_ (q_ (g_ (s_ mv_ (c0 (cl_ Ty.ca23) (fun w hS => f23_ok l lA lC w (rno lR hS) hy_) (s_ (x_not rfl) (s_ mv_ ?_)))))))))
 refine or_ 3 (decide (m < 1)) (fun g3 => ?_) ?_
 ·have g3r := g3
  have g3r : (R44.valid l) = true := bnot_false g3r
  have hi4 := R44.valid_facts g3r
  refine sg_ g3 (fA 0 Ty.fi32_0) (rg_ g3 (ld_ 1 Ty.sc3) (sg_ g3 (x_lss_i rfl rfl) ?_))
  exact cr_
 refine s_ mv_ ?_
 refine or_ 3 (decide ((1024 : Int) < m)) (fun g5 => ?_) ?_
 ·have g5r := g5
  have ⟨g5r, h6⟩ := bor_false g5r
  have g5r : (R44.valid l) = true := bnot_false g5r
  have hi7 := R44.valid_facts g5r
  have h6 := of_decide_eq_false h6
  refine sg_ g5 (fA 0 Ty.fi32_0) (rg_ g5 (ld_ 1 Ty.sc3) (sg_ g5 (x_gtr_i rfl rfl) ?_))
  exact cr_
 refine s_ mv_ ?_
 refine or_ 3 (decide (fan < 2)) (fun g8 => ?_) ?_
 ·have g8r := g8
  have ⟨g8r, h9⟩ := bor_false g8r
  have ⟨g8r, h10⟩ := bor_false g8r
  have g8r : (R44.valid l) = true := bnot_false g8r
  have hi11 := R44.valid_facts g8r
  have h10 := of_decide_eq_false h10
  have h9 := of_decide_eq_false h9
  refine sg_ g8 (fA 1 Ty.fi32_1) (rg_ g8 (ld_ 1 Ty.sc3) (sg_ g8 (x_lss_i rfl rfl) ?_))
  exact cr_
 refine s_ mv_ ?_
 refine or_ 3 (decide ((16 : Int) < fan)) (fun g12 => ?_) ?_
 ·have g12r := g12
  have ⟨g12r, h13⟩ := bor_false g12r
  have ⟨g12r, h14⟩ := bor_false g12r
  have ⟨g12r, h15⟩ := bor_false g12r
  have g12r : (R44.valid l) = true := bnot_false g12r
  have hi16 := R44.valid_facts g12r
  have h15 := of_decide_eq_false h15
  have h14 := of_decide_eq_false h14
  have h13 := of_decide_eq_false h13
  refine sg_ g12 (fA 1 Ty.fi32_1) (rg_ g12 (ld_ 1 Ty.sc3) (sg_ g12 (x_gtr_i rfl rfl) ?_))
  exact cr_
 refine z_ (n_ ?_)
 refine if_ (fun h17 => ?_) (fun h17 => ?_)
 ·have h17w := h17
  simp only [Bool.and_eq_true, Bool.or_eq_true, Bool.and_eq_false_iff, Bool.or_eq_false_iff, Bool.not_eq_true', Bool.not_eq_false', decide_eq_true_eq, decide_eq_false_iff_not] at h17
  refine q_ (g_ (js_ (vG [vI 0, vI 0, vI 0]) (x_build (by kernel_rfl)) (s_ av_ (o_ (stG 0 Ty.sz34 ?_)))))
  refine s_ av_ (z_ (xk_ [0, 2, 3, 4, 6, 10, 11, 12] ?_))
  refine n_ (rt_ (nr_ ?_))
  refine JX_rets [_, _, _] (Value.tuple #[_, _, _]) Tryz.results20 (fun w h => ⟨rfl, ⟨_, rfl, load_blkN 0 [vI 0, vI 0, vI 0] h rfl Ty.ag34 Ty.sz34 rfl⟩, rfl, trivial⟩) rfl [Ent.row (.slice none ([] : List Bytes).length 0) 9 1 ([] : List Bytes).length (([] : List Bytes).map vS)] (fun _ h => (h.nilrow 9 1).keep [true, false, false] rfl) ⟨([] : List Bytes), none, 0, 0, 0, 0, 1, ?_, ?_, ?_⟩
  ·have e_x0 : (0 : Nat) = (([] : List Bytes).length) := by first | rfl | omega | (simp_all; done) | (simp_all; omega)
   exact congrArg (fun (x0 : Nat) => Value.tuple #[vL none x0 0, vG [vI 0, vI 0, vI 0], vI 1]) e_x0
  ·rfl
  ·exact c44o0_
 ·have h17w := h17
  have ⟨h17, h18⟩ := bor_false h17
  have ⟨h17, h19⟩ := bor_false h17
  have ⟨h17, h20⟩ := bor_false h17
  have ⟨h17, h21⟩ := bor_false h17
  have h17 : (R44.valid l) = true := bnot_false h17
  have hi22 := R44.valid_facts h17
  have h21 := of_decide_eq_false h21
  have h20 := of_decide_eq_false h20
  have h19 := of_decide_eq_false h19
  have h18 := of_decide_eq_false h18
  obtain ⟨kf, rfl⟩ : ∃ kf : Nat, fan = (kf : Int) := ⟨fan.toNat, by omega⟩
  have hg1 := R44.g1_facts (l := l) (m := m) (fan := (kf : Int)) (by assumption)
  refine sk_ (n_ (q_ (q_ (g_ (s_ mv_ (s_ (lnS Tryz.underlying22) (s_ (x_gtr_i rfl rfl) (s_ mv_ ?_))))))))
  refine or_ 2 (R44.long rs) (fun g23 => ?_) ?_
  ·have g23r := g23
   have g23r := of_decide_eq_false g23r
   refine sg_ g23 mv_ (c0g g23 (cl_ Ty.ca46) (fun w hS => f46_ok rs rsA rsC w (rno rsR hS) hy_) ?_)
   exact cr_
  refine z_ (xk_ [0, 2, 3, 4, 6, 10, 11, 12, 54] ?_)
  refine n_ ?_
  refine if_ (fun h24 => ?_) (fun h24 => ?_)
  ·have h24w := h24
   simp only [Bool.and_eq_true, Bool.or_eq_true, Bool.and_eq_false_iff, Bool.or_eq_false_iff, Bool.not_eq_true', Bool.not_eq_false', decide_eq_true_eq, decide_eq_false_iff_not] at h24
   refine q_ (g_ (js_ (vG [vI 0, vI 0, vI 0]) (x_build (by kernel_rfl)) (s_ av_ (o_ (stG 0 Ty.sz34 ?_)))))
   refine s_ av_ (z_ (n_ (rt_ (nr_ ?_))))
   refine JX_rets [_, _, _] (Value.tuple #[_, _, _]) Tryz.results20 (fun w h => ⟨rfl, ⟨_, rfl, load_blkN 0 [vI 0, vI 0, vI 0] h rfl Ty.ag34 Ty.sz34 rfl⟩, rfl, trivial⟩) rfl [Ent.row (.slice none ([] : List Bytes).length 0) 9 1 ([] : List Bytes).length (([] : List Bytes).map vS)] (fun _ h => (h.nilrow 9 1).keep [true, false, false] rfl) ⟨([] : List Bytes), none, 0, 0, 0, 0, 8, ?_, ?_, ?_⟩
   ·have e_x0 : (0 : Nat) = (([] : List Bytes).length) := by first | rfl | omega | (simp_all; done) | (simp_all; omega)
    exact c44o4_
   ·rfl
   ·exact c44o0_
  ·have h24w := h24
   have ⟨h24, h25⟩ := bor_false h24
   have h24 := of_decide_eq_false h24
   have hi26 := R44.long_facts h25
   refine sk_ (n_ (q_ (g_ (o_ (O_buildSlice0 Tryz.underlying22 Ty.sz9 fun b27 => ?_)))))
   refine s_ av_ (z_ (n_ (q_ (q_ (g_ (s_ av_ (z_ (n_ (k_ ?_)))))))))
   refine J_loop (X := Nat × (List Bytes) × (Option Addr) × Nat) (fun (⟨k, inn, innA, innC⟩ : Nat × (List Bytes) × (Option Addr) × Nat) => (k ≤ rs.length) ∧ (R44.inTo (R44.inK ki) inn (rs.drop k) = R44.inputs (R44.inK ki) rs) ∧ (inn.length ≤ k) ∧ (∀ i, (inn.getD i []).length ≤ 1000000)) (fun (⟨k, inn, innA, innC⟩ : Nat × (List Bytes) × (Option Addr) × Nat) => [(0, vL rsA rs.length rsC), (2, vL lA l.length lC), (3, vI ki), (4, vI ks), (6, pB b1 0), (11, pB b2 0), (13, vL innA inn.length innC), (14, vI ((k : Nat) : Int))]) (fun (⟨k, inn, innA, innC⟩ : Nat × (List Bytes) × (Option Addr) × Nat) => [Ent.blk b2 34 [vI 0, vI 0, vI 0], Ent.blk b1 32 [vI m, vI ((kf : Nat) : Int)], Ent.row (.slice innA inn.length innC) 9 1 inn.length (inn.map vS)]) (fun (⟨k, inn, innA, innC⟩ : Nat × (List Bytes) × (Option Addr) × Nat) => rs.length - k) ((0, ([] : List Bytes), (some ⟨b27, 0, none⟩), 0) : Nat × (List Bytes) × (Option Addr) × Nat) ?_ ⟨rfl, rfl, rfl, rfl, rfl, rfl, rfl, rfl, trivial⟩ (fun _ h => (((St.torow (cs := []) h 1 0 rfl (by decide)).front 2 _ rfl).front 2 _ rfl).keep [true, true, true] rfl) ?_
   ·try dsimp only
    refine ⟨?_, ?_, ?_, ?_⟩
    ·first | rfl | omega | (simp_all; done) | (simp_all; omega)
    ·exact R44.inTo_start _ _
    ·exact Nat.le_refl _
    ·intro i; exact Nat.zero_le _
   rintro ⟨k, inn, innA, innC⟩ hI1
   obtain ⟨i1_0, i1_1, i1_2, i1_3⟩ := hI1
   try dsimp only at i1_0
   try dsimp only at i1_1
   try dsimp only at i1_2
   try dsimp only at i1_3
   have hqk := q1 k
   have hk9 := R44.long_facts (l := rs) (by assumption) k
   try dsimp only
   refine q_ (q_ (g_ (s_ mv_ (s_ mv_ (s_ (lnS Tryz.underlying22) (s_ (x_lss_i rfl rfl) (z_ (n_ ?_))))))))
   refine ifd (fun h28w h28 => ?_) (fun h28w h28 => ?_)
   ·refine sk_ (n_ (q_ (k_ (q_ (g_ (s_ mv_ (s_ mv_ (s_ mv_ (r_ (ixM (cells_ro rsR) Tryz.underlying22 Ty.sz9) (r_ (ldM vS [] (cells_ro rsR) Ty.sc9) (c0 (cl_ Ty.ca43) (fun w hS => f43_ok ki _ w hy_) ?_)))))))))))
    have ha29 := R44.inK_len ki (rs.getD k [])
    try simp only [List.length_cons, List.length_nil, Nat.zero_add, Nat.reduceAdd, Nat.reduceMul] at ha29
    refine s_ mv_ (s_ (ex_ 0) (s_ (ex_ 1) (s_ av_ (s_ av_ (z_ (xk_ [0, 2, 3, 4, 6, 11, 13, 14, 15, 16] ?_))))))
    refine n_ (q_ (q_ (g_ (s_ mv_ (s_ mv_ ?_)))))
    refine and_ 3 (decide ((1000 : Int) < ((((R44.inK ki (rs.getD k [])).1).length : Nat) : Int))) (fun g30 => ?_) ?_
    ·have g30r := g30
     refine sg_ g30 mv_ (sg_ g30 (x_len_s rfl Tryz.underlying9) (sg_ g30 (x_gtr_i rfl rfl) ?_))
     exact cr_
    refine z_ (n_ ?_)
    refine if_ (fun h31 => ?_) (fun h31 => ?_)
    ·have h31w := h31
     have ⟨h31, h32⟩ := band_true h31
     have h32 := of_decide_eq_true h32
     refine q_ (g_ (js_ (vG [vI 0, vI 0, vI 0]) (x_build (by kernel_rfl)) (s_ av_ (o_ (stG 0 Ty.sz34 ?_)))))
     refine s_ av_ (z_ (n_ (rt_ (nr_ (kq_ (nr_ (rr_ (kq_ (nr_ ?_)))))))))
     refine JX_rets [_, _, _] (Value.tuple #[_, _, _]) Tryz.results20 (fun w h => ⟨rfl, ⟨_, rfl, load_blkN 0 [vI 0, vI 0, vI 0] h rfl Ty.ag34 Ty.sz34 rfl⟩, rfl, trivial⟩) rfl [Ent.row (.slice none ([] : List Bytes).length 0) 9 1 ([] : List Bytes).length (([] : List Bytes).map vS)] (fun _ h => (h.nilrow 9 1).keep [true, false, false, false] rfl) ⟨([] : List Bytes), none, 0, 0, 0, 0, 8, ?_, ?_, ?_⟩
     ·have e_x0 : (0 : Nat) = (([] : List Bytes).length) := by first | rfl | omega | (simp_all; done) | (simp_all; omega)
      exact c44o4_
     ·rfl
     ·exact c44o0_
    ·have h31w := h31
     simp only [Bool.and_eq_true, Bool.or_eq_true, Bool.and_eq_false_iff, Bool.or_eq_false_iff, Bool.not_eq_true', Bool.not_eq_false', decide_eq_true_eq, decide_eq_false_iff_not] at h31
     refine sk_ (n_ (q_ (g_ (s_ mv_ (z_ (n_ ?_))))))
     refine if_ (fun h33 => ?_) (fun h33 => ?_)
     ·have h33w := h33
      refine g_ (s_ mv_ (s_ mv_ (o_ (O_buildSlice (cs := [vS ((R44.inK ki (rs.getD k [])).1)]) Tryz.underlying22 Ty.sz9 Ty.ze9 (by decide) (by decide) (by kernel_rfl) fun b34 => ?_))))
      refine o_ (O_append_m 3 vS inn [(R44.inK ki (rs.getD k [])).1] Tryz.underlying22 Ty.sz9 Ty.by9 Ty.ze9 rfl rfl rfl rfl rfl (fun _ => rfl) (cells_blk 0 (off := 0) (m := 1) rfl rfl) lt_ lt_ fun A35 c36 => ?_)
      refine s_ av_ (z_ (kx_ (n_ (g_ (s_ mv_ (s_ (x_add_n (a := k) (b := 1) rfl rfl (by omega)) (s_ av_ (z_ ?_))))))))
      refine JX_round ((k + 1, inn ++ [(R44.inK ki (rs.getD k [])).1], A35, c36) : Nat × (List Bytes) × (Option Addr) × Nat) ?_ ?_ ⟨rfl, rfl, rfl, rfl, rfl, rfl, rfl, rfl, trivial⟩ (fun _ h => h.keep [false, true, true, true] rfl)
      ·try dsimp only
       refine ⟨?_, ?_, ?_, ?_⟩
       ·first | rfl | omega | (simp_all; done) | (simp_all; omega)
       ·exact c44o5_
       ·first | omega | (rw [List.length_append, List.length_singleton]; omega)
       ·first | exact i1_3 | exact R44.short_snoc i1_3 (by omega)
      ·try dsimp only
       first | omega | (simp; omega) | (simp_all; omega)
     ·have h33w := h33
      refine sk_ (kx_ (n_ (g_ (s_ mv_ (s_ (x_add_n (a := k) (b := 1) rfl rfl (by omega)) (s_ av_ (z_ ?_)))))))
      refine JX_round ((k + 1, inn, innA, innC) : Nat × (List Bytes) × (Option Addr) × Nat) ?_ ?_ ⟨rfl, rfl, rfl, rfl, rfl, rfl, rfl, rfl, trivial⟩ (fun _ h => h)
      ·try dsimp only
       refine ⟨?_, ?_, ?_, ?_⟩
       ·first | rfl | omega | (simp_all; done) | (simp_all; omega)
       ·exact c44o5_
       ·first | omega | (rw [List.length_append, List.length_singleton]; omega)
       ·first | exact i1_3 | exact R44.short_snoc i1_3 (by omega)
      ·try dsimp only
       first | omega | (simp; omega) | (simp_all; omega)
   ·refine J_exit (ne_ (re_ (kh_ (n_ (q_ ?_)))))
    refine g_ (s_ mv_ (s_ (fA 0 Ty.fi32_0) (r_ (ld_ 1 Ty.sc3) (s_ mv_ ?_))))
    refine JO_callB [] [] [Ent.blk b2 34 [vI 0, vI 0, vI 0], Ent.blk b1 32 [vI m, vI ((kf : Nat) : Int)], Ent.row (.slice innA inn.length innC) 9 1 inn.length (inn.map vS)] rfl trivial (fun _ => x_call Ty.ca14 rfl) (fun _ h => h) (fun _ h => by cases h) (fun w hS => f14_ok inn innA innC m l lA lC w (RO.of_row hS 2 rfl) (lR.on hS (fun _ h => by cases h)) hy_ hy_ hy_) ?_
    rintro wc _ _ wbhB38 ⟨rout, routA, routC, rfl, rfl, routR, routN, hf37⟩ hc0 hB38
    have rsR := rsR.again hB38
    have lR := lR.again hB38
    have routR := routR.mono (lown_range hc0)
    have routN := fun i => (routN i).mono (lown_range hc0)
    have ha39 := R44.runsV_few hg1.2.1 (by assumption)
    refine s_ (lnS Tryz.underlying23) (s_ av_ (z_ (n_ (q_ (g_ (s_ mv_ (s_ mv_ ?_)))))))
    refine c1 (cl_ Ty.ca47) (fun w hS => f47_ok inn innA innC l lA lC w (RO.of_row hS 2 rfl) (rno lR hS) hy_ hy_ hy_) ?_
    rintro _ _ ⟨e40, e41, rfl, rfl⟩
    refine s_ av_ (z_ (xk_ [0, 2, 4, 6, 11, 17, 18] ?_))
    refine n_ (q_ (g_ (o_ (O_buildSlice0 Tryz.underlying22 Ty.sz9 fun b42 => ?_))))
    refine s_ av_ (z_ (n_ (q_ (q_ (g_ (s_ av_ (z_ (n_ (k_ ?_)))))))))
    refine J_loop (X := Nat × (List Bytes) × (Option Addr) × Nat) (fun (⟨j, out, outA, outC⟩ : Nat × (List Bytes) × (Option Addr) × Nat) => (j ≤ (Srt.srt (R44.cmpV l) inn).length) ∧ (R44.sums (R44.cmpV l) (R44.smK ks) out ((Srt.srt (R44.cmpV l) inn).drop j) = R44.sums (R44.cmpV l) (R44.smK ks) [] (Srt.srt (R44.cmpV l) inn)) ∧ (out.length ≤ j) ∧ (∀ i, (out.getD i []).length ≤ 1000000)) (fun (⟨j, out, outA, outC⟩ : Nat × (List Bytes) × (Option Addr) × Nat) => [(0, vL rsA rs.length rsC), (2, vL lA l.length lC), (4, vI ks), (6, pB b1 0), (11, pB b2 0), (17, vI ((rout.length : Nat) : Int)), (18, vL e40 ((Srt.srt (R44.cmpV l) inn).length) e41), (19, vL outA out.length outC), (20, vI ((j : Nat) : Int))]) (fun (⟨j, out, outA, outC⟩ : Nat × (List Bytes) × (Option Addr) × Nat) => [Ent.row (.slice e40 (Srt.srt (R44.cmpV l) inn).length e41) 9 1 (Srt.srt (R44.cmpV l) inn).length ((Srt.srt (R44.cmpV l) inn).map vS), Ent.blk b2 34 [vI 0, vI 0, vI 0], Ent.blk b1 32 [vI m, vI ((kf : Nat) : Int)], Ent.row (.slice outA out.length outC) 9 1 out.length (out.map vS)]) (fun (⟨j, out, outA, outC⟩ : Nat × (List Bytes) × (Option Addr) × Nat) => (Srt.srt (R44.cmpV l) inn).length - j) ((0, ([] : List Bytes), (some ⟨b42, 0, none⟩), 0) : Nat × (List Bytes) × (Option Addr) × Nat) ?_ ⟨rfl, rfl, rfl, rfl, rfl, rfl, rfl, rfl, rfl, trivial⟩ (fun _ h => ((((St.torow (cs := []) h 1 0 rfl (by decide)).front 3 _ rfl).front 3 _ rfl).front 3 _ rfl).keep [true, true, true, true, false] rfl) ?_
    ·try dsimp only
     refine ⟨?_, ?_, ?_, ?_⟩
     ·first | rfl | omega | (simp_all; done) | (simp_all; omega)
     ·rfl
     ·exact Nat.le_refl _
     ·intro i; exact Nat.zero_le _
    rintro ⟨j, out, outA, outC⟩ hI2
    obtain ⟨i2_0, i2_1, i2_2, i2_3⟩ := hI2
    try dsimp only at i2_0
    try dsimp only at i2_1
    try dsimp only at i2_2
    try dsimp only at i2_3
    have hcv := R44.cmpV_ok l
    have hsl := Srt.srt_len (c := R44.cmpV l) inn
    have hqj := R44.srt_shortF (c := R44.cmpV l) i1_3 j
    have hql := i2_3 (out.length - 1)
    try dsimp only
    refine q_ (q_ (g_ (s_ mv_ (s_ mv_ (s_ (lnS Tryz.underlying22) (s_ (x_lss_i rfl rfl) (z_ (n_ ?_))))))))
    refine ifd (fun h43w h43 => ?_) (fun h43w h43 => ?_)
    ·refine sk_ (n_ (q_ (k_ (q_ (g_ (s_ mv_ (s_ (lnS Tryz.underlying22) (s_ av_ (z_ (n_ (q_ (q_ ?_))))))))))))
     refine drB [] 16 Ty.mixed ?_
     refine jp_ 0 rfl mv_ (jp_ 1 rfl (x_gtr_i rfl rfl) (jp_ 2 rfl mv_ ?_))
     refine jb_ 104 (fun h44 => ?_) (fun h44 => ?_)
     ·have h44 := of_decide_eq_true h44
      refine jp_ 3 rfl mv_ (jp_ 4 rfl mv_ (jp_ 5 rfl (x_sub_i (a := ((out.length : Nat) : Int)) (b := 1) rfl rfl (by omega) (by omega)) (jq_ 6 rfl (ixM (k := (out.length - 1)) (hy := (ix_nat rfl (by omega))) (cells_row 3 rfl) Tryz.underlying22 Ty.sz9) (jq_ 7 rfl (ldM vS [] (cells_row 3 rfl) Ty.sc9) (jp_ 8 rfl mv_ (jp_ 9 rfl mv_ (jq_ 10 rfl (ixM (cells_row 0 rfl) Tryz.underlying22 Ty.sz9) (jq_ 11 rfl (ldM vS [] (cells_row 0 rfl) Ty.sc9) (jp_ 12 rfl mv_ ?_ (hw := ⟨_, rfl, rfl⟩)) (hw := ⟨_, rfl, rfl⟩)) (hw := ⟨_, rfl, rfl⟩)) (hw := ⟨_, rfl, rfl⟩)) (hw := ⟨_, rfl, rfl⟩)) (hw := ⟨_, rfl, rfl⟩)) (hw := ⟨_, rfl, rfl⟩)) (hw := ⟨_, rfl, rfl⟩)) (hw := ⟨_, rfl, rfl⟩)) (hw := ⟨_, rfl, rfl⟩)
      refine j1_ 13 (jc0_ rfl (cl_ Ty.ca24) (fun w hS => f24_ok _ _ l lA lC w (rno lR hS) hy_ hy_ hy_) ?_ (hw := ⟨_, rfl, rfl⟩)) gm_
      have ha45 := R44.cmpV_bd l (out.getD (out.length - 1) []) ((Srt.srt (R44.cmpV l) inn).getD j [])
      try simp only [List.length_cons, List.length_nil, Nat.zero_add, Nat.reduceAdd, Nat.reduceMul] at ha45
      refine jp_ 14 rfl (x_eql_i rfl rfl) ?_ (hw := ⟨_, rfl, rfl⟩)
      refine jt_ 15 (vB (decide (R44.cmpV l (out.getD (out.length - 1) []) ((Srt.srt (R44.cmpV l) inn).getD j []) = 0))) rfl (fun _ _ => rfl) ?_
      refine JA_done (by kernel_rfl) gm_ ?_
      refine n_ ?_
      refine ifd (fun h46w h46 => ?_) (fun h46w h46 => ?_)
      ·refine q_ ?_
       refine drB [] 16 Ty.mixed ?_
       refine jp_ 0 rfl mv_ (jp_ 1 rfl mv_ (jp_ 2 rfl mv_ (jp_ 3 rfl (x_sub_i (a := ((out.length : Nat) : Int)) (b := 1) rfl rfl (by omega) (by omega)) (jq_ 4 rfl (ixM (k := (out.length - 1)) (hy := (ix_nat rfl (by omega))) (cells_row 3 rfl) Tryz.underlying22 Ty.sz9) (jq_ 5 rfl (ldM vS [] (cells_row 3 rfl) Ty.sc9) (jp_ 6 rfl mv_ (jp_ 7 rfl mv_ (jq_ 8 rfl (ixM (cells_row 0 rfl) Tryz.underlying22 Ty.sz9) (jq_ 9 rfl (ldM vS [] (cells_row 0 rfl) Ty.sc9) ?_)))))))))
       refine j1_ 10 (jc0_ rfl (cl_ Ty.ca45) (fun w hS => f45_ok ks _ _ w hy_ hy_) ?_) gm_
       have ha47 := R44.smK_len ks (out.getD (out.length - 1) []) ((Srt.srt (R44.cmpV l) inn).getD j [])
       try simp only [List.length_cons, List.length_nil, Nat.zero_add, Nat.reduceAdd, Nat.reduceMul] at ha47
       refine jp_ 11 rfl mv_ (jp_ 12 rfl (ex_ 0) (jp_ 13 rfl (ex_ 1) (jp_ 14 rfl av_ (jp_ 15 rfl av_ ?_))))
       refine JA_done (by kernel_rfl) gm_ ?_
       refine n_ (q_ (g_ (s_ mv_ (z_ (xk_ [0, 2, 4, 6, 11, 17, 18, 19, 20, 21, 22, 132] ?_)))))
       refine n_ ?_
       refine if_ (fun h48 => ?_) (fun h48 => ?_)
       ·have h48w := h48
        refine q_ (q_ (g_ (s_ mv_ (s_ (x_len_s rfl Tryz.underlying9) (s_ (x_gtr_i rfl rfl) (z_ (n_ ?_)))))))
        refine ifd (fun h49w h49 => ?_) (fun h49w h49 => ?_)
        ·refine q_ (g_ (js_ (vG [vI 0, vI 0, vI 0]) (x_build (by kernel_rfl)) (s_ av_ (o_ (stG 1 Ty.sz34 ?_)))))
         refine s_ av_ (z_ (n_ (rt_ (nr_ (nr_ (kq_ (nr_ (rr_ (kq_ (nr_ ?_))))))))))
         refine JX_retsC [_, _, _] (Value.tuple #[_, _, _]) Tryz.results20 (fun w h => ⟨rfl, ⟨_, rfl, load_blkN 1 [vI 0, vI 0, vI 0] h rfl Ty.ag34 Ty.sz34 rfl⟩, rfl, trivial⟩) rfl [Ent.row (.slice none ([] : List Bytes).length 0) 9 1 ([] : List Bytes).length (([] : List Bytes).map vS)] (fun _ h => (h.nilrow 9 1).keep [true, false, false, false, false] rfl) (fun _ _ h => (hB38.back _ _ h)) ⟨([] : List Bytes), none, 0, 0, 0, 0, 8, ?_, ?_, ?_⟩
         ·have e_x0 : (0 : Nat) = (([] : List Bytes).length) := by first | rfl | omega | (simp_all; done) | (simp_all; omega)
          exact c44o4_
         ·rfl
         ·exact c44o0_
        ·refine sk_ (n_ (q_ (q_ (g_ (s_ mv_ (s_ mv_ (s_ mv_ (s_ (x_sub_i (a := ((out.length : Nat) : Int)) (b := 1) rfl rfl (by omega) (by omega)) (r_ (ixM (k := (out.length - 1)) (hy := (ix_nat rfl (by omega))) (cells_row 3 rfl) Tryz.underlying22 Ty.sz9) (r_ (ldM vS [] (cells_row 3 rfl) Ty.sc9) (s_ mv_ (c0 (cl_ Ty.ca24) (fun w hS => f24_ok _ _ l lA lC w (rno lR hS) hy_ hy_ hy_) ?_))))))))))))
         have ha50 := R44.cmpV_bd l ((R44.smK ks (out.getD (out.length - 1) []) ((Srt.srt (R44.cmpV l) inn).getD j [])).1) (out.getD (out.length - 1) [])
         try simp only [List.length_cons, List.length_nil, Nat.zero_add, Nat.reduceAdd, Nat.reduceMul] at ha50
         refine s_ (x_neq_i rfl rfl) (z_ (xk_ [0, 2, 4, 6, 11, 17, 18, 19, 20, 21, 22, 145] ?_))
         refine n_ ?_
         refine ifd (fun h51w h51 => ?_) (fun h51w h51 => ?_)
         ·refine q_ (g_ (js_ (vG [vI 0, vI 0, vI 0]) (x_build (by kernel_rfl)) (s_ av_ (o_ (stG 1 Ty.sz34 ?_)))))
          refine s_ av_ (z_ (n_ (rt_ (nr_ (nr_ (kq_ (nr_ (rr_ (kq_ (nr_ ?_))))))))))
          refine JX_retsC [_, _, _] (Value.tuple #[_, _, _]) Tryz.results20 (fun w h => ⟨rfl, ⟨_, rfl, load_blkN 1 [vI 0, vI 0, vI 0] h rfl Ty.ag34 Ty.sz34 rfl⟩, rfl, trivial⟩) rfl [Ent.row (.slice none ([] : List Bytes).length 0) 9 1 ([] : List Bytes).length (([] : List Bytes).map vS)] (fun _ h => (h.nilrow 9 1).keep [true, false, false, false, false] rfl) (fun _ _ h => (hB38.back _ _ h)) ⟨([] : List Bytes), none, 0, 0, 0, 0, 9, ?_, ?_, ?_⟩
          ·have e_x0 : (0 : Nat) = (([] : List Bytes).length) := by first | rfl | omega | (simp_all; done) | (simp_all; omega)
           exact congrArg (fun (x0 : Nat) => Value.tuple #[vL none x0 0, vG [vI 0, vI 0, vI 0], vI 9]) e_x0
          ·rfl
          ·exact c44o0_
         ·refine sk_ (n_ (q_ (g_ (s_ mv_ (s_ mv_ (s_ (x_sub_i (a := ((out.length : Nat) : Int)) (b := 1) rfl rfl (by omega) (by omega)) (s_ mv_ (r_ (ixM (k := (out.length - 1)) (hy := (ix_nat rfl (by omega))) (cells_row 3 rfl) Tryz.underlying22 Ty.sz9) ?_))))))))
          refine o_ (O_store_row_1 (a := (R44.smK ks (out.getD (out.length - 1) []) ((Srt.srt (R44.cmpV l) inn).getD j [])).1) (xs := out) (k := (out.length - 1)) 3 vS [Ent.row (.slice e40 (Srt.srt (R44.cmpV l) inn).length e41) 9 1 (Srt.srt (R44.cmpV l) inn).length ((Srt.srt (R44.cmpV l) inn).map vS), Ent.blk b2 34 [vI 0, vI 0, vI 0], Ent.blk b1 32 [vI m, vI ((kf : Nat) : Int)], Ent.row (.slice outA (out.set (out.length - 1) ((R44.smK ks (out.getD (out.length - 1) []) ((Srt.srt (R44.cmpV l) inn).getD j [])).1)).length outC) 9 1 (out.set (out.length - 1) ((R44.smK ks (out.getD (out.length - 1) []) ((Srt.srt (R44.cmpV l) inn).getD j [])).1)).length ((out.set (out.length - 1) ((R44.smK ks (out.getD (out.length - 1) []) ((Srt.srt (R44.cmpV l) inn).getD j [])).1)).map vS)] rfl rfl rfl Ty.sz9 rfl (fun _ => rfl) lt_ rfl ?_)
          refine JO_weaken (E' := [(0, vL rsA rs.length rsC), (2, vL lA l.length lC), (4, vI ks), (6, pB b1 0), (11, pB b2 0), (17, vI ((rout.length : Nat) : Int)), (18, vL e40 ((Srt.srt (R44.cmpV l) inn).length) e41), (19, vL outA ((out.set (out.length - 1) ((R44.smK ks (out.getD (out.length - 1) []) ((Srt.srt (R44.cmpV l) inn).getD j [])).1)).length) outC), (20, vI ((j : Nat) : Int)), (21, vI ((out.length : Nat) : Int)), (22, vS ((R44.smK ks (out.getD (out.length - 1) []) ((Srt.srt (R44.cmpV l) inn).getD j [])).1)), (145, vB (decide (R44.cmpV l ((R44.smK ks (out.getD (out.length - 1) []) ((Srt.srt (R44.cmpV l) inn).getD j [])).1) (out.getD (out.length - 1) []) ≠ 0))), (147, vL outA ((out.set (out.length - 1) ((R44.smK ks (out.getD (out.length - 1) []) ((Srt.srt (R44.cmpV l) inn).getD j [])).1)).length) outC), (148, vI ((out.length : Nat) : Int)), (149, vI (((out.length : Nat) : Int) - 1)), (150, vS ((R44.smK ks (out.getD (out.length - 1) []) ((Srt.srt (R44.cmpV l) inn).getD j [])).1)), (151, pA outA (out.length - 1))]) (L' := [Ent.row (.slice e40 (Srt.srt (R44.cmpV l) inn).length e41) 9 1 (Srt.srt (R44.cmpV l) inn).length ((Srt.srt (R44.cmpV l) inn).map vS), Ent.blk b2 34 [vI 0, vI 0, vI 0], Ent.blk b1 32 [vI m, vI ((kf : Nat) : Int)], Ent.row (.slice outA (out.set (out.length - 1) ((R44.smK ks (out.getD (out.length - 1) []) ((Srt.srt (R44.cmpV l) inn).getD j [])).1)).length outC) 9 1 (out.set (out.length - 1) ((R44.smK ks (out.getD (out.length - 1) []) ((Srt.srt (R44.cmpV l) inn).getD j [])).1)).length ((out.set (out.length - 1) ((R44.smK ks (out.getD (out.length - 1) []) ((Srt.srt (R44.cmpV l) inn).getD j [])).1)).map vS)]) ⟨rfl, rfl, rfl, rfl, rfl, rfl, rfl, (congrArg (fun n : Nat => some (Value.slice outA n outC)) (set_len out (out.length - 1) ((R44.smK ks (out.getD (out.length - 1) []) ((Srt.srt (R44.cmpV l) inn).getD j [])).1)).symm), rfl, rfl, rfl, rfl, (congrArg (fun n : Nat => some (Value.slice outA n outC)) (set_len out (out.length - 1) ((R44.smK ks (out.getD (out.length - 1) []) ((Srt.srt (R44.cmpV l) inn).getD j [])).1)).symm), rfl, rfl, rfl, rfl, trivial⟩ (fun _ h => h) ?_
          refine z_ (n_ (J_exit (ne_ (kh_ (n_ (g_ (s_ mv_ (s_ (x_add_n (a := j) (b := 1) rfl rfl (by omega)) (s_ av_ (z_ ?_))))))))))
          refine JX_round ((j + 1, (out.set (out.length - 1) ((R44.smK ks (out.getD (out.length - 1) []) ((Srt.srt (R44.cmpV l) inn).getD j [])).1)), outA, outC) : Nat × (List Bytes) × (Option Addr) × Nat) ?_ ?_ ⟨rfl, rfl, rfl, rfl, rfl, rfl, rfl, rfl, rfl, trivial⟩ (fun _ h => h)
          ·try dsimp only
           refine ⟨?_, ?_, ?_, ?_⟩
           ·first | rfl | omega | (simp_all; done) | (simp_all; omega)
           ·exact c44o1_
           ·exact c44o2_
           ·exact c44o3_
          ·try dsimp only
           first | omega | (simp; omega) | (simp_all; omega)
       ·have h48w := h48
        refine sk_ (n_ (g_ (s_ mv_ (s_ mv_ (s_ mv_ (r_ (ixM (cells_row 0 rfl) Tryz.underlying22 Ty.sz9) (r_ (ldM vS [] (cells_row 0 rfl) Ty.sc9) (o_ (O_buildSlice (cs := [vS ((Srt.srt (R44.cmpV l) inn).getD j [])]) Tryz.underlying22 Ty.sz9 Ty.ze9 (by decide) (by decide) (by kernel_rfl) fun b52 => ?_)))))))))
        refine o_ (O_append_m 4 vS out [((Srt.srt (R44.cmpV l) inn).getD j [])] Tryz.underlying22 Ty.sz9 Ty.by9 Ty.ze9 rfl rfl rfl rfl rfl (fun _ => rfl) (cells_blk 0 (off := 0) (m := 1) rfl rfl) lt_ lt_ fun A53 c54 => ?_)
        refine s_ av_ (z_ (kx_ (n_ (g_ (s_ mv_ (s_ (x_add_n (a := j) (b := 1) rfl rfl (by omega)) (s_ av_ (z_ ?_))))))))
        refine JX_round ((j + 1, out ++ [((Srt.srt (R44.cmpV l) inn).getD j [])], A53, c54) : Nat × (List Bytes) × (Option Addr) × Nat) ?_ ?_ ⟨rfl, rfl, rfl, rfl, rfl, rfl, rfl, rfl, rfl, trivial⟩ (fun _ h => h.keep [false, true, true, true, true] rfl)
        ·try dsimp only
         refine ⟨?_, ?_, ?_, ?_⟩
         ·first | rfl | omega | (simp_all; done) | (simp_all; omega)
         ·exact c44o1_
         ·exact c44o2_
         ·exact c44o3_
        ·try dsimp only
         first | omega | (simp; omega) | (simp_all; omega)
      ·refine sk_ (n_ (g_ (s_ mv_ (s_ mv_ (s_ mv_ (r_ (ixM (cells_row 0 rfl) Tryz.underlying22 Ty.sz9) (r_ (ldM vS [] (cells_row 0 rfl) Ty.sc9) (o_ (O_buildSlice (cs := [vS ((Srt.srt (R44.cmpV l) inn).getD j [])]) Tryz.underlying22 Ty.sz9 Ty.ze9 (by decide) (by decide) (by kernel_rfl) fun b55 => ?_)))))))))
       refine o_ (O_append_m 4 vS out [((Srt.srt (R44.cmpV l) inn).getD j [])] Tryz.underlying22 Ty.sz9 Ty.by9 Ty.ze9 rfl rfl rfl rfl rfl (fun _ => rfl) (cells_blk 0 (off := 0) (m := 1) rfl rfl) lt_ lt_ fun A56 c57 => ?_)
       refine s_ av_ (z_ (kx_ (n_ (g_ (s_ mv_ (s_ (x_add_n (a := j) (b := 1) rfl rfl (by omega)) (s_ av_ (z_ ?_))))))))
       refine JX_round ((j + 1, out ++ [((Srt.srt (R44.cmpV l) inn).getD j [])], A56, c57) : Nat × (List Bytes) × (Option Addr) × Nat) ?_ ?_ ⟨rfl, rfl, rfl, rfl, rfl, rfl, rfl, rfl, rfl, trivial⟩ (fun _ h => h.keep [false, true, true, true, true] rfl)
       ·try dsimp only
        refine ⟨?_, ?_, ?_, ?_⟩
        ·first | rfl | omega | (simp_all; done) | (simp_all; omega)
        ·exact c44o1_
        ·exact c44o2_
        ·exact c44o3_
       ·try dsimp only
        first | omega | (simp; omega) | (simp_all; omega)
     ·have h44 := of_decide_eq_false h44
      refine js2_ 3 rfl (js2_ 4 rfl (js2_ 5 rfl (js2_ 6 rfl (js2_ 7 rfl (js2_ 8 rfl (js2_ 9 rfl (js2_ 10 rfl (js2_ 11 rfl (js2_ 12 rfl ?_)))))))))
      refine js2_ 13 rfl (js2_ 14 rfl ?_)
      refine jt_ 15 (vB false) rfl (fun _ _ => rfl) ?_
      refine JA_done (by kernel_rfl) gm_ ?_
      refine n_ (iff_ (sk_ (n_ (g_ (s_ mv_ (s_ mv_ (s_ mv_ (r_ (ixM (cells_row 0 rfl) Tryz.underlying22 Ty.sz9) (r_ (ldM vS [] (cells_row 0 rfl) Ty.sc9) (o_ (O_buildSlice (cs := [vS ((Srt.srt (R44.cmpV l) inn).getD j [])]) Tryz.underlying22 Ty.sz9 Ty.ze9 (by decide) (by decide) (by kernel_rfl) fun b58 => ?_)))))))))))
      refine o_ (O_append_m 4 vS out [((Srt.srt (R44.cmpV l) inn).getD j [])] Tryz.underlying22 Ty.sz9 Ty.by9 Ty.ze9 rfl rfl rfl rfl rfl (fun _ => rfl) (cells_blk 0 (off := 0) (m := 1) rfl rfl) lt_ lt_ fun A59 c60 => ?_)
      refine s_ av_ (z_ (kx_ (n_ (g_ (s_ mv_ (s_ (x_add_n (a := j) (b := 1) rfl rfl (by omega)) (s_ av_ (z_ ?_))))))))
      refine JX_round ((j + 1, out ++ [((Srt.srt (R44.cmpV l) inn).getD j [])], A59, c60) : Nat × (List Bytes) × (Option Addr) × Nat) ?_ ?_ ⟨rfl, rfl, rfl, rfl, rfl, rfl, rfl, rfl, rfl, trivial⟩ (fun _ h => h.keep [false, true, true, true, true] rfl)
      ·try dsimp only
       refine ⟨?_, ?_, ?_, ?_⟩
       ·first | rfl | omega | (simp_all; done) | (simp_all; omega)
       ·exact c44o1_
       ·exact c44o2_
       ·exact c44o3_
      ·try dsimp only
       first | omega | (simp; omega) | (simp_all; omega)
    ·refine J_exit (ne_ (re_ (kh_ (n_ (q_ ?_)))))
     refine g_ (s_ mv_ (s_ mv_ (s_ mv_ (s_ (fA 1 Ty.fi32_1) (r_ (ld_ 2 Ty.sc3) (c0 (cl_ Ty.ca48) (fun w hS => f48_ok _ kf w hy_ hy_ hy_) (s_ mv_ (s_ (lnS Tryz.underlying22) (s_ mv_ ?_)))))))))
     refine s_ (lnS Tryz.underlying22) (s_ (x_sub_i (a := ((rs.length : Nat) : Int)) (b := ((out.length : Nat) : Int)) rfl rfl (by omega) (by omega)) (js_ (vG [vI ((rout.length : Nat) : Int), vI ((Srt.passes kf rout.length rout.length : Nat) : Int), vI (((rs.length : Nat) : Int) - ((out.length : Nat) : Int))]) (x_build (by kernel_rfl)) (s_ av_ (o_ (stG 1 Ty.sz34 ?_)))))
     refine s_ av_ (z_ (xk_ [11, 10, 12] ?_))
     refine n_ (rt_ ?_)
     refine JX_retsC [_, _, _] (Value.tuple #[_, _, _]) Tryz.results20 (fun w h => ⟨rfl, ⟨_, rfl, load_blkN 1 [vI ((rout.length : Nat) : Int), vI ((Srt.passes kf rout.length rout.length : Nat) : Int), vI (((rs.length : Nat) : Int) - ((out.length : Nat) : Int))] h rfl Ty.ag34 Ty.sz34 rfl⟩, rfl, trivial⟩) rfl _ (fun _ h => h.keep [false, false, false, true] rfl) (fun _ _ h => (hB38.back _ _ h)) ⟨out, outA, outC, ((rout.length : Nat) : Int), ((Srt.passes kf rout.length rout.length : Nat) : Int), ((rs.length : Nat) : Int) - ((out.length : Nat) : Int), 0, ?_, ?_, ?_⟩
     ·rfl
     ·rfl
     ·exact c44o0_
end Go.Proofs.YtnfglkgahlaofaaGreatDoor

namespace Go.Proofs.YtnfglkgahlaofaaGreatDoor
open Go.GV
namespace R44
theorem few_q1 {rs : List Bytes} {m : Int} (h : few rs m = true) (i : Nat) : (rs.getD i []).length ≤ 1000000 := by have := (few_facts h).2 i; omega
theorem inR_len (f : Bytes → Bytes × Bool) (rs : List Bytes) : (inR f rs).1.length ≤ rs.length := by
  unfold inR
  cases hi : inputs f rs with
  | none => exact Nat.zero_le _
  | some r => exact (inputs_len hi).1
theorem sortV_len (l : List SortField) (m fan : Int) (fi : Bytes → Bytes × Bool) (fs : Bytes → Bytes → Bytes × Bool) (rs : List Bytes) : (sortV l m fan fi fs rs).1.length ≤ rs.length := by
  unfold sortV
  split
  · exact Nat.zero_le _
  split
  · exact Nat.zero_le _
  split
  · exact Nat.zero_le _
  split
  · exact Nat.zero_le _
  rename_i h
  have h1 := sums_len (c := cmpL l) (f := fs) (Srt.srt (cmpL l) (inR fi rs).1) [] (by omega)
  rw [Srt.srt_len] at h1
  have := inR_len fi rs
  simp only [List.length_nil, Nat.zero_add] at h1
  show (sums (cmpL l) fs [] (Srt.srt (cmpL l) (inR fi rs).1)).1.length ≤ rs.length
  omega
theorem sv_len {l : List SortField} {m fan : Int} {fi : Bytes → Bytes × Bool} {fs : Bytes → Bytes → Bytes × Bool} {rs out : List Bytes} {w : SortWork} {e : Int} (h : (out, w, e) = sortV l m fan fi fs rs) : out.length ≤ rs.length := by
  have := sortV_len l m fan fi fs rs; rw [← h] at this; exact this
theorem law_sorts {l : List SortField} {m fan : Int} {fi : Bytes → Bytes × Bool} {fs : Bytes → Bytes → Bytes × Bool} {rs out out2 : List Bytes} {a b c a2 b2 c2 e e2 : Int} (h : (out, SortWork.mk a b c, e) = sortV l m fan fi fs rs) (h2 : (out2, SortWork.mk a2 b2 c2, e2) = sortV l m fan fi fs rs) :
    ((decide (out = out2) && decide (SortWork.mk a b c = SortWork.mk a2 b2 c2)) && decide (e = e2)) = true := by
  rw [← h2] at h
  cases h
  simp
end R44
end Go.Proofs.YtnfglkgahlaofaaGreatDoor

namespace Go.Proofs.YtnfglkgahlaofaaGreatDoor
open Go.GV
set_option linter.unusedVariables false
set_option linter.unusedSimpArgs false
set_option maxRecDepth 20000 in
theorem f4_ok (rs : List Bytes) (rsA : Option Addr) (rsC : Nat) (p : SortPlan) (l : List SortField) (lA : Option Addr) (lC : Nat) (ki : Int) (ks : Int) (w : World) (rsR : RO [] w rsA (rs.map vS)) (lR : RO [] w lA (l.flatMap SortField.enc)) (hT : Tab [] w) (q0 : rs.length ≤ rsC ∧ rs.length ≤ 9223372036854775807) (q1 : l.length ≤ 9223372036854775807) : Calls Tryz.prog 4 #[vL rsA rs.length rsC, vG [vI p.Memory, vI p.Fan], vL lA l.length lC, vI ki, vI ks] w (Gives [] w fun v L => v = vB true ∧ L = []) := by
 refine calls_J [] 61 Tryz.func4 rfl Tryz.ntmps4 [(0, _), (1, _), (2, _), (3, _), (4, _)] rfl rfl (Give.nil w) ?_
 refine q_ (g_ (o_ (bxG fun b1 => ?_)))
 refine s_ av_ (z_ (n_ (q_ (q_ (g_ (c0 (cl_ Ty.ca11) (fun w hS => f11_ok w (hT.on hS (fun _ h => by cases h))) (jr_ (vB false) (z_ (n_ (iff_ (sk_ (n_ (q_ (q_ (g_ (s_ mv_ (c0 (cl_ Ty.ca12) (fun w hS => f12_ok rs rsA rsC 60 w (rno rsR hS) hy_) (s_ (x_not rfl) (s_ mv_ ?_)))))))))))))))))))
 refine or_ 3 (decide ((12 : Int) < ((l.length : Nat) : Int))) (fun g2 => ?_) ?_
 ·have g2r := g2
  have g2r : (R44.few rs 60) = true := bnot_false g2r
  have hi3 := R44.few_facts g2r
  refine sg_ g2 mv_ (sg_ g2 (lnS Tryz.underlying24) (sg_ g2 (x_gtr_i rfl rfl) ?_))
  exact cr_
 refine z_ (n_ ?_)
 refine if_ (fun h4 => ?_) (fun h4 => ?_)
 ·have h4w := h4
  simp only [Bool.and_eq_true, Bool.or_eq_true, Bool.and_eq_false_iff, Bool.or_eq_false_iff, Bool.not_eq_true', Bool.not_eq_false', decide_eq_true_eq, decide_eq_false_iff_not] at h4
  refine q_ (g_ (s_ av_ (z_ (n_ (rt_ (nr_ ?_))))))
  exact p1 Tryz.results4 rfl ⟨rfl, rfl⟩
 ·have h4w := h4
  have ⟨h4, h5⟩ := bor_false h4
  have h4 : (R44.few rs 60) = true := bnot_false h4
  have hi6 := R44.few_facts h4
  have h5 := of_decide_eq_false h5
  refine sk_ (n_ (q_ ?_))
  refine drB [13] 15 Ty.mixed ?_
  refine jp_ 0 rfl mv_ (jq_ 1 rfl (ldN 0 [vI p.Memory, vI p.Fan] Ty.ag32 Ty.sz32) (jp_ 2 rfl mv_ (jp_ 3 rfl mv_ (jp_ 4 rfl mv_ ?_))))
  refine JA_finX (X := {x : Nat × (Option Addr) × (List Bytes) × Nat × Int × Int × Int × Int // match x with | ⟨b18, outA10, out9, outC11, e15, e12, e13, e14⟩ => ((out9, SortWork.mk e12 e13 e14, e15) = R44.sortV l p.Memory p.Fan (R44.inK ki) (R44.smK ks) rs)}) (fun ⟨⟨b18, outA10, out9, outC11, e15, e12, e13, e14⟩, hfx8⟩ => [(0, vL rsA rs.length rsC), (2, vL lA l.length lC), (3, vI ki), (4, vI ks), (6, pB b1 0), (10, vB false), (12, pB b18 0), (11, vL outA10 out9.length outC11), (13, vI e15)]) (fun ⟨⟨b18, outA10, out9, outC11, e15, e12, e13, e14⟩, hfx8⟩ => [Ent.blk b18 34 [vI e12, vI e13, vI e14], Ent.row (.slice outA10 out9.length outC11) 9 1 out9.length (out9.map vS), Ent.blk b1 32 [vI p.Memory, vI p.Fan]]) ?_ (fun key7 => ?_)
  ·rintro ⟨⟨b18, outA10, out9, outC11, e15, e12, e13, e14⟩, hfx8⟩
   have hf19 : ((out9, SortWork.mk e12 e13 e14, e15) = R44.sortV l p.Memory p.Fan (R44.inK ki) (R44.smK ks) rs) := hfx8
   show JX _ _ _ _ _ [(0, vL rsA rs.length rsC), (2, vL lA l.length lC), (3, vI ki), (4, vI ks), (6, pB b1 0), (10, vB false), (12, pB b18 0), (11, vL outA10 out9.length outC11), (13, vI e15)] [Ent.blk b18 34 [vI e12, vI e13, vI e14], Ent.row (.slice outA10 out9.length outC11) 9 1 out9.length (out9.map vS), Ent.blk b1 32 [vI p.Memory, vI p.Fan]]
   refine n_ (q_ (g_ (s_ mv_ (r_ (ldN 2 [vI p.Memory, vI p.Fan] Ty.ag32 Ty.sz32) (s_ mv_ (s_ mv_ (s_ mv_ ?_)))))))
   refine c1 (cl_ Ty.ca20) (fun w hS => f20_ok rs rsA rsC _ _ l lA lC ki ks w (rno rsR hS) (rno lR hS) hy_ (by exact R44.few_q1 (by assumption)) hy_) ?_
   rintro _ _ ⟨out20, outA21, outC22, e23, e24, e25, e26, rfl, rfl, hf27⟩
   refine s_ mv_ (s_ (ex_ 0) (s_ (ex_ 1) (s_ (ex_ 2) (o_ (al_ Ty.ze34 fun b28 => ?_)))))
   refine s_ av_ (o_ (stG 0 Ty.sz34 ?_))
   refine s_ av_ (z_ (xk_ [10, 12, 11, 13, 15, 14, 16] ?_))
   refine n_ (q_ (g_ (s_ mv_ (s_ mv_ (c0 (cl_ Ty.ca15) (fun w hS => f15_ok out9 _ _ _ _ _ w (RO.of_row hS 3 rfl) (RO.of_row hS 1 rfl) (by exact Nat.le_trans (R44.sv_len (by assumption)) (by omega)) (by exact Nat.le_trans (R44.sv_len (by assumption)) (by omega))) (s_ mv_ ?_))))))
   refine and_ 3 (decide (((SortWork.mk e12 e13 e14) : SortWork) = (SortWork.mk e23 e24 e25))) (fun g29 => ?_) ?_
   ·have g29r := g29
    have g29r := of_decide_eq_true g29r
    refine rg_ g29 (ldN 2 [vI e12, vI e13, vI e14] Ty.ag34 Ty.sz34) (rg_ g29 (ldN 0 [vI e23, vI e24, vI e25] Ty.ag34 Ty.sz34) (sg_ g29 (x_eql_agg rfl rfl Ty.eg34 (Ty.eq34 9998 (SortWork.mk e12 e13 e14) (SortWork.mk e23 e24 e25))) ?_))
    exact cr_
   refine s_ mv_ ?_
   refine and_ 3 (decide (e15 = e26)) (fun g30 => ?_) ?_
   ·have g30r := g30
    have ⟨g30r, h31⟩ := band_true g30r
    have g30r := of_decide_eq_true g30r
    have h31 := of_decide_eq_true h31
    refine sg_ g30 mv_ (sg_ g30 mv_ (sg_ g30 (x_eql_i rfl rfl) ?_))
    exact cr_
   refine s_ av_ (z_ (n_ (rt_ ?_)))
   exact p1 Tryz.results4 rfl ⟨(eB (R44.law_sorts (by assumption) (by assumption))), rfl⟩
  ·refine JA_ready (rs := [5, 11]) (by kernel_rfl) (by decide) gm_ (List.forall_mem_cons.2 ⟨?_, (List.forall_mem_cons.2 ⟨?_, all_nil⟩)⟩)
   ·refine jc1_ rfl (cl_ Ty.ca19) (fun w hS => f19_ok ki ks w) ?_
    rintro _ _ ⟨bp32, bq33, rfl, rfl⟩
    refine JA_ready (rs := [6, 11]) (by kernel_rfl) (by decide) (fun _ h => ⟨h.keep [false, false, true] rfl, fun _ => h.keep [false, false, true] rfl⟩) (List.forall_mem_cons.2 ⟨?_, (List.forall_mem_cons.2 ⟨?_, all_nil⟩)⟩)
    ·refine jc1_ rfl (cl_ Ty.ca18) (fun w hS => f18x_ok rs rsA rsC _ _ l lA lC _ ki _ ks w (rno rsR hS) (rno lR hS) (RO.of_blk hS 0 (off := 0) (m := 1) rfl rfl) (RO.of_blk hS 1 (off := 0) (m := 1) rfl rfl) hy_ (by exact R44.few_q1 (by assumption)) hy_ hy_) ?_
     rintro _ _ ⟨out34, outA35, outC36, e37, e38, e39, e40, rfl, rfl, hf41⟩
     refine jp_ 7 rfl mv_ (jp_ 8 rfl (ex_ 0) (jp_ 9 rfl (ex_ 1) (jp_ 10 rfl (ex_ 2) (j1_ 11 (jio_ rfl (al_ Ty.ze34 fun b43 => ?_)) (fun _ h => ⟨h.keep [false, false, false, true] rfl, fun _ => h.keep [false, false, false, true] rfl⟩)))))
     refine jp_ 12 rfl av_ (j1_ 13 (jio_ rfl (stG 0 Ty.sz34 ?_)) (fun _ h => ⟨h.keep [false, false, false, false, true] rfl, fun _ => h.keep [false, false, false, false, true] rfl⟩))
     refine jp_ 14 rfl av_ ?_
     exact JA_done (by kernel_rfl) (gl_ rfl (fun _ h => h.keep [false, false, false, false, true] rfl)) (JX_weaken (E' := [(0, vL rsA rs.length rsC), (2, vL lA l.length lC), (3, vI ki), (4, vI ks), (6, pB b1 0), (10, vB false), (12, pB b43 0), (11, vL outA35 out34.length outC36), (13, vI e40)]) (L' := [Ent.blk b43 34 [vI e37, vI e38, vI e39], Ent.row (.slice outA35 out34.length outC36) 9 1 out34.length (out34.map vS), Ent.blk b1 32 [vI p.Memory, vI p.Fan]]) ⟨rfl, rfl, rfl, rfl, rfl, rfl, rfl, rfl, rfl, trivial⟩ (fun _ h => h.keep [true, true, false, false, true] rfl) (key7 ⟨(b43, outA35, out34, outC36, e40, e37, e38, e39), by assumption⟩))
    ·refine jio_ rfl (al_ Ty.ze34 fun b44 => ?_)
     refine j1_ 6 ?_ (fun _ h => ⟨h.keep [false, false, false, true] rfl, fun _ => h.keep [false, false, false, true] rfl⟩)
     refine jc1_ rfl (cl_ Ty.ca18) (fun w hS => f18x_ok rs rsA rsC _ _ l lA lC _ ki _ ks w (rno rsR hS) (rno lR hS) (RO.of_blk hS 1 (off := 0) (m := 1) rfl rfl) (RO.of_blk hS 2 (off := 0) (m := 1) rfl rfl) hy_ (by exact R44.few_q1 (by assumption)) hy_ hy_) ?_
     rintro _ _ ⟨out45, outA46, outC47, e48, e49, e50, e51, rfl, rfl, hf52⟩
     refine jp_ 7 rfl mv_ (jp_ 8 rfl (ex_ 0) (jp_ 9 rfl (ex_ 1) (jp_ 10 rfl (ex_ 2) (jp_ 12 rfl av_ (j1_ 13 (jio_ rfl (stG 1 Ty.sz34 ?_)) (fun _ h => ⟨h.keep [false, false, false, false, true] rfl, fun _ => h.keep [false, false, false, false, true] rfl⟩))))))
     refine jp_ 14 rfl av_ ?_
     exact JA_done (by kernel_rfl) (gl_ rfl (fun _ h => h.keep [false, false, false, false, true] rfl)) (JX_weaken (E' := [(0, vL rsA rs.length rsC), (2, vL lA l.length lC), (3, vI ki), (4, vI ks), (6, pB b1 0), (10, vB false), (12, pB b44 0), (11, vL outA46 out45.length outC47), (13, vI e51)]) (L' := [Ent.blk b44 34 [vI e48, vI e49, vI e50], Ent.row (.slice outA46 out45.length outC47) 9 1 out45.length (out45.map vS), Ent.blk b1 32 [vI p.Memory, vI p.Fan]]) ⟨rfl, rfl, rfl, rfl, rfl, rfl, rfl, rfl, rfl, trivial⟩ (fun _ h => (((h.front 4 _ rfl).front 1 _ rfl).front 2 _ rfl).keep [true, true, true, false, false] rfl) (key7 ⟨(b44, outA46, out45, outC47, e51, e48, e49, e50), by assumption⟩))
   ·refine jio_ rfl (al_ Ty.ze34 fun b53 => ?_)
    refine j1_ 5 ?_ (fun _ h => ⟨h.keep [false, true] rfl, fun _ => h.keep [false, true] rfl⟩)
    refine jc1_ rfl (cl_ Ty.ca19) (fun w hS => f19_ok ki ks w) ?_
    rintro _ _ ⟨bp54, bq55, rfl, rfl⟩
    refine j1_ 6 ?_ (fun _ h => ⟨h.keep [false, false, false, true] rfl, fun _ => h.keep [false, false, false, true] rfl⟩)
    refine jc1_ rfl (cl_ Ty.ca18) (fun w hS => f18x_ok rs rsA rsC _ _ l lA lC _ ki _ ks w (rno rsR hS) (rno lR hS) (RO.of_blk hS 0 (off := 0) (m := 1) rfl rfl) (RO.of_blk hS 1 (off := 0) (m := 1) rfl rfl) hy_ (by exact R44.few_q1 (by assumption)) hy_ hy_) ?_
    rintro _ _ ⟨out56, outA57, outC58, e59, e60, e61, e62, rfl, rfl, hf63⟩
    refine jp_ 7 rfl mv_ (jp_ 8 rfl (ex_ 0) (jp_ 9 rfl (ex_ 1) (jp_ 10 rfl (ex_ 2) (jp_ 12 rfl av_ (j1_ 13 (jio_ rfl (stG 3 Ty.sz34 ?_)) (fun _ h => ⟨h.keep [false, false, false, false, true] rfl, fun _ => h.keep [false, false, false, false, true] rfl⟩))))))
    refine jp_ 14 rfl av_ ?_
    exact JA_done (by kernel_rfl) (gl_ rfl (fun _ h => h.keep [false, false, false, false, true] rfl)) (JX_weaken (E' := [(0, vL rsA rs.length rsC), (2, vL lA l.length lC), (3, vI ki), (4, vI ks), (6, pB b1 0), (10, vB false), (12, pB b53 0), (11, vL outA57 out56.length outC58), (13, vI e62)]) (L' := [Ent.blk b53 34 [vI e59, vI e60, vI e61], Ent.row (.slice outA57 out56.length outC58) 9 1 out56.length (out56.map vS), Ent.blk b1 32 [vI p.Memory, vI p.Fan]]) ⟨rfl, rfl, rfl, rfl, rfl, rfl, rfl, rfl, rfl, trivial⟩ (fun _ h => (((h.front 4 _ rfl).front 1 _ rfl).front 4 _ rfl).keep [true, true, true, false, false] rfl) (key7 ⟨(b53, outA57, out56, outC58, e62, e59, e60, e61), by assumption⟩))
end Go.Proofs.YtnfglkgahlaofaaGreatDoor


