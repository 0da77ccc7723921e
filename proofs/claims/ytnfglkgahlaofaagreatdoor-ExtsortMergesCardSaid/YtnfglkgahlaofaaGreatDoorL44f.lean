/- contracts L44f -/
import Derived.Test.YtnfglkgahlaofaaGreatDoorAll21
import Derived.Test.YtnfglkgahlaofaaGreatDoorAll19
import Derived.Test.YtnfglkgahlaofaaGreatDoorC44e
import Derived.Test.YtnfglkgahlaofaaGreatDoorPl44r
namespace Go.Proofs.YtnfglkgahlaofaaGreatDoor
open Go.GV
set_option linter.unusedVariables false
set_option linter.unusedSimpArgs false
theorem l44f0_ {p : Prop} (h : p := by first | exact hqk.1 | exact row_le (hS.mem (j := 0) rfl) | exact row_le (hS.mem (j := 1) rfl) | exact row_le (hS.mem (j := 2) rfl) | exact row_le (hS.mem (j := 3) rfl) | exact row_le (hS.mem (j := 4) rfl) | exact row_le (hS.mem (j := 5) rfl) | exact row_le (hS.mem (j := 6) rfl) | exact row_le (hS.mem (j := 7) rfl)) : p := h
set_option maxRecDepth 20000 in
theorem f8_ok (lists : List Rw) (listsA : Option Addr) (listsC : Nat) (l : List SortField) (lA : Option Addr) (lC : Nat) (w : World) (listsR : RO [] w listsA (lists.flatMap Rw.enc)) (listsN : ∀ i : Nat, RO [] w (lists.getD i default).sA (((lists.getD i default).s).map vS)) (lR : RO [] w lA (l.flatMap SortField.enc)) (hT : Tab [] w) (q0 : lists.length ≤ listsC ∧ lists.length ≤ 9223372036854775807) (q1 : ∀ i, (lists.getD i default).s.length ≤ (lists.getD i default).sC ∧ (lists.getD i default).s.length ≤ 9223372036854775807) (q2 : l.length ≤ 9223372036854775807) : Calls Tryz.prog 8 #[vL listsA lists.length listsC, vL lA l.length lC] w (Gives [] w fun v L => v = vB true ∧ L = []) := by
 refine calls_J [] 73 Tryz.func8 rfl Tryz.ntmps8 [(0, _), (1, _)] rfl rfl (Give.nil w) ?_
 refine q_ (g_ (s_ av_ (z_ (n_ (q_ (q_ (g_ (c0 (cl_ Ty.ca11) (fun w hS => f11_ok w (hT.on hS (fun _ h => by cases h))) (jr_ (vB false) (z_ (n_ (iff_ (sk_ (n_ (q_ (q_ (g_ (s_ mv_ (s_ (lnS Tryz.underlying23) (s_ (x_gtr_i rfl rfl) ?_))))))))))))))))))))
 refine s_ mv_ ?_
 refine or_ 3 (!(R44.valid l)) (fun g1 => ?_) ?_
 ·have g1r := g1
  have g1r := of_decide_eq_false g1r
  refine sg_ g1 mv_ (c0g g1 (cl_ Ty.ca21) (fun w hS => f21_ok l lA lC w (rno lR hS) hy_) (sg_ g1 (x_not rfl) ?_))
  exact cr_
 refine z_ (n_ ?_)
 refine if_ (fun h2 => ?_) (fun h2 => ?_)
 ·have h2w := h2
  simp only [Bool.and_eq_true, Bool.or_eq_true, Bool.and_eq_false_iff, Bool.or_eq_false_iff, Bool.not_eq_true', Bool.not_eq_false', decide_eq_true_eq, decide_eq_false_iff_not] at h2
  refine q_ (g_ (s_ av_ (z_ (n_ (rt_ (nr_ ?_))))))
  exact p1 Tryz.results8 rfl ⟨rfl, rfl⟩
 ·have h2w := h2
  have ⟨h2, h3⟩ := bor_false h2
  have h2 := of_decide_eq_false h2
  have h3 : (R44.valid l) = true := bnot_false h3
  have hi4 := R44.valid_facts h3
  refine sk_ (n_ (q_ (g_ (js_ (vG [vI 5, vI 2]) (x_build (by kernel_rfl)) (o_ (al_ Ty.ze32 fun b5 => ?_))))))
  refine o_ (stG 0 Ty.sz32 ?_)
  refine z_ (n_ (q_ (g_ (s_ av_ (z_ (n_ (q_ (g_ (s_ av_ (z_ (n_ (q_ (q_ (g_ (s_ mv_ (s_ (lnS Tryz.underlying23) (s_ mv_ (z_ (n_ (k_ ?_))))))))))))))))))))
  refine J_loopB (X := (List Rw) × (Option Addr) × Nat × (List Bytes) × (Option Addr) × Nat × Nat) (fun (⟨sorted, sortedA, sortedC, all, allA, allC, k⟩ : (List Rw) × (Option Addr) × Nat × (List Bytes) × (Option Addr) × Nat × Nat) => (k ≤ lists.length) ∧ (R44.MgJ l sorted all k)) (fun (⟨sorted, sortedA, sortedC, all, allA, allC, k⟩ : (List Rw) × (Option Addr) × Nat × (List Bytes) × (Option Addr) × Nat × Nat) wx => (∀ i : Nat, RO (Lown [Ent.blk b5 32 [vI 5, vI 2], Ent.row (.slice sortedA sorted.length sortedC) 22 1 sorted.length (sorted.flatMap Rw.enc), Ent.row (.slice allA all.length allC) 9 1 all.length (all.map vS)] ++ List.range w.heap.size) wx (sorted.getD i default).sA (((sorted.getD i default).s).map vS))) (fun (⟨sorted, sortedA, sortedC, all, allA, allC, k⟩ : (List Rw) × (Option Addr) × Nat × (List Bytes) × (Option Addr) × Nat × Nat) => [(1, vL lA l.length lC), (5, pB b5 0), (6, vL allA all.length allC), (7, vL sortedA sorted.length sortedC), (27, vL listsA lists.length listsC), (28, vI ((lists.length : Nat) : Int)), (29, vI ((k : Nat) : Int))]) (fun (⟨sorted, sortedA, sortedC, all, allA, allC, k⟩ : (List Rw) × (Option Addr) × Nat × (List Bytes) × (Option Addr) × Nat × Nat) => [Ent.blk b5 32 [vI 5, vI 2], Ent.row (.slice sortedA sorted.length sortedC) 22 1 sorted.length (sorted.flatMap Rw.enc), Ent.row (.slice allA all.length allC) 9 1 all.length (all.map vS)]) (fun (⟨sorted, sortedA, sortedC, all, allA, allC, k⟩ : (List Rw) × (Option Addr) × Nat × (List Bytes) × (Option Addr) × Nat × Nat) => lists.length - k) ((([] : List Rw), none, 0, ([] : List Bytes), none, 0, 0) : (List Rw) × (Option Addr) × Nat × (List Bytes) × (Option Addr) × Nat × Nat) ?_ ⟨rfl, rfl, rfl, rfl, rfl, rfl, rfl, trivial⟩ (fun _ h => (((h.nilrow 9 1).nilrow 22 1).front 2 _ rfl).keep [true, true, true] rfl) (fun wx hw => (fun _ => RO.nil)) ?_
  ·try dsimp only
   refine ⟨?_, ?_⟩
   ·first | rfl | omega | (simp_all; done) | (simp_all; omega)
   ·exact R44.MgJ.start
  rintro ⟨sorted, sortedA, sortedC, all, allA, allC, k⟩ wb1 hI1 hW1 hB1
  have listsR := listsR.again hB1
  have lR := lR.again hB1
  have listsN := fun i => (listsN i).again hB1
  have hT := hT.again hB1
  have sortedN0 := hW1
  have sortedN := fun i => (sortedN0 i).fromF
  obtain ⟨i1_0, i1_1⟩ := hI1
  try dsimp only at i1_0
  try dsimp only at i1_1
  have hqk := q1 k
  have hma := i1_1.al
  have hml := i1_1.len
  have hmf : (sorted.map Rw.s).flatten.length = all.length := by rw [← i1_1.eq]
  try dsimp only
  refine q_ (g_ (s_ (x_lss_i rfl rfl) (z_ (n_ (q_ ?_)))))
  refine ifd (fun h6w h6 => ?_) (fun h6w h6 => ?_)
  ·refine sk_ (n_ (q_ (k_ (q_ (g_ (r_ (ixF Rw.enc_len (cells_ro listsR) Tryz.underlying23 Ty.sz22) (r_ (ldF0 Rw.enc_len (cells_ro listsR) Ty.sc22) (s_ av_ (z_ (n_ (q_ (q_ (g_ (s_ mv_ (c0 (cl_ Ty.ca12) (fun w hS => f12_ok _ _ _ 10 w (rno (listsN k) hS) hy_) (s_ (x_not rfl) (z_ (n_ ?_))))))))))))))))))
   refine if_ (fun h7 => ?_) (fun h7 => ?_)
   ·have h7w := h7
    have h7 : (R44.few ((lists.getD k default).s) 10) = false := bnot_true h7
    refine q_ (g_ (s_ av_ (z_ (n_ (rt_ (nr_ (kq_ (nr_ (JX_roundB_ret (kq_ (nr_ ?_)))))))))))
    refine JX_retsC [_] _ Tryz.results8 (fun w h => ⟨rfl, trivial⟩) rfl _ (fun _ h => h.keep [false, false, false] rfl) (fun _ _ h => (hB1.back _ _ h)) ⟨?_, ?_⟩
    ·rfl
    ·rfl
   ·have h7w := h7
    have h7 : (R44.few ((lists.getD k default).s) 10) = true := bnot_false h7
    have hi8 := R44.few_facts h7
    refine sk_ (n_ (q_ (g_ (s_ mv_ (r_ (ldN 0 [vI 5, vI 2] Ty.ag32 Ty.sz32) (s_ mv_ (js_ (vG [Value.nilFunc, Value.nilFunc]) (x_build (by kernel_rfl)) ?_)))))))
    refine JO_callB [] [] [Ent.blk b5 32 [vI 5, vI 2], Ent.row (.slice sortedA sorted.length sortedC) 22 1 sorted.length (sorted.flatMap Rw.enc), Ent.row (.slice allA all.length allC) 9 1 all.length (all.map vS)] rfl trivial (fun _ => x_call Ty.ca18 rfl) (fun _ h => h) (fun _ h => by cases h) (fun w hS => f18_ok ((lists.getD k default).s) ((lists.getD k default).sA) ((lists.getD k default).sC) 5 2 l lA lC w ((listsN k).on hS (fun _ h => by cases h)) (lR.on hS (fun _ h => by cases h)) (by omega) (by first | exact R44.few_q1 (by assumption) | (intro i; have := i1_1.shortA i; omega)) l44f0_ hy_) ?_
    rintro wc _ _ wbhB14 ⟨rout, routA, routC, e9, e10, e11, e12, rfl, rfl, routR, routL, hf13⟩ hc0 hB14
    have listsR := listsR.again hB14
    have lR := lR.again hB14
    have listsN := fun i => (listsN i).again hB14
    have sortedN0 := fun i => (sortedN0 i).againF hB14
    have sortedN := fun i => (sortedN i).again hB14
    have hT := hT.again hB14
    have routR0 := routR.mono (lown_rangeF (w00 := w) hc0 (hB1.back _ _ hc0).fr.size)
    have routR := routR.mono (lown_range hc0)
    have ha15 := R44.sv_len (by assumption)
    refine s_ mv_ (s_ (ex_ 0) (s_ (ex_ 1) (s_ (ex_ 2) (o_ (al_ Ty.ze34 fun b16 => ?_)))))
    refine s_ av_ (o_ (stG 0 Ty.sz34 ?_))
    refine s_ av_ (z_ (xk_ [1, 5, 6, 7, 27, 28, 29, 10, 12] ?_))
    refine n_ (q_ (q_ (g_ (s_ mv_ (s_ (x_neq_i rfl rfl) (z_ (n_ ?_)))))))
    refine ifd (fun h17w h17 => ?_) (fun h17w h17 => ?_)
    ·refine q_ (g_ (s_ av_ (z_ (n_ (rt_ (nr_ (kq_ (nr_ (JX_roundB_ret (kq_ (nr_ ?_)))))))))))
     refine JX_retsC [_] _ Tryz.results8 (fun w h => ⟨rfl, trivial⟩) rfl _ (fun _ h => h.keep [false, false, false, false] rfl) (fun _ _ h => (hB1.back _ _ (hB14.back _ _ h))) ⟨?_, ?_⟩
     ·have e_x0 : (false : Bool) = true := by first | exact (R44.MgJ.bad (by assumption) (by assumption) (by assumption) (by assumption)).elim | exact i1_1.law (by omega) (by assumption) (by assumption)
      exact congrArg (fun (x0 : Bool) => vB x0) e_x0
     ·rfl
    ·refine sk_ (n_ (g_ (s_ mv_ (s_ mv_ (o_ (O_buildSlice (cs := [vL routA rout.length routC]) Tryz.underlying23 Ty.sz22 Ty.ze22 (by decide) (by decide) (by kernel_rfl) fun b18 => ?_))))))
     refine o_ (O_append_f 3 Rw.enc 1 sorted [(Rw.mk rout routA routC)] Tryz.underlying23 Ty.sz22 Ty.by22 Ty.ze22 rfl (by decide) rfl rfl rfl rfl Rw.enc_len Rw.enc_one (cells_blk 0 (off := 0) (m := 1) rfl rfl) lt_ lt_ fun A19 c20 => ?_)
     refine s_ mv_ (s_ mv_ (o_ (O_append_m 4 vS all rout Tryz.underlying22 Ty.sz9 Ty.by9 Ty.ze9 rfl rfl rfl rfl rfl (fun _ => rfl) (cells_ro routR) lt_ lt_ fun A21 c22 => ?_)))
     refine s_ av_ (s_ av_ (z_ (kx_ (n_ (g_ (s_ (x_add_n (a := k) (b := 1) rfl rfl (by omega)) (s_ mv_ (z_ ?_))))))))
     refine JX_roundB ((sorted ++ [(Rw.mk rout routA routC)], A19, c20, all ++ rout, A21, c22, k + 1) : (List Rw) × (Option Addr) × Nat × (List Bytes) × (Option Addr) × Nat × Nat) ?_ ?_ ⟨rfl, rfl, rfl, rfl, rfl, rfl, rfl, trivial⟩ (fun _ _ h => (hB1.back _ _ (hB14.back _ _ h))) (fun _ h => h.keep [false, false, true, true, true] rfl) (fun wx hw => (ron_snoc1 (fA := Rw.sA) (fl := fun x => x.s.map vS) (fun i => (sortedN0 i).againF (hw.keep [false, false, true, true, true] rfl)) (routR0.againF (hw.keep [false, false, true, true, true] rfl))))
     ·try dsimp only
      refine ⟨?_, ?_⟩
      ·first | rfl | omega | (simp_all; done) | (simp_all; omega)
      ·exact i1_1.step (by assumption) (by assumption) (by assumption) (by assumption)
     ·try dsimp only
      first | omega | (simp; omega) | (simp_all; omega)
  ·refine J_exit (ne_ (JX_roundB_exit (kh_ (n_ (q_ ?_)))))
   refine g_ (s_ mv_ (r_ (ldN 0 [vI 5, vI 2] Ty.ag32 Ty.sz32) (s_ mv_ (js_ (vG [Value.nilFunc, Value.nilFunc]) (x_build (by kernel_rfl)) ?_))))
   refine JO_callB [] [] [Ent.blk b5 32 [vI 5, vI 2], Ent.row (.slice sortedA sorted.length sortedC) 22 1 sorted.length (sorted.flatMap Rw.enc), Ent.row (.slice allA all.length allC) 9 1 all.length (all.map vS)] rfl trivial (fun _ => x_call Ty.ca18 rfl) (fun _ h => h) (fun _ h => by cases h) (fun w hS => f18_ok all allA allC 5 2 l lA lC w (RO.of_row hS 2 rfl) (lR.on hS (fun _ h => by cases h)) (by omega) (by first | exact R44.few_q1 (by assumption) | (intro i; have := i1_1.shortA i; omega)) l44f0_ hy_) ?_
   rintro wc _ _ wbhB29 ⟨rout23, rout23A, rout23C, e24, e25, e26, e27, rfl, rfl, rout23R, rout23L, hf28⟩ hc0 hB29
   have listsR := listsR.again hB29
   have lR := lR.again hB29
   have listsN := fun i => (listsN i).again hB29
   have sortedN0 := fun i => (sortedN0 i).againF hB29
   have sortedN := fun i => (sortedN i).again hB29
   have hT := hT.again hB29
   have rout23R0 := rout23R.mono (lown_rangeF (w00 := w) hc0 (hB1.back _ _ hc0).fr.size)
   have rout23R := rout23R.mono (lown_range hc0)
   have ha30 := R44.sv_len (by assumption)
   refine s_ mv_ (s_ (ex_ 0) (s_ (ex_ 1) (s_ (ex_ 2) (o_ (al_ Ty.ze34 fun b31 => ?_)))))
   refine s_ av_ (o_ (stG 0 Ty.sz34 ?_))
   refine s_ av_ (z_ (n_ (q_ (g_ (s_ mv_ (s_ (x_eql_i rfl rfl) (s_ mv_ ?_)))))))
   refine and_ 5 (decide ((R44.mergeV l (sorted.map Rw.s)) = rout23)) (fun g32 => ?_) ?_
   ·have g32r := g32
    have g32r := of_decide_eq_true g32r
    refine sg_ g32 mv_ (sg_ g32 mv_ ?_)
    refine c1g g32 (cl_ Ty.ca16) (fun w hS => f16_ok _ _ _ l lA lC w (RO.of_row hS 2 rfl) (fun i => (sortedN i).on hS (fun _ h => by cases h)) (rno lR hS) (by omega) (by intro i j; have := i1_1.short i j; omega) (by exact i1_1.cap) (by omega) hy_) ?_
    rintro _ _ ⟨e33, e34, rfl, rfl⟩
    refine sg_ g32 mv_ (c0g g32 (cl_ Ty.ca15) (fun w hS => f15_ok _ e33 e34 _ _ _ w (RO.of_row hS 0 rfl) (rno rout23R hS) (by have := R44.mergeV_len l (sorted.map Rw.s); omega) (by exact Nat.le_trans (R44.sv_len (by assumption)) (by omega))) ?_)
    exact cr_ (fun _ h => h.keep [false, true, true, true, true] rfl)
   refine s_ av_ (z_ (xk_ [4] ?_))
   refine n_ (rt_ ?_)
   refine JX_retsC [_] _ Tryz.results8 (fun w h => ⟨rfl, trivial⟩) rfl _ (fun _ h => h.keep [false, false, false, false] rfl) (fun _ _ h => (hB1.back _ _ (hB29.back _ _ h))) ⟨?_, ?_⟩
   ·have e_x0 : ((decide (e27 = 0)) && (decide ((R44.mergeV l (sorted.map Rw.s)) = rout23)) : Bool) = true := by first | exact (R44.MgJ.bad (by assumption) (by assumption) (by assumption) (by assumption)).elim | exact i1_1.law (by omega) (by assumption) (by assumption)
    exact congrArg (fun (x0 : Bool) => vB x0) e_x0
   ·rfl
end Go.Proofs.YtnfglkgahlaofaaGreatDoor
