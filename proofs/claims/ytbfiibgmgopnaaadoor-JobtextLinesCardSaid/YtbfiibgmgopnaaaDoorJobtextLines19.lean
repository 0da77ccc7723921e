/- C39v, C39w in one text. -/
import Derived.Test.YtbfiibgmgopnaaaDoorCards
import Derived.Test.YtbfiibgmgopnaaaDoorTie
import Derived.Test.YtbfiibgmgopnaaaDoorJobtextLines18
import Derived.Test.YtbfiibgmgopnaaaDoorRows
import GoSem.ClaimSeven
import Derived.LaidByTextLater
import Derived.SevenTiedAt
import Derived.LaidSub
import Derived.LaidOnce
set_option linter.unusedVariables false
set_option linter.unusedSimpArgs false
namespace Go.Proofs.YtbfiibgmgopnaaaDoor
open Go.GV
set_option linter.unusedVariables false
set_option linter.unusedSimpArgs false
set_option maxRecDepth 20000 in
theorem f3_ok (line : Bytes) (sy : List (Bytes × Bytes)) (syB : Nat) (w : World) (syR : Kp [] w (Ent.at (Ent.mp vS syB (sy.map kvS)))) (hT : Tab [] w) (q0 : line.length ≤ 9223372036854775807) : Calls Tryd.prog 3 #[vS line, Value.map (some syB)] w (Gives [] w fun v L => v = vB true ∧ L = []) := by
 refine calls_J [] 87 Tryd.func3 rfl Tryd.ntmps3 [(0, _), (1, _)] rfl rfl (Give.nil w) ?_
 refine q_ (g_ (s_ av_ (z_ (n_ (q_ (q_ (g_ (c0 (cl_ Ty.ca9) (fun w hS => f9_ok w (hT.on hS (fun _ h => by cases h))) (jr_ (vB false) (z_ (n_ (iff_ (sk_ (n_ (q_ (q_ (g_ (s_ mv_ (s_ (x_len_s rfl Tryd.underlying9) (s_ (x_gtr_i rfl rfl) ?_))))))))))))))))))))
 refine s_ mv_ ?_
 refine or_ 3 (decide ((8 : Int) < ((sy.length : Nat) : Int))) (fun g1 => ?_) ?_
 ·have g1r := g1
  have g1r := of_decide_eq_false g1r
  refine sg_ g1 mv_ (rg_ g1 (x_len_mpR (kp_mp syR) (n := sy.length) rfl Tryd.underlying22 (List.length_map _)) (sg_ g1 (x_gtr_i rfl rfl) ?_))
  exact cr_
 refine z_ (n_ ?_)
 refine if_ (fun h2 => ?_) (fun h2 => ?_)
 ·have h2w := h2
  simp only [Bool.and_eq_true, Bool.or_eq_true, Bool.and_eq_false_iff, Bool.or_eq_false_iff, Bool.not_eq_true', Bool.not_eq_false', decide_eq_true_eq, decide_eq_false_iff_not] at h2
  refine q_ (g_ (s_ av_ (z_ (n_ (rt_ (nr_ ?_))))))
  exact p1 Tryd.results3 rfl ⟨rfl, rfl⟩
 ·have h2w := h2
  have ⟨h2, h3⟩ := bor_false h2
  have h2 := of_decide_eq_false h2
  have h3 := of_decide_eq_false h3
  refine sk_ (n_ (q_ (q_ (g_ (s_ mv_ (o_ (O_rangeR syR rfl Tryd.underlying22 fun es4 ck5 it6 hborn7 hmx8 => ?_)))))))
  refine z_ (n_ (k_ ?_))
  refine J_loop (X := (List (Bytes × Bytes)) × (Option (Bytes × Value))) (fun (⟨left, leftC⟩ : (List (Bytes × Bytes)) × (Option (Bytes × Value))) => (R39.ShJ sy left)) (fun (⟨left, leftC⟩ : (List (Bytes × Bytes)) × (Option (Bytes × Value))) => [(0, vS line), (1, Value.map (some syB)), (26, pB it6 0)]) (fun (⟨left, leftC⟩ : (List (Bytes × Bytes)) × (Option (Bytes × Value))) => [Ent.rng vS it6 syB es4 ck5 (left.map kvS) leftC]) (fun (⟨left, leftC⟩ : (List (Bytes × Bytes)) × (Option (Bytes × Value))) => left.length) ((sy, (none : Option (Bytes × Value))) : (List (Bytes × Bytes)) × (Option (Bytes × Value))) ?_ ⟨rfl, rfl, rfl, trivial⟩ (fun _ h => h) ?_
  ·try dsimp only
   exact R39.ShJ.start
  rintro ⟨left, leftC⟩ hI1
  have i1_0 := hI1
  try dsimp only at i1_0
  try dsimp only
  refine q_ (g_ ?_)
  refine JO_op rfl trivial (O_nextR 0 (f := vS) kvS rfl rfl hmx8 hborn7 (fun left0 => ?_) (fun lefta leftn lefth => ?_))
  ·refine s_ (ex_ 0) (z_ (n_ (q_ (iff_ (J_exit (ne_ (re_ ?_)))))))
   have hsv := i1_0.done (by assumption)
   refine kh_ (n_ (q_ (g_ (s_ mv_ ?_))))
   refine c1 (cl_ Ty.ca10) (fun w hS => f10_ok line w hy_) ?_
   rintro _ _ ⟨e9, e10, rfl, rfl⟩
   have ha11 := R39.scanW_len line
   have ha12 := R39.scanW_short line
   refine s_ mv_ (s_ (ex_ 0) (s_ (ex_ 1) (s_ av_ (s_ av_ (z_ (n_ (q_ (g_ (s_ mv_ ?_)))))))))
   refine c1 (cl_ Ty.ca11) (fun w hS => f11_ok line w hy_) ?_
   rintro _ _ ⟨e13, e14, rfl, rfl⟩
   have ha15 := R39.scanW_len line
   have ha16 := R39.scanW_short line
   refine s_ mv_ (s_ (ex_ 0) (s_ (ex_ 1) (s_ av_ (s_ av_ (z_ (n_ (q_ (g_ (s_ mv_ (s_ mv_ (c0 (cl_ Ty.ca12) (fun w hS => f12_ok line sy syB w (syR.on0 hS) (hT.on hS (fun _ h => by cases h)) hy_ hy_) ?_)))))))))))
   have ha17 := R39.exV_len (m := lookK sy) (s := line)
   refine s_ mv_ (s_ (ex_ 0) (s_ (ex_ 1) (s_ av_ (s_ av_ (z_ (xk_ [0, 1, 7, 8, 9, 10, 11, 12] ?_))))))
   refine n_ (q_ (g_ (s_ mv_ (s_ mv_ (c0 (cl_ Ty.ca13) (fun w hS => f13_ok line sy syB w (syR.on0 hS) hy_ hy_) ?_)))))
   have ha18 := R39.exV_len (m := lookK sy) (s := line)
   refine s_ mv_ (s_ (ex_ 0) (s_ (ex_ 1) (s_ av_ (s_ av_ (z_ (n_ (q_ (g_ (s_ mv_ (s_ mv_ (c0 (cl_ Ty.ca14) (fun w hS => f14_ok _ e9 e10 _ e13 e14 w (RO.of_row hS 1 rfl) (RO.of_row hS 0 rfl) hy_ hy_) (s_ mv_ ?_))))))))))))
   refine and_ 3 (decide (R39.scanE line = R39.scanE line)) (fun g19 => ?_) ?_
   ·have g19r := g19
    have g19r := of_decide_eq_true g19r
    refine sg_ g19 mv_ (sg_ g19 mv_ (sg_ g19 (x_eql_i rfl rfl) ?_))
    exact cr_
   refine s_ mv_ ?_
   refine and_ 3 (decide (R39.exV (R39.replV (lookK sy) line) = R39.exV (R39.replV (lookK sy) line))) (fun g20 => ?_) ?_
   ·have g20r := g20
    have ⟨g20r, h21⟩ := band_true g20r
    have g20r := of_decide_eq_true g20r
    have h21 := of_decide_eq_true h21
    refine sg_ g20 mv_ (sg_ g20 mv_ (sg_ g20 (x_eql_s rfl rfl) ?_))
    exact cr_
   refine s_ mv_ ?_
   refine and_ 3 (decide (R39.exE (R39.replV (lookK sy) line) = R39.exE (R39.replV (lookK sy) line))) (fun g22 => ?_) ?_
   ·have g22r := g22
    have ⟨g22r, h23⟩ := band_true g22r
    have ⟨g22r, h24⟩ := band_true g22r
    have g22r := of_decide_eq_true g22r
    have h24 := of_decide_eq_true h24
    have h23 := of_decide_eq_true h23
    refine sg_ g22 mv_ (sg_ g22 mv_ (sg_ g22 (x_eql_i rfl rfl) ?_))
    exact cr_
   refine s_ mv_ ?_
   refine and_ 5 (decide (R39.quote line = R39.quote line)) (fun g25 => ?_) ?_
   ·have g25r := g25
    have ⟨g25r, h26⟩ := band_true g25r
    have ⟨g25r, h27⟩ := band_true g25r
    have ⟨g25r, h28⟩ := band_true g25r
    have g25r := of_decide_eq_true g25r
    have h28 := of_decide_eq_true h28
    have h27 := of_decide_eq_true h27
    have h26 := of_decide_eq_true h26
    refine sg_ g25 mv_ (c0g g25 (cl_ Ty.ca15) (fun w hS => f15_ok line w (hT.on hS (fun _ h => by cases h)) hy_) ?_)
    have ha29 := R39.quote_len line
    refine sg_ g25 mv_ (c0g g25 (cl_ Ty.ca16) (fun w hS => f16_ok line w hy_) (sg_ g25 (x_eql_s rfl rfl) ?_))
    exact cr_
   refine s_ av_ (z_ (xk_ [4] ?_))
   refine n_ (rt_ ?_)
   exact p1 Tryd.results3 rfl ⟨(eB (by simp)), rfl⟩
  ·have leftl := (List.getElem?_eq_some_iff.1 lefth).1
   have lefte := List.length_eraseIdx_of_lt leftl
   have leftm := List.mem_of_getElem? lefth
   refine s_ (ex_ 0) (z_ (n_ (q_ (ift (sk_ (n_ (k_ (q_ (g_ (r_ (O_entryR 0 (f := vS) (p := kvS lefta) rfl rfl hmx8 hborn7) (s_ (ex_ 0) (s_ (ex_ 1) (s_ av_ (s_ av_ (z_ (n_ (q_ (g_ (s_ mv_ ?_)))))))))))))))))))
   refine s_ (x_len_s rfl Tryd.underlying9) (s_ (x_gtr_i rfl rfl) (s_ mv_ ?_))
   refine or_ 3 (decide ((1200 : Int) < ((lefta.2.length : Nat) : Int))) (fun g30 => ?_) ?_
   ·have g30r := g30
    have g30r := of_decide_eq_false g30r
    refine sg_ g30 mv_ (sg_ g30 (x_len_s rfl Tryd.underlying9) (sg_ g30 (x_gtr_i rfl rfl) ?_))
    exact cr_
   refine z_ (n_ ?_)
   refine if_ (fun h31 => ?_) (fun h31 => ?_)
   ·have h31w := h31
    simp only [Bool.and_eq_true, Bool.or_eq_true, Bool.and_eq_false_iff, Bool.or_eq_false_iff, Bool.not_eq_true', Bool.not_eq_false', decide_eq_true_eq, decide_eq_false_iff_not] at h31
    refine q_ (g_ (s_ av_ (z_ (n_ (rt_ (kq_ (rr_ (kq_ (nr_ ?_)))))))))
    exact p1 Tryd.results3 rfl ⟨rfl, rfl⟩
   ·have h31w := h31
    have ⟨h31, h32⟩ := bor_false h31
    have h31 := of_decide_eq_false h31
    have h32 := of_decide_eq_false h32
    refine sk_ (kx_ ?_)
    refine JX_round (((left.eraseIdx leftn), (some (kvS lefta))) : (List (Bytes × Bytes)) × (Option (Bytes × Value))) ?_ ?_ ⟨rfl, rfl, rfl, trivial⟩ (fun _ h => h)
    ·try dsimp only
     exact i1_0.stepI lefth (by assumption) (by assumption)
    ·try dsimp only
     omega
end Go.Proofs.YtbfiibgmgopnaaaDoor

namespace Go.Proofs.YtbfiibgmgopnaaaDoor
open Go.GV
set_option linter.unusedVariables false
set_option linter.unusedSimpArgs false
theorem c39w0_ {p : Prop} (h : p := by first | omega | (simp only [sub, List.length_drop, List.length_take]; omega) | (simp; omega) | (simp_all; omega)) : p := h
theorem c39w1_ {p : Prop} (h : p := by first | assumption | exact .inl rfl | exact .inr rfl) : p := h
theorem c39w2_ {p : Prop} (h : p := by first | exact R39.exV_er (R39.replV_err (i1_1.ref3 (by omega) (Decidable.not_not.1 (by assumption)) (R39.nt (by assumption)) (by omega))) | exact R39.exV_er (R39.replV_err (i1_1.ref4 (by omega) (Decidable.not_not.1 (by assumption)) (R39.nt (by assumption)) (by omega) (by assumption))) | exact R39.exV_er (R39.replV_big (i1_1.fin (by omega)) (by assumption)) | exact R39.exV_ok (R39.replV_ok (i1_1.fin (by omega)) (by assumption))) : p := h
theorem c39w3_ {p : Prop} (h : p := by first | exact R39.exE_er (R39.replV_err (i1_1.ref3 (by omega) (Decidable.not_not.1 (by assumption)) (R39.nt (by assumption)) (by omega))) | exact R39.exE_er (R39.replV_err (i1_1.ref4 (by omega) (Decidable.not_not.1 (by assumption)) (R39.nt (by assumption)) (by omega) (by assumption))) | exact R39.exE_er (R39.replV_big (i1_1.fin (by omega)) (by assumption)) | exact R39.exE_ok (R39.replV_ok (i1_1.fin (by omega)) (by assumption))) : p := h
theorem c39w5_ {p : Prop} (h : p := by first | omega | (simp only [List.length_append, List.length_cons, List.length_nil]; omega) | (simp; omega) | (simp_all; omega)) : p := h
theorem c39w6_ {p : Prop} (h : p := by first | ((try simp only [List.length_append, List.length_cons, List.length_nil]); omega) | (have hcs := R39.cut_short no_such_condition (by assumption); (try simp only [List.length_append]); omega)) : p := h
theorem c39w7_ {p : Prop} (h : p := by first | ((try simp only [List.length_append, List.length_cons, List.length_nil]); omega) | (have hcs := R39.cut_short hf20 (by assumption); (try simp only [List.length_append]); omega)) : p := h
theorem c39w8_ {p : Prop} (h : p := by first | exact i1_1.one (by omega) (by assumption) | exact i1_1.amp2 (by omega) (Decidable.not_not.1 (by assumption)) (by assumption) | exact i1_1.refs (by omega) (Decidable.not_not.1 (by assumption)) (R39.nt (by assumption)) (by omega) (by assumption)) : p := h
theorem c39w9_ {p : Prop} (h : p := by first | exact R39.exV_er (R39.replV_err (hsk.1.err3 (by assumption) hsk.2.2 (by assumption) no_such_condition no_such_condition (by assumption))) | exact R39.exV_er (R39.replV_err (hsk.1.err4 (by assumption) hsk.2.2 (by assumption) no_such_condition (by assumption) (by assumption))) | exact R39.exV_er (R39.replV_big (i1_0.stop (Decidable.not_not.1 (by assumption))) (by assumption)) | exact R39.exV_er (R39.replV_big (i1_0.last hf4 (by assumption)) (by assumption)) | exact R39.exV_ok (R39.replV_ok (i1_0.stop (Decidable.not_not.1 (by assumption))) (by assumption)) | exact R39.exV_ok (R39.replV_ok (i1_0.last hf4 (by assumption)) (by assumption))) : p := h
theorem c39w10_ {p : Prop} (h : p := by first | exact R39.exE_er (R39.replV_err (hsk.1.err3 (by assumption) hsk.2.2 (by assumption) no_such_condition no_such_condition (by assumption))) | exact R39.exE_er (R39.replV_err (hsk.1.err4 (by assumption) hsk.2.2 (by assumption) no_such_condition (by assumption) (by assumption))) | exact R39.exE_er (R39.replV_big (i1_0.stop (Decidable.not_not.1 (by assumption))) (by assumption)) | exact R39.exE_er (R39.replV_big (i1_0.last hf4 (by assumption)) (by assumption)) | exact R39.exE_ok (R39.replV_ok (i1_0.stop (Decidable.not_not.1 (by assumption))) (by assumption)) | exact R39.exE_ok (R39.replV_ok (i1_0.last hf4 (by assumption)) (by assumption))) : p := h
theorem c39w11_ {p : Prop} (h : p := by first | exact R39.exV_er (R39.replV_err (hsk.1.err3 (by assumption) hsk.2.2 (by assumption) hf20 hf21 (by assumption))) | exact R39.exV_er (R39.replV_err (hsk.1.err4 (by assumption) hsk.2.2 (by assumption) hf20 (by assumption) (by assumption))) | exact R39.exV_er (R39.replV_big (i1_0.stop (Decidable.not_not.1 (by assumption))) (by assumption)) | exact R39.exV_er (R39.replV_big (i1_0.last hf4 (by assumption)) (by assumption)) | exact R39.exV_ok (R39.replV_ok (i1_0.stop (Decidable.not_not.1 (by assumption))) (by assumption)) | exact R39.exV_ok (R39.replV_ok (i1_0.last hf4 (by assumption)) (by assumption))) : p := h
theorem c39w12_ {p : Prop} (h : p := by first | exact R39.exE_er (R39.replV_err (hsk.1.err3 (by assumption) hsk.2.2 (by assumption) hf20 hf21 (by assumption))) | exact R39.exE_er (R39.replV_err (hsk.1.err4 (by assumption) hsk.2.2 (by assumption) hf20 (by assumption) (by assumption))) | exact R39.exE_er (R39.replV_big (i1_0.stop (Decidable.not_not.1 (by assumption))) (by assumption)) | exact R39.exE_er (R39.replV_big (i1_0.last hf4 (by assumption)) (by assumption)) | exact R39.exE_ok (R39.replV_ok (i1_0.stop (Decidable.not_not.1 (by assumption))) (by assumption)) | exact R39.exE_ok (R39.replV_ok (i1_0.last hf4 (by assumption)) (by assumption))) : p := h
theorem c39w13_ {p : Prop} (h : p := by first | exact R39.exV_er (R39.replV_err (hsk.1.err3 (by assumption) hsk.2.2 (by assumption) no_such_condition no_such_condition (by assumption))) | exact R39.exV_er (R39.replV_err (hsk.1.err4 (by assumption) hsk.2.2 (by assumption) no_such_condition (by assumption) (by assumption))) | exact R39.exV_er (R39.replV_big (i1_0.stop (Decidable.not_not.1 (by assumption))) (by assumption)) | exact R39.exV_er (R39.replV_big (i1_0.last no_such_condition (by assumption)) (by assumption)) | exact R39.exV_ok (R39.replV_ok (i1_0.stop (Decidable.not_not.1 (by assumption))) (by assumption)) | exact R39.exV_ok (R39.replV_ok (i1_0.last no_such_condition (by assumption)) (by assumption))) : p := h
theorem c39w14_ {p : Prop} (h : p := by first | exact R39.exE_er (R39.replV_err (hsk.1.err3 (by assumption) hsk.2.2 (by assumption) no_such_condition no_such_condition (by assumption))) | exact R39.exE_er (R39.replV_err (hsk.1.err4 (by assumption) hsk.2.2 (by assumption) no_such_condition (by assumption) (by assumption))) | exact R39.exE_er (R39.replV_big (i1_0.stop (Decidable.not_not.1 (by assumption))) (by assumption)) | exact R39.exE_er (R39.replV_big (i1_0.last no_such_condition (by assumption)) (by assumption)) | exact R39.exE_ok (R39.replV_ok (i1_0.stop (Decidable.not_not.1 (by assumption))) (by assumption)) | exact R39.exE_ok (R39.replV_ok (i1_0.last no_such_condition (by assumption)) (by assumption))) : p := h
set_option maxRecDepth 20000 in
theorem repn_ok (line : Bytes) (w : World) (hT : Tab [] w) (q0 : line.length ≤ 20000) (q1 : R39.ShortV R39.noSy) : Calls Tryd.prog 12 #[vS line, Value.map none] w (Gives [] w fun v L => v = Value.tuple #[vS (R39.exV (R39.replV (lookK R39.noSy) line)), vI (R39.exE (R39.replV (lookK R39.noSy) line))] ∧ L = []) := by
 refine calls_J [] 62 Tryd.func12 rfl Tryd.ntmps12 [(0, _), (1, _)] rfl rfl (Give.nil w) ?_
 refine q_ (g_ (s_ av_ (s_ av_ (z_ (n_ (q_ (g_ (o_ (al_ Ty.ze54 fun b1 => ?_)))))))))
 refine z_ (n_ (q_ (k_ ?_)))
 refine J_loop (X := Bytes × Value × (List UInt8) × (Option Addr) × Nat) (fun (⟨l, pv, xs, xsA, xsC⟩ : Bytes × Value × (List UInt8) × (Option Addr) × Nat) => (R39.ReplJ (lookK R39.noSy) line xs l) ∧ (pv = Value.pointer none ∨ pv = pB b1 0) ∧ (xs.length + 20000 * l.length ≤ 20000 * line.length) ∧ (l.length ≤ line.length)) (fun (⟨l, pv, xs, xsA, xsC⟩ : Bytes × Value × (List UInt8) × (Option Addr) × Nat) => [(0, vS l), (1, Value.map none), (6, pB b1 0)]) (fun (⟨l, pv, xs, xsA, xsC⟩ : Bytes × Value × (List UInt8) × (Option Addr) × Nat) => [Ent.blk b1 54 [pv, vL xsA xs.length xsC], Ent.row (.slice xsA xs.length xsC) 5 1 xs.length (xs.map vU8)]) (fun (⟨l, pv, xs, xsA, xsC⟩ : Bytes × Value × (List UInt8) × (Option Addr) × Nat) => l.length) ((line, Value.pointer none, ([] : List UInt8), none, 0) : Bytes × Value × (List UInt8) × (Option Addr) × Nat) ?_ ⟨rfl, rfl, rfl, trivial⟩ (fun _ h => ((h.nilrow 5 1).front 1 _ rfl).keep [true, true] rfl) ?_
 ·try dsimp only
  refine ⟨?_, ?_, ?_, ?_⟩
  ·exact R39.ReplJ.start
  ·exact .inl rfl
  ·simp only [List.length_nil]; omega
  ·first | rfl | omega | (simp_all; done) | (simp_all; omega)
 rintro ⟨l, pv, xs, xsA, xsC⟩ hI1
 obtain ⟨i1_0, i1_1, i1_2, i1_3⟩ := hI1
 try dsimp only at i1_0
 try dsimp only at i1_1
 try dsimp only at i1_2
 try dsimp only at i1_3
 try dsimp only
 refine q_ (q_ (g_ (s_ mv_ (js_ (vB (decide (l ≠ ([] : Bytes)))) (x_neq_s rfl rfl) (z_ (n_ ?_))))))
 refine ifd (fun h2w h2 => ?_) (fun h2w h2 => ?_)
 ·have h2l := List.length_pos_iff.2 h2
  refine sk_ (n_ (k_ (q_ (g_ (s_ mv_ ?_)))))
  refine c1 (cl_ Ty.ca25) (fun w hS => ixb_ok l (38 : UInt8) w) ?_
  rintro _ _ ⟨r3, rfl, rfl, hf4⟩
  refine s_ av_ (z_ (n_ (q_ (q_ (g_ (s_ mv_ (s_ (x_lss_i rfl rfl) (z_ (n_ ?_)))))))))
  refine ifd (fun h5w h5 => ?_) (fun h5w h5 => ?_)
  ·refine g_ (s_ mv_ (s_ (x_len_s rfl Tryd.underlying9) (s_ av_ (z_ (n_ (q_ (g_ (s_ mv_ (s_ mv_ (s_ (x_sub_s (lo := 0) (hi := l.length) rfl Tryd.underlying9 (.inr ⟨rfl, rfl⟩) (.inl rfl) lt_ c39w0_) ?_))))))))))
   refine JO_call (Lown [Ent.blk b1 54 [pv, vL xsA xs.length xsC], Ent.row (.slice xsA xs.length xsC) 5 1 xs.length (xs.map vU8)]) [Ent.blk b1 54 [pv, vL xsA xs.length xsC], Ent.row (.slice xsA xs.length xsC) 5 1 xs.length (xs.map vU8)] [] rfl trivial (fun _ => x_call Ty.ca26 rfl) (fun _ h => h) lown_mem (fun w hS => f26_ok b1 pv xs xsA xsC xs.length (sub l 0 l.length) w hy_ c39w1_ hy_ hy_ (hS.give lown_in)) ?_
   rintro _ _ ⟨yA6, yC7, rfl, rfl⟩
   refine z_ (n_ (q_ (g_ (s_ mv_ (s_ mv_ (s_ (x_sub_s (lo := l.length) (hi := l.length) rfl Tryd.underlying9 (.inl rfl) (.inr ⟨rfl, rfl⟩) lt_ c39w0_) (s_ av_ (z_ (n_ (q_ (q_ (g_ (s_ mv_ (js_ (vB (decide (sub l l.length l.length = ([] : Bytes)))) (x_eql_s rfl rfl) (z_ (xk_ [0, 1, 6, 28] ?_))))))))))))))))
   refine n_ ?_
   refine ifd (fun h8w h8 => ?_) (fun h8w h8 => ?_)
   ·refine J_exit (ne_ ?_)
    refine JX_block_miss rfl ?_
    refine re_ (kh_ (n_ (q_ (q_ (g_ ?_)))))
    refine JO_call (Lown [Ent.blk b1 54 [pB b1 0, vL yA6 ((xs ++ (sub l 0 l.length)).length) yC7], Ent.row (.slice yA6 ((xs ++ (sub l 0 l.length)).length) yC7) 5 1 ((xs ++ (sub l 0 l.length)).length) ((xs ++ (sub l 0 l.length)).map vU8)]) [Ent.blk b1 54 [pB b1 0, vL yA6 ((xs ++ (sub l 0 l.length)).length) yC7], Ent.row (.slice yA6 ((xs ++ (sub l 0 l.length)).length) yC7) 5 1 ((xs ++ (sub l 0 l.length)).length) ((xs ++ (sub l 0 l.length)).map vU8)] [] rfl trivial (fun _ => x_call Ty.ca31 rfl) (fun _ h => h) lown_mem (fun w hS => f31_ok b1 (pB b1 0) (xs ++ (sub l 0 l.length)) yA6 yC7 ((xs ++ (sub l 0 l.length)).length) w hy_ (hS.give lown_in)) ?_
    rintro _ _ ⟨rfl, rfl⟩
    refine s_ (x_gtr_i rfl rfl) (z_ (n_ ?_))
    refine ifd (fun h9w h9 => ?_) (fun h9w h9 => ?_)
    ·refine q_ (g_ (s_ av_ (s_ av_ (z_ (n_ (rt_ (nr_ ?_)))))))
     exact p2 Tryd.results12 rfl rfl ⟨t2 (eS c39w9_) (eI c39w10_), rfl⟩
    ·refine sk_ (n_ (q_ (g_ ?_)))
     refine JO_call (Lown [Ent.blk b1 54 [pB b1 0, vL yA6 ((xs ++ (sub l 0 l.length)).length) yC7], Ent.row (.slice yA6 (xs ++ (sub l 0 l.length)).length yC7) 5 1 (xs ++ (sub l 0 l.length)).length ((xs ++ (sub l 0 l.length)).map vU8)]) [Ent.blk b1 54 [pB b1 0, vL yA6 ((xs ++ (sub l 0 l.length)).length) yC7], Ent.row (.slice yA6 (xs ++ (sub l 0 l.length)).length yC7) 5 1 (xs ++ (sub l 0 l.length)).length ((xs ++ (sub l 0 l.length)).map vU8)] [] rfl trivial (fun _ => x_call Ty.ca32 rfl) (fun _ h => h) lown_mem (fun w hS => str_ok b1 (pB b1 0) (xs ++ (sub l 0 l.length)) yA6 yC7 w hy_ (hS.give lown_in)) ?_
     rintro _ _ ⟨rfl, rfl⟩
     refine s_ av_ (s_ av_ (z_ (n_ (rt_ ?_))))
     exact p2 Tryd.results12 rfl rfl ⟨t2 (eS c39w9_) (eI c39w10_), rfl⟩
   ·have h8l := List.length_pos_iff.2 h8
    exact absurd (R39.sub_none l) (by assumption)
  ·obtain ⟨k9, rfl⟩ : ∃ k9 : Nat, r3 = (k9 : Int) := ⟨r3.toNat, by omega⟩
   have hsk := i1_0.skip hf4
   have hl1 := R39.sub_len_end l k9
   have hl2 := R39.sub_len_head hsk.2.1
   have hl3 := R39.sub_len_end (sub l k9 l.length) 1
   have hl4 := R39.sub_len_end (sub l k9 l.length) 2
   refine sk_ (n_ (q_ (g_ (s_ mv_ (s_ mv_ (s_ (x_sub_s (lo := 0) (hi := k9) rfl Tryd.underlying9 (.inr ⟨rfl, rfl⟩) (.inl rfl) lt_ c39w0_) ?_))))))
   refine JO_call (Lown [Ent.blk b1 54 [pv, vL xsA xs.length xsC], Ent.row (.slice xsA xs.length xsC) 5 1 xs.length (xs.map vU8)]) [Ent.blk b1 54 [pv, vL xsA xs.length xsC], Ent.row (.slice xsA xs.length xsC) 5 1 xs.length (xs.map vU8)] [] rfl trivial (fun _ => x_call Ty.ca26 rfl) (fun _ h => h) lown_mem (fun w hS => f26_ok b1 pv xs xsA xsC xs.length (sub l 0 k9) w hy_ c39w1_ hy_ hy_ (hS.give lown_in)) ?_
   rintro _ _ ⟨yA10, yC11, rfl, rfl⟩
   refine z_ (n_ (q_ (g_ (s_ mv_ (s_ mv_ (s_ (x_sub_s (lo := k9) (hi := l.length) rfl Tryd.underlying9 (.inl rfl) (.inr ⟨rfl, rfl⟩) lt_ c39w0_) (s_ av_ (z_ (n_ (q_ (q_ (g_ (s_ mv_ (js_ (vB (decide (sub l k9 l.length = ([] : Bytes)))) (x_eql_s rfl rfl) (z_ (n_ ?_))))))))))))))))
   refine ifd (fun h12w h12 => ?_) (fun h12w h12 => ?_)
   ·exact absurd (by assumption) (R39.sub_some hsk.2.1)
   ·have h12l := List.length_pos_iff.2 h12
    refine sk_ (n_ (q_ (q_ (g_ (s_ mv_ (c0 (cl_ Ty.ca27) (fun w hS => hasp_ok _ w) (z_ (xk_ [0, 1, 6, 30] ?_))))))))
    refine n_ ?_
    refine ifd (fun h13w h13 => ?_) (fun h13w h13 => ?_)
    ·have hi14 := R39.take2_len h13
     refine q_ (g_ ?_)
     refine JO_call (Lown [Ent.blk b1 54 [pB b1 0, vL yA10 ((xs ++ (sub l 0 k9)).length) yC11], Ent.row (.slice yA10 ((xs ++ (sub l 0 k9)).length) yC11) 5 1 ((xs ++ (sub l 0 k9)).length) ((xs ++ (sub l 0 k9)).map vU8)]) [Ent.blk b1 54 [pB b1 0, vL yA10 ((xs ++ (sub l 0 k9)).length) yC11], Ent.row (.slice yA10 ((xs ++ (sub l 0 k9)).length) yC11) 5 1 ((xs ++ (sub l 0 k9)).length) ((xs ++ (sub l 0 k9)).map vU8)] [] rfl trivial (fun _ => x_call Ty.ca28 rfl) (fun _ h => h) lown_mem (fun w hS => f28_ok b1 (pB b1 0) (xs ++ (sub l 0 k9)) yA10 yC11 ((xs ++ (sub l 0 k9)).length) (38 : UInt8) w hy_ c39w1_ hy_ (hS.give lown_in)) ?_
     rintro _ _ ⟨yA15, yC16, rfl, rfl⟩
     refine z_ (n_ (q_ (g_ (s_ mv_ (s_ (x_sub_s (lo := 2) (hi := (sub l k9 l.length).length) rfl Tryd.underlying9 (.inl rfl) (.inr ⟨rfl, rfl⟩) lt_ c39w0_) (s_ av_ (z_ (n_ (J_exit (ne_ (kh_ ?_)))))))))))
     refine JX_round ((sub (sub l k9 l.length) 2 ((sub l k9 l.length).length), pB b1 0, (xs ++ (sub l 0 k9)) ++ [(38 : UInt8)], yA15, yC16) : Bytes × Value × (List UInt8) × (Option Addr) × Nat) ?_ ?_ ⟨rfl, rfl, rfl, trivial⟩ (fun _ h => h)
     ·try dsimp only
      refine ⟨?_, ?_, ?_, ?_⟩
      ·first | exact hsk.1.two (by assumption) | exact hsk.1.sym (by assumption) hsk.2.2 (by assumption) no_such_condition (by assumption) (by assumption)
      ·exact .inr rfl
      ·exact c39w6_
      ·exact c39w6_
     ·try dsimp only
      exact c39w6_
    ·refine sk_ (n_ (q_ (g_ (s_ mv_ (s_ (x_sub_s (lo := 1) (hi := (sub l k9 l.length).length) rfl Tryd.underlying9 (.inl rfl) (.inr ⟨rfl, rfl⟩) lt_ c39w0_) ?_)))))
     refine c1 (cl_ Ty.ca29) (fun w hS => cut_ok 59 _ w (hT.on hS (fun _ h => by cases h)) hy_) ?_
     rintro _ _ ⟨a17, r18, o19, rfl, rfl, hf20, hf21, hf22⟩
     have ha23 := q1 a17
     refine s_ mv_ (s_ (ex_ 0) (s_ (ex_ 1) (s_ (ex_ 2) (s_ av_ (s_ av_ (s_ av_ (z_ (n_ (q_ (q_ (g_ (s_ mv_ (s_ (x_not rfl) ?_)))))))))))))
     refine s_ mv_ ?_
     refine or_ 3 (!(R39.symV a17)) (fun g24 => ?_) ?_
     ·have g24r := g24
      have g24r : (o19) = true := bnot_false g24r
      refine sg_ g24 mv_ (c0g g24 (cl_ Ty.ca30) (fun w hS => f30_ok a17 w (hT.on hS (fun _ h => by cases h)) hy_) (sg_ g24 (x_not rfl) ?_))
      exact cr_
     refine z_ (n_ ?_)
     refine if_ (fun h25 => ?_) (fun h25 => ?_)
     ·have h25w := h25
      simp only [Bool.and_eq_true, Bool.or_eq_true, Bool.and_eq_false_iff, Bool.or_eq_false_iff, Bool.not_eq_true', Bool.not_eq_false', decide_eq_true_eq, decide_eq_false_iff_not] at h25
      refine q_ (g_ (s_ av_ (s_ av_ (z_ (n_ (rt_ (nr_ (kq_ (rr_ (kq_ (nr_ ?_)))))))))))
      exact p2 Tryd.results12 rfl rfl ⟨t2 (eS c39w11_) (eI c39w12_), rfl⟩
     ·have h25w := h25
      have ⟨h25, h26⟩ := bor_false h25
      have h25 : (o19) = true := bnot_false h25
      have h26 : (R39.symV a17) = true := bnot_false h26
      refine sk_ (n_ (q_ (g_ (s_ mv_ (s_ mv_ ?_)))))
      refine JO_read (Value.tuple #[vS ((lookK R39.noSy a17).getD []), vB ((lookK R39.noSy a17).isSome)]) rfl trivial (x_lookup_okN (f := vS) (k := a17) rfl rfl Tryd.underlying22 (mapK_s Tryd.underlying9) Ty.ze9 rfl rfl) ?_
      refine s_ mv_ (s_ (ex_ 0) (s_ (ex_ 1) (s_ av_ (s_ av_ (z_ (xk_ [0, 1, 6, 9, 10, 11] ?_))))))
      refine n_ (q_ (q_ (g_ (s_ mv_ (s_ (x_not rfl) (z_ (n_ ?_)))))))
      refine if_ (fun h27 => ?_) (fun h27 => ?_)
      ·have h27w := h27
       have h27 : ((lookK R39.noSy a17).isSome) = false := bnot_true h27
       refine q_ (g_ (s_ av_ (s_ av_ (z_ (n_ (rt_ (nr_ (kq_ (rr_ (kq_ (nr_ ?_)))))))))))
       exact p2 Tryd.results12 rfl rfl ⟨t2 (eS c39w11_) (eI c39w12_), rfl⟩
      ·have h27w := h27
       have h27 : ((lookK R39.noSy a17).isSome) = true := bnot_false h27
       refine sk_ (n_ (q_ (g_ (s_ mv_ ?_))))
       refine JO_call (Lown [Ent.blk b1 54 [pB b1 0, vL yA10 ((xs ++ (sub l 0 k9)).length) yC11], Ent.row (.slice yA10 ((xs ++ (sub l 0 k9)).length) yC11) 5 1 ((xs ++ (sub l 0 k9)).length) ((xs ++ (sub l 0 k9)).map vU8)]) [Ent.blk b1 54 [pB b1 0, vL yA10 ((xs ++ (sub l 0 k9)).length) yC11], Ent.row (.slice yA10 ((xs ++ (sub l 0 k9)).length) yC11) 5 1 ((xs ++ (sub l 0 k9)).length) ((xs ++ (sub l 0 k9)).map vU8)] [] rfl trivial (fun _ => x_call Ty.ca26 rfl) (fun _ h => h) lown_mem (fun w hS => f26_ok b1 (pB b1 0) (xs ++ (sub l 0 k9)) yA10 yC11 ((xs ++ (sub l 0 k9)).length) ((lookK R39.noSy a17).getD []) w hy_ c39w1_ hy_ hy_ (hS.give lown_in)) ?_
       rintro _ _ ⟨yA28, yC29, rfl, rfl⟩
       refine z_ (n_ (g_ (s_ mv_ (s_ av_ (z_ (kx_ ?_))))))
       refine JX_round ((r18, pB b1 0, (xs ++ (sub l 0 k9)) ++ ((lookK R39.noSy a17).getD []), yA28, yC29) : Bytes × Value × (List UInt8) × (Option Addr) × Nat) ?_ ?_ ⟨rfl, rfl, rfl, trivial⟩ (fun _ h => h)
       ·try dsimp only
        refine ⟨?_, ?_, ?_, ?_⟩
        ·first | exact hsk.1.two (by assumption) | exact hsk.1.sym (by assumption) hsk.2.2 (by assumption) hf20 (by assumption) (by assumption)
        ·exact .inr rfl
        ·exact c39w7_
        ·exact c39w7_
       ·try dsimp only
        exact c39w7_
 ·refine J_exit (ne_ (re_ (kh_ (n_ (q_ ?_)))))
  refine q_ (g_ ?_)
  refine JO_call (Lown [Ent.blk b1 54 [pv, vL xsA xs.length xsC], Ent.row (.slice xsA xs.length xsC) 5 1 xs.length (xs.map vU8)]) [Ent.blk b1 54 [pv, vL xsA xs.length xsC], Ent.row (.slice xsA xs.length xsC) 5 1 xs.length (xs.map vU8)] [] rfl trivial (fun _ => x_call Ty.ca31 rfl) (fun _ h => h) lown_mem (fun w hS => f31_ok b1 pv xs xsA xsC xs.length w hy_ (hS.give lown_in)) ?_
  rintro _ _ ⟨rfl, rfl⟩
  refine s_ (x_gtr_i rfl rfl) (z_ (n_ ?_))
  refine ifd (fun h30w h30 => ?_) (fun h30w h30 => ?_)
  ·refine q_ (g_ (s_ av_ (s_ av_ (z_ (n_ (rt_ (nr_ ?_)))))))
   exact p2 Tryd.results12 rfl rfl ⟨t2 (eS c39w13_) (eI c39w14_), rfl⟩
  ·refine sk_ (n_ (q_ (g_ ?_)))
   refine JO_call (Lown [Ent.blk b1 54 [pv, vL xsA xs.length xsC], Ent.row (.slice xsA xs.length xsC) 5 1 xs.length (xs.map vU8)]) [Ent.blk b1 54 [pv, vL xsA xs.length xsC], Ent.row (.slice xsA xs.length xsC) 5 1 xs.length (xs.map vU8)] [] rfl trivial (fun _ => x_call Ty.ca32 rfl) (fun _ h => h) lown_mem (fun w hS => str_ok b1 pv xs xsA xsC w hy_ (hS.give lown_in)) ?_
   rintro _ _ ⟨rfl, rfl⟩
   refine s_ av_ (s_ av_ (z_ (n_ (rt_ ?_))))
   exact p2 Tryd.results12 rfl rfl ⟨t2 (eS c39w13_) (eI c39w14_), rfl⟩
set_option maxRecDepth 20000 in
theorem refn_ok (line : Bytes) (w : World) (q0 : line.length ≤ 20000) (q1 : R39.ShortV R39.noSy) : Calls Tryd.prog 13 #[vS line, Value.map none] w (Gives [] w fun v L => v = Value.tuple #[vS (R39.exV (R39.replV (lookK R39.noSy) line)), vI (R39.exE (R39.replV (lookK R39.noSy) line))] ∧ L = []) := by
 refine calls_J [] 75 Tryd.func13 rfl Tryd.ntmps13 [(0, _), (1, _)] rfl rfl (Give.nil w) ?_
 refine q_ (g_ (s_ av_ (s_ av_ (z_ (n_ (q_ (g_ (s_ av_ (z_ (n_ (q_ (q_ (g_ (s_ av_ (z_ (n_ (k_ ?_)))))))))))))))))
 refine J_loop (X := Nat × Bytes) (fun (⟨i, s⟩ : Nat × Bytes) => (i ≤ line.length) ∧ (R39.ReplJ (lookK R39.noSy) line s (line.drop i)) ∧ (s.length ≤ 20000 * i)) (fun (⟨i, s⟩ : Nat × Bytes) => [(0, vS line), (1, Value.map none), (6, vS s), (7, vI ((i : Nat) : Int))]) (fun (⟨i, s⟩ : Nat × Bytes) => []) (fun (⟨i, s⟩ : Nat × Bytes) => line.length - i) ((0, []) : Nat × Bytes) ?_ ⟨rfl, rfl, rfl, rfl, trivial⟩ (fun _ h => h) ?_
 ·try dsimp only
  refine ⟨?_, ?_, ?_⟩
  ·first | rfl | omega | (simp_all; done) | (simp_all; omega)
  ·exact R39.ReplJ.start
  ·first | rfl | omega | (simp_all; done) | (simp_all; omega)
 rintro ⟨i, s⟩ hI1
 obtain ⟨i1_0, i1_1, i1_2⟩ := hI1
 try dsimp only at i1_0
 try dsimp only at i1_1
 try dsimp only at i1_2
 have hsu := fun h => sub_length line i (i + 1) h
 have hen := R39.end_le (sub line (i + 1) line.length)
 have hse := R39.sub_len_end line (i + 1)
 have hsv := q1 (sub line (i + 1) (i + R39.endV (sub line (i + 1) line.length)))
 try dsimp only
 refine q_ (q_ (g_ (s_ mv_ (s_ mv_ (s_ (x_len_s rfl Tryd.underlying9) (s_ (x_lss_i rfl rfl) (z_ (n_ ?_))))))))
 refine ifd (fun h1w h1 => ?_) (fun h1w h1 => ?_)
 ·refine sk_ (n_ (q_ (k_ (q_ (q_ (g_ (s_ mv_ (s_ mv_ (s_ (x_idx_s (k := i) rfl rfl Tryd.underlying9 (by omega)) (js_ (vB (decide (line.getD i 0 ≠ (38 : UInt8)))) (x_neq_u8 rfl rfl) (z_ (n_ ?_))))))))))))
  refine ifd (fun h2w h2 => ?_) (fun h2w h2 => ?_)
  ·refine q_ (g_ (s_ mv_ (s_ mv_ (s_ mv_ (s_ mv_ (s_ (x_add_n (a := i) (b := 1) rfl rfl (by omega)) (s_ (x_sub_s (lo := i) (hi := i + 1) rfl Tryd.underlying9 (.inl rfl) (.inl rfl) lt_ c39w0_) (s_ (x_cat_s rfl rfl c39w5_) (s_ av_ (z_ (n_ (J_exit (ne_ (kh_ (n_ ?_)))))))))))))))
   refine g_ (s_ mv_ (s_ (x_add_n (a := i) (b := 1) rfl rfl (by omega)) (s_ av_ (z_ ?_))))
   refine JX_round ((i + 1, s ++ (sub line i (i + 1))) : Nat × Bytes) ?_ ?_ ⟨rfl, rfl, rfl, rfl, trivial⟩ (fun _ h => h)
   ·try dsimp only
    refine ⟨?_, ?_, ?_⟩
    ·omega
    ·exact c39w8_
    ·(try simp only [List.length_append, List.length_cons, List.length_nil]); omega
   ·try dsimp only
    omega
  ·refine sk_ (n_ (q_ (q_ (g_ (s_ mv_ (s_ (x_add_n (a := i) (b := 1) rfl rfl (by omega)) (s_ mv_ (s_ (x_len_s rfl Tryd.underlying9) (s_ (x_lss_i rfl rfl) (s_ mv_ ?_))))))))))
   refine and_ 5 (decide (line.getD (i + 1) 0 = (38 : UInt8))) (fun g3 => ?_) ?_
   ·have g3r := g3
    have g3r := of_decide_eq_true g3r
    refine sg_ g3 mv_ (sg_ g3 mv_ (sg_ g3 (x_add_n (a := i) (b := 1) rfl rfl (by omega)) (sg_ g3 (x_idx_s (k := i + 1) rfl rfl Tryd.underlying9 (by omega)) (jg_ g3 (vB (decide (line.getD (i + 1) 0 = (38 : UInt8)))) (x_eql_u8 rfl rfl) ?_))))
    exact cr_
   refine z_ (n_ ?_)
   refine if_ (fun h4 => ?_) (fun h4 => ?_)
   ·have h4w := h4
    have ⟨h4, h5⟩ := band_true h4
    have h4 := of_decide_eq_true h4
    have h5 := of_decide_eq_true h5
    refine q_ (g_ (s_ mv_ (js_ (vS (s ++ [38])) (x_cat_s rfl rfl c39w5_) (s_ av_ (z_ (xk_ [0, 1, 6, 7] ?_))))))
    refine n_ (q_ (g_ (s_ mv_ (s_ (x_add_n (a := i) (b := 1) rfl rfl (by omega)) (s_ av_ (z_ (n_ (J_exit (ne_ (kh_ (n_ (g_ (s_ mv_ (s_ (x_add_n (a := i + 1) (b := 1) rfl rfl (by omega)) (s_ av_ (z_ ?_))))))))))))))))
    refine JX_round (((i + 1) + 1, s ++ [38]) : Nat × Bytes) ?_ ?_ ⟨rfl, rfl, rfl, rfl, trivial⟩ (fun _ h => h)
    ·try dsimp only
     refine ⟨?_, ?_, ?_⟩
     ·omega
     ·exact c39w8_
     ·(try simp only [List.length_append, List.length_cons, List.length_nil]); omega
    ·try dsimp only
     omega
   ·have h4w := h4
    simp only [Bool.and_eq_true, Bool.or_eq_true, Bool.and_eq_false_iff, Bool.or_eq_false_iff, Bool.not_eq_true', Bool.not_eq_false', decide_eq_true_eq, decide_eq_false_iff_not] at h4
    refine sk_ (n_ (q_ (g_ (s_ mv_ (s_ mv_ (s_ (x_add_n (a := i) (b := 1) rfl rfl (by omega)) (s_ (x_sub_s (lo := i + 1) (hi := line.length) rfl Tryd.underlying9 (.inl rfl) (.inr ⟨rfl, rfl⟩) lt_ c39w0_) (c0 (cl_ Ty.ca33) (fun w hS => f33_ok _ w hy_) (s_ av_ (z_ (xk_ [0, 1, 6, 7, 8] ?_)))))))))))
    refine n_ (q_ (q_ (g_ (s_ mv_ (s_ (x_eql_i rfl rfl) (z_ (n_ ?_)))))))
    refine ifd (fun h6w h6 => ?_) (fun h6w h6 => ?_)
    ·refine q_ (g_ (s_ av_ (s_ av_ (z_ (n_ (rt_ (nr_ (kq_ (nr_ (rr_ (kq_ (nr_ ?_))))))))))))
     exact p2 Tryd.results13 rfl rfl ⟨t2 (eS c39w2_) (eI c39w3_), rfl⟩
    ·refine sk_ (n_ (q_ (g_ (s_ mv_ (s_ mv_ (s_ mv_ (s_ (x_add_n (a := i) (b := 1) rfl rfl (by omega)) (s_ mv_ (s_ mv_ (s_ (x_add_n (a := i) (b := R39.endV (sub line (i + 1) line.length)) rfl rfl (by omega)) (s_ (x_sub_s (lo := i + 1) (hi := i + (R39.endV (sub line (i + 1) line.length))) rfl Tryd.underlying9 (.inl rfl) (.inl rfl) lt_ c39w0_) ?_)))))))))))
     refine JO_read (Value.tuple #[vS ((lookK R39.noSy (sub line (i + 1) (i + (R39.endV (sub line (i + 1) line.length))))).getD []), vB ((lookK R39.noSy (sub line (i + 1) (i + (R39.endV (sub line (i + 1) line.length))))).isSome)]) rfl trivial (x_lookup_okN (f := vS) (k := sub line (i + 1) (i + (R39.endV (sub line (i + 1) line.length)))) rfl rfl Tryd.underlying22 (mapK_s Tryd.underlying9) Ty.ze9 rfl rfl) ?_
     refine s_ mv_ (s_ (ex_ 0) (s_ (ex_ 1) (s_ av_ (s_ av_ (z_ (xk_ [0, 1, 6, 7, 8, 9, 10] ?_))))))
     refine n_ (q_ (q_ (g_ (s_ mv_ (s_ (x_not rfl) (z_ (n_ ?_)))))))
     refine if_ (fun h7 => ?_) (fun h7 => ?_)
     ·have h7w := h7
      have h7 : ((lookK R39.noSy (sub line (i + 1) (i + (R39.endV (sub line (i + 1) line.length))))).isSome) = false := bnot_true h7
      refine q_ (g_ (s_ av_ (s_ av_ (z_ (n_ (rt_ (nr_ (kq_ (nr_ (rr_ (kq_ (nr_ ?_))))))))))))
      exact p2 Tryd.results13 rfl rfl ⟨t2 (eS c39w2_) (eI c39w3_), rfl⟩
     ·have h7w := h7
      have h7 : ((lookK R39.noSy (sub line (i + 1) (i + (R39.endV (sub line (i + 1) line.length))))).isSome) = true := bnot_false h7
      refine sk_ (n_ (q_ (g_ (s_ mv_ (s_ mv_ (s_ (x_cat_s rfl rfl c39w5_) (s_ av_ (z_ (n_ (g_ (s_ mv_ (s_ mv_ (s_ (x_add_n (a := i) (b := R39.endV (sub line (i + 1) line.length)) rfl rfl (by omega)) (s_ av_ ?_))))))))))))))
      refine z_ (kx_ (n_ (g_ (s_ mv_ (s_ (x_add_n (a := i + (R39.endV (sub line (i + 1) line.length))) (b := 1) rfl rfl (by omega)) (s_ av_ (z_ ?_)))))))
      refine JX_round (((i + (R39.endV (sub line (i + 1) line.length))) + 1, s ++ ((lookK R39.noSy (sub line (i + 1) (i + (R39.endV (sub line (i + 1) line.length))))).getD [])) : Nat × Bytes) ?_ ?_ ⟨rfl, rfl, rfl, rfl, trivial⟩ (fun _ h => h)
      ·try dsimp only
       refine ⟨?_, ?_, ?_⟩
       ·omega
       ·exact c39w8_
       ·(try simp only [List.length_append, List.length_cons, List.length_nil]); omega
      ·try dsimp only
       omega
 ·refine J_exit (ne_ (re_ (kh_ (n_ (q_ ?_)))))
  refine q_ (g_ (s_ mv_ (s_ (x_len_s rfl Tryd.underlying9) (s_ (x_gtr_i rfl rfl) (z_ (n_ ?_))))))
  refine ifd (fun h8w h8 => ?_) (fun h8w h8 => ?_)
  ·refine q_ (g_ (s_ av_ (s_ av_ (z_ (n_ (rt_ (nr_ ?_)))))))
   exact p2 Tryd.results13 rfl rfl ⟨t2 (eS c39w2_) (eI c39w3_), rfl⟩
  ·refine sk_ (n_ (q_ (g_ (s_ mv_ (s_ av_ (s_ av_ (z_ (n_ (rt_ ?_)))))))))
   exact p2 Tryd.results13 rfl rfl ⟨t2 (eS c39w2_) (eI c39w3_), rfl⟩
set_option maxRecDepth 20000 in
theorem lines_nil (line : Bytes) (w : World) (hT : Tab [] w) (q0 : line.length ≤ 9223372036854775807) : Calls Tryd.prog 3 #[vS line, Value.map none] w (Gives [] w fun v L => v = vB true ∧ L = []) := by
 refine calls_J [] 87 Tryd.func3 rfl Tryd.ntmps3 [(0, _), (1, _)] rfl rfl (Give.nil w) ?_
 refine q_ (g_ (s_ av_ (z_ (n_ (q_ (q_ (g_ (c0 (cl_ Ty.ca9) (fun w hS => f9_ok w (hT.on hS (fun _ h => by cases h))) (jr_ (vB false) (z_ (n_ (iff_ (sk_ (n_ (q_ (q_ (g_ (s_ mv_ (s_ (x_len_s rfl Tryd.underlying9) (s_ (x_gtr_i rfl rfl) ?_))))))))))))))))))))
 refine s_ mv_ ?_
 refine or_ 3 (false) (fun g1 => ?_) ?_
 ·have g1r := g1
  have g1r := of_decide_eq_false g1r
  refine sg_ g1 mv_ (rg_ g1 (x_len_nilmp rfl Tryd.underlying22) (jg_ g1 (vB false) (rfl) ?_))
  exact cr_
 refine z_ (n_ ?_)
 refine if_ (fun h2 => ?_) (fun h2 => ?_)
 ·have h2w := h2
  simp only [Bool.and_eq_true, Bool.or_eq_true, Bool.and_eq_false_iff, Bool.or_eq_false_iff, Bool.not_eq_true', Bool.not_eq_false', decide_eq_true_eq, decide_eq_false_iff_not] at h2
  refine q_ (g_ (s_ av_ (z_ (n_ (rt_ (nr_ ?_))))))
  exact p1 Tryd.results3 rfl ⟨rfl, rfl⟩
 ·have h2w := h2
  have ⟨h2, h3⟩ := bor_false h2
  have h2 := of_decide_eq_false h2
  refine sk_ (n_ (q_ (q_ (g_ (s_ mv_ (o_ (O_rangeN rfl Tryd.underlying22 fun it4 => ?_)))))))
  refine z_ (n_ (k_ ?_))
  refine J_loop (X := Unit) (fun (_ : Unit) => True) (fun (_ : Unit) => [(0, vS line), (1, Value.map none), (26, pB it4 0)]) (fun (_ : Unit) => [Ent.obj it4 (.mapIter none 0 #[] 0)]) (fun (_ : Unit) => 0) () ?_ ⟨rfl, rfl, rfl, trivial⟩ (fun _ h => h) ?_
  ·trivial
  intro _ hI1
  try dsimp only
  refine q_ (g_ (r_ (x_nextN 0 rfl rfl) (s_ (ex_ 0) (z_ (n_ (q_ (iff_ (J_exit (ne_ (re_ ?_))))))))))
  have hsv := R39.noSy_short
  refine kh_ (n_ (q_ (g_ (s_ mv_ ?_))))
  refine c1 (cl_ Ty.ca10) (fun w hS => f10_ok line w hy_) ?_
  rintro _ _ ⟨e5, e6, rfl, rfl⟩
  have ha7 := R39.scanW_len line
  have ha8 := R39.scanW_short line
  refine s_ mv_ (s_ (ex_ 0) (s_ (ex_ 1) (s_ av_ (s_ av_ (z_ (n_ (q_ (g_ (s_ mv_ ?_)))))))))
  refine c1 (cl_ Ty.ca11) (fun w hS => f11_ok line w hy_) ?_
  rintro _ _ ⟨e9, e10, rfl, rfl⟩
  have ha11 := R39.scanW_len line
  have ha12 := R39.scanW_short line
  refine s_ mv_ (s_ (ex_ 0) (s_ (ex_ 1) (s_ av_ (s_ av_ (z_ (n_ (q_ (g_ (s_ mv_ (s_ mv_ (c0 (cl_ Ty.ca12) (fun w hS => repn_ok line w (hT.on hS (fun _ h => by cases h)) hy_ hy_) ?_)))))))))))
  have ha13 := R39.exV_len (m := lookK R39.noSy) (s := line)
  refine s_ mv_ (s_ (ex_ 0) (s_ (ex_ 1) (s_ av_ (s_ av_ (z_ (xk_ [0, 1, 7, 8, 9, 10, 11, 12] ?_))))))
  refine n_ (q_ (g_ (s_ mv_ (s_ mv_ (c0 (cl_ Ty.ca13) (fun w hS => refn_ok line w hy_ hy_) ?_)))))
  have ha14 := R39.exV_len (m := lookK R39.noSy) (s := line)
  refine s_ mv_ (s_ (ex_ 0) (s_ (ex_ 1) (s_ av_ (s_ av_ (z_ (n_ (q_ (g_ (s_ mv_ (s_ mv_ (c0 (cl_ Ty.ca14) (fun w hS => f14_ok _ e5 e6 _ e9 e10 w (RO.of_row hS 1 rfl) (RO.of_row hS 0 rfl) hy_ hy_) (s_ mv_ ?_))))))))))))
  refine and_ 3 (decide (R39.scanE line = R39.scanE line)) (fun g15 => ?_) ?_
  ·have g15r := g15
   have g15r := of_decide_eq_true g15r
   refine sg_ g15 mv_ (sg_ g15 mv_ (sg_ g15 (x_eql_i rfl rfl) ?_))
   exact cr_
  refine s_ mv_ ?_
  refine and_ 3 (decide (R39.exV (R39.replV (lookK R39.noSy) line) = R39.exV (R39.replV (lookK R39.noSy) line))) (fun g16 => ?_) ?_
  ·have g16r := g16
   have ⟨g16r, h17⟩ := band_true g16r
   have g16r := of_decide_eq_true g16r
   have h17 := of_decide_eq_true h17
   refine sg_ g16 mv_ (sg_ g16 mv_ (sg_ g16 (x_eql_s rfl rfl) ?_))
   exact cr_
  refine s_ mv_ ?_
  refine and_ 3 (decide (R39.exE (R39.replV (lookK R39.noSy) line) = R39.exE (R39.replV (lookK R39.noSy) line))) (fun g18 => ?_) ?_
  ·have g18r := g18
   have ⟨g18r, h19⟩ := band_true g18r
   have ⟨g18r, h20⟩ := band_true g18r
   have g18r := of_decide_eq_true g18r
   have h20 := of_decide_eq_true h20
   have h19 := of_decide_eq_true h19
   refine sg_ g18 mv_ (sg_ g18 mv_ (sg_ g18 (x_eql_i rfl rfl) ?_))
   exact cr_
  refine s_ mv_ ?_
  refine and_ 5 (decide (R39.quote line = R39.quote line)) (fun g21 => ?_) ?_
  ·have g21r := g21
   have ⟨g21r, h22⟩ := band_true g21r
   have ⟨g21r, h23⟩ := band_true g21r
   have ⟨g21r, h24⟩ := band_true g21r
   have g21r := of_decide_eq_true g21r
   have h24 := of_decide_eq_true h24
   have h23 := of_decide_eq_true h23
   have h22 := of_decide_eq_true h22
   refine sg_ g21 mv_ (c0g g21 (cl_ Ty.ca15) (fun w hS => f15_ok line w (hT.on hS (fun _ h => by cases h)) hy_) ?_)
   have ha25 := R39.quote_len line
   refine sg_ g21 mv_ (c0g g21 (cl_ Ty.ca16) (fun w hS => f16_ok line w hy_) (sg_ g21 (x_eql_s rfl rfl) ?_))
   exact cr_
  refine s_ av_ (z_ (xk_ [4] ?_))
  refine n_ (rt_ ?_)
  exact p1 Tryd.results3 rfl ⟨(eB (by simp)), rfl⟩
end Go.Proofs.YtbfiibgmgopnaaaDoor


