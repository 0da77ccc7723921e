/- Cg, C44l, C44m, Pl44m, Pl44n, Pl44p, Pl44q, Pl44r in one text. -/
import Derived.Test.YtmacopacmpgieaaGreatDoorTopSort11
import Derived.Test.YtmacopacmpgieaaGreatDoorTopSort16
import Derived.Test.YtmacopacmpgieaaGreatDoorTopSort10
set_option linter.unusedVariables false
set_option linter.unusedSimpArgs false
namespace Go.Proofs.YtmacopacmpgieaaGreatDoor
open Go.GV
set_option linter.unusedVariables false
set_option linter.unusedSimpArgs false
theorem cg0_ {p : Prop} (h : p := by exact p1 Tryz.results8 rfl ⟨(eB (by first | exact R44.match_no (by assumption) | exact R44.match_yes (by assumption))), rfl⟩) : p := h
set_option maxRecDepth 20000 in
theorem f8_ok (p : Bytes) (q : Bytes) (w : World) (hT : Tab [] w) (q0 : p.length ≤ 1000000) (q1 : q.length ≤ 1000000) : Calls Tryz.prog 8 #[vS p, vS q] w (Gives [] w fun v L => v = vB (R44.matchV p q) ∧ L = []) := by
 refine calls_J [] 26 Tryz.func8 rfl Tryz.ntmps8 [(0, _), (1, _)] rfl rfl (Give.nil w) ?_
 refine q_ (g_ (s_ av_ (z_ (n_ (q_ (q_ (g_ (s_ mv_ (c0 (cl_ Ty.ca21) (fun w hS => f21_ok p w (hT.on hS (fun _ h => by cases h)) hy_) (s_ (x_not rfl) (s_ mv_ ?_)))))))))))
 refine or_ 3 (!(R44.nameV (R44.qualV R44.isUp R44.isPl) q)) (fun g1 => ?_) ?_
 ·have g1r := g1
  have g1r : (R44.nameV R44.patV p) = true := bnot_false g1r
  have hi2 := R44.name_len g1r
  refine sg_ g1 mv_ (c0g g1 (cl_ Ty.ca9) (fun w hS => f9_ok q w (hT.on hS (fun _ h => by cases h)) hy_) (sg_ g1 (x_not rfl) ?_))
  exact cr_
 refine z_ (n_ ?_)
 refine if_ (fun h3 => ?_) (fun h3 => ?_)
 ·have h3w := h3
  simp only [Bool.and_eq_true, Bool.or_eq_true, Bool.and_eq_false_iff, Bool.or_eq_false_iff, Bool.not_eq_true', Bool.not_eq_false', decide_eq_true_eq, decide_eq_false_iff_not] at h3
  refine q_ (g_ (s_ av_ (z_ (n_ (rt_ (nr_ ?_))))))
  exact cg0_
 ·have h3w := h3
  have ⟨h3, h4⟩ := bor_false h3
  have h3 : (R44.nameV R44.patV p) = true := bnot_false h3
  have hi5 := R44.name_len h3
  have h4 : (R44.nameV (R44.qualV R44.isUp R44.isPl) q) = true := bnot_false h4
  have hi6 := R44.name_len h4
  refine sk_ (n_ (q_ (g_ (s_ mv_ ?_))))
  refine c1 (cl_ Ty.ca22) (fun w hS => split_ok p w (hT.on hS (fun _ h => by cases h)) hy_) ?_
  rintro _ _ ⟨e7, e8, rfl, rfl⟩
  have ha9 := R44.splitC_count 46 p
  refine s_ mv_ ?_
  refine c1 (cl_ Ty.ca22) (fun w hS => split_ok q w (hT.on hS (fun _ h => by cases h)) hy_) ?_
  rintro _ _ ⟨e10, e11, rfl, rfl⟩
  have ha12 := R44.splitC_count 46 q
  refine o_ (al_ Ty.ze22 fun b13 => ?_)
  refine o_ (al_ Ty.ze22 fun b14 => ?_)
  refine o_ (st1 1 Ty.sz22 ?_)
  refine o_ (st1 0 Ty.sz22 ?_)
  refine z_ (n_ (q_ (g_ (r_ (ld_ 1 Ty.sc22) (s_ (lnS Tryz.underlying22) (r_ (ld_ 0 Ty.sc22) (s_ (lnS Tryz.underlying22) (js_ (Value.func (.func 24) #[] #[pB b13 0]) (x_makeFunc rfl rfl) (js_ (Value.func (.func 25) #[] #[pB b13 0, pB b14 0]) (x_makeFunc rfl rfl) ?_)))))))))
  refine JO_call [b13, b14] [Ent.blk b13 22 [vL e7 ((R44.splitC 46 p).length) e8], Ent.blk b14 22 [vL e10 ((R44.splitC 46 q).length) e11]] [Ent.row (.slice e10 (R44.splitC 46 q).length e11) 9 1 (R44.splitC 46 q).length ((R44.splitC 46 q).map vS), Ent.row (.slice e7 (R44.splitC 46 p).length e8) 9 1 (R44.splitC 46 p).length ((R44.splitC 46 p).map vS)] rfl trivial (fun _ => x_call Ty.ca23 rfl) (fun _ h => ((((h.front 3 _ rfl).front 3 _ rfl).front 2 _ rfl).front 3 _ rfl).keep [true, true, true, true] rfl) (own_mem rfl) (fun w hS => ft2_ok b13 b14 (R44.splitC 46 p) e7 e8 (R44.splitC 46 q) e10 e11 w (RO.of_rowS hS (own_mem rfl) 1 rfl) (RO.of_rowS hS (own_mem rfl) 0 rfl) (by have := R44.splitC_count 46 p; omega) (by have := R44.splitC_count 46 q; omega) (by intro i; have := R44.splitC_len 46 p i; omega) (by intro i; have := R44.splitC_len 46 q i; omega) (hS.give (own_in rfl))) ?_
  rintro _ _ ⟨rfl, rfl⟩
  refine s_ av_ (z_ (xk_ [4] ?_))
  refine n_ (rt_ ?_)
  exact cg0_
set_option maxRecDepth 20000 in
theorem f4_ok (w : World) (hT : Tab [] w) : Calls Tryz.prog 4 #[] w (Gives [] w fun v L => v = vB true ∧ L = []) := by
 refine calls_J [] 21 Tryz.func4 rfl Tryz.ntmps4 [] rfl rfl (Give.nil w) ?_
 refine q_ (g_ (s_ av_ (z_ (n_ (q_ (g_ (c0 (cl_ Ty.ca7) (fun w hS => f7_ok [80, 65, 89, 46, 68, 65, 89] 3 w (hT.on hS (fun _ h => by cases h)) hy_ (by exact R44.gen_8) (by exact R44.gen_g) hy_ hy_) (s_ mv_ (s_ (ex_ 0) (s_ (ex_ 1) (s_ av_ (s_ av_ (z_ (n_ (q_ (g_ ?_))))))))))))))))
 refine s_ mv_ (jr_ (vB true) (s_ mv_ (sg_ rfl mv_ (jg_ rfl (vB (decide ((((([80, 65, 89, 46, 68, 65, 89] ++ [46, 71]) ++ rep [48] (4 - (Lib.decDigits (Int.toNat 3)).length)) ++ Lib.decDigits (Int.toNat 3)) ++ [86, 48, 48]) = ([80, 65, 89, 46, 68, 65, 89, 46, 71, 48, 48, 48, 51, 86, 48, 48] : Bytes)))) (x_eql_s rfl rfl) (jr_ (vB (decide ((((([80, 65, 89, 46, 68, 65, 89] ++ [46, 71]) ++ rep [48] (4 - (Lib.decDigits (Int.toNat 3)).length)) ++ Lib.decDigits (Int.toNat 3)) ++ [86, 48, 48]) = ([80, 65, 89, 46, 68, 65, 89, 46, 71, 48, 48, 48, 51, 86, 48, 48] : Bytes)))) (s_ mv_ ?_))))))
 refine and_ 2 (R44.matchV [80, 65, 89, 46, 42, 42] (((([80, 65, 89, 46, 68, 65, 89] ++ [46, 71]) ++ rep [48] (4 - (Lib.decDigits (Int.toNat 3)).length)) ++ Lib.decDigits (Int.toNat 3)) ++ [86, 48, 48])) (fun g1 => ?_) ?_
 ·have g1r := g1
  have g1r := of_decide_eq_true g1r
  refine sg_ g1 mv_ (c0g g1 (cl_ Ty.ca8) (fun w hS => f8_ok [80, 65, 89, 46, 42, 42] _ w (hT.on hS (fun _ h => by cases h)) hy_ hy_) ?_)
  exact cr_
 refine s_ mv_ ?_
 refine and_ 2 (!(R44.nameV (R44.qualV R44.isUp R44.isPl) [112, 97, 121])) (fun g2 => ?_) ?_
 ·have g2r := g2
  have ⟨g2r, h3⟩ := band_true g2r
  have g2r := of_decide_eq_true g2r
  refine c0g g2 (cl_ Ty.ca9) (fun w hS => f9_ok [112, 97, 121] w (hT.on hS (fun _ h => by cases h)) hy_) (sg_ g2 (x_not rfl) ?_)
  exact cr_
 refine s_ av_ (z_ (n_ (rt_ ?_)))
 exact p1 Tryz.results4 rfl ⟨(eB (R44.awake_top)), rfl⟩
end Go.Proofs.YtmacopacmpgieaaGreatDoor

namespace Go.Proofs.YtmacopacmpgieaaGreatDoor
open Go.GV
set_option linter.unusedVariables false
set_option linter.unusedSimpArgs false
set_option maxRecDepth 20000 in
theorem f15_ok (rws : List Rw) (rwsA : Option Addr) (rwsC : Nat) (n : Nat) (w : World) (rwsR : RO [] w rwsA (rws.flatMap Rw.enc)) (rwsN : ∀ i : Nat, RO [] w (rws.getD i default).sA (((rws.getD i default).s).map vS)) (q0 : 1 ≤ n) (q1 : n ≤ 1000000) : Calls Tryz.prog 15 #[vL rwsA rws.length rwsC, vI ((n : Nat) : Int)] w (Gives [] w fun v L => ∃ bp : Nat, ∃ bq : Nat, v = Value.func (.func 39) #[] #[pB bp 0, pB bq 0] ∧ L = [Ent.blk bp 46 [vL rwsA rws.length rwsC], Ent.blk bq 3 [vI ((n : Nat) : Int)]]) := by
 refine calls_J [] 9 Tryz.func15 rfl Tryz.ntmps15 [(0, _), (1, _)] rfl rfl (Give.nil w) ?_
 refine q_ (g_ (o_ (bx1 fun b1 => ?_)))
 refine o_ (bx1 fun b2 => ?_)
 refine s_ av_ (z_ (n_ (q_ (q_ (g_ (r_ (ld_ 0 Ty.sc3) (s_ (x_lss_i rfl rfl) (z_ (n_ ?_)))))))))
 refine ifd (fun h3w h3 => ?_) (fun h3w h3 => ?_)
 ·exfalso; omega
 ·refine sk_ (n_ (q_ (g_ (js_ (Value.func (.func 39) #[] #[pB b1 0, pB b2 0]) (x_makeFunc rfl rfl) (s_ av_ (z_ (n_ (rt_ ?_))))))))
  refine JX_rets [_] _ Tryz.results15 (fun w h => ⟨rfl, trivial⟩) rfl [Ent.blk b1 46 [vL rwsA rws.length rwsC], Ent.blk b2 3 [vI ((n : Nat) : Int)]] (fun _ h => (h.front 1 _ rfl).keep [true, true] rfl) ⟨b1, b2, ?_, ?_⟩
  ·rfl
  ·rfl
set_option maxRecDepth 20000 in
theorem f39_ok (yl : Nat) (X : Type) (I : List Part → X → Prop) (Lf : List Part → X → List Ent) (x0 : X) (bp : Nat) (bq : Nat) (rws : List Rw) (rwsA : Option Addr) (rwsC : Nat) (n : Nat) (w : World) (rwsR : RO (Lown (Ent.blk bp 46 [vL rwsA rws.length rwsC] :: Ent.blk bq 3 [vI ((n : Nat) : Int)] :: (Lf ([] : List Part) x0))) w rwsA (rws.flatMap Rw.enc)) (rwsN : ∀ i : Nat, RO (Lown (Ent.blk bp 46 [vL rwsA rws.length rwsC] :: Ent.blk bq 3 [vI ((n : Nat) : Int)] :: (Lf ([] : List Part) x0))) w (rws.getD i default).sA (((rws.getD i default).s).map vS)) (hY : YieldOk Tryz.prog yl (Lown (Ent.blk bp 46 [vL rwsA rws.length rwsC] :: Ent.blk bq 3 [vI ((n : Nat) : Int)] :: (Lf ([] : List Part) x0))) w Part.enc I Lf (R44.parts n rws rwsA)) (hI0 : I [] x0) (q2 : 1 ≤ n) (q3 : n ≤ 1000000) (q4 : rws.length ≤ 1000000) (q5 : rws.length ≤ rwsC) (hg : Give (Lown (Ent.blk bp 46 [vL rwsA rws.length rwsC] :: Ent.blk bq 3 [vI ((n : Nat) : Int)] :: (Lf ([] : List Part) x0))) w (Ent.blk bp 46 [vL rwsA rws.length rwsC] :: Ent.blk bq 3 [vI ((n : Nat) : Int)] :: (Lf ([] : List Part) x0))) : Calls Tryz.prog 39 #[Value.func (.yield yl) #[] #[], pB bp 0, pB bq 0] w (Gives (Lown (Ent.blk bp 46 [vL rwsA rws.length rwsC] :: Ent.blk bq 3 [vI ((n : Nat) : Int)] :: (Lf ([] : List Part) x0))) w fun v L => ∃ st : X, v = Value.tuple #[] ∧ L = ((Lf (R44.parts n rws rwsA) st)) ∧ (I (R44.parts n rws rwsA) st)) := by
 refine calls_J (Lown (Ent.blk bp 46 [vL rwsA rws.length rwsC] :: Ent.blk bq 3 [vI ((n : Nat) : Int)] :: (Lf ([] : List Part) x0))) 31 Tryz.func39 rfl Tryz.ntmps39 [(0, _), (1, _), (2, _)] rfl rfl hg ?_
 refine q_ (g_ (s_ av_ (z_ (n_ (k_ ?_)))))
 refine J_loop (X := Nat × (List Part) × X) (fun (⟨lo, pre, st⟩ : Nat × (List Part) × X) => (R44.PartJ n rws rwsA pre lo) ∧ (I pre st) ∧ (lo ≤ rws.length + n)) (fun (⟨lo, pre, st⟩ : Nat × (List Part) × X) => [(0, Value.func (.yield yl) #[] #[]), (1, pB bp 0), (2, pB bq 0), (4, vI ((lo : Nat) : Int))]) (fun (⟨lo, pre, st⟩ : Nat × (List Part) × X) => (Ent.blk bp 46 [vL rwsA rws.length rwsC] :: Ent.blk bq 3 [vI ((n : Nat) : Int)] :: (Lf pre st))) (fun (⟨lo, pre, st⟩ : Nat × (List Part) × X) => rws.length + n - lo) ((0, ([] : List Part), x0) : Nat × (List Part) × X) ?_ ⟨rfl, rfl, rfl, rfl, trivial⟩ (fun _ h => h) ?_
 ·try dsimp only
  refine ⟨?_, ?_, ?_⟩
  ·exact R44.PartJ.start
  ·exact hI0
  ·first | rfl | omega | (simp_all; done) | (simp_all; omega)
 rintro ⟨lo, pre, st⟩ hI1
 obtain ⟨i1_0, i1_1, i1_2⟩ := hI1
 try dsimp only at i1_0
 try dsimp only at i1_1
 try dsimp only at i1_2
 try dsimp only
 refine q_ (q_ (g_ (s_ mv_ (r_ (ld_ 0 Ty.sc46) (s_ (lnS Tryz.underlying46) (s_ (x_lss_i rfl rfl) (z_ (n_ ?_))))))))
 refine ifd (fun h1w h1 => ?_) (fun h1w h1 => ?_)
 ·refine sk_ (n_ (q_ (k_ (q_ ?_))))
  refine drB [] 7 Ty.mixed ?_
  refine jq_ 0 rfl (ld_ 1 Ty.sc3) (jq_ 1 rfl (ld_ 0 Ty.sc46) (jp_ 2 rfl mv_ (jp_ 3 rfl (x_subrow (lo := lo) (hi := rws.length) rfl Tryz.underlying46 Ty.sz22 (.inl rfl) (.inr ⟨rfl, rfl⟩) lt_ lt_) (jp_ 4 rfl (lnS Tryz.underlying46) (jp_ 5 rfl (x_min_n (a := n) (b := rws.length - lo) rfl rfl) (jp_ 6 rfl av_ ?_))))))
  refine JA_done (by kernel_rfl) gm_ ?_
  refine n_ (q_ (g_ (s_ mv_ (r_ (ld_ 0 Ty.sc46) (s_ mv_ (s_ mv_ (s_ mv_ (s_ (x_add_n (a := lo) (b := min n (rws.length - lo)) rfl rfl (by omega)) (s_ mv_ (s_ mv_ (s_ (x_add_n (a := lo) (b := min n (rws.length - lo)) rfl rfl (by omega)) ?_)))))))))))
  refine s_ (x_subrow3 (lo := lo) (hi := lo + (min n (rws.length - lo))) (mx := lo + (min n (rws.length - lo))) rfl Tryz.underlying46 Ty.sz22 rfl rfl rfl lt_ lt_ lt_) ?_
  refine JO_weaken (E' := [(0, Value.func (.yield yl) #[] #[]), (1, pB bp 0), (2, pB bq 0), (4, vI ((lo : Nat) : Int)), (6, vI ((lo : Nat) : Int)), (7, vL rwsA rws.length rwsC), (8, vI ((rws.length : Nat) : Int)), (9, vB (decide (((lo : Nat) : Int) < ((rws.length : Nat) : Int)))), (13, vI ((n : Nat) : Int)), (14, vL rwsA rws.length rwsC), (15, vI ((lo : Nat) : Int)), (16, vL (subA rwsA rwsC lo 1) (rws.length - lo) (rwsC - lo)), (17, vI ((rws.length - lo : Nat) : Int)), (18, vI ((min n (rws.length - lo) : Nat) : Int)), (5, vI ((min n (rws.length - lo) : Nat) : Int)), (19, Value.func (.yield yl) #[] #[]), (20, vL rwsA rws.length rwsC), (21, vI ((lo : Nat) : Int)), (22, vI ((lo : Nat) : Int)), (23, vI ((min n (rws.length - lo) : Nat) : Int)), (24, vI ((lo + (min n (rws.length - lo)) : Nat) : Int)), (25, vI ((lo : Nat) : Int)), (26, vI ((min n (rws.length - lo) : Nat) : Int)), (27, vI ((lo + (min n (rws.length - lo)) : Nat) : Int)), (28, vL (subA rwsA (lo + (min n (rws.length - lo))) lo 1) (min n (rws.length - lo)) (min n (rws.length - lo)))]) (L' := (Ent.blk bp 46 [vL rwsA rws.length rwsC] :: Ent.blk bq 3 [vI ((n : Nat) : Int)] :: (Lf pre st))) ⟨rfl, rfl, rfl, rfl, rfl, rfl, rfl, rfl, rfl, rfl, rfl, rfl, rfl, rfl, rfl, rfl, rfl, rfl, rfl, rfl, rfl, rfl, rfl, rfl, (sl_ lt_ lt_), trivial⟩ (fun _ h => h) ?_
  refine JO_yield hY (pre := pre) (a := (Part.mk ((rws.drop lo).take (min n (rws.length - lo))) (subA rwsA (lo + (min n (rws.length - lo))) lo 1) (min n (rws.length - lo)))) (st := st) (i1_0.yield q2 (by omega)) i1_1 [Ent.blk bp 46 [vL rwsA rws.length rwsC], Ent.blk bq 3 [vI ((n : Nat) : Int)]] rfl trivial rfl R44.part_enc (fun _ h => h) (fun st2 hI3 => ?_)
  refine jr_ (vB false) (z_ (xk_ [0, 1, 2, 4, 30] ?_))
  refine n_ (iff_ (sk_ (kx_ (n_ (g_ (s_ mv_ (r_ (ld_ 1 Ty.sc3) (s_ (x_add_n (a := lo) (b := n) rfl rfl (by omega)) (s_ av_ (z_ ?_))))))))))
  refine JX_round ((lo + n, (pre ++ [(Part.mk ((rws.drop lo).take (min n (rws.length - lo))) (subA rwsA (lo + (min n (rws.length - lo))) lo 1) (min n (rws.length - lo)))]), st2) : Nat × (List Part) × X) ?_ ?_ ⟨rfl, rfl, rfl, rfl, trivial⟩ (fun _ h => h)
  ·try dsimp only
   refine ⟨?_, ?_, ?_⟩
   ·exact i1_0.step q2 (by omega)
   ·assumption
   ·first | rfl | omega | (simp_all; done) | (simp_all; omega)
  ·try dsimp only
   first | omega | (simp; omega) | (simp_all; omega)
 ·refine J_exit (ne_ (re_ (kh_ ?_)))
  refine JX_end0 Tryz.results39 ((Lf pre st)) (fun _ h => h.keepN 2 [false, false] rfl) ⟨st, ?_, ?_, ?_⟩
  ·rfl
  ·rw [i1_0.done (by omega)]
  ·rw [← i1_0.done (by omega)]; assumption
end Go.Proofs.YtmacopacmpgieaaGreatDoor

namespace Go.Proofs.YtmacopacmpgieaaGreatDoor
open Go.GV
set_option linter.unusedVariables false
set_option linter.unusedSimpArgs false
theorem c44m0_ {p : Prop} (h : p := by rw [← R44.runsV_yes hg1.2.1 hg1.1 (by assumption), List.length_map]) : p := h
set_option maxHeartbeats 4000000 in
set_option maxRecDepth 20000 in
theorem f5_ok (rs : List Bytes) (rsA : Option Addr) (rsC : Nat) (m : Int) (fan : Int) (l : List SortField) (lA : Option Addr) (lC : Nat) (w : World) (rsR : RO [] w rsA (rs.map vS)) (lR : RO [] w lA (l.flatMap SortField.enc)) (q0 : rs.length ≤ 1000000) (q1 : ∀ i, (rs.getD i []).length ≤ 1000000) (q2 : rs.length ≤ rsC) (q3 : l.length ≤ 9223372036854775807) : Calls Tryz.prog 5 #[vL rsA rs.length rsC, vG [vI m, vI fan], vL lA l.length lC, vG [Value.nilFunc, Value.nilFunc]] w (GivesW [] w fun v L wx => ∃ out : List Bytes, ∃ outA : Option Addr, ∃ outC : Nat, ∃ v1 : Int, ∃ v2 : Int, ∃ v3 : Int, ∃ e : Int, v = Value.tuple #[vL outA out.length outC, vG [vI v1, vI v2, vI v3], vI e] ∧ L = [] ∧ RO (List.range w.heap.size) wx outA (out.map vS) ∧ out.length ≤ outC ∧ ((out, SortWork.mk v1 v2 v3, e) = R44.sortV l m fan R44.idF R44.noF rs)) := by
 refine calls_JNW [] 120 Tryz.func5 rfl Tryz.ntmps5 [(0, _), (1, _), (2, _), (3, _)] rfl rfl (Give.nil w) ?_
 refine q_ (g_ (o_ (bxG fun b1 => ?_)))
 refine o_ (bx1 fun b2 => ?_)
 refine o_ (bxG fun b3 => ?_)
 refine s_ av_ (o_ (al_ Ty.ze28 fun b4 => ?_))
 refine s_ av_ (z_ (n_ (q_ (q_ (g_ (r_ (ld_ 2 Ty.sc23) (c0 (cl_ Ty.ca10) (fun w hS => f10_ok l lA lC w (rno lR hS) hy_) (s_ (x_not rfl) (s_ mv_ ?_)))))))))
 refine or_ 3 (decide (m < 1)) (fun g5 => ?_) ?_
 ·have g5r := g5
  have g5r : (R44.valid l) = true := bnot_false g5r
  have hi6 := R44.valid_facts g5r
  refine sg_ g5 (fA 0 Ty.fi25_0) (rg_ g5 (ld_ 3 Ty.sc3) (sg_ g5 (x_lss_i rfl rfl) ?_))
  exact cr_
 refine s_ mv_ ?_
 refine or_ 3 (decide ((1024 : Int) < m)) (fun g7 => ?_) ?_
 ·have g7r := g7
  have ⟨g7r, h8⟩ := bor_false g7r
  have g7r : (R44.valid l) = true := bnot_false g7r
  have hi9 := R44.valid_facts g7r
  have h8 := of_decide_eq_false h8
  refine sg_ g7 (fA 0 Ty.fi25_0) (rg_ g7 (ld_ 3 Ty.sc3) (sg_ g7 (x_gtr_i rfl rfl) ?_))
  exact cr_
 refine s_ mv_ ?_
 refine or_ 3 (decide (fan < 2)) (fun g10 => ?_) ?_
 ·have g10r := g10
  have ⟨g10r, h11⟩ := bor_false g10r
  have ⟨g10r, h12⟩ := bor_false g10r
  have g10r : (R44.valid l) = true := bnot_false g10r
  have hi13 := R44.valid_facts g10r
  have h12 := of_decide_eq_false h12
  have h11 := of_decide_eq_false h11
  refine sg_ g10 (fA 1 Ty.fi25_1) (rg_ g10 (ld_ 3 Ty.sc3) (sg_ g10 (x_lss_i rfl rfl) ?_))
  exact cr_
 refine s_ mv_ ?_
 refine or_ 3 (decide ((16 : Int) < fan)) (fun g14 => ?_) ?_
 ·have g14r := g14
  have ⟨g14r, h15⟩ := bor_false g14r
  have ⟨g14r, h16⟩ := bor_false g14r
  have ⟨g14r, h17⟩ := bor_false g14r
  have g14r : (R44.valid l) = true := bnot_false g14r
  have hi18 := R44.valid_facts g14r
  have h17 := of_decide_eq_false h17
  have h16 := of_decide_eq_false h16
  have h15 := of_decide_eq_false h15
  refine sg_ g14 (fA 1 Ty.fi25_1) (rg_ g14 (ld_ 3 Ty.sc3) (sg_ g14 (x_gtr_i rfl rfl) ?_))
  exact cr_
 refine z_ (xk_ [0, 5, 6, 7, 8, 9, 10, 41] ?_)
 refine n_ ?_
 refine if_ (fun h19 => ?_) (fun h19 => ?_)
 ·have h19w := h19
  simp only [Bool.and_eq_true, Bool.or_eq_true, Bool.and_eq_false_iff, Bool.or_eq_false_iff, Bool.not_eq_true', Bool.not_eq_false', decide_eq_true_eq, decide_eq_false_iff_not] at h19
  refine q_ (g_ (js_ (vG [vI 0, vI 0, vI 0]) (x_build (by kernel_rfl)) (s_ av_ (o_ (stG 0 Ty.sz28 ?_)))))
  refine s_ av_ (z_ (n_ (rt_ (nr_ ?_))))
  refine JX_retsMW ([] : List Nat) [_, _, _] (Value.tuple #[_, _, _]) rfl Tryz.results5 [Ent.blk b4 28 [vI 0, vI 0, vI 0], Ent.blk b3 35 [Value.nilFunc, Value.nilFunc], Ent.blk b2 23 [vL lA l.length lC], Ent.blk b1 25 [vI m, vI fan]] (fun _ h => h) (fun w h => ⟨rfl, ⟨_, rfl, load_blkN 0 [vI 0, vI 0, vI 0] h rfl Ty.ag28 Ty.sz28 rfl⟩, rfl, trivial⟩) rfl [] (fun _ h => h.keep [false, false, false, false] rfl) (fun _ _ h => h) (fun wx hw => ⟨([] : List Bytes), none, 0, 0, 0, 0, 1, ?_, ?_, RO.nil, (Nat.zero_le _), ?_⟩)
  ·have e_x0 : (0 : Nat) = (([] : List Bytes).length) := by first | rfl | omega | (simp_all; done) | (simp_all; omega)
   exact congrArg (fun (x0 : Nat) => Value.tuple #[vL none x0 0, vG [vI 0, vI 0, vI 0], vI 1]) e_x0
  ·rfl
  ·first | exact R44.sv_1 (by assumption) | exact R44.sv_2 (by assumption) (by assumption) | exact R44.sv_5 (fan := (kf : Int)) (by assumption) (by assumption) (R44.inR_id (by assumption)) (by first | decide | assumption) (R44.one_row (m := m.toNat) (by omega) (by omega) i1_0 (by omega)).1 R44.sums_no (by first | decide | assumption) c44m0_ (R44.one_row (m := m.toNat) (by omega) (by omega) i1_0 (by omega)).2 (by first | rfl | omega) | exact R44.sv_5 (fan := (kf : Int)) (by assumption) (by assumption) (R44.inR_id (by assumption)) (by first | decide | assumption) (R44.one_none (by omega) (R44.one_row (m := m.toNat) (by omega) (by omega) i1_0 (by omega)).1) R44.sums_no (by first | decide | assumption) c44m0_ (R44.one_row (m := m.toNat) (by omega) (by omega) i1_0 (by omega)).2 (by first | rfl | omega)
 ·have h19w := h19
  have ⟨h19, h20⟩ := bor_false h19
  have ⟨h19, h21⟩ := bor_false h19
  have ⟨h19, h22⟩ := bor_false h19
  have ⟨h19, h23⟩ := bor_false h19
  have h19 : (R44.valid l) = true := bnot_false h19
  have hi24 := R44.valid_facts h19
  have h23 := of_decide_eq_false h23
  have h22 := of_decide_eq_false h22
  have h21 := of_decide_eq_false h21
  have h20 := of_decide_eq_false h20
  obtain ⟨kf, rfl⟩ : ∃ kf : Nat, fan = (kf : Int) := ⟨fan.toNat, by omega⟩
  have hg1 := R44.g1_facts (l := l) (m := m) (fan := (kf : Int)) (by assumption)
  refine sk_ (n_ (q_ (q_ (g_ (s_ mv_ (s_ (lnS Tryz.underlying22) (s_ (x_gtr_i rfl rfl) (s_ mv_ ?_))))))))
  refine or_ 2 (R44.long rs) (fun g25 => ?_) ?_
  ·have g25r := g25
   have g25r := of_decide_eq_false g25r
   refine sg_ g25 mv_ (c0g g25 (cl_ Ty.ca11) (fun w hS => f11_ok rs rsA rsC w (rno rsR hS) hy_ (by first | assumption | exact fun i => Nat.le_trans (q1 i) (by decide))) ?_)
   exact cr_
  refine z_ (n_ ?_)
  refine if_ (fun h26 => ?_) (fun h26 => ?_)
  ·have h26w := h26
   simp only [Bool.and_eq_true, Bool.or_eq_true, Bool.and_eq_false_iff, Bool.or_eq_false_iff, Bool.not_eq_true', Bool.not_eq_false', decide_eq_true_eq, decide_eq_false_iff_not] at h26
   refine q_ (g_ (js_ (vG [vI 0, vI 0, vI 0]) (x_build (by kernel_rfl)) (s_ av_ (o_ (stG 0 Ty.sz28 ?_)))))
   refine s_ av_ (z_ (n_ (rt_ (nr_ ?_))))
   refine JX_retsMW ([] : List Nat) [_, _, _] (Value.tuple #[_, _, _]) rfl Tryz.results5 [Ent.blk b4 28 [vI 0, vI 0, vI 0], Ent.blk b3 35 [Value.nilFunc, Value.nilFunc], Ent.blk b2 23 [vL lA l.length lC], Ent.blk b1 25 [vI m, vI ((kf : Nat) : Int)]] (fun _ h => h) (fun w h => ⟨rfl, ⟨_, rfl, load_blkN 0 [vI 0, vI 0, vI 0] h rfl Ty.ag28 Ty.sz28 rfl⟩, rfl, trivial⟩) rfl [] (fun _ h => h.keep [false, false, false, false] rfl) (fun _ _ h => h) (fun wx hw => ⟨([] : List Bytes), none, 0, 0, 0, 0, 8, ?_, ?_, RO.nil, (Nat.zero_le _), ?_⟩)
   ·have e_x0 : (0 : Nat) = (([] : List Bytes).length) := by first | rfl | omega | (simp_all; done) | (simp_all; omega)
    exact congrArg (fun (x0 : Nat) => Value.tuple #[vL none x0 0, vG [vI 0, vI 0, vI 0], vI 8]) e_x0
   ·rfl
   ·first | exact R44.sv_1 (by assumption) | exact R44.sv_2 (by assumption) (by assumption) | exact R44.sv_5 (fan := (kf : Int)) (by assumption) (by assumption) (R44.inR_id (by assumption)) (by first | decide | assumption) (R44.one_row (m := m.toNat) (by omega) (by omega) i1_0 (by omega)).1 R44.sums_no (by first | decide | assumption) c44m0_ (R44.one_row (m := m.toNat) (by omega) (by omega) i1_0 (by omega)).2 (by first | rfl | omega) | exact R44.sv_5 (fan := (kf : Int)) (by assumption) (by assumption) (R44.inR_id (by assumption)) (by first | decide | assumption) (R44.one_none (by omega) (R44.one_row (m := m.toNat) (by omega) (by omega) i1_0 (by omega)).1) R44.sums_no (by first | decide | assumption) c44m0_ (R44.one_row (m := m.toNat) (by omega) (by omega) i1_0 (by omega)).2 (by first | rfl | omega)
  ·have h26w := h26
   have ⟨h26, h27⟩ := bor_false h26
   have h26 := of_decide_eq_false h26
   have hi28 := R44.long_facts h27
   refine sk_ (n_ (q_ (g_ (s_ mv_ (s_ (fA 0 Ty.fi35_0) (r_ (ld_ 1 Ty.sc32) ?_))))))
   refine c1 (cl_ Ty.ca13) (fun w hS => f13_ok rs rsA rsC w (rno rsR hS) hy_ hy_) ?_
   rintro _ _ ⟨e29, e30, rfl, rfl⟩
   refine s_ mv_ (s_ (ex_ 0) (s_ (ex_ 1) (s_ (ex_ 2) (s_ av_ (s_ av_ (s_ av_ (z_ (xk_ [0, 5, 6, 7, 8, 9, 10, 11, 12] ?_))))))))
   refine n_ (q_ (q_ (g_ (s_ mv_ (jr_ (vB false) (z_ (n_ (iff_ (sk_ (n_ (q_ (g_ (s_ mv_ (s_ (fA 0 Ty.fi25_0) (r_ (ld_ 4 Ty.sc3) (r_ (ld_ 3 Ty.sc23) ?_))))))))))))))))
   refine JO_callB [] [] [Ent.row (.slice e29 rs.length e30) 9 1 rs.length (rs.map vS), Ent.blk b4 28 [vI 0, vI 0, vI 0], Ent.blk b3 35 [Value.nilFunc, Value.nilFunc], Ent.blk b2 23 [vL lA l.length lC], Ent.blk b1 25 [vI m, vI ((kf : Nat) : Int)]] rfl trivial (fun _ => x_call Ty.ca14 rfl) (fun _ h => h) (fun _ h => by cases h) (fun w hS => f14_ok rs e29 e30 m l lA lC w (RO.of_row hS 0 rfl) (lR.on hS (fun _ h => by cases h)) hy_ hy_ (by first | omega | assumption | exact row_le (hS.mem (j := 0) rfl) | exact row_le (hS.mem (j := 1) rfl) | exact row_le (hS.mem (j := 2) rfl) | exact row_le (hS.mem (j := 3) rfl) | exact row_le (hS.mem (j := 4) rfl) | exact row_le (hS.mem (j := 5) rfl)) hy_) ?_
   rintro wc _ _ wbhB32 ⟨rout, routA, routC, rfl, rfl, routR, routL, routN, routK, hf31⟩ hc0 hB32
   have rsR := rsR.again hB32
   have lR := lR.again hB32
   have routR0 := routR.mono (lown_rangeF (w00 := w) hc0 hc0.fr.size)
   have routN0 := fun i => (routN i).mono (lown_rangeF (w00 := w) hc0 hc0.fr.size)
   have routR := routR.mono (lown_range hc0)
   have routN := fun i => (routN i).mono (lown_range hc0)
   refine s_ av_ (z_ (n_ (q_ (g_ (s_ mv_ (s_ (lnS Tryz.underlying46) (s_ mv_ (js_ (vG [vI ((rout.length : Nat) : Int), vI 0, vI 0]) (x_build (by kernel_rfl)) (o_ (al_ Ty.ze28 fun b33 => ?_))))))))))
   refine o_ (stG 0 Ty.sz28 ?_)
   refine z_ (xk_ [5, 6, 7, 8, 9, 10, 12, 13, 14] ?_)
   refine n_ (q_ (k_ ?_))
   refine J_loopM (X := (List Rw) × (Option Addr) × Nat × Nat × (List Nat)) (fun (⟨runs, runsA, runsC, np, Ds⟩ : (List Rw) × (Option Addr) × Nat × Nat × (List Nat)) => Ds) (fun (⟨runs, runsA, runsC, np, Ds⟩ : (List Rw) × (Option Addr) × Nat × Nat × (List Nat)) => (R44.PassJ (R44.cmpL l) kf (Srt.runs (R44.cmpL l) m.toNat rs) (runs.map Rw.s) np)) (fun (⟨runs, runsA, runsC, np, Ds⟩ : (List Rw) × (Option Addr) × Nat × Nat × (List Nat)) wx => RO (Lown (Ent.blk b33 28 [vI ((rout.length : Nat) : Int), vI ((np : Nat) : Int), vI 0] :: Ent.blk b4 28 [vI 0, vI 0, vI 0] :: Ent.blk b3 35 [Value.nilFunc, Value.nilFunc] :: Ent.blk b2 23 [vL lA l.length lC] :: Ent.blk b1 25 [vI m, vI ((kf : Nat) : Int)] :: (Ds.map dfr)) ++ List.range w.heap.size) wx runsA (runs.flatMap Rw.enc) ∧ runs.length ≤ runsC ∧ (∀ i : Nat, RO (Lown (Ent.blk b33 28 [vI ((rout.length : Nat) : Int), vI ((np : Nat) : Int), vI 0] :: Ent.blk b4 28 [vI 0, vI 0, vI 0] :: Ent.blk b3 35 [Value.nilFunc, Value.nilFunc] :: Ent.blk b2 23 [vL lA l.length lC] :: Ent.blk b1 25 [vI m, vI ((kf : Nat) : Int)] :: (Ds.map dfr)) ++ List.range w.heap.size) wx (runs.getD i default).sA (((runs.getD i default).s).map vS)) ∧ (∀ i : Nat, (runs.getD i default).s.length ≤ (runs.getD i default).sC)) (fun (⟨runs, runsA, runsC, np, Ds⟩ : (List Rw) × (Option Addr) × Nat × Nat × (List Nat)) => [(5, pB b1 0), (6, pB b2 0), (7, pB b3 0), (8, vL none 0 0), (9, pB b4 0), (10, vI 0), (12, vI 0), (13, vL runsA runs.length runsC), (14, pB b33 0)]) (fun (⟨runs, runsA, runsC, np, Ds⟩ : (List Rw) × (Option Addr) × Nat × Nat × (List Nat)) => (Ent.blk b33 28 [vI ((rout.length : Nat) : Int), vI ((np : Nat) : Int), vI 0] :: Ent.blk b4 28 [vI 0, vI 0, vI 0] :: Ent.blk b3 35 [Value.nilFunc, Value.nilFunc] :: Ent.blk b2 23 [vL lA l.length lC] :: Ent.blk b1 25 [vI m, vI ((kf : Nat) : Int)] :: (Ds.map dfr))) (fun (⟨runs, runsA, runsC, np, Ds⟩ : (List Rw) × (Option Addr) × Nat × Nat × (List Nat)) => runs.length) ((rout, routA, routC, 0, ([] : List Nat)) : (List Rw) × (Option Addr) × Nat × Nat × (List Nat)) ?_ rfl ⟨rfl, rfl, rfl, rfl, rfl, rfl, rfl, rfl, rfl, trivial⟩ (fun _ h => h.keep [true, false, true, true, true, true] rfl) (fun wx hw => ⟨(routR0.againF (hw.keep [true, false, true, true, true, true] rfl)), routL, (fun i => (routN0 i).againF (hw.keep [true, false, true, true, true, true] rfl)), routK⟩) ?_
   ·try dsimp only
    exact R44.PassJ.start_of (R44.runsV_yes hg1.2.1 hg1.1 (by assumption))
   rintro ⟨runs, runsA, runsC, np, Ds⟩ wb1 hI1 hW1 hB1
   have rsR := rsR.again hB1
   have lR := lR.again hB1
   have routR0 := routR0.againF hB1
   have routR := routR.again hB1
   have routN0 := fun i => (routN0 i).againF hB1
   have routN := fun i => (routN i).again hB1
   obtain ⟨runsR0, runsL, runsN0, runsK⟩ := hW1
   have runsR := runsR0.fromF
   have runsN := fun i => (runsN0 i).fromF
   have i1_0 := hI1
   try dsimp only at i1_0
   have hcv := R44.cmpL_ok l
   have hpb := R44.pass_bounds (by omega) (by omega) i1_0 q0 q1
   have hil := R44.inner_len (lists := runs) 0
   try dsimp only
   refine q_ (q_ (g_ (s_ mv_ (s_ (lnS Tryz.underlying46) (s_ (x_gtr_i rfl rfl) (z_ (n_ ?_)))))))
   refine ifd (fun h34w h34 => ?_) (fun h34w h34 => ?_)
   ·refine sk_ (n_ (k_ (q_ (g_ (o_ (al_ Ty.ze46 fun b35 => ?_))))))
    refine z_ (n_ (q_ (q_ (g_ (s_ mv_ (s_ (fA 1 Ty.fi25_1) (r_ (ld_ 5 Ty.sc3) ?_)))))))
    refine c1 (cl_ Ty.ca15) (fun w hS => f15_ok runs _ _ kf w (rno runsR hS) (fun i => (runsN i).on hS (fun _ h => by cases h)) hy_ hy_) ?_
    rintro _ _ ⟨bp36, bq37, rfl, rfl⟩
    refine z_ (n_ (k_ ?_))
    refine J_rangeFunc (n := _) (gf := 39) (lb := [pB bp36 0, pB bq37 0]) (enc := Part.enc) (xs := (R44.parts kf runs runsA)) (fun (pre : List Part) (⟨next, nextA, nextC⟩ : (List Rw) × (Option Addr) × Nat) => (next.map Rw.s = pre.map (fun p => R44.mergeV l (p.s.map Rw.s)))) (fun (_ : List Part) (⟨next, nextA, nextC⟩ : (List Rw) × (Option Addr) × Nat) => (Ent.blk b35 46 [vL nextA next.length nextC] :: Ent.blk b33 28 [vI ((rout.length : Nat) : Int), vI ((np : Nat) : Int), vI 0] :: Ent.blk b4 28 [vI 0, vI 0, vI 0] :: Ent.blk b3 35 [Value.nilFunc, Value.nilFunc] :: Ent.blk b2 23 [vL lA l.length lC] :: Ent.blk b1 25 [vI m, vI ((kf : Nat) : Int)] :: Ent.row (.slice nextA next.length nextC) 22 1 next.length (next.flatMap Rw.enc) :: (next.map (RwE 9) ++ (Ds.map dfr)))) ((([] : List Rw), none, 0) : (List Rw) × (Option Addr) × Nat) [Ent.blk bp36 46 [vL runsA runs.length runsC], Ent.blk bq37 3 [vI ((kf : Nat) : Int)]] rfl rfl rfl Ty.ca39 (ps_ rfl) (fun _ => rfl) (fun _ h => (((((((((h.nilrow 22 1).front 8 _ rfl).front 8 _ rfl).front 8 _ rfl).front 8 _ rfl).front 8 _ rfl).front 8 _ rfl).front 8 _ rfl).front 8 _ rfl).keepN 9 [true, true, true, true, true, true, true, true, true] rfl) ?_ ?_ ?_
    ·intro wi39 li40 di41 ri42 hold43 hg44 hY45
     refine it_done (I := (fun (pre : List Part) (⟨next, nextA, nextC⟩ : (List Rw) × (Option Addr) × Nat) => (next.map Rw.s = pre.map (fun p => R44.mergeV l (p.s.map Rw.s))))) (Lf := LF li40 di41 ri42 (fun (_ : List Part) (⟨next, nextA, nextC⟩ : (List Rw) × (Option Addr) × Nat) => (Ent.blk b35 46 [vL nextA next.length nextC] :: Ent.blk b33 28 [vI ((rout.length : Nat) : Int), vI ((np : Nat) : Int), vI 0] :: Ent.blk b4 28 [vI 0, vI 0, vI 0] :: Ent.blk b3 35 [Value.nilFunc, Value.nilFunc] :: Ent.blk b2 23 [vL lA l.length lC] :: Ent.blk b1 25 [vI m, vI ((kf : Nat) : Int)] :: Ent.row (.slice nextA next.length nextC) 22 1 next.length (next.flatMap Rw.enc) :: (next.map (RwE 9) ++ (Ds.map dfr))))) ?_
     exact f39_ok li40 _ _ _ _ bp36 bq37 runs runsA runsC kf _ (runsR.old hold43) (fun i => (runsN i).old hold43) hY45 rfl (by omega) (by omega) (by omega) (by omega) hg44
    ·rintro wi46 li40 di41 ri42 pre ⟨ps, psA, psC⟩ rest48 ⟨next, nextA, nextC⟩ hp49 hI50 hold43
     have i2_0 := hI50
     try dsimp only at i2_0
     have rsR := rsR.old hold43
     have lR := lR.old hold43
     have routR := routR.old hold43
     have runsR := runsR.old hold43
     have routN := fun i => (routN i).old hold43
     have runsN := fun i => (runsN i).old hold43
     have hpl := R44.part_pre hp49
     have hnl := R44.map_lens i2_0
     have hp0 := R44.part_len hp49 hpb.1
     have hp1 := R44.part_short hp49 hpb.2.2.1
     have hp2 := R44.part_cap hp49 runsK
     have hp3 := R44.part_flat hp49 hpb.2.1
     have psR := R44.part_ro hp49 runsR
     have psN := R44.part_ron hp49 runsN
     refine J_weaken (E' := [(6, pB b2 0), (15, pB b35 0), (79, vL psA ps.length psC)]) (L' := (Ent.obj li40 (lp ri42 .ready) :: dfr di41 :: Ent.blk b35 46 [vL nextA next.length nextC] :: Ent.blk b33 28 [vI ((rout.length : Nat) : Int), vI ((np : Nat) : Int), vI 0] :: Ent.blk b4 28 [vI 0, vI 0, vI 0] :: Ent.blk b3 35 [Value.nilFunc, Value.nilFunc] :: Ent.blk b2 23 [vL lA l.length lC] :: Ent.blk b1 25 [vI m, vI ((kf : Nat) : Int)] :: Ent.row (.slice nextA next.length nextC) 22 1 next.length (next.flatMap Rw.enc) :: (next.map (RwE 9) ++ (Ds.map dfr)))) ⟨rfl, rfl, rfl, trivial⟩ (fun _ h => h) ?_
     refine g_ (s_ av_ (z_ (JX_begin (k_ ?_))))
     refine drU (Ent.obj li40 (lp ri42 .busy) :: dfr di41 :: Ent.blk b33 28 [vI ((rout.length : Nat) : Int), vI ((np : Nat) : Int), vI 0] :: Ent.blk b4 28 [vI 0, vI 0, vI 0] :: Ent.blk b3 35 [Value.nilFunc, Value.nilFunc] :: Ent.blk b2 23 [vL lA l.length lC] :: Ent.blk b1 25 [vI m, vI ((kf : Nat) : Int)] :: (Ds.map dfr)) [5, 6] 7 Ty.mixed ?_
     refine JA_early 0 (vL nextA next.length nextC) rfl (by kernel_rfl) (by kernel_rfl) (by kernel_rfl) rfl (by kernel_rfl) (fun _ _ _ h => h) rfl trivial (x_load 2 rfl rfl Ty.sc46 rfl) ?_
     refine jp_ 1 rfl mv_ (jq_ 2 rfl (ld_ 5 Ty.sc23) (j1_ 3 ?_ (fun _ h => ⟨(drop_seg 9 (G := next.map (RwE 9)) h rfl).keepN 9 [true, true, false, true, true, true, true, true, false] rfl, fun _ => h⟩)))
     refine jc1_ rfl (cl_ Ty.ca16) (fun w hS => f16_ok ps psA psC l lA lC w (rno psR hS) (fun i => (psN i).on hS (fun _ h => by cases h)) (rno lR hS) hy_ hy_ hy_ hy_ hy_) ?_
     rintro _ _ ⟨e51, e52, rfl, rfl⟩
     refine j1_ 4 (jio_ rfl (O_buildSlice (cs := [vL e51 ((R44.mergeV l (ps.map Rw.s)).length) e52]) Tryz.underlying46 Ty.sz22 Ty.ze22 (by decide) (by decide) (by kernel_rfl) fun b54 => ?_)) (fun _ h => ⟨(drop_seg 10 (G := next.map (RwE 9)) h rfl).keepN 10 [false, true, true, false, true, true, true, true, true, false] rfl, fun _ => h.keepN 10 [false, true, true, true, true, true, true, true, true, true] rfl⟩)
     refine j1_ 5 (jio_ rfl (O_append_f 10 Rw.enc 1 next [(Rw.mk (R44.mergeV l (ps.map Rw.s)) e51 e52)] Tryz.underlying46 Ty.sz22 Ty.by22 Ty.ze22 rfl (by decide) rfl rfl rfl rfl Rw.enc_len Rw.enc_one (cells_blk 0 (off := 0) (m := 1) rfl rfl) lt_ lt_ fun A57 c58 => ?_)) (fun _ h => ⟨(drop_seg 11 (G := next.map (RwE 9)) h rfl).keepN 11 [false, false, true, true, false, true, true, true, true, true, false] rfl, fun _ => h.keepN 11 [false, false, true, true, true, true, true, true, true, true, true] rfl⟩)
     refine JA_weaken (E' := [(6, pB b2 0), (15, pB b35 0), (79, vL psA ps.length psC), (16, vL psA ps.length psC), (80, vL nextA next.length nextC), (81, vL psA ps.length psC), (82, vL lA l.length lC), (83, vL e51 ((R44.mergeV l (ps.map Rw.s)).length) e52), (84, vL (some ⟨b54, 0, none⟩) 1 1), (85, vL A57 ((next ++ [(Rw.mk (R44.mergeV l (ps.map Rw.s)) e51 e52)]).length) c58)]) (L' := (Ent.blk b54 22 [vL e51 ((R44.mergeV l (ps.map Rw.s)).length) e52] :: Ent.obj li40 (lp ri42 .busy) :: dfr di41 :: Ent.blk b35 46 [vL nextA next.length nextC] :: Ent.blk b33 28 [vI ((rout.length : Nat) : Int), vI ((np : Nat) : Int), vI 0] :: Ent.blk b4 28 [vI 0, vI 0, vI 0] :: Ent.blk b3 35 [Value.nilFunc, Value.nilFunc] :: Ent.blk b2 23 [vL lA l.length lC] :: Ent.blk b1 25 [vI m, vI ((kf : Nat) : Int)] :: Ent.row (.slice A57 (next ++ [(Rw.mk (R44.mergeV l (ps.map Rw.s)) e51 e52)]).length c58) 22 1 (next ++ [(Rw.mk (R44.mergeV l (ps.map Rw.s)) e51 e52)]).length ((next ++ [(Rw.mk (R44.mergeV l (ps.map Rw.s)) e51 e52)]).flatMap Rw.enc) :: ((next ++ [(Rw.mk (R44.mergeV l (ps.map Rw.s)) e51 e52)]).map (RwE 9) ++ (Ds.map dfr)))) ⟨rfl, rfl, rfl, rfl, rfl, rfl, rfl, rfl, rfl, rfl, trivial⟩ (fun _ h => (seg_snoc 10 (X := next) (f := RwE 9) (x := (Rw.mk (R44.mergeV l (ps.map Rw.s)) e51 e52)) (h.front 1 _ rfl) rfl rfl)) ?_
     refine j1_ 6 (jio_ rfl (st1 3 Ty.sz46 ?_)) (gl_ rfl (fun _ h => (drop_seg 10 (G := (next ++ [(Rw.mk (R44.mergeV l (ps.map Rw.s)) e51 e52)]).map (RwE 9)) h rfl).keepN 10 [false, true, true, false, true, true, true, true, true, false] rfl))
     refine JA_done (by kernel_rfl) (gl_ rfl (fun _ h => (drop_seg 10 (G := (next ++ [(Rw.mk (R44.mergeV l (ps.map Rw.s)) e51 e52)]).map (RwE 9)) h rfl).keepN 10 [false, true, true, false, true, true, true, true, true, false] rfl)) ?_
     refine kx_ ?_
     refine JX_end (dfr di41 :: Ent.blk b35 46 [vL A57 ((next ++ [(Rw.mk (R44.mergeV l (ps.map Rw.s)) e51 e52)]).length) c58] :: Ent.blk b33 28 [vI ((rout.length : Nat) : Int), vI ((np : Nat) : Int), vI 0] :: Ent.blk b4 28 [vI 0, vI 0, vI 0] :: Ent.blk b3 35 [Value.nilFunc, Value.nilFunc] :: Ent.blk b2 23 [vL lA l.length lC] :: Ent.blk b1 25 [vI m, vI ((kf : Nat) : Int)] :: Ent.row (.slice A57 (next ++ [(Rw.mk (R44.mergeV l (ps.map Rw.s)) e51 e52)]).length c58) 22 1 (next ++ [(Rw.mk (R44.mergeV l (ps.map Rw.s)) e51 e52)]).length ((next ++ [(Rw.mk (R44.mergeV l (ps.map Rw.s)) e51 e52)]).flatMap Rw.enc) :: ((next ++ [(Rw.mk (R44.mergeV l (ps.map Rw.s)) e51 e52)]).map (RwE 9) ++ (Ds.map dfr))) (fun _ h => h.keepN 10 [false, true, true, true, true, true, true, true, true, true] rfl) (fun w hS => ⟨rfl, ((next ++ [(Rw.mk (R44.mergeV l (ps.map Rw.s)) e51 e52)], A57, c58) : (List Rw) × (Option Addr) × Nat), ?_, hS⟩)
     try dsimp only
     rw [List.map_append, List.map_append, i2_0]; rfl
    ·rintro D59 ⟨next, nextA, nextC⟩ hI50
     have i2_0 := hI50
     try dsimp only at i2_0
     try dsimp only
     refine kx_ (n_ (q_ (g_ (r_ (ld_ 1 Ty.sc46) (s_ av_ (z_ (n_ (g_ (s_ (fA 1 Ty.fi28_1) (r_ (ld_ 2 Ty.sc3) (s_ (x_add_n (a := np) (b := 1) rfl rfl (by omega)) (s_ (fA 1 Ty.fi28_1) (o_ (st1 2 Ty.sz3 ?_))))))))))))))
     refine z_ (kx_ ?_)
     refine JX_roundM ((next, nextA, nextC, np + 1, (D59 :: Ds)) : (List Rw) × (Option Addr) × Nat × Nat × (List Nat)) ?_ ?_ rfl ⟨rfl, rfl, rfl, rfl, rfl, rfl, rfl, rfl, rfl, trivial⟩ (fun _ _ h => (hB1.back _ _ h)) (fun _ h => (mark_tail 7 (G := []) (drop_seg 8 (G := next.map (RwE 9)) h rfl) rfl).keepN 7 [false, true, true, true, true, true, false] rfl) (fun wx hw => ⟨(RO.of_rowF (Lc := (Ent.blk b33 28 [vI ((rout.length : Nat) : Int), vI (((np + 1) : Nat) : Int), vI 0] :: Ent.blk b4 28 [vI 0, vI 0, vI 0] :: Ent.blk b3 35 [Value.nilFunc, Value.nilFunc] :: Ent.blk b2 23 [vL lA l.length lC] :: Ent.blk b1 25 [vI m, vI ((kf : Nat) : Int)] :: ((D59 :: Ds).map dfr))) (Lr := Ent.row (.slice nextA next.length nextC) 22 1 next.length (next.flatMap Rw.enc) :: next.map (RwE 9)) (split_last 5 (M := (Ent.blk b33 28 [vI ((rout.length : Nat) : Int), vI (((np + 1) : Nat) : Int), vI 0] :: Ent.blk b4 28 [vI 0, vI 0, vI 0] :: Ent.blk b3 35 [Value.nilFunc, Value.nilFunc] :: Ent.blk b2 23 [vL lA l.length lC] :: Ent.blk b1 25 [vI m, vI ((kf : Nat) : Int)] :: (next.map (RwE 9) ++ ((D59 :: Ds).map dfr)))) (G := next.map (RwE 9)) (T := ((D59 :: Ds).map dfr)) ((((((((mark_tail 7 (G := next.map (RwE 9)) hw rfl).front 5 _ rfl).front 5 _ rfl).front 5 _ rfl).front 5 _ rfl).front 5 _ rfl).front 6 _ rfl).keepN 7 [true, true, true, true, true, true, false] rfl) rfl) (hB32.back _ _ (hB1.back _ _ (split_last 5 (M := (Ent.blk b33 28 [vI ((rout.length : Nat) : Int), vI (((np + 1) : Nat) : Int), vI 0] :: Ent.blk b4 28 [vI 0, vI 0, vI 0] :: Ent.blk b3 35 [Value.nilFunc, Value.nilFunc] :: Ent.blk b2 23 [vL lA l.length lC] :: Ent.blk b1 25 [vI m, vI ((kf : Nat) : Int)] :: (next.map (RwE 9) ++ ((D59 :: Ds).map dfr)))) (G := next.map (RwE 9)) (T := ((D59 :: Ds).map dfr)) ((((((((mark_tail 7 (G := next.map (RwE 9)) hw rfl).front 5 _ rfl).front 5 _ rfl).front 5 _ rfl).front 5 _ rfl).front 5 _ rfl).front 6 _ rfl).keepN 7 [true, true, true, true, true, true, false] rfl) rfl))) 0 rfl), (row_le ((split_last 5 (M := (Ent.blk b33 28 [vI ((rout.length : Nat) : Int), vI (((np + 1) : Nat) : Int), vI 0] :: Ent.blk b4 28 [vI 0, vI 0, vI 0] :: Ent.blk b3 35 [Value.nilFunc, Value.nilFunc] :: Ent.blk b2 23 [vL lA l.length lC] :: Ent.blk b1 25 [vI m, vI ((kf : Nat) : Int)] :: (next.map (RwE 9) ++ ((D59 :: Ds).map dfr)))) (G := next.map (RwE 9)) (T := ((D59 :: Ds).map dfr)) ((((((((mark_tail 7 (G := next.map (RwE 9)) hw rfl).front 5 _ rfl).front 5 _ rfl).front 5 _ rfl).front 5 _ rfl).front 5 _ rfl).front 6 _ rfl).keepN 7 [true, true, true, true, true, true, false] rfl) rfl).hold _ (List.mem_append_right _ List.mem_cons_self))), (ron_segF (Lc := (Ent.blk b33 28 [vI ((rout.length : Nat) : Int), vI (((np + 1) : Nat) : Int), vI 0] :: Ent.blk b4 28 [vI 0, vI 0, vI 0] :: Ent.blk b3 35 [Value.nilFunc, Value.nilFunc] :: Ent.blk b2 23 [vL lA l.length lC] :: Ent.blk b1 25 [vI m, vI ((kf : Nat) : Int)] :: ((D59 :: Ds).map dfr))) (Lr := Ent.row (.slice nextA next.length nextC) 22 1 next.length (next.flatMap Rw.enc) :: next.map (RwE 9)) (X := next) (t := 9) (split_last 5 (M := (Ent.blk b33 28 [vI ((rout.length : Nat) : Int), vI (((np + 1) : Nat) : Int), vI 0] :: Ent.blk b4 28 [vI 0, vI 0, vI 0] :: Ent.blk b3 35 [Value.nilFunc, Value.nilFunc] :: Ent.blk b2 23 [vL lA l.length lC] :: Ent.blk b1 25 [vI m, vI ((kf : Nat) : Int)] :: (next.map (RwE 9) ++ ((D59 :: Ds).map dfr)))) (G := next.map (RwE 9)) (T := ((D59 :: Ds).map dfr)) ((((((((mark_tail 7 (G := next.map (RwE 9)) hw rfl).front 5 _ rfl).front 5 _ rfl).front 5 _ rfl).front 5 _ rfl).front 5 _ rfl).front 6 _ rfl).keepN 7 [true, true, true, true, true, true, false] rfl) rfl) (hB32.back _ _ (hB1.back _ _ (split_last 5 (M := (Ent.blk b33 28 [vI ((rout.length : Nat) : Int), vI (((np + 1) : Nat) : Int), vI 0] :: Ent.blk b4 28 [vI 0, vI 0, vI 0] :: Ent.blk b3 35 [Value.nilFunc, Value.nilFunc] :: Ent.blk b2 23 [vL lA l.length lC] :: Ent.blk b1 25 [vI m, vI ((kf : Nat) : Int)] :: (next.map (RwE 9) ++ ((D59 :: Ds).map dfr)))) (G := next.map (RwE 9)) (T := ((D59 :: Ds).map dfr)) ((((((((mark_tail 7 (G := next.map (RwE 9)) hw rfl).front 5 _ rfl).front 5 _ rfl).front 5 _ rfl).front 5 _ rfl).front 5 _ rfl).front 6 _ rfl).keepN 7 [true, true, true, true, true, true, false] rfl) rfl))) (fun _ h => List.mem_cons_of_mem _ h)), (cap_seg (X := next) (t := 9) (split_last 5 (M := (Ent.blk b33 28 [vI ((rout.length : Nat) : Int), vI (((np + 1) : Nat) : Int), vI 0] :: Ent.blk b4 28 [vI 0, vI 0, vI 0] :: Ent.blk b3 35 [Value.nilFunc, Value.nilFunc] :: Ent.blk b2 23 [vL lA l.length lC] :: Ent.blk b1 25 [vI m, vI ((kf : Nat) : Int)] :: (next.map (RwE 9) ++ ((D59 :: Ds).map dfr)))) (G := next.map (RwE 9)) (T := ((D59 :: Ds).map dfr)) ((((((((mark_tail 7 (G := next.map (RwE 9)) hw rfl).front 5 _ rfl).front 5 _ rfl).front 5 _ rfl).front 5 _ rfl).front 5 _ rfl).front 6 _ rfl).keepN 7 [true, true, true, true, true, true, false] rfl) rfl) (fun _ h => List.mem_append_right _ (List.mem_cons_of_mem _ h)))⟩)
     ·try dsimp only
      exact R44.pass_next hcv (by omega) i1_0 (by omega) hg1.1 i2_0
     ·try dsimp only
      exact R44.pass_dec (by omega) (by omega) hg1.1 i2_0
   ·refine J_exit (ne_ (JX_roundM_exit (kh_ (n_ (q_ ?_)))))
    refine g_ (s_ av_ (z_ (n_ (q_ (q_ (g_ (s_ mv_ (s_ (lnS Tryz.underlying46) (s_ (x_gtr_i rfl rfl) (z_ (n_ ?_)))))))))))
    refine ifd (fun h60w h60 => ?_) (fun h60w h60 => ?_)
    ·refine g_ (s_ mv_ (r_ (ixF (k := 0) Rw.enc_len (cells_ro runsR) Tryz.underlying46 Ty.sz22) (r_ (ldF (k := 0) 0 Rw.enc_len (cells_ro runsR) Ty.sc22) (s_ av_ (z_ (n_ (q_ (g_ (s_ mv_ (r_ (ld_ 3 Ty.sc23) (s_ (fA 1 Ty.fi35_1) (r_ (ld_ 2 Ty.sc33) ?_))))))))))))
     refine c0 (cl_ Ty.ca17) (fun w hS => f17_ok _ _ _ l lA lC w (rno (runsN 0) hS) (rno lR hS)) (s_ mv_ (s_ (ex_ 0) (s_ (ex_ 1) (s_ av_ (s_ av_ (z_ (xk_ [8, 9, 10, 12, 14, 17, 18] ?_)))))))
     refine n_ (q_ (q_ (g_ (s_ mv_ (jr_ (vB false) (z_ (n_ (iff_ (sk_ (n_ (q_ (g_ (s_ (fA 2 Ty.fi28_2) (r_ (ld_ 0 Ty.sc3) (s_ mv_ (s_ (lnS Tryz.underlying22) (s_ mv_ ?_)))))))))))))))))
     refine s_ (lnS Tryz.underlying22) (s_ (x_sub_i (a := (((runs.getD 0 default).s.length : Nat) : Int)) (b := ((((runs.getD 0 default).s).length : Nat) : Int)) rfl rfl (by omega) (by omega)) (s_ (x_add_i (a := 0) (b := (((runs.getD 0 default).s.length : Nat) : Int) - ((((runs.getD 0 default).s).length : Nat) : Int)) rfl rfl (by omega) (by omega)) (s_ (fA 2 Ty.fi28_2) (o_ (st1 0 Ty.sz3 ?_)))))
     refine z_ (n_ (q_ ?_))
     refine drU (Ent.blk b33 28 [vI ((rout.length : Nat) : Int), vI ((np : Nat) : Int), vI (0 + ((((runs.getD 0 default).s.length : Nat) : Int) - ((((runs.getD 0 default).s).length : Nat) : Int)))] :: Ent.blk b3 35 [Value.nilFunc, Value.nilFunc] :: Ent.blk b2 23 [vL lA l.length lC] :: Ent.blk b1 25 [vI m, vI ((kf : Nat) : Int)] :: (Ds.map dfr)) [3] 5 Ty.mixed ?_
     refine jp_ 0 rfl mv_ (jq_ 1 rfl (ldN 0 [vI ((rout.length : Nat) : Int), vI ((np : Nat) : Int), vI (0 + ((((runs.getD 0 default).s.length : Nat) : Int) - ((((runs.getD 0 default).s).length : Nat) : Int)))] Ty.ag28 Ty.sz28) (jp_ 2 rfl av_ (j1_ 3 (jio_ rfl (stG 1 Ty.sz28 ?_)) (fun _ h => ⟨h.keepN 5 [true, false, true, true, true] rfl, fun _ => h⟩))))
     refine jp_ 4 rfl av_ ?_
     refine JA_done (by kernel_rfl) (gl_ rfl (fun _ h => h.keepN 5 [true, false, true, true, true] rfl)) ?_
     refine n_ (rt_ ?_)
     refine JX_retsMW Ds [_, _, _] (Value.tuple #[_, _, _]) rfl Tryz.results5 [Ent.blk b33 28 [vI ((rout.length : Nat) : Int), vI ((np : Nat) : Int), vI (0 + ((((runs.getD 0 default).s.length : Nat) : Int) - ((((runs.getD 0 default).s).length : Nat) : Int)))], Ent.blk b4 28 [vI ((rout.length : Nat) : Int), vI ((np : Nat) : Int), vI (0 + ((((runs.getD 0 default).s.length : Nat) : Int) - ((((runs.getD 0 default).s).length : Nat) : Int)))], Ent.blk b3 35 [Value.nilFunc, Value.nilFunc], Ent.blk b2 23 [vL lA l.length lC], Ent.blk b1 25 [vI m, vI ((kf : Nat) : Int)]] (fun _ h => tail_front 5 h rfl) (fun w h => ⟨rfl, ⟨_, rfl, load_blkN 1 [vI ((rout.length : Nat) : Int), vI ((np : Nat) : Int), vI (0 + ((((runs.getD 0 default).s.length : Nat) : Int) - ((((runs.getD 0 default).s).length : Nat) : Int)))] h rfl Ty.ag28 Ty.sz28 rfl⟩, rfl, trivial⟩) rfl [] (fun _ h => h.keep [false, false, false, false, false] rfl) (fun _ _ h => (hB32.back _ _ (hB1.back _ _ h))) (fun wx hw => ⟨(runs.getD 0 default).s, ((runs.getD 0 default).sA), ((runs.getD 0 default).sC), ((rout.length : Nat) : Int), ((np : Nat) : Int), 0 + ((((runs.getD 0 default).s.length : Nat) : Int) - ((((runs.getD 0 default).s).length : Nat) : Int)), 0, ?_, ?_, ((runsN0 0).againF hw).freshF, (by first | assumption | exact runsK 0), ?_⟩)
     ·rfl
     ·rfl
     ·first | exact R44.sv_1 (by assumption) | exact R44.sv_2 (by assumption) (by assumption) | exact R44.sv_5 (fan := (kf : Int)) (by assumption) (by assumption) (R44.inR_id (by assumption)) (by first | decide | assumption) (R44.one_row (m := m.toNat) (by omega) (by omega) i1_0 (by omega)).1 R44.sums_no (by first | decide | assumption) c44m0_ (R44.one_row (m := m.toNat) (by omega) (by omega) i1_0 (by omega)).2 (by first | rfl | omega) | exact R44.sv_5 (fan := (kf : Int)) (by assumption) (by assumption) (R44.inR_id (by assumption)) (by first | decide | assumption) (R44.one_none (by omega) (R44.one_row (m := m.toNat) (by omega) (by omega) i1_0 (by omega)).1) R44.sums_no (by first | decide | assumption) c44m0_ (R44.one_row (m := m.toNat) (by omega) (by omega) i1_0 (by omega)).2 (by first | rfl | omega)
    ·refine sk_ (n_ (q_ (g_ (s_ mv_ (r_ (ld_ 3 Ty.sc23) (s_ (fA 1 Ty.fi35_1) (r_ (ld_ 2 Ty.sc33) (c0 (cl_ Ty.ca17) (fun w hS => f17_ok ([] : List Bytes) none 0 l lA lC w RO.nil (rno lR hS)) (s_ mv_ (s_ (ex_ 0) (s_ (ex_ 1) (s_ av_ ?_))))))))))))
     refine s_ av_ (z_ (xk_ [8, 9, 10, 12, 14, 17, 18] ?_))
     refine n_ (q_ (q_ (g_ (s_ mv_ (jr_ (vB false) (z_ (n_ (iff_ (sk_ (n_ (q_ (g_ (s_ (fA 2 Ty.fi28_2) (r_ (ld_ 0 Ty.sc3) (s_ mv_ (s_ (lnS Tryz.underlying22) (s_ mv_ ?_)))))))))))))))))
     refine s_ (lnS Tryz.underlying22) (s_ (x_sub_i (a := 0) (b := ((([] : List Bytes).length : Nat) : Int)) rfl rfl lt_ lt_) (s_ (x_add_i (a := 0) (b := 0 - ((([] : List Bytes).length : Nat) : Int)) rfl rfl lt_ lt_) (s_ (fA 2 Ty.fi28_2) (o_ (st1 0 Ty.sz3 ?_)))))
     refine z_ (n_ (q_ ?_))
     refine drU (Ent.blk b33 28 [vI ((rout.length : Nat) : Int), vI ((np : Nat) : Int), vI (0 + (0 - ((([] : List Bytes).length : Nat) : Int)))] :: Ent.blk b3 35 [Value.nilFunc, Value.nilFunc] :: Ent.blk b2 23 [vL lA l.length lC] :: Ent.blk b1 25 [vI m, vI ((kf : Nat) : Int)] :: (Ds.map dfr)) [3] 5 Ty.mixed ?_
     refine jp_ 0 rfl mv_ (jq_ 1 rfl (ldN 0 [vI ((rout.length : Nat) : Int), vI ((np : Nat) : Int), vI (0 + (0 - ((([] : List Bytes).length : Nat) : Int)))] Ty.ag28 Ty.sz28) (jp_ 2 rfl av_ (j1_ 3 (jio_ rfl (stG 1 Ty.sz28 ?_)) (fun _ h => ⟨h.keepN 5 [true, false, true, true, true] rfl, fun _ => h⟩))))
     refine jp_ 4 rfl av_ ?_
     refine JA_done (by kernel_rfl) (gl_ rfl (fun _ h => h.keepN 5 [true, false, true, true, true] rfl)) ?_
     refine n_ (rt_ ?_)
     refine JX_retsMW Ds [_, _, _] (Value.tuple #[_, _, _]) rfl Tryz.results5 [Ent.blk b33 28 [vI ((rout.length : Nat) : Int), vI ((np : Nat) : Int), vI (0 + (0 - ((([] : List Bytes).length : Nat) : Int)))], Ent.blk b4 28 [vI ((rout.length : Nat) : Int), vI ((np : Nat) : Int), vI (0 + (0 - ((([] : List Bytes).length : Nat) : Int)))], Ent.blk b3 35 [Value.nilFunc, Value.nilFunc], Ent.blk b2 23 [vL lA l.length lC], Ent.blk b1 25 [vI m, vI ((kf : Nat) : Int)]] (fun _ h => tail_front 5 h rfl) (fun w h => ⟨rfl, ⟨_, rfl, load_blkN 1 [vI ((rout.length : Nat) : Int), vI ((np : Nat) : Int), vI (0 + (0 - ((([] : List Bytes).length : Nat) : Int)))] h rfl Ty.ag28 Ty.sz28 rfl⟩, rfl, trivial⟩) rfl [] (fun _ h => h.keep [false, false, false, false, false] rfl) (fun _ _ h => (hB32.back _ _ (hB1.back _ _ h))) (fun wx hw => ⟨([] : List Bytes), none, 0, ((rout.length : Nat) : Int), ((np : Nat) : Int), 0 + (0 - ((([] : List Bytes).length : Nat) : Int)), 0, ?_, ?_, RO.nil, (Nat.zero_le _), ?_⟩)
     ·rfl
     ·rfl
     ·first | exact R44.sv_1 (by assumption) | exact R44.sv_2 (by assumption) (by assumption) | exact R44.sv_5 (fan := (kf : Int)) (by assumption) (by assumption) (R44.inR_id (by assumption)) (by first | decide | assumption) (R44.one_row (m := m.toNat) (by omega) (by omega) i1_0 (by omega)).1 R44.sums_no (by first | decide | assumption) c44m0_ (R44.one_row (m := m.toNat) (by omega) (by omega) i1_0 (by omega)).2 (by first | rfl | omega) | exact R44.sv_5 (fan := (kf : Int)) (by assumption) (by assumption) (R44.inR_id (by assumption)) (by first | decide | assumption) (R44.one_none (by omega) (R44.one_row (m := m.toNat) (by omega) (by omega) i1_0 (by omega)).1) R44.sums_no (by first | decide | assumption) c44m0_ (R44.one_row (m := m.toNat) (by omega) (by omega) i1_0 (by omega)).2 (by first | rfl | omega)
end Go.Proofs.YtmacopacmpgieaaGreatDoor

namespace Go.Proofs.YtmacopacmpgieaaGreatDoor
open Go.GV
namespace R44
abbrev ONE : List SortField := [SortField.mk 0 1 0 false]
abbrev TWO : List SortField := [SortField.mk 0 1 0 true]
end R44
end Go.Proofs.YtmacopacmpgieaaGreatDoor
namespace Go.GV
open Go.Lib
end Go.GV

namespace Go.Proofs.YtmacopacmpgieaaGreatDoor
open Go.GV
namespace R44
theorem inR_len (f : Bytes → Bytes × Bool) (rs : List Bytes) : (inR f rs).1.length ≤ rs.length := by
  unfold inR
  cases hi : inputs f rs with
  | none => exact Nat.zero_le _
  | some r => exact (inputs_len hi).1
theorem sortV_len (l : List SortField) (m fan : Int) (fi : Bytes → Bytes × Bool) (fs : Bytes → Bytes → Bytes × Bool) (rs : List Bytes) : (sortV l m fan fi fs rs).1.length ≤ rs.length := by
  unfold sortV
  split
  · exact Nat.zero_le _
  split
  · exact Nat.zero_le _
  split
  · exact Nat.zero_le _
  split
  · exact Nat.zero_le _
  rename_i h
  have h1 := sums_len (c := cmpL l) (f := fs) (Srt.srt (cmpL l) (inR fi rs).1) [] (by omega)
  rw [Srt.srt_len] at h1
  have := inR_len fi rs
  simp only [List.length_nil, Nat.zero_add] at h1
  show (sums (cmpL l) fs [] (Srt.srt (cmpL l) (inR fi rs).1)).1.length ≤ rs.length
  omega
theorem sv_len {l : List SortField} {m fan : Int} {fi : Bytes → Bytes × Bool} {fs : Bytes → Bytes → Bytes × Bool} {rs out : List Bytes} {w : SortWork} {e : Int} (h : (out, w, e) = sortV l m fan fi fs rs) : out.length ≤ rs.length := by
  have := sortV_len l m fan fi fs rs; rw [← h] at this; exact this
end R44
end Go.Proofs.YtmacopacmpgieaaGreatDoor

namespace Go.Proofs.YtmacopacmpgieaaGreatDoor
open Go.GV
open Srt (Cmp)
namespace R44
end R44
end Go.Proofs.YtmacopacmpgieaaGreatDoor

namespace Go.Proofs.YtmacopacmpgieaaGreatDoor
open Go.GV
open Srt (Cmp)
namespace R44
def turn (f : SortField) : SortField := SortField.mk f.At f.Length f.Kind (!f.Descending)
end R44
end Go.Proofs.YtmacopacmpgieaaGreatDoor

namespace Go.Proofs.YtmacopacmpgieaaGreatDoor
open Go.GV
namespace Srt
variable {α : Type} {c : α → α → Int}
end Srt
open Srt (Cmp)
namespace R44
theorem sv_plain {l : List SortField} {m fan a b d e : Int} {rs out : List Bytes} (hv : valid l = true) (hm : 1 ≤ m) (hm2 : m ≤ 1024) (hf : 2 ≤ fan) (hf2 : fan ≤ 16) (hl : rs.length ≤ 1024) (hs : ∀ i, (rs.getD i []).length ≤ 1000)
    (h : (out, SortWork.mk a b d, e) = sortV l m fan idF noF rs) : out = Srt.srt (cmpL l) rs ∧ e = 0 ∧ a = ((Srt.runs (cmpL l) m.toNat rs).length : Int) ∧ b = ((Srt.rounds (cmpL l) fan.toNat (Srt.runs (cmpL l) m.toNat rs)).2 : Int) ∧ d = 0 := by
  have h1 : g1 l m fan = false := by
    unfold g1
    simp only [hv, Bool.not_true, Bool.or_eq_false_iff, decide_eq_false_iff_not, true_and]
    omega
  have h2 : g2 rs = false := by
    unfold g2
    rw [Bool.or_eq_false_iff]
    exact ⟨decide_eq_false (by omega), (long_none fun i _ => hs i).symm⟩
  unfold sortV at h
  rw [if_neg (by rw [h1]; decide), if_neg (by rw [h2]; decide), ← inR_id h2, if_neg (by simp), ← sums_no, if_neg (by simp)] at h
  simp only [Srt.srt_len, Int.sub_self] at h
  cases h
  exact ⟨rfl, rfl, rfl, rfl, rfl⟩
theorem few_plain {rs : List Bytes} {n : Int} (h : few rs n = true) (hn : n ≤ 1024) : rs.length ≤ 1024 ∧ ∀ i, (rs.getD i []).length ≤ 1000 := by
  have := few_facts h
  exact ⟨by omega, fun i => by have := this.2 i; omega⟩
end R44
end Go.Proofs.YtmacopacmpgieaaGreatDoor
namespace Go.GV
end Go.GV
namespace Go.Proofs.YtmacopacmpgieaaGreatDoor
open Go.GV
namespace R44
structure MgJ (l : List SortField) (sorted : List Rw) (all : List Bytes) (k : Nat) : Prop where
  eq : all = (sorted.map Rw.s).flatten
  ord : ∀ x ∈ sorted.map Rw.s, Srt.Ordered (cmpL l) x
  cap : ∀ i, (sorted.getD i default).s.length ≤ (sorted.getD i default).sC
  short : ∀ i j, ((sorted.getD i default).s.getD j []).length ≤ 60
  len : sorted.length = k
  al : all.length ≤ 10 * k
  shortA : ∀ i, (all.getD i []).length ≤ 60
theorem MgJ.start {l : List SortField} : MgJ l [] [] 0 := ⟨rfl, fun _ h => (by cases h), fun _ => Nat.le_refl _, fun _ _ => Nat.zero_le _, rfl, Nat.le_refl _, fun _ => Nat.zero_le _⟩
theorem getD_app {α : Type} {l m : List α} {d : α} {p : α → Prop} (h : ∀ i, p (l.getD i d)) (h2 : ∀ i, p (m.getD i d)) (i : Nat) : p ((l ++ m).getD i d) := by
  by_cases hi : i < l.length
  · have := h i
    rwa [List.getD_eq_getElem?_getD, ← List.getElem?_append_left (l₂ := m) hi, ← List.getD_eq_getElem?_getD] at this
  · have := h2 (i - l.length)
    rwa [List.getD_eq_getElem?_getD, ← List.getElem?_append_right (l₁ := l) (by omega), ← List.getD_eq_getElem?_getD] at this
theorem getD_one {α : Type} {d x : α} {p : α → Prop} (h : p x) (h2 : p d) : ∀ i : Nat, p ([x].getD i d)
  | 0 => h
  | _ + 1 => h2
theorem few_short {rs : List Bytes} {n : Int} (h : few rs n = true) {out : List Bytes} (hp : out.Perm rs) (i : Nat) : (out.getD i []).length ≤ 60 := by
  by_cases hi : i < out.length
  · obtain ⟨j, hj, e⟩ := getD_ex (d := []) (hp.mem_iff.1 (getD_mem (d := []) hi))
    rw [← e]; exact (few_facts h).2 j
  · rw [List.getD_eq_getElem?_getD, List.getElem?_eq_none (by omega)]; exact Nat.zero_le _
theorem MgJ.step {l : List SortField} {sorted : List Rw} {all rs out : List Bytes} {k C : Nat} {A : Option Addr} {a b d e : Int} (h : MgJ l sorted all k) (hf : few rs 10 = true) (hv : valid l = true) (hs : (out, SortWork.mk a b d, e) = sortV l 5 2 idF noF rs) (hc : out.length ≤ C) : MgJ l (sorted ++ [Rw.mk out A C]) (all ++ out) (k + 1) := by
  have hp := few_plain hf (by decide)
  have hq := (sv_plain hv (by decide) (by decide) (by decide) (by decide) hp.1 hp.2 hs).1
  have hpm : out.Perm rs := by rw [hq]; exact Srt.srt_perm rs
  have hl := (few_facts hf).1
  have hl2 := hpm.length_eq
  have hal := h.al
  refine ⟨?_, ?_, getD_app (p := fun r : Rw => r.s.length ≤ r.sC) h.cap (getD_one (p := fun r : Rw => r.s.length ≤ r.sC) hc (Nat.le_refl _)), getD_app (p := fun r : Rw => ∀ j, (r.s.getD j []).length ≤ 60) h.short (getD_one (p := fun r : Rw => ∀ j, (r.s.getD j []).length ≤ 60) (fun j => few_short hf hpm j) (fun _ => Nat.zero_le _)), ?_, ?_, ?_⟩
  · rw [List.map_append, List.flatten_append, ← h.eq]; simp
  · intro x hx
    rw [List.map_append, List.mem_append] at hx
    rcases hx with hx | hx
    · exact h.ord x hx
    · rw [List.map_cons, List.map_nil, List.mem_singleton] at hx
      have hx2 : x = out := hx
      rw [hx2, hq]; exact Srt.srt_ordered (cmpL_ok l) rs
  · rw [List.length_append, h.len]; rfl
  · rw [List.length_append]; omega
  · exact getD_app (p := fun r : Bytes => r.length ≤ 60) h.shortA (fun i => few_short hf hpm i)
theorem MgJ.bad {l : List SortField} {rs out : List Bytes} {a b d e : Int} (hf : few rs 10 = true) (hv : valid l = true) (hs : (out, SortWork.mk a b d, e) = sortV l 5 2 idF noF rs) (he : e ≠ 0) : False := by
  have hp := few_plain hf (by decide)
  exact he (sv_plain hv (by decide) (by decide) (by decide) (by decide) hp.1 hp.2 hs).2.1
theorem MgJ.law {l : List SortField} {sorted : List Rw} {all out : List Bytes} {k : Nat} {a b d e : Int} (h : MgJ l sorted all k) (hk : k ≤ 6) (hv : valid l = true) (hs : (out, SortWork.mk a b d, e) = sortV l 5 2 idF noF all) : ((decide (e = 0)) && (decide (mergeV l (sorted.map Rw.s) = out))) = true := by
  have hal := h.al
  have hq := sv_plain hv (by decide) (by decide) (by decide) (by decide) (by omega) (fun i => by have := h.shortA i; omega) hs
  have e2 : mergeV l (sorted.map Rw.s) = out := by
    unfold mergeV
    rw [if_pos hv, Srt.merge_sorts (cmpL_ok l) h.ord, hq.1, ← h.eq]
  rw [e2, hq.2.1]; simp
end R44
end Go.Proofs.YtmacopacmpgieaaGreatDoor
