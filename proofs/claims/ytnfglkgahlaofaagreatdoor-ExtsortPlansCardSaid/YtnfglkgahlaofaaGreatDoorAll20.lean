/- C44k, C44l, C44m, Pl44m in one text. -/
import Derived.Test.YtnfglkgahlaofaaGreatDoorAll19
import Derived.Test.YtnfglkgahlaofaaGreatDoorAll11
import Derived.Test.YtnfglkgahlaofaaGreatDoorAll13
namespace Go.Proofs.YtnfglkgahlaofaaGreatDoor
open Go.GV
set_option linter.unusedVariables false
set_option linter.unusedSimpArgs false
theorem c44k12_ {p : Prop} (h : p := by first | exact R44.ix_yes (by omega) (by omega) | exact R44.ix_no (fun i hi => i1_1 i (by omega))) : p := h
set_option maxRecDepth 20000 in
theorem f38_ok (s : Bytes) (w : World) (q0 : s.length ≤ 9223372036854775807) : Calls Tryz.prog 38 #[vS s] w (Gives [] w fun v L => v = vB (decide ((1000 : Int) < ((s.length : Nat) : Int))) ∧ L = []) := by
 refine calls_J [] 6 Tryz.func38 rfl Tryz.ntmps38 [(0, _)] rfl rfl (Give.nil w) ?_
 refine q_ (g_ (s_ av_ (z_ (n_ (q_ (g_ (s_ mv_ (s_ (x_len_s rfl Tryz.underlying9) (s_ (x_gtr_i rfl rfl) (s_ av_ (z_ (n_ (rt_ ?_)))))))))))))
 exact p1 Tryz.results38 rfl ⟨rfl, rfl⟩
set_option maxRecDepth 20000 in
theorem f67_ok (rs : List Bytes) (rsA : Option Addr) (rsC : Nat) (w : World) (rsR : RO [] w rsA (rs.map vS)) (q0 : rs.length ≤ 9223372036854775807) (q1 : ∀ i, (rs.getD i []).length ≤ 9223372036854775807) : Calls Tryz.prog 67 #[vL rsA rs.length rsC, Value.func (.func 38) #[] #[]] w (Gives [] w fun v L => ∃ r : Int, v = vI r ∧ L = [] ∧ (-1 ≤ r) ∧ (decide (0 ≤ r) = R44.long rs)) := by
 refine calls_J [] 19 Tryz.func67 rfl Tryz.ntmps67 [(0, _), (1, _)] rfl rfl (Give.nil w) ?_
 refine q_ (g_ (s_ av_ (z_ (n_ (q_ (q_ (g_ (s_ mv_ (s_ (lnS Tryz.underlying22) (s_ mv_ (z_ (n_ (k_ ?_)))))))))))))
 refine J_loop (X := Nat) (fun (k : Nat) => (k ≤ rs.length) ∧ (∀ i, i < k → (rs.getD i []).length ≤ 1000)) (fun (k : Nat) => [(0, vL rsA rs.length rsC), (1, Value.func (.func 38) #[] #[]), (7, vI ((rs.length : Nat) : Int)), (8, vI ((k : Nat) : Int))]) (fun (k : Nat) => []) (fun (k : Nat) => rs.length - k) (0 : Nat) ?_ ⟨rfl, rfl, rfl, rfl, trivial⟩ (fun _ h => h) ?_
 ·try dsimp only
  refine ⟨?_, ?_⟩
  ·first | rfl | omega | (simp_all; done) | (simp_all; omega)
  ·intro i hi; omega
 intro k hI1
 obtain ⟨i1_0, i1_1⟩ := hI1
 try dsimp only at i1_0
 try dsimp only at i1_1
 have hqk := q1 k
 try dsimp only
 refine q_ (g_ (s_ (x_lss_i rfl rfl) (z_ (n_ (q_ ?_)))))
 refine ifd (fun h1w h1 => ?_) (fun h1w h1 => ?_)
 ·refine sk_ (n_ (q_ (k_ (q_ (g_ (s_ mv_ (s_ av_ (z_ (n_ (q_ (g_ (s_ mv_ (s_ mv_ (s_ mv_ (r_ (ixM (cells_ro rsR) Tryz.underlying22 Ty.sz9) (r_ (ldM vS [] (cells_ro rsR) Ty.sc9) (c0 (x_callv (first := []) (caps := []) rfl Ty.ca38 rfl) (fun w hS => f38_ok _ w hy_) ?_)))))))))))))))))
  refine z_ (n_ ?_)
  refine ifd (fun h2w h2 => ?_) (fun h2w h2 => ?_)
  ·refine q_ (g_ (s_ mv_ (s_ av_ (z_ (n_ (rt_ (kq_ (nr_ (rr_ (kq_ (nr_ ?_)))))))))))
   refine JX_rets [_] _ Tryz.results67 (fun w h => ⟨rfl, trivial⟩) rfl _ (fun _ h => h) ⟨((k : Nat) : Int), ?_, ?_, ?_, ?_⟩
   ·rfl
   ·rfl
   ·omega
   ·exact c44k12_
  ·refine sk_ (kx_ (n_ (g_ (s_ (x_add_n (a := k) (b := 1) rfl rfl (by omega)) (s_ mv_ (z_ ?_))))))
   refine JX_round (k + 1 : Nat) ?_ ?_ ⟨rfl, rfl, rfl, rfl, trivial⟩ (fun _ h => h)
   ·try dsimp only
    refine ⟨?_, ?_⟩
    ·first | rfl | omega | (simp_all; done) | (simp_all; omega)
    ·intro i hi
     by_cases hik : i = k
     ·subst hik; omega
     ·exact i1_1 i (by omega)
   ·try dsimp only
    first | omega | (simp; omega) | (simp_all; omega)
 ·refine J_exit (ne_ (re_ (kh_ (n_ (q_ ?_)))))
  refine g_ (s_ av_ (z_ (n_ (rt_ ?_))))
  refine JX_rets [_] _ Tryz.results67 (fun w h => ⟨rfl, trivial⟩) rfl _ (fun _ h => h) ⟨(-1), ?_, ?_, ?_, ?_⟩
  ·rfl
  ·rfl
  ·omega
  ·exact c44k12_
set_option maxRecDepth 20000 in
theorem f37_ok (rs : List Bytes) (rsA : Option Addr) (rsC : Nat) (w : World) (rsR : RO [] w rsA (rs.map vS)) (q0 : rs.length ≤ 9223372036854775807) (q1 : ∀ i, (rs.getD i []).length ≤ 9223372036854775807) : Calls Tryz.prog 37 #[vL rsA rs.length rsC, Value.func (.func 38) #[] #[]] w (Gives [] w fun v L => v = vB (R44.long rs) ∧ L = []) := by
 refine calls_J [] 9 Tryz.func37 rfl Tryz.ntmps37 [(0, _), (1, _)] rfl rfl (Give.nil w) ?_
 refine q_ (g_ (s_ av_ (z_ (n_ (q_ (g_ (s_ mv_ (s_ mv_ ?_))))))))
 refine c1 (cl_ Ty.ca67) (fun w hS => f67_ok rs rsA rsC w (rno rsR hS) hy_ hy_) ?_
 rintro _ _ ⟨r1, rfl, rfl, hf2, hf3⟩
 refine s_ (x_geq_i rfl rfl) (s_ av_ (z_ (n_ (rt_ ?_))))
 exact p1 Tryz.results37 rfl ⟨(eB (by assumption)), rfl⟩
set_option maxRecDepth 20000 in
theorem f39_ok (rs : List Bytes) (rsA : Option Addr) (rsC : Nat) (w : World) (rsR : RO [] w rsA (rs.map vS)) (q0 : rs.length ≤ 1000000) (q1 : ∀ i, (rs.getD i []).length ≤ 1000000) : Calls Tryz.prog 39 #[vL rsA rs.length rsC, Value.nilFunc] w (Gives [] w fun v L => ∃ A2 : Option Addr, ∃ c2 : Nat, v = Value.tuple #[vL A2 rs.length c2, vI 0, vI 0] ∧ L = [Ent.row (.slice A2 rs.length c2) 9 1 rs.length (rs.map vS)]) := by
 refine calls_J [] 44 Tryz.func39 rfl Tryz.ntmps39 [(0, _), (1, _)] rfl rfl (Give.nil w) ?_
 refine q_ (g_ (s_ av_ (s_ av_ (s_ av_ (z_ (n_ (q_ (q_ (g_ (s_ mv_ (s_ (x_eql_nil rfl rfl Tryz.underlying38) (z_ (n_ (ift (q_ (g_ (s_ mv_ ?_)))))))))))))))))
 refine c1 (cl_ Ty.ca68) (fun w hS => f68_ok rs rsA rsC w (rno rsR hS) hy_) ?_
 rintro _ _ ⟨e1, e2, rfl, rfl⟩
 refine s_ av_ (s_ av_ (s_ av_ (z_ (n_ (rt_ (nr_ ?_))))))
 refine JX_rets [_, _, _] (Value.tuple #[_, _, _]) Tryz.results39 (fun w h => ⟨rfl, rfl, rfl, trivial⟩) rfl _ (fun _ h => h) ⟨e1, e2, ?_, ?_⟩
 ·rfl
 ·rfl
set_option maxRecDepth 20000 in
theorem f41_ok (rs : List Bytes) (rsA : Option Addr) (rsC : Nat) (l : List SortField) (lA : Option Addr) (lC : Nat) (w : World) (rsR : RO [] w rsA (rs.map vS)) (lR : RO [] w lA (l.flatMap SortField.enc)) : Calls Tryz.prog 41 #[vL rsA rs.length rsC, vL lA l.length lC, Value.nilFunc] w (Gives [] w fun v L => v = Value.tuple #[vL rsA rs.length rsC, vI 0] ∧ L = []) := by
 refine calls_J [] 67 Tryz.func41 rfl Tryz.ntmps41 [(0, _), (1, _), (2, _)] rfl rfl (Give.nil w) ?_
 refine q_ (g_ (s_ av_ (s_ av_ (z_ (n_ (q_ (q_ (g_ (s_ mv_ (s_ (x_eql_nil rfl rfl Tryz.underlying39) (z_ (n_ (ift (q_ (g_ (s_ mv_ (s_ av_ (s_ av_ ?_))))))))))))))))))
 refine z_ (n_ (rt_ (nr_ ?_)))
 exact p2 Tryz.results41 rfl rfl ⟨rfl, rfl⟩
end Go.Proofs.YtnfglkgahlaofaaGreatDoor

namespace Go.Proofs.YtnfglkgahlaofaaGreatDoor
open Go.GV
set_option linter.unusedVariables false
set_option linter.unusedSimpArgs false
set_option maxRecDepth 20000 in
theorem f40_ok (rws : List Rw) (rwsA : Option Addr) (rwsC : Nat) (n : Nat) (w : World) (rwsR : RO [] w rwsA (rws.flatMap Rw.enc)) (rwsN : ∀ i : Nat, RO [] w (rws.getD i default).sA (((rws.getD i default).s).map vS)) (q0 : 1 ≤ n) (q1 : n ≤ 1000000) : Calls Tryz.prog 40 #[vL rwsA rws.length rwsC, vI ((n : Nat) : Int)] w (Gives [] w fun v L => ∃ bp : Nat, ∃ bq : Nat, v = Value.func (.func 69) #[] #[pB bp 0, pB bq 0] ∧ L = [Ent.blk bp 23 [vL rwsA rws.length rwsC], Ent.blk bq 3 [vI ((n : Nat) : Int)]]) := by
 refine calls_J [] 9 Tryz.func40 rfl Tryz.ntmps40 [(0, _), (1, _)] rfl rfl (Give.nil w) ?_
 refine q_ (g_ (o_ (bx1 fun b1 => ?_)))
 refine o_ (bx1 fun b2 => ?_)
 refine s_ av_ (z_ (n_ (q_ (q_ (g_ (r_ (ld_ 0 Ty.sc3) (s_ (x_lss_i rfl rfl) (z_ (n_ ?_)))))))))
 refine ifd (fun h3w h3 => ?_) (fun h3w h3 => ?_)
 ·exfalso; omega
 ·refine sk_ (n_ (q_ (g_ (js_ (Value.func (.func 69) #[] #[pB b1 0, pB b2 0]) (x_makeFunc rfl rfl) (s_ av_ (z_ (n_ (rt_ ?_))))))))
  refine JX_rets [_] _ Tryz.results40 (fun w h => ⟨rfl, trivial⟩) rfl [Ent.blk b1 23 [vL rwsA rws.length rwsC], Ent.blk b2 3 [vI ((n : Nat) : Int)]] (fun _ h => (h.front 1 _ rfl).keep [true, true] rfl) ⟨b1, b2, ?_, ?_⟩
  ·rfl
  ·rfl
set_option maxRecDepth 20000 in
theorem f69_ok (yl : Nat) (X : Type) (I : List Part → X → Prop) (Lf : List Part → X → List Ent) (x0 : X) (bp : Nat) (bq : Nat) (rws : List Rw) (rwsA : Option Addr) (rwsC : Nat) (n : Nat) (w : World) (rwsR : RO (Lown (Ent.blk bp 23 [vL rwsA rws.length rwsC] :: Ent.blk bq 3 [vI ((n : Nat) : Int)] :: (Lf ([] : List Part) x0))) w rwsA (rws.flatMap Rw.enc)) (rwsN : ∀ i : Nat, RO (Lown (Ent.blk bp 23 [vL rwsA rws.length rwsC] :: Ent.blk bq 3 [vI ((n : Nat) : Int)] :: (Lf ([] : List Part) x0))) w (rws.getD i default).sA (((rws.getD i default).s).map vS)) (hY : YieldOk Tryz.prog yl (Lown (Ent.blk bp 23 [vL rwsA rws.length rwsC] :: Ent.blk bq 3 [vI ((n : Nat) : Int)] :: (Lf ([] : List Part) x0))) w Part.enc I Lf (R44.parts n rws rwsA)) (hI0 : I [] x0) (q2 : 1 ≤ n) (q3 : n ≤ 1000000) (q4 : rws.length ≤ 1000000) (q5 : rws.length ≤ rwsC) (hg : Give (Lown (Ent.blk bp 23 [vL rwsA rws.length rwsC] :: Ent.blk bq 3 [vI ((n : Nat) : Int)] :: (Lf ([] : List Part) x0))) w (Ent.blk bp 23 [vL rwsA rws.length rwsC] :: Ent.blk bq 3 [vI ((n : Nat) : Int)] :: (Lf ([] : List Part) x0))) : Calls Tryz.prog 69 #[Value.func (.yield yl) #[] #[], pB bp 0, pB bq 0] w (Gives (Lown (Ent.blk bp 23 [vL rwsA rws.length rwsC] :: Ent.blk bq 3 [vI ((n : Nat) : Int)] :: (Lf ([] : List Part) x0))) w fun v L => ∃ st : X, v = Value.tuple #[] ∧ L = ((Lf (R44.parts n rws rwsA) st)) ∧ (I (R44.parts n rws rwsA) st)) := by
 refine calls_J (Lown (Ent.blk bp 23 [vL rwsA rws.length rwsC] :: Ent.blk bq 3 [vI ((n : Nat) : Int)] :: (Lf ([] : List Part) x0))) 31 Tryz.func69 rfl Tryz.ntmps69 [(0, _), (1, _), (2, _)] rfl rfl hg ?_
 refine q_ (g_ (s_ av_ (z_ (n_ (k_ ?_)))))
 refine J_loop (X := Nat × (List Part) × X) (fun (⟨lo, pre, st⟩ : Nat × (List Part) × X) => (R44.PartJ n rws rwsA pre lo) ∧ (I pre st) ∧ (lo ≤ rws.length + n)) (fun (⟨lo, pre, st⟩ : Nat × (List Part) × X) => [(0, Value.func (.yield yl) #[] #[]), (1, pB bp 0), (2, pB bq 0), (4, vI ((lo : Nat) : Int))]) (fun (⟨lo, pre, st⟩ : Nat × (List Part) × X) => (Ent.blk bp 23 [vL rwsA rws.length rwsC] :: Ent.blk bq 3 [vI ((n : Nat) : Int)] :: (Lf pre st))) (fun (⟨lo, pre, st⟩ : Nat × (List Part) × X) => rws.length + n - lo) ((0, ([] : List Part), x0) : Nat × (List Part) × X) ?_ ⟨rfl, rfl, rfl, rfl, trivial⟩ (fun _ h => h) ?_
 ·try dsimp only
  refine ⟨?_, ?_, ?_⟩
  ·exact R44.PartJ.start
  ·exact hI0
  ·first | rfl | omega | (simp_all; done) | (simp_all; omega)
 rintro ⟨lo, pre, st⟩ hI1
 obtain ⟨i1_0, i1_1, i1_2⟩ := hI1
 try dsimp only at i1_0
 try dsimp only at i1_1
 try dsimp only at i1_2
 try dsimp only
 refine q_ (q_ (g_ (s_ mv_ (r_ (ld_ 0 Ty.sc23) (s_ (lnS Tryz.underlying23) (s_ (x_lss_i rfl rfl) (z_ (n_ ?_))))))))
 refine ifd (fun h1w h1 => ?_) (fun h1w h1 => ?_)
 ·refine sk_ (n_ (q_ (k_ (q_ ?_))))
  refine drB [] 7 Ty.mixed ?_
  refine jq_ 0 rfl (ld_ 1 Ty.sc3) (jq_ 1 rfl (ld_ 0 Ty.sc23) (jp_ 2 rfl mv_ (jp_ 3 rfl (x_subrow (lo := lo) (hi := rws.length) rfl Tryz.underlying23 Ty.sz22 (.inl rfl) (.inr ⟨rfl, rfl⟩) lt_ lt_) (jp_ 4 rfl (lnS Tryz.underlying23) (jp_ 5 rfl (x_min_n (a := n) (b := rws.length - lo) rfl rfl) (jp_ 6 rfl av_ ?_))))))
  refine JA_done (by kernel_rfl) gm_ ?_
  refine n_ (q_ (g_ (s_ mv_ (r_ (ld_ 0 Ty.sc23) (s_ mv_ (s_ mv_ (s_ mv_ (s_ (x_add_n (a := lo) (b := min n (rws.length - lo)) rfl rfl (by omega)) (s_ mv_ (s_ mv_ (s_ (x_add_n (a := lo) (b := min n (rws.length - lo)) rfl rfl (by omega)) ?_)))))))))))
  refine s_ (x_subrow3 (lo := lo) (hi := lo + (min n (rws.length - lo))) (mx := lo + (min n (rws.length - lo))) rfl Tryz.underlying23 Ty.sz22 rfl rfl rfl lt_ lt_ lt_) ?_
  refine JO_weaken (E' := [(0, Value.func (.yield yl) #[] #[]), (1, pB bp 0), (2, pB bq 0), (4, vI ((lo : Nat) : Int)), (6, vI ((lo : Nat) : Int)), (7, vL rwsA rws.length rwsC), (8, vI ((rws.length : Nat) : Int)), (9, vB (decide (((lo : Nat) : Int) < ((rws.length : Nat) : Int)))), (13, vI ((n : Nat) : Int)), (14, vL rwsA rws.length rwsC), (15, vI ((lo : Nat) : Int)), (16, vL (subA rwsA rwsC lo 1) (rws.length - lo) (rwsC - lo)), (17, vI ((rws.length - lo : Nat) : Int)), (18, vI ((min n (rws.length - lo) : Nat) : Int)), (5, vI ((min n (rws.length - lo) : Nat) : Int)), (19, Value.func (.yield yl) #[] #[]), (20, vL rwsA rws.length rwsC), (21, vI ((lo : Nat) : Int)), (22, vI ((lo : Nat) : Int)), (23, vI ((min n (rws.length - lo) : Nat) : Int)), (24, vI ((lo + (min n (rws.length - lo)) : Nat) : Int)), (25, vI ((lo : Nat) : Int)), (26, vI ((min n (rws.length - lo) : Nat) : Int)), (27, vI ((lo + (min n (rws.length - lo)) : Nat) : Int)), (28, vL (subA rwsA (lo + (min n (rws.length - lo))) lo 1) (min n (rws.length - lo)) (min n (rws.length - lo)))]) (L' := (Ent.blk bp 23 [vL rwsA rws.length rwsC] :: Ent.blk bq 3 [vI ((n : Nat) : Int)] :: (Lf pre st))) ⟨rfl, rfl, rfl, rfl, rfl, rfl, rfl, rfl, rfl, rfl, rfl, rfl, rfl, rfl, rfl, rfl, rfl, rfl, rfl, rfl, rfl, rfl, rfl, rfl, (sl_ lt_ lt_), trivial⟩ (fun _ h => h) ?_
  refine JO_yield hY (pre := pre) (a := (Part.mk ((rws.drop lo).take (min n (rws.length - lo))) (subA rwsA (lo + (min n (rws.length - lo))) lo 1) (min n (rws.length - lo)))) (st := st) (i1_0.yield q2 (by omega)) i1_1 [Ent.blk bp 23 [vL rwsA rws.length rwsC], Ent.blk bq 3 [vI ((n : Nat) : Int)]] rfl trivial rfl R44.part_enc (fun _ h => h) (fun st2 hI3 => ?_)
  refine jr_ (vB false) (z_ (xk_ [0, 1, 2, 4, 30] ?_))
  refine n_ (iff_ (sk_ (kx_ (n_ (g_ (s_ mv_ (r_ (ld_ 1 Ty.sc3) (s_ (x_add_n (a := lo) (b := n) rfl rfl (by omega)) (s_ av_ (z_ ?_))))))))))
  refine JX_round ((lo + n, (pre ++ [(Part.mk ((rws.drop lo).take (min n (rws.length - lo))) (subA rwsA (lo + (min n (rws.length - lo))) lo 1) (min n (rws.length - lo)))]), st2) : Nat × (List Part) × X) ?_ ?_ ⟨rfl, rfl, rfl, rfl, trivial⟩ (fun _ h => h)
  ·try dsimp only
   refine ⟨?_, ?_, ?_⟩
   ·exact i1_0.step q2 (by omega)
   ·assumption
   ·first | rfl | omega | (simp_all; done) | (simp_all; omega)
  ·try dsimp only
   first | omega | (simp; omega) | (simp_all; omega)
 ·refine J_exit (ne_ (re_ (kh_ ?_)))
  refine JX_end0 Tryz.results69 ((Lf pre st)) (fun _ h => h.keepN 2 [false, false] rfl) ⟨st, ?_, ?_, ?_⟩
  ·rfl
  ·rw [i1_0.done (by omega)]
  ·rw [← i1_0.done (by omega)]; assumption
end Go.Proofs.YtnfglkgahlaofaaGreatDoor

namespace Go.Proofs.YtnfglkgahlaofaaGreatDoor
open Go.GV
set_option linter.unusedVariables false
set_option linter.unusedSimpArgs false
theorem c44m0_ {p : Prop} (h : p := by rw [← R44.runsV_yes hg1.2.1 hg1.1 (by assumption), List.length_map]) : p := h
set_option maxHeartbeats 4000000 in
set_option maxRecDepth 20000 in
theorem f18_ok (rs : List Bytes) (rsA : Option Addr) (rsC : Nat) (m : Int) (fan : Int) (l : List SortField) (lA : Option Addr) (lC : Nat) (w : World) (rsR : RO [] w rsA (rs.map vS)) (lR : RO [] w lA (l.flatMap SortField.enc)) (q0 : rs.length ≤ 1000000) (q1 : ∀ i, (rs.getD i []).length ≤ 1000000) (q2 : rs.length ≤ rsC) (q3 : l.length ≤ 9223372036854775807) : Calls Tryz.prog 18 #[vL rsA rs.length rsC, vG [vI m, vI fan], vL lA l.length lC, vG [Value.nilFunc, Value.nilFunc]] w (GivesW [] w fun v L wx => ∃ out : List Bytes, ∃ outA : Option Addr, ∃ outC : Nat, ∃ v1 : Int, ∃ v2 : Int, ∃ v3 : Int, ∃ e : Int, v = Value.tuple #[vL outA out.length outC, vG [vI v1, vI v2, vI v3], vI e] ∧ L = [] ∧ RO (List.range w.heap.size) wx outA (out.map vS) ∧ out.length ≤ outC ∧ ((out, SortWork.mk v1 v2 v3, e) = R44.sortV l m fan R44.idF R44.noF rs)) := by
 refine calls_JNW [] 120 Tryz.func18 rfl Tryz.ntmps18 [(0, _), (1, _), (2, _), (3, _)] rfl rfl (Give.nil w) ?_
 refine q_ (g_ (o_ (bxG fun b1 => ?_)))
 refine o_ (bx1 fun b2 => ?_)
 refine o_ (bxG fun b3 => ?_)
 refine s_ av_ (o_ (al_ Ty.ze34 fun b4 => ?_))
 refine s_ av_ (z_ (n_ (q_ (q_ (g_ (r_ (ld_ 2 Ty.sc24) (c0 (cl_ Ty.ca21) (fun w hS => f21_ok l lA lC w (rno lR hS) hy_) (s_ (x_not rfl) (s_ mv_ ?_)))))))))
 refine or_ 3 (decide (m < 1)) (fun g5 => ?_) ?_
 ·have g5r := g5
  have g5r : (R44.valid l) = true := bnot_false g5r
  have hi6 := R44.valid_facts g5r
  refine sg_ g5 (fA 0 Ty.fi32_0) (rg_ g5 (ld_ 3 Ty.sc3) (sg_ g5 (x_lss_i rfl rfl) ?_))
  exact cr_
 refine s_ mv_ ?_
 refine or_ 3 (decide ((1024 : Int) < m)) (fun g7 => ?_) ?_
 ·have g7r := g7
  have ⟨g7r, h8⟩ := bor_false g7r
  have g7r : (R44.valid l) = true := bnot_false g7r
  have hi9 := R44.valid_facts g7r
  have h8 := of_decide_eq_false h8
  refine sg_ g7 (fA 0 Ty.fi32_0) (rg_ g7 (ld_ 3 Ty.sc3) (sg_ g7 (x_gtr_i rfl rfl) ?_))
  exact cr_
 refine s_ mv_ ?_
 refine or_ 3 (decide (fan < 2)) (fun g10 => ?_) ?_
 ·have g10r := g10
  have ⟨g10r, h11⟩ := bor_false g10r
  have ⟨g10r, h12⟩ := bor_false g10r
  have g10r : (R44.valid l) = true := bnot_false g10r
  have hi13 := R44.valid_facts g10r
  have h12 := of_decide_eq_false h12
  have h11 := of_decide_eq_false h11
  refine sg_ g10 (fA 1 Ty.fi32_1) (rg_ g10 (ld_ 3 Ty.sc3) (sg_ g10 (x_lss_i rfl rfl) ?_))
  exact cr_
 refine s_ mv_ ?_
 refine or_ 3 (decide ((16 : Int) < fan)) (fun g14 => ?_) ?_
 ·have g14r := g14
  have ⟨g14r, h15⟩ := bor_false g14r
  have ⟨g14r, h16⟩ := bor_false g14r
  have ⟨g14r, h17⟩ := bor_false g14r
  have g14r : (R44.valid l) = true := bnot_false g14r
  have hi18 := R44.valid_facts g14r
  have h17 := of_decide_eq_false h17
  have h16 := of_decide_eq_false h16
  have h15 := of_decide_eq_false h15
  refine sg_ g14 (fA 1 Ty.fi32_1) (rg_ g14 (ld_ 3 Ty.sc3) (sg_ g14 (x_gtr_i rfl rfl) ?_))
  exact cr_
 refine z_ (xk_ [0, 5, 6, 7, 8, 9, 10, 41] ?_)
 refine n_ ?_
 refine if_ (fun h19 => ?_) (fun h19 => ?_)
 ·have h19w := h19
  simp only [Bool.and_eq_true, Bool.or_eq_true, Bool.and_eq_false_iff, Bool.or_eq_false_iff, Bool.not_eq_true', Bool.not_eq_false', decide_eq_true_eq, decide_eq_false_iff_not] at h19
  refine q_ (g_ (js_ (vG [vI 0, vI 0, vI 0]) (x_build (by kernel_rfl)) (s_ av_ (o_ (stG 0 Ty.sz34 ?_)))))
  refine s_ av_ (z_ (n_ (rt_ (nr_ ?_))))
  refine JX_retsMW ([] : List Nat) [_, _, _] (Value.tuple #[_, _, _]) rfl Tryz.results18 [Ent.blk b4 34 [vI 0, vI 0, vI 0], Ent.blk b3 41 [Value.nilFunc, Value.nilFunc], Ent.blk b2 24 [vL lA l.length lC], Ent.blk b1 32 [vI m, vI fan]] (fun _ h => h) (fun w h => ⟨rfl, ⟨_, rfl, load_blkN 0 [vI 0, vI 0, vI 0] h rfl Ty.ag34 Ty.sz34 rfl⟩, rfl, trivial⟩) rfl [] (fun _ h => h.keep [false, false, false, false] rfl) (fun _ _ h => h) (fun wx hw => ⟨([] : List Bytes), none, 0, 0, 0, 0, 1, ?_, ?_, RO.nil, (Nat.zero_le _), ?_⟩)
  ·have e_x0 : (0 : Nat) = (([] : List Bytes).length) := by first | rfl | omega | (simp_all; done) | (simp_all; omega)
   exact congrArg (fun (x0 : Nat) => Value.tuple #[vL none x0 0, vG [vI 0, vI 0, vI 0], vI 1]) e_x0
  ·rfl
  ·first | exact R44.sv_1 (by assumption) | exact R44.sv_2 (by assumption) (by assumption) | exact R44.sv_5 (fan := (kf : Int)) (by assumption) (by assumption) (R44.inR_id (by assumption)) (by first | decide | assumption) (R44.one_row (m := m.toNat) (by omega) (by omega) i1_0 (by omega)).1 R44.sums_no (by first | decide | assumption) c44m0_ (R44.one_row (m := m.toNat) (by omega) (by omega) i1_0 (by omega)).2 (by first | rfl | omega) | exact R44.sv_5 (fan := (kf : Int)) (by assumption) (by assumption) (R44.inR_id (by assumption)) (by first | decide | assumption) (R44.one_none (by omega) (R44.one_row (m := m.toNat) (by omega) (by omega) i1_0 (by omega)).1) R44.sums_no (by first | decide | assumption) c44m0_ (R44.one_row (m := m.toNat) (by omega) (by omega) i1_0 (by omega)).2 (by first | rfl | omega)
 ·have h19w := h19
  have ⟨h19, h20⟩ := bor_false h19
  have ⟨h19, h21⟩ := bor_false h19
  have ⟨h19, h22⟩ := bor_false h19
  have ⟨h19, h23⟩ := bor_false h19
  have h19 : (R44.valid l) = true := bnot_false h19
  have hi24 := R44.valid_facts h19
  have h23 := of_decide_eq_false h23
  have h22 := of_decide_eq_false h22
  have h21 := of_decide_eq_false h21
  have h20 := of_decide_eq_false h20
  obtain ⟨kf, rfl⟩ : ∃ kf : Nat, fan = (kf : Int) := ⟨fan.toNat, by omega⟩
  have hg1 := R44.g1_facts (l := l) (m := m) (fan := (kf : Int)) (by assumption)
  refine sk_ (n_ (q_ (q_ (g_ (s_ mv_ (s_ (lnS Tryz.underlying22) (s_ (x_gtr_i rfl rfl) (s_ mv_ ?_))))))))
  refine or_ 2 (R44.long rs) (fun g25 => ?_) ?_
  ·have g25r := g25
   have g25r := of_decide_eq_false g25r
   refine sg_ g25 mv_ (c0g g25 (cl_ Ty.ca37) (fun w hS => f37_ok rs rsA rsC w (rno rsR hS) hy_ (by first | assumption | exact fun i => Nat.le_trans (q1 i) (by decide))) ?_)
   exact cr_
  refine z_ (n_ ?_)
  refine if_ (fun h26 => ?_) (fun h26 => ?_)
  ·have h26w := h26
   simp only [Bool.and_eq_true, Bool.or_eq_true, Bool.and_eq_false_iff, Bool.or_eq_false_iff, Bool.not_eq_true', Bool.not_eq_false', decide_eq_true_eq, decide_eq_false_iff_not] at h26
   refine q_ (g_ (js_ (vG [vI 0, vI 0, vI 0]) (x_build (by kernel_rfl)) (s_ av_ (o_ (stG 0 Ty.sz34 ?_)))))
   refine s_ av_ (z_ (n_ (rt_ (nr_ ?_))))
   refine JX_retsMW ([] : List Nat) [_, _, _] (Value.tuple #[_, _, _]) rfl Tryz.results18 [Ent.blk b4 34 [vI 0, vI 0, vI 0], Ent.blk b3 41 [Value.nilFunc, Value.nilFunc], Ent.blk b2 24 [vL lA l.length lC], Ent.blk b1 32 [vI m, vI ((kf : Nat) : Int)]] (fun _ h => h) (fun w h => ⟨rfl, ⟨_, rfl, load_blkN 0 [vI 0, vI 0, vI 0] h rfl Ty.ag34 Ty.sz34 rfl⟩, rfl, trivial⟩) rfl [] (fun _ h => h.keep [false, false, false, false] rfl) (fun _ _ h => h) (fun wx hw => ⟨([] : List Bytes), none, 0, 0, 0, 0, 8, ?_, ?_, RO.nil, (Nat.zero_le _), ?_⟩)
   ·have e_x0 : (0 : Nat) = (([] : List Bytes).length) := by first | rfl | omega | (simp_all; done) | (simp_all; omega)
    exact congrArg (fun (x0 : Nat) => Value.tuple #[vL none x0 0, vG [vI 0, vI 0, vI 0], vI 8]) e_x0
   ·rfl
   ·first | exact R44.sv_1 (by assumption) | exact R44.sv_2 (by assumption) (by assumption) | exact R44.sv_5 (fan := (kf : Int)) (by assumption) (by assumption) (R44.inR_id (by assumption)) (by first | decide | assumption) (R44.one_row (m := m.toNat) (by omega) (by omega) i1_0 (by omega)).1 R44.sums_no (by first | decide | assumption) c44m0_ (R44.one_row (m := m.toNat) (by omega) (by omega) i1_0 (by omega)).2 (by first | rfl | omega) | exact R44.sv_5 (fan := (kf : Int)) (by assumption) (by assumption) (R44.inR_id (by assumption)) (by first | decide | assumption) (R44.one_none (by omega) (R44.one_row (m := m.toNat) (by omega) (by omega) i1_0 (by omega)).1) R44.sums_no (by first | decide | assumption) c44m0_ (R44.one_row (m := m.toNat) (by omega) (by omega) i1_0 (by omega)).2 (by first | rfl | omega)
  ·have h26w := h26
   have ⟨h26, h27⟩ := bor_false h26
   have h26 := of_decide_eq_false h26
   have hi28 := R44.long_facts h27
   refine sk_ (n_ (q_ (g_ (s_ mv_ (s_ (fA 0 Ty.fi41_0) (r_ (ld_ 1 Ty.sc38) ?_))))))
   refine c1 (cl_ Ty.ca39) (fun w hS => f39_ok rs rsA rsC w (rno rsR hS) hy_ hy_) ?_
   rintro _ _ ⟨e29, e30, rfl, rfl⟩
   refine s_ mv_ (s_ (ex_ 0) (s_ (ex_ 1) (s_ (ex_ 2) (s_ av_ (s_ av_ (s_ av_ (z_ (xk_ [0, 5, 6, 7, 8, 9, 10, 11, 12] ?_))))))))
   refine n_ (q_ (q_ (g_ (s_ mv_ (jr_ (vB false) (z_ (n_ (iff_ (sk_ (n_ (q_ (g_ (s_ mv_ (s_ (fA 0 Ty.fi32_0) (r_ (ld_ 4 Ty.sc3) (r_ (ld_ 3 Ty.sc24) ?_))))))))))))))))
   refine JO_callB [] [] [Ent.row (.slice e29 rs.length e30) 9 1 rs.length (rs.map vS), Ent.blk b4 34 [vI 0, vI 0, vI 0], Ent.blk b3 41 [Value.nilFunc, Value.nilFunc], Ent.blk b2 24 [vL lA l.length lC], Ent.blk b1 32 [vI m, vI ((kf : Nat) : Int)]] rfl trivial (fun _ => x_call Ty.ca13 rfl) (fun _ h => h) (fun _ h => by cases h) (fun w hS => f13_ok rs e29 e30 m l lA lC w (RO.of_row hS 0 rfl) (lR.on hS (fun _ h => by cases h)) hy_ hy_ (by first | omega | assumption | exact row_le (hS.mem (j := 0) rfl) | exact row_le (hS.mem (j := 1) rfl) | exact row_le (hS.mem (j := 2) rfl) | exact row_le (hS.mem (j := 3) rfl) | exact row_le (hS.mem (j := 4) rfl) | exact row_le (hS.mem (j := 5) rfl)) hy_) ?_
   rintro wc _ _ wbhB32 ⟨rout, routA, routC, rfl, rfl, routR, routL, routN, routK, hf31⟩ hc0 hB32
   have rsR := rsR.again hB32
   have lR := lR.again hB32
   have routR0 := routR.mono (lown_rangeF (w00 := w) hc0 hc0.fr.size)
   have routN0 := fun i => (routN i).mono (lown_rangeF (w00 := w) hc0 hc0.fr.size)
   have routR := routR.mono (lown_range hc0)
   have routN := fun i => (routN i).mono (lown_range hc0)
   refine s_ av_ (z_ (n_ (q_ (g_ (s_ mv_ (s_ (lnS Tryz.underlying23) (s_ mv_ (js_ (vG [vI ((rout.length : Nat) : Int), vI 0, vI 0]) (x_build (by kernel_rfl)) (o_ (al_ Ty.ze34 fun b33 => ?_))))))))))
   refine o_ (stG 0 Ty.sz34 ?_)
   refine z_ (xk_ [5, 6, 7, 8, 9, 10, 12, 13, 14] ?_)
   refine n_ (q_ (k_ ?_))
   refine J_loopM (X := (List Rw) × (Option Addr) × Nat × Nat × (List Nat)) (fun (⟨runs, runsA, runsC, np, Ds⟩ : (List Rw) × (Option Addr) × Nat × Nat × (List Nat)) => Ds) (fun (⟨runs, runsA, runsC, np, Ds⟩ : (List Rw) × (Option Addr) × Nat × Nat × (List Nat)) => (R44.PassJ (R44.cmpL l) kf (Srt.runs (R44.cmpL l) m.toNat rs) (runs.map Rw.s) np)) (fun (⟨runs, runsA, runsC, np, Ds⟩ : (List Rw) × (Option Addr) × Nat × Nat × (List Nat)) wx => RO (Lown (Ent.blk b33 34 [vI ((rout.length : Nat) : Int), vI ((np : Nat) : Int), vI 0] :: Ent.blk b4 34 [vI 0, vI 0, vI 0] :: Ent.blk b3 41 [Value.nilFunc, Value.nilFunc] :: Ent.blk b2 24 [vL lA l.length lC] :: Ent.blk b1 32 [vI m, vI ((kf : Nat) : Int)] :: (Ds.map dfr)) ++ List.range w.heap.size) wx runsA (runs.flatMap Rw.enc) ∧ runs.length ≤ runsC ∧ (∀ i : Nat, RO (Lown (Ent.blk b33 34 [vI ((rout.length : Nat) : Int), vI ((np : Nat) : Int), vI 0] :: Ent.blk b4 34 [vI 0, vI 0, vI 0] :: Ent.blk b3 41 [Value.nilFunc, Value.nilFunc] :: Ent.blk b2 24 [vL lA l.length lC] :: Ent.blk b1 32 [vI m, vI ((kf : Nat) : Int)] :: (Ds.map dfr)) ++ List.range w.heap.size) wx (runs.getD i default).sA (((runs.getD i default).s).map vS)) ∧ (∀ i : Nat, (runs.getD i default).s.length ≤ (runs.getD i default).sC)) (fun (⟨runs, runsA, runsC, np, Ds⟩ : (List Rw) × (Option Addr) × Nat × Nat × (List Nat)) => [(5, pB b1 0), (6, pB b2 0), (7, pB b3 0), (8, vL none 0 0), (9, pB b4 0), (10, vI 0), (12, vI 0), (13, vL runsA runs.length runsC), (14, pB b33 0)]) (fun (⟨runs, runsA, runsC, np, Ds⟩ : (List Rw) × (Option Addr) × Nat × Nat × (List Nat)) => (Ent.blk b33 34 [vI ((rout.length : Nat) : Int), vI ((np : Nat) : Int), vI 0] :: Ent.blk b4 34 [vI 0, vI 0, vI 0] :: Ent.blk b3 41 [Value.nilFunc, Value.nilFunc] :: Ent.blk b2 24 [vL lA l.length lC] :: Ent.blk b1 32 [vI m, vI ((kf : Nat) : Int)] :: (Ds.map dfr))) (fun (⟨runs, runsA, runsC, np, Ds⟩ : (List Rw) × (Option Addr) × Nat × Nat × (List Nat)) => runs.length) ((rout, routA, routC, 0, ([] : List Nat)) : (List Rw) × (Option Addr) × Nat × Nat × (List Nat)) ?_ rfl ⟨rfl, rfl, rfl, rfl, rfl, rfl, rfl, rfl, rfl, trivial⟩ (fun _ h => h.keep [true, false, true, true, true, true] rfl) (fun wx hw => ⟨(routR0.againF (hw.keep [true, false, true, true, true, true] rfl)), routL, (fun i => (routN0 i).againF (hw.keep [true, false, true, true, true, true] rfl)), routK⟩) ?_
   ·try dsimp only
    exact R44.PassJ.start_of (R44.runsV_yes hg1.2.1 hg1.1 (by assumption))
   rintro ⟨runs, runsA, runsC, np, Ds⟩ wb1 hI1 hW1 hB1
   have rsR := rsR.again hB1
   have lR := lR.again hB1
   have routR0 := routR0.againF hB1
   have routR := routR.again hB1
   have routN0 := fun i => (routN0 i).againF hB1
   have routN := fun i => (routN i).again hB1
   obtain ⟨runsR0, runsL, runsN0, runsK⟩ := hW1
   have runsR := runsR0.fromF
   have runsN := fun i => (runsN0 i).fromF
   have i1_0 := hI1
   try dsimp only at i1_0
   have hcv := R44.cmpL_ok l
   have hpb := R44.pass_bounds (by omega) (by omega) i1_0 q0 q1
   have hil := R44.inner_len (lists := runs) 0
   try dsimp only
   refine q_ (q_ (g_ (s_ mv_ (s_ (lnS Tryz.underlying23) (s_ (x_gtr_i rfl rfl) (z_ (n_ ?_)))))))
   refine ifd (fun h34w h34 => ?_) (fun h34w h34 => ?_)
   ·refine sk_ (n_ (k_ (q_ (g_ (o_ (al_ Ty.ze23 fun b35 => ?_))))))
    refine z_ (n_ (q_ (q_ (g_ (s_ mv_ (s_ (fA 1 Ty.fi32_1) (r_ (ld_ 5 Ty.sc3) ?_)))))))
    refine c1 (cl_ Ty.ca40) (fun w hS => f40_ok runs _ _ kf w (rno runsR hS) (fun i => (runsN i).on hS (fun _ h => by cases h)) hy_ hy_) ?_
    rintro _ _ ⟨bp36, bq37, rfl, rfl⟩
    refine z_ (n_ (k_ ?_))
    refine J_rangeFunc (n := _) (gf := 69) (lb := [pB bp36 0, pB bq37 0]) (enc := Part.enc) (xs := (R44.parts kf runs runsA)) (fun (pre : List Part) (⟨next, nextA, nextC⟩ : (List Rw) × (Option Addr) × Nat) => (next.map Rw.s = pre.map (fun p => R44.mergeV l (p.s.map Rw.s)))) (fun (_ : List Part) (⟨next, nextA, nextC⟩ : (List Rw) × (Option Addr) × Nat) => (Ent.blk b35 23 [vL nextA next.length nextC] :: Ent.blk b33 34 [vI ((rout.length : Nat) : Int), vI ((np : Nat) : Int), vI 0] :: Ent.blk b4 34 [vI 0, vI 0, vI 0] :: Ent.blk b3 41 [Value.nilFunc, Value.nilFunc] :: Ent.blk b2 24 [vL lA l.length lC] :: Ent.blk b1 32 [vI m, vI ((kf : Nat) : Int)] :: Ent.row (.slice nextA next.length nextC) 22 1 next.length (next.flatMap Rw.enc) :: (next.map (RwE 9) ++ (Ds.map dfr)))) ((([] : List Rw), none, 0) : (List Rw) × (Option Addr) × Nat) [Ent.blk bp36 23 [vL runsA runs.length runsC], Ent.blk bq37 3 [vI ((kf : Nat) : Int)]] rfl rfl rfl Ty.ca69 (ps_ rfl) (fun _ => rfl) (fun _ h => (((((((((h.nilrow 22 1).front 8 _ rfl).front 8 _ rfl).front 8 _ rfl).front 8 _ rfl).front 8 _ rfl).front 8 _ rfl).front 8 _ rfl).front 8 _ rfl).keepN 9 [true, true, true, true, true, true, true, true, true] rfl) ?_ ?_ ?_
    ·intro wi39 li40 di41 ri42 hold43 hg44 hY45
     refine it_done (I := (fun (pre : List Part) (⟨next, nextA, nextC⟩ : (List Rw) × (Option Addr) × Nat) => (next.map Rw.s = pre.map (fun p => R44.mergeV l (p.s.map Rw.s))))) (Lf := LF li40 di41 ri42 (fun (_ : List Part) (⟨next, nextA, nextC⟩ : (List Rw) × (Option Addr) × Nat) => (Ent.blk b35 23 [vL nextA next.length nextC] :: Ent.blk b33 34 [vI ((rout.length : Nat) : Int), vI ((np : Nat) : Int), vI 0] :: Ent.blk b4 34 [vI 0, vI 0, vI 0] :: Ent.blk b3 41 [Value.nilFunc, Value.nilFunc] :: Ent.blk b2 24 [vL lA l.length lC] :: Ent.blk b1 32 [vI m, vI ((kf : Nat) : Int)] :: Ent.row (.slice nextA next.length nextC) 22 1 next.length (next.flatMap Rw.enc) :: (next.map (RwE 9) ++ (Ds.map dfr))))) ?_
     exact f69_ok li40 _ _ _ _ bp36 bq37 runs runsA runsC kf _ (runsR.old hold43) (fun i => (runsN i).old hold43) hY45 rfl (by omega) (by omega) (by omega) (by omega) hg44
    ·rintro wi46 li40 di41 ri42 pre ⟨ps, psA, psC⟩ rest48 ⟨next, nextA, nextC⟩ hp49 hI50 hold43
     have i2_0 := hI50
     try dsimp only at i2_0
     have rsR := rsR.old hold43
     have lR := lR.old hold43
     have routR := routR.old hold43
     have runsR := runsR.old hold43
     have routN := fun i => (routN i).old hold43
     have runsN := fun i => (runsN i).old hold43
     have hpl := R44.part_pre hp49
     have hnl := R44.map_lens i2_0
     have hp0 := R44.part_len hp49 hpb.1
     have hp1 := R44.part_short hp49 hpb.2.2.1
     have hp2 := R44.part_cap hp49 runsK
     have hp3 := R44.part_flat hp49 hpb.2.1
     have psR := R44.part_ro hp49 runsR
     have psN := R44.part_ron hp49 runsN
     refine J_weaken (E' := [(6, pB b2 0), (15, pB b35 0), (79, vL psA ps.length psC)]) (L' := (Ent.obj li40 (lp ri42 .ready) :: dfr di41 :: Ent.blk b35 23 [vL nextA next.length nextC] :: Ent.blk b33 34 [vI ((rout.length : Nat) : Int), vI ((np : Nat) : Int), vI 0] :: Ent.blk b4 34 [vI 0, vI 0, vI 0] :: Ent.blk b3 41 [Value.nilFunc, Value.nilFunc] :: Ent.blk b2 24 [vL lA l.length lC] :: Ent.blk b1 32 [vI m, vI ((kf : Nat) : Int)] :: Ent.row (.slice nextA next.length nextC) 22 1 next.length (next.flatMap Rw.enc) :: (next.map (RwE 9) ++ (Ds.map dfr)))) ⟨rfl, rfl, rfl, trivial⟩ (fun _ h => h) ?_
     refine g_ (s_ av_ (z_ (JX_begin (k_ ?_))))
     refine drU (Ent.obj li40 (lp ri42 .busy) :: dfr di41 :: Ent.blk b33 34 [vI ((rout.length : Nat) : Int), vI ((np : Nat) : Int), vI 0] :: Ent.blk b4 34 [vI 0, vI 0, vI 0] :: Ent.blk b3 41 [Value.nilFunc, Value.nilFunc] :: Ent.blk b2 24 [vL lA l.length lC] :: Ent.blk b1 32 [vI m, vI ((kf : Nat) : Int)] :: (Ds.map dfr)) [5, 6] 7 Ty.mixed ?_
     refine JA_early 0 (vL nextA next.length nextC) rfl (by kernel_rfl) (by kernel_rfl) (by kernel_rfl) rfl (by kernel_rfl) (fun _ _ _ h => h) rfl trivial (x_load 2 rfl rfl Ty.sc23 rfl) ?_
     refine jp_ 1 rfl mv_ (jq_ 2 rfl (ld_ 5 Ty.sc24) (j1_ 3 ?_ (fun _ h => ⟨(drop_seg 9 (G := next.map (RwE 9)) h rfl).keepN 9 [true, true, false, true, true, true, true, true, false] rfl, fun _ => h⟩)))
     refine jc1_ rfl (cl_ Ty.ca16) (fun w hS => f16_ok ps psA psC l lA lC w (rno psR hS) (fun i => (psN i).on hS (fun _ h => by cases h)) (rno lR hS) hy_ hy_ hy_ hy_ hy_) ?_
     rintro _ _ ⟨e51, e52, rfl, rfl⟩
     refine j1_ 4 (jio_ rfl (O_buildSlice (cs := [vL e51 ((R44.mergeV l (ps.map Rw.s)).length) e52]) Tryz.underlying23 Ty.sz22 Ty.ze22 (by decide) (by decide) (by kernel_rfl) fun b54 => ?_)) (fun _ h => ⟨(drop_seg 10 (G := next.map (RwE 9)) h rfl).keepN 10 [false, true, true, false, true, true, true, true, true, false] rfl, fun _ => h.keepN 10 [false, true, true, true, true, true, true, true, true, true] rfl⟩)
     refine j1_ 5 (jio_ rfl (O_append_f 10 Rw.enc 1 next [(Rw.mk (R44.mergeV l (ps.map Rw.s)) e51 e52)] Tryz.underlying23 Ty.sz22 Ty.by22 Ty.ze22 rfl (by decide) rfl rfl rfl rfl Rw.enc_len Rw.enc_one (cells_blk 0 (off := 0) (m := 1) rfl rfl) lt_ lt_ fun A57 c58 => ?_)) (fun _ h => ⟨(drop_seg 11 (G := next.map (RwE 9)) h rfl).keepN 11 [false, false, true, true, false, true, true, true, true, true, false] rfl, fun _ => h.keepN 11 [false, false, true, true, true, true, true, true, true, true, true] rfl⟩)
     refine JA_weaken (E' := [(6, pB b2 0), (15, pB b35 0), (79, vL psA ps.length psC), (16, vL psA ps.length psC), (80, vL nextA next.length nextC), (81, vL psA ps.length psC), (82, vL lA l.length lC), (83, vL e51 ((R44.mergeV l (ps.map Rw.s)).length) e52), (84, vL (some ⟨b54, 0, none⟩) 1 1), (85, vL A57 ((next ++ [(Rw.mk (R44.mergeV l (ps.map Rw.s)) e51 e52)]).length) c58)]) (L' := (Ent.blk b54 22 [vL e51 ((R44.mergeV l (ps.map Rw.s)).length) e52] :: Ent.obj li40 (lp ri42 .busy) :: dfr di41 :: Ent.blk b35 23 [vL nextA next.length nextC] :: Ent.blk b33 34 [vI ((rout.length : Nat) : Int), vI ((np : Nat) : Int), vI 0] :: Ent.blk b4 34 [vI 0, vI 0, vI 0] :: Ent.blk b3 41 [Value.nilFunc, Value.nilFunc] :: Ent.blk b2 24 [vL lA l.length lC] :: Ent.blk b1 32 [vI m, vI ((kf : Nat) : Int)] :: Ent.row (.slice A57 (next ++ [(Rw.mk (R44.mergeV l (ps.map Rw.s)) e51 e52)]).length c58) 22 1 (next ++ [(Rw.mk (R44.mergeV l (ps.map Rw.s)) e51 e52)]).length ((next ++ [(Rw.mk (R44.mergeV l (ps.map Rw.s)) e51 e52)]).flatMap Rw.enc) :: ((next ++ [(Rw.mk (R44.mergeV l (ps.map Rw.s)) e51 e52)]).map (RwE 9) ++ (Ds.map dfr)))) ⟨rfl, rfl, rfl, rfl, rfl, rfl, rfl, rfl, rfl, rfl, trivial⟩ (fun _ h => (seg_snoc 10 (X := next) (f := RwE 9) (x := (Rw.mk (R44.mergeV l (ps.map Rw.s)) e51 e52)) (h.front 1 _ rfl) rfl rfl)) ?_
     refine j1_ 6 (jio_ rfl (st1 3 Ty.sz23 ?_)) (gl_ rfl (fun _ h => (drop_seg 10 (G := (next ++ [(Rw.mk (R44.mergeV l (ps.map Rw.s)) e51 e52)]).map (RwE 9)) h rfl).keepN 10 [false, true, true, false, true, true, true, true, true, false] rfl))
     refine JA_done (by kernel_rfl) (gl_ rfl (fun _ h => (drop_seg 10 (G := (next ++ [(Rw.mk (R44.mergeV l (ps.map Rw.s)) e51 e52)]).map (RwE 9)) h rfl).keepN 10 [false, true, true, false, true, true, true, true, true, false] rfl)) ?_
     refine kx_ ?_
     refine JX_end (dfr di41 :: Ent.blk b35 23 [vL A57 ((next ++ [(Rw.mk (R44.mergeV l (ps.map Rw.s)) e51 e52)]).length) c58] :: Ent.blk b33 34 [vI ((rout.length : Nat) : Int), vI ((np : Nat) : Int), vI 0] :: Ent.blk b4 34 [vI 0, vI 0, vI 0] :: Ent.blk b3 41 [Value.nilFunc, Value.nilFunc] :: Ent.blk b2 24 [vL lA l.length lC] :: Ent.blk b1 32 [vI m, vI ((kf : Nat) : Int)] :: Ent.row (.slice A57 (next ++ [(Rw.mk (R44.mergeV l (ps.map Rw.s)) e51 e52)]).length c58) 22 1 (next ++ [(Rw.mk (R44.mergeV l (ps.map Rw.s)) e51 e52)]).length ((next ++ [(Rw.mk (R44.mergeV l (ps.map Rw.s)) e51 e52)]).flatMap Rw.enc) :: ((next ++ [(Rw.mk (R44.mergeV l (ps.map Rw.s)) e51 e52)]).map (RwE 9) ++ (Ds.map dfr))) (fun _ h => h.keepN 10 [false, true, true, true, true, true, true, true, true, true] rfl) (fun w hS => ⟨rfl, ((next ++ [(Rw.mk (R44.mergeV l (ps.map Rw.s)) e51 e52)], A57, c58) : (List Rw) × (Option Addr) × Nat), ?_, hS⟩)
     try dsimp only
     rw [List.map_append, List.map_append, i2_0]; rfl
    ·rintro D59 ⟨next, nextA, nextC⟩ hI50
     have i2_0 := hI50
     try dsimp only at i2_0
     try dsimp only
     refine kx_ (n_ (q_ (g_ (r_ (ld_ 1 Ty.sc23) (s_ av_ (z_ (n_ (g_ (s_ (fA 1 Ty.fi34_1) (r_ (ld_ 2 Ty.sc3) (s_ (x_add_n (a := np) (b := 1) rfl rfl (by omega)) (s_ (fA 1 Ty.fi34_1) (o_ (st1 2 Ty.sz3 ?_))))))))))))))
     refine z_ (kx_ ?_)
     refine JX_roundM ((next, nextA, nextC, np + 1, (D59 :: Ds)) : (List Rw) × (Option Addr) × Nat × Nat × (List Nat)) ?_ ?_ rfl ⟨rfl, rfl, rfl, rfl, rfl, rfl, rfl, rfl, rfl, trivial⟩ (fun _ _ h => (hB1.back _ _ h)) (fun _ h => (mark_tail 7 (G := []) (drop_seg 8 (G := next.map (RwE 9)) h rfl) rfl).keepN 7 [false, true, true, true, true, true, false] rfl) (fun wx hw => ⟨(RO.of_rowF (Lc := (Ent.blk b33 34 [vI ((rout.length : Nat) : Int), vI (((np + 1) : Nat) : Int), vI 0] :: Ent.blk b4 34 [vI 0, vI 0, vI 0] :: Ent.blk b3 41 [Value.nilFunc, Value.nilFunc] :: Ent.blk b2 24 [vL lA l.length lC] :: Ent.blk b1 32 [vI m, vI ((kf : Nat) : Int)] :: ((D59 :: Ds).map dfr))) (Lr := Ent.row (.slice nextA next.length nextC) 22 1 next.length (next.flatMap Rw.enc) :: next.map (RwE 9)) (split_last 5 (M := (Ent.blk b33 34 [vI ((rout.length : Nat) : Int), vI (((np + 1) : Nat) : Int), vI 0] :: Ent.blk b4 34 [vI 0, vI 0, vI 0] :: Ent.blk b3 41 [Value.nilFunc, Value.nilFunc] :: Ent.blk b2 24 [vL lA l.length lC] :: Ent.blk b1 32 [vI m, vI ((kf : Nat) : Int)] :: (next.map (RwE 9) ++ ((D59 :: Ds).map dfr)))) (G := next.map (RwE 9)) (T := ((D59 :: Ds).map dfr)) ((((((((mark_tail 7 (G := next.map (RwE 9)) hw rfl).front 5 _ rfl).front 5 _ rfl).front 5 _ rfl).front 5 _ rfl).front 5 _ rfl).front 6 _ rfl).keepN 7 [true, true, true, true, true, true, false] rfl) rfl) (hB32.back _ _ (hB1.back _ _ (split_last 5 (M := (Ent.blk b33 34 [vI ((rout.length : Nat) : Int), vI (((np + 1) : Nat) : Int), vI 0] :: Ent.blk b4 34 [vI 0, vI 0, vI 0] :: Ent.blk b3 41 [Value.nilFunc, Value.nilFunc] :: Ent.blk b2 24 [vL lA l.length lC] :: Ent.blk b1 32 [vI m, vI ((kf : Nat) : Int)] :: (next.map (RwE 9) ++ ((D59 :: Ds).map dfr)))) (G := next.map (RwE 9)) (T := ((D59 :: Ds).map dfr)) ((((((((mark_tail 7 (G := next.map (RwE 9)) hw rfl).front 5 _ rfl).front 5 _ rfl).front 5 _ rfl).front 5 _ rfl).front 5 _ rfl).front 6 _ rfl).keepN 7 [true, true, true, true, true, true, false] rfl) rfl))) 0 rfl), (row_le ((split_last 5 (M := (Ent.blk b33 34 [vI ((rout.length : Nat) : Int), vI (((np + 1) : Nat) : Int), vI 0] :: Ent.blk b4 34 [vI 0, vI 0, vI 0] :: Ent.blk b3 41 [Value.nilFunc, Value.nilFunc] :: Ent.blk b2 24 [vL lA l.length lC] :: Ent.blk b1 32 [vI m, vI ((kf : Nat) : Int)] :: (next.map (RwE 9) ++ ((D59 :: Ds).map dfr)))) (G := next.map (RwE 9)) (T := ((D59 :: Ds).map dfr)) ((((((((mark_tail 7 (G := next.map (RwE 9)) hw rfl).front 5 _ rfl).front 5 _ rfl).front 5 _ rfl).front 5 _ rfl).front 5 _ rfl).front 6 _ rfl).keepN 7 [true, true, true, true, true, true, false] rfl) rfl).hold _ (List.mem_append_right _ List.mem_cons_self))), (ron_segF (Lc := (Ent.blk b33 34 [vI ((rout.length : Nat) : Int), vI (((np + 1) : Nat) : Int), vI 0] :: Ent.blk b4 34 [vI 0, vI 0, vI 0] :: Ent.blk b3 41 [Value.nilFunc, Value.nilFunc] :: Ent.blk b2 24 [vL lA l.length lC] :: Ent.blk b1 32 [vI m, vI ((kf : Nat) : Int)] :: ((D59 :: Ds).map dfr))) (Lr := Ent.row (.slice nextA next.length nextC) 22 1 next.length (next.flatMap Rw.enc) :: next.map (RwE 9)) (X := next) (t := 9) (split_last 5 (M := (Ent.blk b33 34 [vI ((rout.length : Nat) : Int), vI (((np + 1) : Nat) : Int), vI 0] :: Ent.blk b4 34 [vI 0, vI 0, vI 0] :: Ent.blk b3 41 [Value.nilFunc, Value.nilFunc] :: Ent.blk b2 24 [vL lA l.length lC] :: Ent.blk b1 32 [vI m, vI ((kf : Nat) : Int)] :: (next.map (RwE 9) ++ ((D59 :: Ds).map dfr)))) (G := next.map (RwE 9)) (T := ((D59 :: Ds).map dfr)) ((((((((mark_tail 7 (G := next.map (RwE 9)) hw rfl).front 5 _ rfl).front 5 _ rfl).front 5 _ rfl).front 5 _ rfl).front 5 _ rfl).front 6 _ rfl).keepN 7 [true, true, true, true, true, true, false] rfl) rfl) (hB32.back _ _ (hB1.back _ _ (split_last 5 (M := (Ent.blk b33 34 [vI ((rout.length : Nat) : Int), vI (((np + 1) : Nat) : Int), vI 0] :: Ent.blk b4 34 [vI 0, vI 0, vI 0] :: Ent.blk b3 41 [Value.nilFunc, Value.nilFunc] :: Ent.blk b2 24 [vL lA l.length lC] :: Ent.blk b1 32 [vI m, vI ((kf : Nat) : Int)] :: (next.map (RwE 9) ++ ((D59 :: Ds).map dfr)))) (G := next.map (RwE 9)) (T := ((D59 :: Ds).map dfr)) ((((((((mark_tail 7 (G := next.map (RwE 9)) hw rfl).front 5 _ rfl).front 5 _ rfl).front 5 _ rfl).front 5 _ rfl).front 5 _ rfl).front 6 _ rfl).keepN 7 [true, true, true, true, true, true, false] rfl) rfl))) (fun _ h => List.mem_cons_of_mem _ h)), (cap_seg (X := next) (t := 9) (split_last 5 (M := (Ent.blk b33 34 [vI ((rout.length : Nat) : Int), vI (((np + 1) : Nat) : Int), vI 0] :: Ent.blk b4 34 [vI 0, vI 0, vI 0] :: Ent.blk b3 41 [Value.nilFunc, Value.nilFunc] :: Ent.blk b2 24 [vL lA l.length lC] :: Ent.blk b1 32 [vI m, vI ((kf : Nat) : Int)] :: (next.map (RwE 9) ++ ((D59 :: Ds).map dfr)))) (G := next.map (RwE 9)) (T := ((D59 :: Ds).map dfr)) ((((((((mark_tail 7 (G := next.map (RwE 9)) hw rfl).front 5 _ rfl).front 5 _ rfl).front 5 _ rfl).front 5 _ rfl).front 5 _ rfl).front 6 _ rfl).keepN 7 [true, true, true, true, true, true, false] rfl) rfl) (fun _ h => List.mem_append_right _ (List.mem_cons_of_mem _ h)))⟩)
     ·try dsimp only
      exact R44.pass_next hcv (by omega) i1_0 (by omega) hg1.1 i2_0
     ·try dsimp only
      exact R44.pass_dec (by omega) (by omega) hg1.1 i2_0
   ·refine J_exit (ne_ (JX_roundM_exit (kh_ (n_ (q_ ?_)))))
    refine g_ (s_ av_ (z_ (n_ (q_ (q_ (g_ (s_ mv_ (s_ (lnS Tryz.underlying23) (s_ (x_gtr_i rfl rfl) (z_ (n_ ?_)))))))))))
    refine ifd (fun h60w h60 => ?_) (fun h60w h60 => ?_)
    ·refine g_ (s_ mv_ (r_ (ixF (k := 0) Rw.enc_len (cells_ro runsR) Tryz.underlying23 Ty.sz22) (r_ (ldF (k := 0) 0 Rw.enc_len (cells_ro runsR) Ty.sc22) (s_ av_ (z_ (n_ (q_ (g_ (s_ mv_ (r_ (ld_ 3 Ty.sc24) (s_ (fA 1 Ty.fi41_1) (r_ (ld_ 2 Ty.sc39) ?_))))))))))))
     refine c0 (cl_ Ty.ca41) (fun w hS => f41_ok _ _ _ l lA lC w (rno (runsN 0) hS) (rno lR hS)) (s_ mv_ (s_ (ex_ 0) (s_ (ex_ 1) (s_ av_ (s_ av_ (z_ (xk_ [8, 9, 10, 12, 14, 17, 18] ?_)))))))
     refine n_ (q_ (q_ (g_ (s_ mv_ (jr_ (vB false) (z_ (n_ (iff_ (sk_ (n_ (q_ (g_ (s_ (fA 2 Ty.fi34_2) (r_ (ld_ 0 Ty.sc3) (s_ mv_ (s_ (lnS Tryz.underlying22) (s_ mv_ ?_)))))))))))))))))
     refine s_ (lnS Tryz.underlying22) (s_ (x_sub_i (a := (((runs.getD 0 default).s.length : Nat) : Int)) (b := ((((runs.getD 0 default).s).length : Nat) : Int)) rfl rfl (by omega) (by omega)) (s_ (x_add_i (a := 0) (b := (((runs.getD 0 default).s.length : Nat) : Int) - ((((runs.getD 0 default).s).length : Nat) : Int)) rfl rfl (by omega) (by omega)) (s_ (fA 2 Ty.fi34_2) (o_ (st1 0 Ty.sz3 ?_)))))
     refine z_ (n_ (q_ ?_))
     refine drU (Ent.blk b33 34 [vI ((rout.length : Nat) : Int), vI ((np : Nat) : Int), vI (0 + ((((runs.getD 0 default).s.length : Nat) : Int) - ((((runs.getD 0 default).s).length : Nat) : Int)))] :: Ent.blk b3 41 [Value.nilFunc, Value.nilFunc] :: Ent.blk b2 24 [vL lA l.length lC] :: Ent.blk b1 32 [vI m, vI ((kf : Nat) : Int)] :: (Ds.map dfr)) [3] 5 Ty.mixed ?_
     refine jp_ 0 rfl mv_ (jq_ 1 rfl (ldN 0 [vI ((rout.length : Nat) : Int), vI ((np : Nat) : Int), vI (0 + ((((runs.getD 0 default).s.length : Nat) : Int) - ((((runs.getD 0 default).s).length : Nat) : Int)))] Ty.ag34 Ty.sz34) (jp_ 2 rfl av_ (j1_ 3 (jio_ rfl (stG 1 Ty.sz34 ?_)) (fun _ h => ⟨h.keepN 5 [true, false, true, true, true] rfl, fun _ => h⟩))))
     refine jp_ 4 rfl av_ ?_
     refine JA_done (by kernel_rfl) (gl_ rfl (fun _ h => h.keepN 5 [true, false, true, true, true] rfl)) ?_
     refine n_ (rt_ ?_)
     refine JX_retsMW Ds [_, _, _] (Value.tuple #[_, _, _]) rfl Tryz.results18 [Ent.blk b33 34 [vI ((rout.length : Nat) : Int), vI ((np : Nat) : Int), vI (0 + ((((runs.getD 0 default).s.length : Nat) : Int) - ((((runs.getD 0 default).s).length : Nat) : Int)))], Ent.blk b4 34 [vI ((rout.length : Nat) : Int), vI ((np : Nat) : Int), vI (0 + ((((runs.getD 0 default).s.length : Nat) : Int) - ((((runs.getD 0 default).s).length : Nat) : Int)))], Ent.blk b3 41 [Value.nilFunc, Value.nilFunc], Ent.blk b2 24 [vL lA l.length lC], Ent.blk b1 32 [vI m, vI ((kf : Nat) : Int)]] (fun _ h => tail_front 5 h rfl) (fun w h => ⟨rfl, ⟨_, rfl, load_blkN 1 [vI ((rout.length : Nat) : Int), vI ((np : Nat) : Int), vI (0 + ((((runs.getD 0 default).s.length : Nat) : Int) - ((((runs.getD 0 default).s).length : Nat) : Int)))] h rfl Ty.ag34 Ty.sz34 rfl⟩, rfl, trivial⟩) rfl [] (fun _ h => h.keep [false, false, false, false, false] rfl) (fun _ _ h => (hB32.back _ _ (hB1.back _ _ h))) (fun wx hw => ⟨(runs.getD 0 default).s, ((runs.getD 0 default).sA), ((runs.getD 0 default).sC), ((rout.length : Nat) : Int), ((np : Nat) : Int), 0 + ((((runs.getD 0 default).s.length : Nat) : Int) - ((((runs.getD 0 default).s).length : Nat) : Int)), 0, ?_, ?_, ((runsN0 0).againF hw).freshF, (by first | assumption | exact runsK 0), ?_⟩)
     ·rfl
     ·rfl
     ·first | exact R44.sv_1 (by assumption) | exact R44.sv_2 (by assumption) (by assumption) | exact R44.sv_5 (fan := (kf : Int)) (by assumption) (by assumption) (R44.inR_id (by assumption)) (by first | decide | assumption) (R44.one_row (m := m.toNat) (by omega) (by omega) i1_0 (by omega)).1 R44.sums_no (by first | decide | assumption) c44m0_ (R44.one_row (m := m.toNat) (by omega) (by omega) i1_0 (by omega)).2 (by first | rfl | omega) | exact R44.sv_5 (fan := (kf : Int)) (by assumption) (by assumption) (R44.inR_id (by assumption)) (by first | decide | assumption) (R44.one_none (by omega) (R44.one_row (m := m.toNat) (by omega) (by omega) i1_0 (by omega)).1) R44.sums_no (by first | decide | assumption) c44m0_ (R44.one_row (m := m.toNat) (by omega) (by omega) i1_0 (by omega)).2 (by first | rfl | omega)
    ·refine sk_ (n_ (q_ (g_ (s_ mv_ (r_ (ld_ 3 Ty.sc24) (s_ (fA 1 Ty.fi41_1) (r_ (ld_ 2 Ty.sc39) (c0 (cl_ Ty.ca41) (fun w hS => f41_ok ([] : List Bytes) none 0 l lA lC w RO.nil (rno lR hS)) (s_ mv_ (s_ (ex_ 0) (s_ (ex_ 1) (s_ av_ ?_))))))))))))
     refine s_ av_ (z_ (xk_ [8, 9, 10, 12, 14, 17, 18] ?_))
     refine n_ (q_ (q_ (g_ (s_ mv_ (jr_ (vB false) (z_ (n_ (iff_ (sk_ (n_ (q_ (g_ (s_ (fA 2 Ty.fi34_2) (r_ (ld_ 0 Ty.sc3) (s_ mv_ (s_ (lnS Tryz.underlying22) (s_ mv_ ?_)))))))))))))))))
     refine s_ (lnS Tryz.underlying22) (s_ (x_sub_i (a := 0) (b := ((([] : List Bytes).length : Nat) : Int)) rfl rfl lt_ lt_) (s_ (x_add_i (a := 0) (b := 0 - ((([] : List Bytes).length : Nat) : Int)) rfl rfl lt_ lt_) (s_ (fA 2 Ty.fi34_2) (o_ (st1 0 Ty.sz3 ?_)))))
     refine z_ (n_ (q_ ?_))
     refine drU (Ent.blk b33 34 [vI ((rout.length : Nat) : Int), vI ((np : Nat) : Int), vI (0 + (0 - ((([] : List Bytes).length : Nat) : Int)))] :: Ent.blk b3 41 [Value.nilFunc, Value.nilFunc] :: Ent.blk b2 24 [vL lA l.length lC] :: Ent.blk b1 32 [vI m, vI ((kf : Nat) : Int)] :: (Ds.map dfr)) [3] 5 Ty.mixed ?_
     refine jp_ 0 rfl mv_ (jq_ 1 rfl (ldN 0 [vI ((rout.length : Nat) : Int), vI ((np : Nat) : Int), vI (0 + (0 - ((([] : List Bytes).length : Nat) : Int)))] Ty.ag34 Ty.sz34) (jp_ 2 rfl av_ (j1_ 3 (jio_ rfl (stG 1 Ty.sz34 ?_)) (fun _ h => ⟨h.keepN 5 [true, false, true, true, true] rfl, fun _ => h⟩))))
     refine jp_ 4 rfl av_ ?_
     refine JA_done (by kernel_rfl) (gl_ rfl (fun _ h => h.keepN 5 [true, false, true, true, true] rfl)) ?_
     refine n_ (rt_ ?_)
     refine JX_retsMW Ds [_, _, _] (Value.tuple #[_, _, _]) rfl Tryz.results18 [Ent.blk b33 34 [vI ((rout.length : Nat) : Int), vI ((np : Nat) : Int), vI (0 + (0 - ((([] : List Bytes).length : Nat) : Int)))], Ent.blk b4 34 [vI ((rout.length : Nat) : Int), vI ((np : Nat) : Int), vI (0 + (0 - ((([] : List Bytes).length : Nat) : Int)))], Ent.blk b3 41 [Value.nilFunc, Value.nilFunc], Ent.blk b2 24 [vL lA l.length lC], Ent.blk b1 32 [vI m, vI ((kf : Nat) : Int)]] (fun _ h => tail_front 5 h rfl) (fun w h => ⟨rfl, ⟨_, rfl, load_blkN 1 [vI ((rout.length : Nat) : Int), vI ((np : Nat) : Int), vI (0 + (0 - ((([] : List Bytes).length : Nat) : Int)))] h rfl Ty.ag34 Ty.sz34 rfl⟩, rfl, trivial⟩) rfl [] (fun _ h => h.keep [false, false, false, false, false] rfl) (fun _ _ h => (hB32.back _ _ (hB1.back _ _ h))) (fun wx hw => ⟨([] : List Bytes), none, 0, ((rout.length : Nat) : Int), ((np : Nat) : Int), 0 + (0 - ((([] : List Bytes).length : Nat) : Int)), 0, ?_, ?_, RO.nil, (Nat.zero_le _), ?_⟩)
     ·rfl
     ·rfl
     ·first | exact R44.sv_1 (by assumption) | exact R44.sv_2 (by assumption) (by assumption) | exact R44.sv_5 (fan := (kf : Int)) (by assumption) (by assumption) (R44.inR_id (by assumption)) (by first | decide | assumption) (R44.one_row (m := m.toNat) (by omega) (by omega) i1_0 (by omega)).1 R44.sums_no (by first | decide | assumption) c44m0_ (R44.one_row (m := m.toNat) (by omega) (by omega) i1_0 (by omega)).2 (by first | rfl | omega) | exact R44.sv_5 (fan := (kf : Int)) (by assumption) (by assumption) (R44.inR_id (by assumption)) (by first | decide | assumption) (R44.one_none (by omega) (R44.one_row (m := m.toNat) (by omega) (by omega) i1_0 (by omega)).1) R44.sums_no (by first | decide | assumption) c44m0_ (R44.one_row (m := m.toNat) (by omega) (by omega) i1_0 (by omega)).2 (by first | rfl | omega)
end Go.Proofs.YtnfglkgahlaofaaGreatDoor

namespace Go.Proofs.YtnfglkgahlaofaaGreatDoor
open Go.GV
namespace R44
abbrev ONE : List SortField := [SortField.mk 0 1 0 false]
abbrev TWO : List SortField := [SortField.mk 0 1 0 true]
theorem aw_valid : valid ONE = true := by decide
theorem aw_cmp : cmpV ONE [97] [98] = -1 := by decide
theorem aw_runs : (runsV ONE 2 [[51], [49], [52], [49], [53], [57], [50], [54]]).map List.length = [5, 3] := by decide +kernel
theorem aw_sort : sortV TWO 1 2 idF noF [[97], [98], [97]] = ([[98], [97], [97]], SortWork.mk 2 1 0, 0) := by decide +kernel
theorem aw_merge : mergeV ONE [[[97]], [[98]]] = [[97], [98]] := by decide +kernel
theorem aw_parse : parseV [48, 32, 49, 32, 100, 101, 115, 99, 101, 110, 100, 105, 110, 103] = (TWO, 0) := by decide +kernel
theorem aw_all {rout : List Rw} {x : List Bytes} {a b c e g : Int} {f : List SortField} (h1 : rout.map Rw.s = runsV ONE 2 [[51], [49], [52], [49], [53], [57], [50], [54]]) (h2 : (x, SortWork.mk a b c, e) = sortV TWO 1 2 idF noF [[97], [98], [97]]) (h3 : (f, g) = parseV [48, 32, 49, 32, 100, 101, 115, 99, 101, 110, 100, 105, 110, 103]) :
    (((((((((((decide (((rout.length : Nat) : Int) = 2)) && (decide ((((rout.getD 0 default).s.length : Nat) : Int) = 5))) && (valid ONE)) && (decide (cmpV ONE [97] [98] = (-1)))) && (decide (e = 0))) && (decide (((x.length : Nat) : Int) = 3))) && (decide ((x.getD 0 []) = ([98] : Bytes)))) && (decide (a = 2))) && (decide (g = 0))) && (decide (((f.length : Nat) : Int) = 1))) && (decide (((mergeV ONE [[[97]], [[98]]]).length : Int) = 2)) : Bool) = true := by
  have h4 := congrArg (List.map List.length) h1
  rw [aw_runs, List.map_map] at h4
  rw [aw_sort] at h2
  rw [aw_parse] at h3
  cases h2; cases h3
  rw [aw_valid, aw_cmp, aw_merge]
  cases rout with
  | nil => cases h4
  | cons p t => cases t with
    | nil => cases (List.cons.inj h4).2
    | cons q t => cases t with
      | cons r t => cases (List.cons.inj (List.cons.inj h4).2).2
      | nil =>
        have hp : p.s.length = 5 := (List.cons.inj h4).1
        have h5 : ((([p, q] : List Rw).getD 0 default).s.length : Int) = 5 := by show ((p.s.length : Nat) : Int) = 5; rw [hp]; rfl
        rw [h5, show ([p, q] : List Rw).length = 2 from rfl]; decide
theorem short_all {l : List Bytes} (h : l.all (fun x => decide (x.length ≤ 1000000)) = true) (i : Nat) : (l.getD i []).length ≤ 1000000 := by
  by_cases hi : i < l.length
  · rw [List.getD_eq_getElem?_getD, List.getElem?_eq_getElem hi]; exact of_decide_eq_true (List.all_eq_true.1 h _ (List.getElem_mem hi))
  · rw [List.getD_eq_getElem?_getD, List.getElem?_eq_none (by omega)]; exact Nat.zero_le _
theorem rws_all {l : List Rw} {p : Rw → Bool} (h : l.all p = true) (hd : p default = true) (i : Nat) : p (l.getD i default) = true := by
  by_cases hi : i < l.length
  · rw [List.getD_eq_getElem?_getD, List.getElem?_eq_getElem hi]; exact List.all_eq_true.1 h _ (List.getElem_mem hi)
  · rw [List.getD_eq_getElem?_getD, List.getElem?_eq_none (by omega)]; exact hd
theorem rws_short {l : List Rw} (h : l.all (fun x => x.s.all fun y => decide (y.length ≤ 1000000)) = true) (i j : Nat) : ((l.getD i default).s.getD j []).length ≤ 1000000 := short_all (rws_all (p := fun x => x.s.all fun y => decide (y.length ≤ 1000000)) h rfl i) j
theorem rws_cap {l : List Rw} (h : l.all (fun x => decide (x.s.length ≤ x.sC)) = true) (i : Nat) : (l.getD i default).s.length ≤ (l.getD i default).sC := of_decide_eq_true (rws_all (p := fun x => decide (x.s.length ≤ x.sC)) h rfl i)
end R44
end Go.Proofs.YtnfglkgahlaofaaGreatDoor
namespace Go.GV
open Go.Lib
theorem ron_nil1 {α : Type} [Inhabited α] {S : List Nat} {w : World} {fA : α → Option Addr} {fl : α → List Value} (hd : RO S w (fA default) (fl default)) : ∀ i : Nat, RO S w (fA (([] : List α).getD i default)) (fl (([] : List α).getD i default)) := fun _ => hd
theorem ron_cons1 {α : Type} [Inhabited α] {S : List Nat} {w : World} {fA : α → Option Addr} {fl : α → List Value} {a : α} {l : List α} (h : RO S w (fA a) (fl a)) (h2 : ∀ i : Nat, RO S w (fA (l.getD i default)) (fl (l.getD i default))) : ∀ i : Nat, RO S w (fA ((a :: l).getD i default)) (fl ((a :: l).getD i default))
  | 0 => h
  | i + 1 => h2 i
end Go.GV
