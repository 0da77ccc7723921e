/- C39a, Pl39i in one text. -/
import Derived.Test.YtbfiibgmgopnaaaDoorJobtextCalls3
import Derived.Test.YtbfiibgmgopnaaaDoorJobtextCalls7
import Derived.Test.YtbfiibgmgopnaaaDoorJobtextCalls4
import Derived.Test.YtbfiibgmgopnaaaDoorJobtextCalls6
set_option linter.unusedVariables false
set_option linter.unusedSimpArgs false
namespace Go.Proofs.YtbfiibgmgopnaaaDoor
open Go.GV
set_option linter.unusedVariables false
set_option linter.unusedSimpArgs false
theorem c39a0_ {p : Prop} (h : p := by first | exact R44.qual_0 (by assumption) | exact R44.qual_bad (k := k) (by omega) (by omega) (by assumption) | exact R44.qual_end (by assumption) (fun i h1 h2 => i1_2 i h1 (by omega))) : p := h
theorem c39a1_ {p : Prop} (h : p := by first | exact R44.name_0 (by assumption) | exact R44.name_bad (k := k) (by omega) (by assumption) | exact R44.name_end (by assumption) (fun i h2 => i1_1 i (by omega))) : p := h
set_option maxRecDepth 20000 in
theorem f75_ok (c : UInt8) (w : World) : Calls Tryd.prog 75 #[vU8 c] w (Gives [] w fun v L => v = vB (R44.isUp c) ∧ L = []) := by
 refine calls_J [] 9 Tryd.func75 rfl Tryd.ntmps75 [(0, _)] rfl rfl (Give.nil w) ?_
 refine q_ (g_ (s_ av_ (z_ (n_ (q_ (g_ (s_ mv_ (js_ (vB (decide ((65 : UInt8) ≤ c))) (x_geq_u8 rfl rfl) (s_ mv_ ?_)))))))))
 refine and_ 2 (decide (c ≤ (90 : UInt8))) (fun g1 => ?_) ?_
 ·have g1r := g1
  have g1r := of_decide_eq_true g1r
  have g1ru := g1r
  try simp only [UInt8.lt_iff_toNat_lt, UInt8.le_iff_toNat_le, UInt8.reduceToNat, UInt32.lt_iff_toNat_lt, UInt32.le_iff_toNat_le, UInt32.reduceToNat, UInt64.lt_iff_toNat_lt, UInt64.le_iff_toNat_le, UInt64.reduceToNat] at g1ru
  refine sg_ g1 mv_ (jg_ g1 (vB (decide (c ≤ (90 : UInt8)))) (x_leq_u8 rfl rfl) ?_)
  exact cr_
 refine s_ av_ (z_ (n_ (rt_ ?_)))
 exact p1 Tryd.results75 rfl ⟨(eB (by rfl)), rfl⟩
set_option maxRecDepth 20000 in
theorem f94_ok (c : UInt8) (w : World) : Calls Tryd.prog 94 #[vU8 c] w (Gives [] w fun v L => v = vB (R44.isDg c) ∧ L = []) := by
 refine calls_J [] 9 Tryd.func94 rfl Tryd.ntmps94 [(0, _)] rfl rfl (Give.nil w) ?_
 refine q_ (g_ (s_ av_ (z_ (n_ (q_ (g_ (s_ mv_ (js_ (vB (decide ((48 : UInt8) ≤ c))) (x_geq_u8 rfl rfl) (s_ mv_ ?_)))))))))
 refine and_ 2 (decide (c ≤ (57 : UInt8))) (fun g1 => ?_) ?_
 ·have g1r := g1
  have g1r := of_decide_eq_true g1r
  have g1ru := g1r
  try simp only [UInt8.lt_iff_toNat_lt, UInt8.le_iff_toNat_le, UInt8.reduceToNat, UInt32.lt_iff_toNat_lt, UInt32.le_iff_toNat_le, UInt32.reduceToNat, UInt64.lt_iff_toNat_lt, UInt64.le_iff_toNat_le, UInt64.reduceToNat] at g1ru
  refine sg_ g1 mv_ (jg_ g1 (vB (decide (c ≤ (57 : UInt8)))) (x_leq_u8 rfl rfl) ?_)
  exact cr_
 refine s_ av_ (z_ (n_ (rt_ ?_)))
 exact p1 Tryd.results94 rfl ⟨(eB (by rfl)), rfl⟩
set_option maxRecDepth 20000 in
theorem f76_ok (c : UInt8) (w : World) : Calls Tryd.prog 76 #[vU8 c] w (Gives [] w fun v L => v = vB (R44.isPl c) ∧ L = []) := by
 refine calls_J [] 9 Tryd.func76 rfl Tryd.ntmps76 [(0, _)] rfl rfl (Give.nil w) ?_
 refine q_ (g_ (s_ av_ (z_ (n_ (q_ (g_ (s_ mv_ (c0 (cl_ Ty.ca75) (fun w hS => f75_ok c w) (s_ mv_ ?_)))))))))
 refine or_ 2 (R44.isDg c) (fun g1 => ?_) ?_
 ·have g1r := g1
  refine sg_ g1 mv_ (c0g g1 (cl_ Ty.ca94) (fun w hS => f94_ok c w) ?_)
  exact cr_
 refine s_ av_ (z_ (n_ (rt_ ?_)))
 exact p1 Tryd.results76 rfl ⟨(eB (by rfl)), rfl⟩
set_option maxRecDepth 20000 in
theorem f74_ok (s : Bytes) (w : World) (q0 : s.length ≤ 9223372036854775807) : Calls Tryd.prog 74 #[vS s, Value.func (.func 75) #[] #[], Value.func (.func 76) #[] #[]] w (Gives [] w fun v L => v = vB (R44.qualV R44.isUp R44.isPl s) ∧ L = []) := by
 refine calls_J [] 35 Tryd.func74 rfl Tryd.ntmps74 [(0, _), (1, _), (2, _)] rfl rfl (Give.nil w) ?_
 refine q_ (g_ (s_ av_ (z_ (n_ (q_ (q_ (g_ (s_ mv_ (s_ (x_len_s rfl Tryd.underlying9) (s_ (x_lss_i rfl rfl) (s_ mv_ ?_)))))))))))
 refine or_ 3 (decide ((8 : Int) < ((s.length : Nat) : Int))) (fun g1 => ?_) ?_
 ·have g1r := g1
  have g1r := of_decide_eq_false g1r
  refine sg_ g1 mv_ (sg_ g1 (x_len_s rfl Tryd.underlying9) (sg_ g1 (x_gtr_i rfl rfl) ?_))
  exact cr_
 refine s_ mv_ ?_
 refine or_ 5 (!(R44.isUp (s.getD 0 0))) (fun g2 => ?_) ?_
 ·have g2r := g2
  have ⟨g2r, h3⟩ := bor_false g2r
  have g2r := of_decide_eq_false g2r
  have h3 := of_decide_eq_false h3
  refine sg_ g2 mv_ (sg_ g2 mv_ (sg_ g2 (x_idx_s (k := 0) rfl rfl Tryd.underlying9 (by omega)) (c0g g2 (x_callv (first := []) (caps := []) rfl Ty.ca75 rfl) (fun w hS => f75_ok _ w) (sg_ g2 (x_not rfl) ?_))))
  exact cr_
 refine z_ (n_ ?_)
 refine if_ (fun h4 => ?_) (fun h4 => ?_)
 ·have h4w := h4
  simp only [Bool.and_eq_true, Bool.or_eq_true, Bool.and_eq_false_iff, Bool.or_eq_false_iff, Bool.not_eq_true', Bool.not_eq_false', decide_eq_true_eq, decide_eq_false_iff_not] at h4
  refine q_ (g_ (s_ av_ (z_ (n_ (rt_ (nr_ ?_))))))
  exact p1 Tryd.results74 rfl ⟨(eB c39a0_), rfl⟩
 ·have h4w := h4
  have ⟨h4, h5⟩ := bor_false h4
  have ⟨h4, h6⟩ := bor_false h4
  have h4 := of_decide_eq_false h4
  have h6 := of_decide_eq_false h6
  have h5 : (R44.isUp (s.getD 0 0)) = true := bnot_false h5
  refine sk_ (n_ (q_ (q_ (g_ (s_ av_ (z_ (n_ (k_ ?_))))))))
  refine J_loop (X := Nat) (fun (k : Nat) => (1 ≤ k) ∧ (k ≤ s.length) ∧ (∀ i, 1 ≤ i → i < k → R44.isPl (s.getD i 0) = true)) (fun (k : Nat) => [(0, vS s), (2, Value.func (.func 76) #[] #[]), (7, vI ((k : Nat) : Int))]) (fun (k : Nat) => []) (fun (k : Nat) => s.length - k) (1 : Nat) ?_ ⟨rfl, rfl, rfl, trivial⟩ (fun _ h => h) ?_
  ·try dsimp only
   refine ⟨?_, ?_, ?_⟩
   ·first | rfl | omega | (simp_all; done) | (simp_all; omega)
   ·first | rfl | omega | (simp_all; done) | (simp_all; omega)
   ·intro i h1 h2; omega
  intro k hI1
  obtain ⟨i1_0, i1_1, i1_2⟩ := hI1
  try dsimp only at i1_0
  try dsimp only at i1_1
  try dsimp only at i1_2
  try dsimp only
  refine q_ (q_ (g_ (s_ mv_ (s_ mv_ (s_ (x_len_s rfl Tryd.underlying9) (s_ (x_lss_i rfl rfl) (z_ (n_ ?_))))))))
  refine ifd (fun h7w h7 => ?_) (fun h7w h7 => ?_)
  ·refine sk_ (n_ (q_ (k_ (q_ (g_ (s_ mv_ (s_ mv_ (s_ mv_ (s_ (x_idx_s (k := k) rfl rfl Tryd.underlying9 (by omega)) (c0 (x_callv (first := []) (caps := []) rfl Ty.ca76 rfl) (fun w hS => f76_ok _ w) (s_ (x_not rfl) (z_ (n_ ?_)))))))))))))
   refine if_ (fun h8 => ?_) (fun h8 => ?_)
   ·have h8w := h8
    have h8 : (R44.isPl (s.getD k 0)) = false := bnot_true h8
    refine q_ (g_ (s_ av_ (z_ (n_ (rt_ (kq_ (nr_ (rr_ (kq_ (nr_ ?_))))))))))
    exact p1 Tryd.results74 rfl ⟨(eB c39a0_), rfl⟩
   ·have h8w := h8
    have h8 : (R44.isPl (s.getD k 0)) = true := bnot_false h8
    refine sk_ (kx_ (n_ (g_ (s_ mv_ (s_ (x_add_n (a := k) (b := 1) rfl rfl (by omega)) (s_ av_ (z_ ?_)))))))
    refine JX_round (k + 1 : Nat) ?_ ?_ ⟨rfl, rfl, rfl, trivial⟩ (fun _ h => h)
    ·try dsimp only
     refine ⟨?_, ?_, ?_⟩
     ·first | rfl | omega | (simp_all; done) | (simp_all; omega)
     ·first | rfl | omega | (simp_all; done) | (simp_all; omega)
     ·exact R44.qual_step i1_2 (by assumption)
    ·try dsimp only
     first | omega | (simp; omega) | (simp_all; omega)
  ·refine J_exit (ne_ (re_ (kh_ (n_ (q_ ?_)))))
   refine g_ (s_ av_ (z_ (n_ (rt_ ?_))))
   exact p1 Tryd.results74 rfl ⟨(eB c39a0_), rfl⟩
set_option maxRecDepth 20000 in
theorem f73_ok (s : Bytes) (w : World) (q0 : s.length ≤ 9223372036854775807) : Calls Tryd.prog 73 #[vS s] w (Gives [] w fun v L => v = vB (R44.qualV R44.isUp R44.isPl s) ∧ L = []) := by
 refine calls_J [] 5 Tryd.func73 rfl Tryd.ntmps73 [(0, _)] rfl rfl (Give.nil w) ?_
 refine q_ (g_ (s_ av_ (z_ (n_ (q_ (g_ (s_ mv_ (c0 (cl_ Ty.ca74) (fun w hS => f74_ok s w hy_) (s_ av_ (z_ (n_ (rt_ ?_))))))))))))
 exact p1 Tryd.results73 rfl ⟨rfl, rfl⟩
set_option maxRecDepth 20000 in
theorem f72_ok (s : Bytes) (w : World) (hT : Tab [] w) (q0 : s.length ≤ 1000000) : Calls Tryd.prog 72 #[vS s, vI 31, Value.func (.func 73) #[] #[]] w (Gives [] w fun v L => v = vB (R44.nameV (R44.qualV R44.isUp R44.isPl) s) ∧ L = []) := by
 refine calls_J [] 30 Tryd.func72 rfl Tryd.ntmps72 [(0, _), (1, _), (2, _)] rfl rfl (Give.nil w) ?_
 refine q_ (g_ (s_ av_ (z_ (n_ (q_ (q_ (g_ (s_ mv_ (s_ (x_len_s rfl Tryd.underlying9) (s_ (x_lss_i rfl rfl) (s_ mv_ ?_)))))))))))
 refine or_ 4 (decide ((31 : Int) < ((s.length : Nat) : Int))) (fun g1 => ?_) ?_
 ·have g1r := g1
  have g1r := of_decide_eq_false g1r
  refine sg_ g1 mv_ (sg_ g1 (x_len_s rfl Tryd.underlying9) (sg_ g1 mv_ (sg_ g1 (x_gtr_i rfl rfl) ?_)))
  exact cr_
 refine z_ (n_ ?_)
 refine if_ (fun h2 => ?_) (fun h2 => ?_)
 ·have h2w := h2
  simp only [Bool.and_eq_true, Bool.or_eq_true, Bool.and_eq_false_iff, Bool.or_eq_false_iff, Bool.not_eq_true', Bool.not_eq_false', decide_eq_true_eq, decide_eq_false_iff_not] at h2
  refine q_ (g_ (s_ av_ (z_ (n_ (rt_ (nr_ ?_))))))
  exact p1 Tryd.results72 rfl ⟨(eB c39a1_), rfl⟩
 ·have h2w := h2
  have ⟨h2, h3⟩ := bor_false h2
  have h2 := of_decide_eq_false h2
  have h3 := of_decide_eq_false h3
  refine sk_ (n_ (q_ (q_ (g_ (s_ mv_ ?_)))))
  refine c1 (cl_ Ty.ca93) (fun w hS => split_ok s w (hT.on hS (fun _ h => by cases h)) hy_) ?_
  rintro _ _ ⟨e4, e5, rfl, rfl⟩
  have ha6 := R44.splitC_count 46 s
  refine s_ (lnS Tryd.underlying24) (s_ mv_ (z_ (n_ (k_ ?_))))
  refine J_loop (X := Nat) (fun (k : Nat) => (k ≤ (R44.splitC 46 s).length) ∧ (∀ i, i < k → (R44.qualV R44.isUp R44.isPl) ((R44.splitC 46 s).getD i []) = true)) (fun (k : Nat) => [(2, Value.func (.func 73) #[] #[]), (19, vL e4 ((R44.splitC 46 s).length) e5), (20, vI (((R44.splitC 46 s).length : Nat) : Int)), (21, vI ((k : Nat) : Int))]) (fun (k : Nat) => [Ent.row (.slice e4 (R44.splitC 46 s).length e5) 9 1 (R44.splitC 46 s).length ((R44.splitC 46 s).map vS)]) (fun (k : Nat) => (R44.splitC 46 s).length - k) (0 : Nat) ?_ ⟨rfl, rfl, rfl, rfl, trivial⟩ (fun _ h => h) ?_
  ·try dsimp only
   refine ⟨?_, ?_⟩
   ·first | rfl | omega | (simp_all; done) | (simp_all; omega)
   ·intro i h2; omega
  intro k hI1
  obtain ⟨i1_0, i1_1⟩ := hI1
  try dsimp only at i1_0
  try dsimp only at i1_1
  have hpl := R44.splitC_len 46 s k
  try dsimp only
  refine q_ (g_ (s_ (x_lss_i rfl rfl) (z_ (n_ (q_ ?_)))))
  refine ifd (fun h7w h7 => ?_) (fun h7w h7 => ?_)
  ·refine sk_ (n_ (q_ (k_ (q_ (g_ (r_ (ixM (cells_row 0 rfl) Tryd.underlying24 Ty.sz9) (r_ (ldM vS [] (cells_row 0 rfl) Ty.sc9) (s_ av_ (z_ (n_ (q_ (g_ (s_ mv_ (s_ mv_ (c0 (x_callv (first := []) (caps := []) rfl Ty.ca73 rfl) (fun w hS => f73_ok _ w hy_) (s_ (x_not rfl) (z_ (n_ ?_))))))))))))))))))
   refine if_ (fun h8 => ?_) (fun h8 => ?_)
   ·have h8w := h8
    have h8 : (R44.qualV R44.isUp R44.isPl ((R44.splitC 46 s).getD k [])) = false := bnot_true h8
    refine q_ (g_ (s_ av_ (z_ (n_ (rt_ (kq_ (nr_ (rr_ (kq_ (nr_ ?_))))))))))
    exact p1 Tryd.results72 rfl ⟨(eB c39a1_), rfl⟩
   ·have h8w := h8
    have h8 : (R44.qualV R44.isUp R44.isPl ((R44.splitC 46 s).getD k [])) = true := bnot_false h8
    refine sk_ (kx_ (n_ (g_ (s_ (x_add_n (a := k) (b := 1) rfl rfl (by omega)) (s_ mv_ (z_ ?_))))))
    refine JX_round (k + 1 : Nat) ?_ ?_ ⟨rfl, rfl, rfl, rfl, trivial⟩ (fun _ h => h)
    ·try dsimp only
     refine ⟨?_, ?_⟩
     ·first | rfl | omega | (simp_all; done) | (simp_all; omega)
     ·exact R44.all_step i1_1 (by assumption)
    ·try dsimp only
     first | omega | (simp; omega) | (simp_all; omega)
  ·refine J_exit (ne_ (re_ (kh_ (n_ (q_ ?_)))))
   refine g_ (s_ av_ (z_ (n_ (rt_ ?_))))
   exact p1 Tryd.results72 rfl ⟨(eB c39a1_), rfl⟩
set_option maxRecDepth 20000 in
theorem f55_ok (s : Bytes) (w : World) (hT : Tab [] w) (q0 : s.length ≤ 1000000) : Calls Tryd.prog 55 #[vS s] w (Gives [] w fun v L => v = vB (R44.nameV (R44.qualV R44.isUp R44.isPl) s) ∧ L = []) := by
 refine calls_J [] 5 Tryd.func55 rfl Tryd.ntmps55 [(0, _)] rfl rfl (Give.nil w) ?_
 refine q_ (g_ (s_ av_ (z_ (n_ (q_ (g_ (s_ mv_ (c0 (cl_ Ty.ca72) (fun w hS => f72_ok s w (hT.on hS (fun _ h => by cases h)) hy_) (s_ av_ (z_ (n_ (rt_ ?_))))))))))))
 exact p1 Tryd.results55 rfl ⟨rfl, rfl⟩
set_option maxRecDepth 20000 in
theorem f50_ok (x : Nat) (w : World) : Calls Tryd.prog 50 #[vR (x : Int)] w (Gives [] w fun v L => v = vB (R39.pW x) ∧ L = []) := by
 refine calls_J [] 13 Tryd.func50 rfl Tryd.ntmps50 [(0, _)] rfl rfl (Give.nil w) ?_
 refine q_ (g_ (s_ av_ (z_ (n_ (q_ (g_ (s_ mv_ (js_ (vB (decide ((x : Int) ≤ (32 : Int)))) (x_leq_i32 rfl rfl) (s_ mv_ ?_)))))))))
 refine or_ 2 (decide ((126 : Int) < (x : Int))) (fun g1 => ?_) ?_
 ·have g1r := g1
  have g1r := of_decide_eq_false g1r
  refine sg_ g1 mv_ (jg_ g1 (vB (decide ((126 : Int) < (x : Int)))) (x_gtr_i32 rfl rfl) ?_)
  exact cr_
 refine s_ mv_ ?_
 refine or_ 2 (decide ((x : Int) = (39 : Int))) (fun g2 => ?_) ?_
 ·have g2r := g2
  have ⟨g2r, h3⟩ := bor_false g2r
  have g2r := of_decide_eq_false g2r
  have h3 := of_decide_eq_false h3
  refine sg_ g2 mv_ (jg_ g2 (vB (decide ((x : Int) = (39 : Int)))) (x_eql_i32 rfl rfl) ?_)
  exact cr_
 refine s_ av_ (z_ (n_ (rt_ ?_)))
 exact p1 Tryd.results50 rfl ⟨(eB (R39.pW_int x)), rfl⟩
set_option maxRecDepth 20000 in
theorem f30_ok (s : Bytes) (w : World) (hT : Tab [] w) (q0 : s.length ≤ 1000000) : Calls Tryd.prog 30 #[vS s] w (Gives [] w fun v L => v = vB (R39.symV s) ∧ L = []) := by
 refine calls_J [] 10 Tryd.func30 rfl Tryd.ntmps30 [(0, _)] rfl rfl (Give.nil w) ?_
 refine q_ (g_ (s_ av_ (z_ (n_ (q_ (g_ (s_ mv_ (c0 (cl_ Ty.ca55) (fun w hS => f55_ok s w (hT.on hS (fun _ h => by cases h)) hy_) (s_ mv_ ?_)))))))))
 refine and_ 3 (!(decide (46 ∈ s))) (fun g1 => ?_) ?_
 ·have g1r := g1
  refine sg_ g1 mv_ (c0g g1 (cl_ Ty.ca18) (fun w hS => cont_ok 46 s w) (sg_ g1 (x_not rfl) ?_))
  exact cr_
 refine s_ av_ (z_ (n_ (rt_ ?_)))
 exact p1 Tryd.results30 rfl ⟨(eB (R39.sym_name s)), rfl⟩
set_option maxRecDepth 20000 in
theorem cc_new (bb : Nat) (q : Value) (w : World) (hg : Give [bb] w [Ent.blk bb 54 [Value.pointer none, q]]) : Calls Tryd.prog 52 #[pB bb 0] w (Gives [bb] w fun v L => v = Value.tuple #[] ∧ L = [Ent.blk bb 54 [pB bb 0, q]]) := by
 refine calls_J [bb] 20 Tryd.func52 rfl Tryd.ntmps52 [(0, _)] rfl rfl hg ?_
 refine q_ (g_ (s_ mv_ (s_ (x_nilCheck rfl) (s_ (fA 0 Ty.fi54_0) (r_ (ld_ 0 Ty.sc51) (s_ (x_eql_nilp Tryd.underlying51 rfl rfl) (z_ (n_ (ift (g_ (s_ mv_ (s_ mv_ (r_ (x_to_unsafe 0 rfl rfl Tryd.underlying51 Tryd.underlying113 Ty.sz54 (Nat.succ_pos _)) ?_)))))))))))))
 refine s_ (x_noEscape noEsc rfl) (r_ (x_from_unsafe 0 rfl rfl Tryd.underlying113 Tryd.underlying51 Ty.sz54 (by kernel_rfl)) (s_ (x_nilCheck rfl) (s_ (fA 0 Ty.fi54_0) (o_ (st1 0 Ty.sz51 ?_)))))
 refine z_ ?_
 refine JX_end0 Tryd.results52 [Ent.blk bb 54 [pB bb 0, q]] (fun _ h => h) ⟨?_, ?_⟩
 ·rfl
 ·rfl
set_option maxRecDepth 20000 in
theorem cc_old (bb : Nat) (q : Value) (w : World) (hg : Give [bb] w [Ent.blk bb 54 [pB bb 0, q]]) : Calls Tryd.prog 52 #[pB bb 0] w (Gives [bb] w fun v L => v = Value.tuple #[] ∧ L = [Ent.blk bb 54 [pB bb 0, q]]) := by
 refine calls_J [bb] 20 Tryd.func52 rfl Tryd.ntmps52 [(0, _)] rfl rfl hg ?_
 refine q_ (g_ (s_ mv_ (s_ (x_nilCheck rfl) (s_ (fA 0 Ty.fi54_0) (r_ (ld_ 0 Ty.sc51) (s_ (x_eql_ptr Tryd.underlying51 rfl rfl) (z_ (n_ (iff_ (q_ (g_ (s_ mv_ (s_ (x_nilCheck rfl) (s_ (fA 0 Ty.fi54_0) ?_))))))))))))))
 refine r_ (ld_ 0 Ty.sc51) (s_ mv_ (s_ (x_neq_ptr rfl rfl Tryd.underlying51 Ty.sz54) (z_ (n_ (iff_ (sk_ ?_))))))
 refine JX_end0 Tryd.results52 [Ent.blk bb 54 [pB bb 0, q]] (fun _ h => h) ⟨?_, ?_⟩
 ·rfl
 ·rfl
theorem cc_ok (bb : Nat) (p : Value) (q : Value) (w : World) (q0 : p = Value.pointer none ∨ p = pB bb 0) (hg : Give [bb] w [Ent.blk bb 54 [p, q]]) : Calls Tryd.prog 52 #[pB bb 0] w (Gives [bb] w fun v L => v = Value.tuple #[] ∧ L = [Ent.blk bb 54 [pB bb 0, q]]) := by
 rcases q0 with rfl | rfl
 ·exact cc_new bb q w hg
 ·exact cc_old bb q w hg
set_option maxRecDepth 20000 in
theorem f26_ok (bb : Nat) (p : Value) (xs : List UInt8) (xsA : Option Addr) (xsC : Nat) (xsN : Nat) (s : Bytes) (w : World) (xsQ : xsN = xs.length) (q0 : p = Value.pointer none ∨ p = pB bb 0) (q1 : xs.length ≤ 1000000000) (q2 : s.length ≤ 1000000000) (hg : Give (Lown [Ent.blk bb 54 [p, vL xsA xsN xsC], Ent.row (.slice xsA xsN xsC) 5 1 xsN (xs.map vU8)]) w [Ent.blk bb 54 [p, vL xsA xsN xsC], Ent.row (.slice xsA xsN xsC) 5 1 xsN (xs.map vU8)]) : Calls Tryd.prog 26 #[pB bb 0, vS s] w (Gives (Lown [Ent.blk bb 54 [p, vL xsA xsN xsC], Ent.row (.slice xsA xsN xsC) 5 1 xsN (xs.map vU8)]) w fun v L => ∃ yA : Option Addr, ∃ yC : Nat, v = Value.tuple #[vI ((s.length : Nat) : Int), Value.nilIface] ∧ L = [Ent.blk bb 54 [pB bb 0, vL yA ((xs ++ s).length) yC], Ent.row (.slice yA (xs ++ s).length yC) 5 1 (xs ++ s).length ((xs ++ s).map vU8)]) := by
 subst xsQ
 refine calls_J (Lown [Ent.blk bb 54 [p, vL xsA xs.length xsC], Ent.row (.slice xsA xs.length xsC) 5 1 xs.length (xs.map vU8)]) 19 Tryd.func26 rfl Tryd.ntmps26 [(0, _), (1, _)] rfl rfl hg ?_
 refine q_ (g_ (s_ av_ (s_ av_ (z_ (n_ (q_ (g_ (s_ mv_ ?_))))))))
 refine JO_call [bb] [Ent.blk bb 54 [p, vL xsA xs.length xsC]] [Ent.row (.slice xsA xs.length xsC) 5 1 xs.length (xs.map vU8)] rfl trivial (fun _ => x_call Ty.ca52 rfl) (fun _ h => h) (own_mem rfl) (fun w hS => cc_ok bb p (vL xsA xs.length xsC) w (by first | assumption | exact .inl rfl | exact .inr rfl) (hS.give (own_in rfl))) ?_
 rintro _ _ ⟨rfl, rfl⟩
 refine z_ (n_ (q_ (g_ (s_ mv_ (s_ mv_ (s_ (x_nilCheck rfl) (s_ (fA 1 Ty.fi54_1) (r_ (ld_ 0 Ty.sc52) (s_ mv_ (o_ (O_append_s 1 xs s Tryd.underlying52 Tryd.underlying9 Ty.sz5 Ty.by5 Ty.ze5 rfl rfl rfl rfl lt_ fun A1 c2 => ?_)))))))))))
 refine s_ (x_nilCheck rfl) (s_ (fA 1 Ty.fi54_1) (o_ (st1 0 Ty.sz52 ?_)))
 refine z_ (n_ (q_ (g_ (s_ mv_ (s_ (x_len_s rfl Tryd.underlying9) (s_ av_ (s_ av_ (z_ (n_ (rt_ ?_))))))))))
 refine JX_rets [_, _] (Value.tuple #[_, _]) Tryd.results26 (fun w h => ⟨rfl, rfl, trivial⟩) rfl _ (fun _ h => h) ⟨A1, c2, ?_, ?_⟩
 ·rfl
 ·rfl
set_option maxRecDepth 20000 in
theorem f28_ok (bb : Nat) (p : Value) (xs : List UInt8) (xsA : Option Addr) (xsC : Nat) (xsN : Nat) (c : UInt8) (w : World) (xsQ : xsN = xs.length) (q0 : p = Value.pointer none ∨ p = pB bb 0) (q1 : xs.length ≤ 1000000000) (hg : Give (Lown [Ent.blk bb 54 [p, vL xsA xsN xsC], Ent.row (.slice xsA xsN xsC) 5 1 xsN (xs.map vU8)]) w [Ent.blk bb 54 [p, vL xsA xsN xsC], Ent.row (.slice xsA xsN xsC) 5 1 xsN (xs.map vU8)]) : Calls Tryd.prog 28 #[pB bb 0, vU8 c] w (Gives (Lown [Ent.blk bb 54 [p, vL xsA xsN xsC], Ent.row (.slice xsA xsN xsC) 5 1 xsN (xs.map vU8)]) w fun v L => ∃ yA : Option Addr, ∃ yC : Nat, v = Value.nilIface ∧ L = [Ent.blk bb 54 [pB bb 0, vL yA ((xs ++ [c]).length) yC], Ent.row (.slice yA (xs ++ [c]).length yC) 5 1 (xs ++ [c]).length ((xs ++ [c]).map vU8)]) := by
 subst xsQ
 refine calls_J (Lown [Ent.blk bb 54 [p, vL xsA xs.length xsC], Ent.row (.slice xsA xs.length xsC) 5 1 xs.length (xs.map vU8)]) 17 Tryd.func28 rfl Tryd.ntmps28 [(0, _), (1, _)] rfl rfl hg ?_
 refine q_ (g_ (s_ av_ (z_ (n_ (q_ (g_ (s_ mv_ ?_)))))))
 refine JO_call [bb] [Ent.blk bb 54 [p, vL xsA xs.length xsC]] [Ent.row (.slice xsA xs.length xsC) 5 1 xs.length (xs.map vU8)] rfl trivial (fun _ => x_call Ty.ca52 rfl) (fun _ h => h) (own_mem rfl) (fun w hS => cc_ok bb p (vL xsA xs.length xsC) w (by first | assumption | exact .inl rfl | exact .inr rfl) (hS.give (own_in rfl))) ?_
 rintro _ _ ⟨rfl, rfl⟩
 refine z_ (n_ (q_ (g_ (s_ mv_ (s_ mv_ (s_ (x_nilCheck rfl) (s_ (fA 1 Ty.fi54_1) (r_ (ld_ 0 Ty.sc52) (s_ mv_ (o_ (O_buildSlice (cs := [vU8 c]) Tryd.underlying52 Ty.sz5 Ty.ze5 (by decide) (by decide) (by kernel_rfl) fun b1 => ?_)))))))))))
 refine o_ (O_append_m 2 vU8 xs [c] Tryd.underlying52 Ty.sz5 Ty.by5 Ty.ze5 rfl rfl rfl rfl rfl (fun _ => rfl) (cells_blk 0 (off := 0) (m := 1) rfl rfl) lt_ lt_ fun A2 c3 => ?_)
 refine s_ (x_nilCheck rfl) (s_ (fA 1 Ty.fi54_1) (o_ (st1 1 Ty.sz52 ?_)))
 refine z_ (n_ (q_ (g_ (s_ av_ (z_ (n_ (rt_ ?_)))))))
 refine JX_rets [_] _ Tryd.results28 (fun w h => ⟨rfl, trivial⟩) rfl _ (fun _ h => h.keep [false, true, true] rfl) ⟨A2, c3, ?_, ?_⟩
 ·rfl
 ·rfl
set_option maxRecDepth 20000 in
theorem f31_ok (bb : Nat) (p : Value) (xs : List UInt8) (xsA : Option Addr) (xsC : Nat) (xsN : Nat) (w : World) (xsQ : xsN = xs.length) (hg : Give (Lown [Ent.blk bb 54 [p, vL xsA xsN xsC], Ent.row (.slice xsA xsN xsC) 5 1 xsN (xs.map vU8)]) w [Ent.blk bb 54 [p, vL xsA xsN xsC], Ent.row (.slice xsA xsN xsC) 5 1 xsN (xs.map vU8)]) : Calls Tryd.prog 31 #[pB bb 0] w (Gives (Lown [Ent.blk bb 54 [p, vL xsA xsN xsC], Ent.row (.slice xsA xsN xsC) 5 1 xsN (xs.map vU8)]) w fun v L => v = vI ((xs.length : Nat) : Int) ∧ L = [Ent.blk bb 54 [p, vL xsA xs.length xsC], Ent.row (.slice xsA xs.length xsC) 5 1 xs.length (xs.map vU8)]) := by
 subst xsQ
 refine calls_J (Lown [Ent.blk bb 54 [p, vL xsA xs.length xsC], Ent.row (.slice xsA xs.length xsC) 5 1 xs.length (xs.map vU8)]) 8 Tryd.func31 rfl Tryd.ntmps31 [(0, _)] rfl rfl hg ?_
 refine q_ (g_ (s_ av_ (z_ (n_ (q_ (g_ (s_ mv_ (s_ (x_nilCheck rfl) (s_ (fA 1 Ty.fi54_1) (r_ (ld_ 0 Ty.sc52) (s_ (lnS Tryd.underlying52) (s_ av_ (z_ (n_ (rt_ ?_)))))))))))))))
 refine JX_rets [_] _ Tryd.results31 (fun w h => ⟨rfl, trivial⟩) rfl _ (fun _ h => h) ⟨?_, ?_⟩
 ·rfl
 ·rfl
set_option maxRecDepth 20000 in
theorem str_0 (bb : Nat) (p : Value) (xsA : Option Addr) (xsC : Nat) (w : World) (hg : Give (Lown [Ent.blk bb 54 [p, vL xsA 0 xsC], Ent.row (.slice xsA 0 xsC) 5 1 0 (([] : Bytes).map vU8)]) w [Ent.blk bb 54 [p, vL xsA 0 xsC], Ent.row (.slice xsA 0 xsC) 5 1 0 (([] : Bytes).map vU8)]) : Calls Tryd.prog 32 #[pB bb 0] w (Gives (Lown [Ent.blk bb 54 [p, vL xsA 0 xsC], Ent.row (.slice xsA 0 xsC) 5 1 0 (([] : Bytes).map vU8)]) w fun v L => v = vS [] ∧ L = []) := by
 refine calls_J (Lown [Ent.blk bb 54 [p, vL xsA 0 xsC], Ent.row (.slice xsA 0 xsC) 5 1 0 (([] : Bytes).map vU8)]) 14 Tryd.func32 rfl Tryd.ntmps32 [(0, _)] rfl rfl hg ?_
 refine q_ (g_ (s_ av_ (z_ (n_ (q_ ?_)))))
 refine drU [] [10] 12 Ty.mixed ?_
 refine jp_ 0 rfl mv_ (jp_ 1 rfl (x_nilCheck rfl) (jp_ 2 rfl (fA 1 Ty.fi54_1) ?_))
 refine JA_earlyT 3 (vL xsA 0 xsC) rfl (by kernel_rfl) (by kernel_rfl) (by kernel_rfl) rfl (by kernel_rfl) (fun _ _ _ h => h) rfl trivial (x_load 0 rfl rfl Ty.sc52 rfl) ?_
 refine jp_ 5 rfl mv_ (jp_ 6 rfl (x_nilCheck rfl) (jp_ 7 rfl (fA 1 Ty.fi54_1) ?_))
 refine JA_earlyT 8 (vL xsA 0 xsC) rfl (by kernel_rfl) (by kernel_rfl) (by kernel_rfl) rfl (by kernel_rfl) (fun _ _ _ h => h) rfl trivial (x_load 0 rfl rfl Ty.sc52 rfl) ?_
 refine jp_ 9 rfl (lnS Tryd.underlying52) (j1_ 4 (jio_ rfl (O_usd0 1 rfl rfl Tryd.underlying97 fun p2 => ?_)) (fun _ h => ⟨h.keep [false, false] rfl, fun _ => h⟩))
 refine j1_ 10 ?_ (fun _ h => ⟨h.keep [false, false] rfl, fun _ => h⟩)
 refine JI_read (vS []) rfl rfl trivial (fun _ _ => x_ustr0 rfl rfl) ?_
 refine jp_ 11 rfl av_ ?_
 refine JA_done (by kernel_rfl) (gl_ rfl (fun _ h => h.keep [false, false] rfl)) ?_
 refine n_ (rt_ ?_)
 exact p1 Tryd.results32 rfl ⟨rfl, rfl⟩
set_option maxRecDepth 20000 in
theorem str_1 (bb : Nat) (p : Value) (xs : List UInt8) (xsA : Option Addr) (xsC : Nat) (w : World) (q0 : 0 < xs.length) (q1 : xs.length ≤ 1000000000) (hg : Give (Lown [Ent.blk bb 54 [p, vL xsA xs.length xsC], Ent.row (.slice xsA xs.length xsC) 5 1 xs.length (xs.map vU8)]) w [Ent.blk bb 54 [p, vL xsA xs.length xsC], Ent.row (.slice xsA xs.length xsC) 5 1 xs.length (xs.map vU8)]) : Calls Tryd.prog 32 #[pB bb 0] w (Gives (Lown [Ent.blk bb 54 [p, vL xsA xs.length xsC], Ent.row (.slice xsA xs.length xsC) 5 1 xs.length (xs.map vU8)]) w fun v L => v = vS xs ∧ L = []) := by
 refine calls_J (Lown [Ent.blk bb 54 [p, vL xsA xs.length xsC], Ent.row (.slice xsA xs.length xsC) 5 1 xs.length (xs.map vU8)]) 14 Tryd.func32 rfl Tryd.ntmps32 [(0, _)] rfl rfl hg ?_
 refine q_ (g_ (s_ av_ (z_ (n_ (q_ ?_)))))
 refine drU [] [10] 12 Ty.mixed ?_
 refine jp_ 0 rfl mv_ (jp_ 1 rfl (x_nilCheck rfl) (jp_ 2 rfl (fA 1 Ty.fi54_1) ?_))
 refine JA_earlyT 3 (vL xsA xs.length xsC) rfl (by kernel_rfl) (by kernel_rfl) (by kernel_rfl) rfl (by kernel_rfl) (fun _ _ _ h => h) rfl trivial (x_load 0 rfl rfl Ty.sc52 rfl) ?_
 refine jp_ 5 rfl mv_ (jp_ 6 rfl (x_nilCheck rfl) (jp_ 7 rfl (fA 1 Ty.fi54_1) ?_))
 refine JA_earlyT 8 (vL xsA xs.length xsC) rfl (by kernel_rfl) (by kernel_rfl) (by kernel_rfl) rfl (by kernel_rfl) (fun _ _ _ h => h) rfl trivial (x_load 0 rfl rfl Ty.sc52 rfl) ?_
 refine jp_ 9 rfl (lnS Tryd.underlying52) (j1_ 4 (jir_ rfl (x_usd1 1 rfl rfl lt_) (j1_ 10 (jio_ rfl (O_ustr1 1 (xs := xs) [Ent.blk bb 54 [p, vL xsA xs.length xsC]] rfl rfl rfl Tryd.underlying97 (by kernel_rfl) lt_ lt_ rfl ?_)) (fun _ h => ⟨h.keep [false, false] rfl, fun _ => h⟩))) (fun _ h => ⟨h.keep [false, false] rfl, fun _ => h⟩))
 refine jp_ 11 rfl av_ ?_
 refine JA_done (by kernel_rfl) (gl_ rfl (fun _ h => h.keep [false] rfl)) ?_
 refine n_ (rt_ ?_)
 exact p1 Tryd.results32 rfl ⟨rfl, rfl⟩
theorem str_ok (bb : Nat) (p : Value) (xs : List UInt8) (xsA : Option Addr) (xsC : Nat) (w : World) (q0 : xs.length ≤ 1000000000) (hg : Give (Lown [Ent.blk bb 54 [p, vL xsA xs.length xsC], Ent.row (.slice xsA xs.length xsC) 5 1 xs.length (xs.map vU8)]) w [Ent.blk bb 54 [p, vL xsA xs.length xsC], Ent.row (.slice xsA xs.length xsC) 5 1 xs.length (xs.map vU8)]) : Calls Tryd.prog 32 #[pB bb 0] w (Gives (Lown [Ent.blk bb 54 [p, vL xsA xs.length xsC], Ent.row (.slice xsA xs.length xsC) 5 1 xs.length (xs.map vU8)]) w fun v L => v = vS xs ∧ L = []) := by
 cases xs with
 | nil => exact str_0 bb p xsA xsC w hg
 | cons c r => exact str_1 bb p (c :: r) xsA xsC w (Nat.succ_pos _) q0 hg
end Go.Proofs.YtbfiibgmgopnaaaDoor

namespace Go.Proofs.YtbfiibgmgopnaaaDoor
open Go.GV
namespace R39
theorem drop_cons {s : Bytes} {i : Nat} (h : i < s.length) : s.drop i = s.getD i 0 :: s.drop (i + 1) := by
  rw [List.drop_eq_getElem_cons h, List.getD_eq_getElem?_getD, List.getElem?_eq_getElem h]; rfl
def QwJ (s word : Bytes) (i : Nat) : Prop := first s = (qw (s.drop i)).map fun p => (word ++ p.1, p.2)
section
variable {s word : Bytes} {i : Nat}
theorem QwJ.start (h0 : 0 < s.length) (h : s.getD 0 0 = 39) : QwJ s [] 1 := by
  unfold QwJ
  cases s with
  | nil => cases h0
  | cons c t =>
    have h : c = 39 := h
    rw [first, if_pos h]
    show qw t = (qw t).map _
    cases qw t <;> rfl
theorem qw_cons (c : UInt8) (t : Bytes) : qw (c :: t) = if c = 39 then (match t with
    | [] => some ([], [])
    | d :: u => if d = 39 then (qw u).map fun p => (39 :: p.1, p.2) else some ([], d :: u)) else if c < 32 ∨ 126 < c then none else (qw t).map fun p => (c :: p.1, p.2) := by
  cases t with
  | nil =>
    by_cases h : c = 39
    · subst h; rw [if_pos rfl]; rfl
    · rw [if_neg h]
      show (if c = 39 then some ([], []) else none) = _
      rw [if_neg h]; split <;> rfl
  | cons d u => rw [qw]
theorem QwJ.plain (h : QwJ s word i) (hi : i < s.length) (h1 : ¬ (s.getD i 0 < 32 ∨ 126 < s.getD i 0)) (h2 : s.getD i 0 ≠ 39) : QwJ s (word ++ [s.getD i 0]) (i + 1) := by
  unfold QwJ at *
  rw [h, drop_cons hi, qw_cons, if_neg h2, if_neg h1]
  cases qw (s.drop (i + 1)) with
  | none => rfl
  | some p => exact congrArg some (by simp)
theorem QwJ.two (h : QwJ s word i) (hi : i + 1 < s.length) (h1 : s.getD i 0 = 39) (h2 : s.getD (i + 1) 0 = 39) : QwJ s (word ++ [s.getD i 0]) (i + 1 + 1) := by
  unfold QwJ at *
  rw [h, drop_cons (show i < s.length by omega), qw_cons, if_pos h1, drop_cons hi]
  show ((if s.getD (i + 1) 0 = 39 then _ else _) : Option (Bytes × Bytes)).map _ = _
  rw [if_pos h2, h1]
  cases qw (s.drop (i + 1 + 1)) with
  | none => rfl
  | some p => exact congrArg some (by simp)
theorem QwJ.done (h : QwJ s word i) (hi : i < s.length) (h1 : s.getD i 0 = 39) (h2 : ¬ (i + 1 < s.length ∧ s.getD (i + 1) 0 = 39)) : first s = some (word, s.drop (i + 1)) := by
  unfold QwJ at h
  rw [h, drop_cons hi, qw_cons, if_pos h1]
  rcases Nat.lt_or_ge (i + 1) s.length with hl | hl
  · rw [drop_cons hl]
    show ((if s.getD (i + 1) 0 = 39 then _ else _) : Option (Bytes × Bytes)).map _ = _
    rw [if_neg (fun e => h2 ⟨hl, e⟩)]
    show some (word ++ [], _) = _; rw [List.append_nil]
  · rw [List.drop_eq_nil_of_le hl]
    show some (word ++ [], _) = _; rw [List.append_nil]
theorem QwJ.bad (h : QwJ s word i) (hi : i < s.length) (h1 : s.getD i 0 < 32 ∨ 126 < s.getD i 0) : first s = none := by
  unfold QwJ at h
  have h2 : s.getD i 0 ≠ 39 := fun e => by rw [e] at h1; rcases h1 with h1 | h1 <;> exact absurd h1 (by decide)
  rw [h, drop_cons hi, qw_cons, if_neg h2, if_pos h1]; rfl
theorem QwJ.none_ (h : QwJ s word i) (hi : ¬ i < s.length) : first s = none := by
  unfold QwJ at h
  rw [h, List.drop_eq_nil_of_le (by omega)]; rfl
theorem tw_len (s : Bytes) : (s.takeWhile isW).length ≤ s.length := (List.takeWhile_sublist _).length_le
theorem tw_take (s : Bytes) : s.take (s.takeWhile isW).length = s.takeWhile isW := by
  have e := List.takeWhile_append_dropWhile (p := isW) (l := s)
  conv => lhs; arg 2; rw [← e]
  exact List.take_left
theorem tw_drop (s : Bytes) : s.drop (s.takeWhile isW).length = s.dropWhile isW := by
  have e := List.takeWhile_append_dropWhile (p := isW) (l := s)
  conv => lhs; arg 2; rw [← e]
  exact List.drop_left
theorem first_word (h0 : 0 < s.length) (h : s.getD 0 0 ≠ 39) (hw : 0 < (s.takeWhile isW).length) : first s = some (s.takeWhile isW, s.dropWhile isW) := by
  cases s with
  | nil => cases h0
  | cons c t =>
    have h : c ≠ 39 := h
    have hc : isW c = true := by
      cases e : isW c with
      | true => rfl
      | false => rw [List.takeWhile_cons, e] at hw; cases hw
    rw [first, if_neg h, if_pos hc]
theorem first_no (h0 : 0 < s.length) (h : s.getD 0 0 ≠ 39) (hw : (s.takeWhile isW).length = 0) : first s = none := by
  cases s with
  | nil => cases h0
  | cons c t =>
    have h : c ≠ 39 := h
    have hc : ¬ isW c = true := by
      intro e
      rw [List.takeWhile_cons, e] at hw; cases hw
    rw [first, if_neg h, if_neg hc]
theorem QwJ.plainB (h : QwJ s word i) (hi : i < s.length) (h1 : (decide (s.getD i 0 < 32) || decide (126 < s.getD i 0)) = false) (h2 : s.getD i 0 ≠ 39) : QwJ s (word ++ [s.getD i 0]) (i + 1) :=
  h.plain hi (by simpa using h1) h2
theorem QwJ.twoB (h : QwJ s word i) (h1 : ¬ s.getD i 0 ≠ 39) (h2 : (decide (((i + 1 : Nat) : Int) < ((s.length : Nat) : Int)) && decide (s.getD (i + 1) 0 = 39)) = true) : QwJ s (word ++ [s.getD i 0]) (i + 1 + 1) := by
  simp only [Bool.and_eq_true, decide_eq_true_eq] at h2
  exact h.two (by omega) (Decidable.not_not.1 h1) h2.2
theorem QwJ.doneB (h : QwJ s word i) (hi : i < s.length) (h1 : ¬ s.getD i 0 ≠ 39) (h2 : (decide (((i + 1 : Nat) : Int) < ((s.length : Nat) : Int)) && decide (s.getD (i + 1) 0 = 39)) = false) : first s = some (word, sub s (i + 1) s.length) := by
  have e : sub s (i + 1) s.length = s.drop (i + 1) := by unfold sub; rw [List.take_length]
  rw [e]
  refine h.done hi (Decidable.not_not.1 h1) fun hh => ?_
  rw [decide_eq_true (by omega), decide_eq_true hh.2] at h2; cases h2
theorem QwJ.badB (h : QwJ s word i) (hi : i < s.length) (h1 : (decide (s.getD i 0 < 32) || decide (126 < s.getD i 0)) = true) : first s = none := h.bad hi (by simpa using h1)
def FirJ (s w r : Bytes) (ok : Bool) : Prop := (ok = true → first s = some (w, r)) ∧ (ok = false → first s = none) ∧ w.length + r.length ≤ s.length ∧ (ok = true → r.length < s.length)
theorem FirJ.yes {w r : Bytes} (h : first s = some (w, r)) : FirJ s w r true := ⟨fun _ => h, fun e => (by cases e), (first_le h).1, fun _ => (first_le h).2⟩
theorem FirJ.no (h : first s = none) : FirJ s [] [] false := ⟨fun e => (by cases e), fun _ => h, Nat.zero_le _, fun e => (by cases e)⟩
theorem FirJ.wordK (h0 : 0 < s.length) (h : s.getD 0 0 ≠ 39) {k : Nat} (hk : k = (s.takeWhile isW).length) : FirJ s (sub s 0 k) (sub s k s.length) (decide ((0 : Int) < ((k : Nat) : Int))) := by
  subst hk
  have e1 : sub s 0 (s.takeWhile isW).length = s.takeWhile isW := by unfold sub; rw [List.drop_zero, tw_take]
  have e2 : sub s (s.takeWhile isW).length s.length = s.dropWhile isW := by unfold sub; rw [List.take_length, tw_drop]
  have e3 : (s.takeWhile isW).length + (s.dropWhile isW).length = s.length := by rw [← List.length_append, List.takeWhile_append_dropWhile]
  rw [e1, e2]
  by_cases hw : 0 < (s.takeWhile isW).length
  · rw [decide_eq_true (by omega)]; exact FirJ.yes (first_word h0 h hw)
  · rw [decide_eq_false (by omega)]
    exact ⟨fun e => (by cases e), fun _ => first_no h0 h (by omega), by omega, fun e => (by cases e)⟩
end
def ScanJ (s : Bytes) (out : List Bytes) (r : Bytes) : Prop := trim r = r ∧ scan s = (scan r).map (out ++ ·)
section
variable {s r : Bytes} {out : List Bytes}
theorem ScanJ.start : ScanJ s [] (trim s) := ⟨trim_trim s, by rw [scan_trim]; cases scan s <;> rfl⟩
theorem ScanJ.step (h : ScanJ s out r) (h0 : r ≠ []) {w q : Bytes} (hf : first r = some (w, q)) (hq : q = [] ∨ q.getD 0 0 = 32) : ScanJ s (out ++ [w]) (trim q) := by
  obtain ⟨h1, h2⟩ := h
  refine ⟨trim_trim q, ?_⟩
  have hb : q = [] ∨ q.head? = some 32 := by
    rcases hq with rfl | hq
    · exact .inl rfl
    · cases q with
      | nil => exact .inl rfl
      | cons c t => exact .inr (congrArg some hq)
  rw [h2, scan_trim, scan_word (by rw [h1]; exact h0) (by rw [h1]; exact hf) hb]
  cases scan q with
  | none => rfl
  | some l => exact congrArg some (by simp)
theorem ScanJ.done (h : ScanJ s out r) (h0 : r = []) : scan s = some out := by
  obtain ⟨_, h2⟩ := h
  subst h0
  rw [h2, scan_none]; show some (out ++ []) = _; rw [List.append_nil]
theorem ScanJ.bad (h : ScanJ s out r) (h0 : r ≠ []) (hf : first r = none) : scan s = none := by
  obtain ⟨h1, h2⟩ := h
  rw [h2, scan_bad (by rw [h1]; exact h0) (by rw [h1]; exact hf)]; rfl
theorem ScanJ.bad2 (h : ScanJ s out r) (h0 : r ≠ []) {w q : Bytes} (hf : first r = some (w, q)) (hq : q ≠ []) (hc : q.getD 0 0 ≠ 32) : scan s = none := by
  obtain ⟨h1, h2⟩ := h
  rw [h2, scan_bad2 (by rw [h1]; exact h0) (by rw [h1]; exact hf)]; rfl
  rintro (h | h)
  · exact hq h
  · cases q with
    | nil => cases h
    | cons c t => injection h with h; exact hc h
theorem ScanJ.err (h : ScanJ s out r) (h0 : r ≠ []) {w q : Bytes} {o : Bool} (hF : FirJ r w q o) (hb : (!o || (decide (q ≠ []) && decide (q.getD 0 0 ≠ 32))) = true) : scan s = none := by
  cases o with
  | false => exact h.bad h0 (hF.2.1 rfl)
  | true =>
    simp only [Bool.not_true, Bool.false_or, Bool.and_eq_true, decide_eq_true_eq] at hb
    exact h.bad2 h0 (hF.1 rfl) hb.1 hb.2
theorem ScanJ.stepB (h : ScanJ s out r) (h0 : r ≠ []) {w q : Bytes} {o : Bool} (hF : FirJ r w q o) (hb : (!o || (decide (q ≠ []) && decide (q.getD 0 0 ≠ 32))) = false) : ScanJ s (out ++ [w]) (trim q) := by
  cases o with
  | false => cases hb
  | true =>
    refine h.step h0 (hF.1 rfl) ?_
    by_cases hq : q = []
    · exact .inl hq
    · rw [decide_eq_true hq] at hb
      simp only [Bool.not_true, Bool.false_or, Bool.true_and, decide_eq_false_iff_not, Decidable.not_not] at hb
      exact .inr hb
theorem FirJ.less {w q : Bytes} {o : Bool} (hF : FirJ r w q o) (hb : (!o || (decide (q ≠ []) && decide (q.getD 0 0 ≠ 32))) = false) : q.length < r.length := by
  cases o with
  | false => cases hb
  | true => exact hF.2.2.2 rfl
def scanE (s : Bytes) : Int := match scan s with
  | some _ => 0
  | none => 3
theorem scanW_some {l : List Bytes} (h : scan s = some l) : l = scanW s := by unfold scanW; rw [h]; rfl
theorem scanW_none (h : scan s = none) : [] = scanW s := by unfold scanW; rw [h]; rfl
theorem scanE_some {l : List Bytes} (h : scan s = some l) : 0 = scanE s := by unfold scanE; rw [h]
theorem scanE_none (h : scan s = none) : 3 = scanE s := by unfold scanE; rw [h]
theorem scanN_len : ∀ (n : Nat) (s : Bytes) (l : List Bytes), scanN n s = some l → l.length ≤ s.length ∧ ∀ w ∈ l, w.length ≤ s.length
  | 0, _, _, h => by cases h
  | n + 1, s, l, h => by
    rw [scanN] at h
    split at h
    · cases h; exact ⟨Nat.zero_le _, fun w hw => by cases hw⟩
    · split at h
      · cases h
      · rename_i w r hf
        split at h
        · cases hr : scanN n r with
          | none => rw [hr] at h; cases h
          | some x =>
            rw [hr] at h; cases h
            have ih := scanN_len n r x hr
            have h1 := first_le hf; have h2 := trim_le s
            refine ⟨by rw [List.length_cons]; omega, fun v hv => ?_⟩
            rcases List.mem_cons.1 hv with rfl | hv
            · omega
            · have := ih.2 v hv; omega
        · cases h
theorem scanW_len (s : Bytes) : (scanW s).length ≤ s.length := by
  unfold scanW
  cases h : scan s with
  | none => exact Nat.zero_le _
  | some l => exact (scanN_len _ s l h).1
theorem scanW_short (s : Bytes) (i : Nat) : ((scanW s).getD i []).length ≤ s.length := by
  unfold scanW
  cases h : scan s with
  | none => exact Nat.zero_le _
  | some l =>
    show (l.getD i []).length ≤ _
    rcases Nat.lt_or_ge i l.length with hi | hi
    · rw [List.getD_eq_getElem?_getD, List.getElem?_eq_getElem hi]; exact (scanN_len _ s l h).2 _ (List.getElem_mem hi)
    · rw [List.getD_eq_getElem?_getD, List.getElem?_eq_none hi]; exact Nat.zero_le _
end
theorem scanW_le {s : Bytes} {o : List Bytes} (h : o = scanW s) : o.length ≤ s.length := by rw [h]; exact scanW_len s
theorem scanW_sh {s : Bytes} {o : List Bytes} (h : o = scanW s) (i : Nat) : (o.getD i []).length ≤ s.length := by rw [h]; exact scanW_short s i
theorem quote_y {w : Bytes} (h0 : w ≠ []) (h : ¬ (32 ∈ w ∨ 39 ∈ w)) : w = quote w := by unfold quote; rw [if_pos ⟨h0, h⟩]
theorem quote_n {w : Bytes} (h : ¬ (w ≠ [] ∧ ¬ (32 ∈ w ∨ 39 ∈ w))) : ([39] ++ dblC 39 w) ++ [39] = quote w := by unfold quote; rw [if_neg h]; rfl
theorem quote_yB {w : Bytes} (h : (decide (w ≠ []) && !decide (32 ∈ w ∨ 39 ∈ w)) = true) : w = quote w := by
  simp only [Bool.and_eq_true, decide_eq_true_eq, Bool.not_eq_true', decide_eq_false_iff_not] at h
  exact quote_y h.1 h.2
theorem quote_nB {w : Bytes} (h : (decide (w ≠ []) && !decide (32 ∈ w ∨ 39 ∈ w)) = false) : ([39] ++ dblC 39 w) ++ [39] = quote w := by
  refine quote_n fun hh => ?_
  rw [decide_eq_true hh.1, decide_eq_false hh.2] at h; cases h
theorem quote_len (w : Bytes) : (quote w).length ≤ 2 * w.length + 2 := by
  unfold quote
  have := dbl_len 39 w
  split
  · omega
  · simp only [List.length_append, List.length_cons, List.length_nil]
    have e : (dbl w).length = (dblC 39 w).length := rfl
    omega
end R39
end Go.Proofs.YtbfiibgmgopnaaaDoor
