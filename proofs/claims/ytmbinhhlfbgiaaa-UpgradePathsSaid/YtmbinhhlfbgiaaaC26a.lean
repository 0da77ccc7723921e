/- contracts C26a -/
import Derived.Test.YtmbinhhlfbgiaaaGvF
import Derived.Test.YtmbinhhlfbgiaaaEq27
import Derived.Test.YtmbinhhlfbgiaaaPl26
import Derived.Test.YtmbinhhlfbgiaaaGvT
namespace Go.Proofs.Ytmbinhhlfbgiaaa
open Go.GV
set_option linter.unusedVariables false
set_option linter.unusedSimpArgs false
set_option maxRecDepth 20000 in
theorem f99_ok (n : Int) (lo : Int) (hi : Int) (w : World) : Calls Try.prog 99 #[vI n, vI lo, vI hi] w (Gives [] w fun v L => v = vB ((decide (lo ≤ n)) && (decide (n ≤ hi))) ∧ L = []) := by
 refine calls_J [] 15 Try.func99 rfl Try.ntmps99 [(0, vI n), (1, vI lo), (2, vI hi)] rfl rfl (Give.nil w) ?_
 refine J_seq (J_region ?_)
 refine jr_ (vB false) ?_
 refine JO_nil (JX_then (J_seq (J_region ?_)))
 refine jr_ (vI n) ?_
 refine jr_ (vI lo) ?_
 refine js_ (vB (decide (lo ≤ n))) (x_geq_i rfl rfl) ?_
 refine jr_ (vB (decide (lo ≤ n))) ?_
 refine JO_cut 4 (fun z => z = ((decide (lo ≤ n)) && (decide (n ≤ hi)))) (fun z => [(6, vB false), (14, vB z)]) (fun _ => []) ?_ ?_
 ·rcases Bool.eq_false_or_eq_true (decide (lo ≤ n)) with g2 | g2
  ·have g2r := g2
   have g2r := of_decide_eq_true g2r
   refine jg_ g2 (vI n) (rfl) ?_
   refine jg_ g2 (vI hi) (rfl) ?_
   refine jg_ g2 (vB (decide (n ≤ hi))) (x_leq_i rfl rfl) ?_
   refine js_ (vB (decide (n ≤ hi))) (x_pick_t rfl g2 rfl) ?_
   refine JO_nil (JX_cut (decide (n ≤ hi)) (by rw [g2]; simp) ⟨rfl, rfl, trivial⟩ (fun _ h => h))
  ·have g2r := g2
   have g2r := of_decide_eq_false g2r
   refine sh_ g2 ?_
   refine sh_ g2 ?_
   refine sh_ g2 ?_
   refine js_ (vB false) (x_pick_f rfl g2 rfl) ?_
   refine JO_nil (JX_cut (false) (by rw [g2]; simp) ⟨rfl, rfl, trivial⟩ (fun _ h => h))
 rintro z1 rfl
 refine jr_ (vB ((decide (lo ≤ n)) && (decide (n ≤ hi)))) ?_
 refine JO_nil (JX_then (J_ret ?_))
 refine JX_rets [vB ((decide (lo ≤ n)) && (decide (n ≤ hi)))] (vB ((decide (lo ≤ n)) && (decide (n ≤ hi)))) Try.results99 (fun w h => ⟨rfl, trivial⟩) rfl [] (fun _ h => h) ⟨?_, ?_⟩
 ·rfl
 ·rfl
set_option maxRecDepth 20000 in
theorem f79_ok (n : Int) (lo : Int) (hi : Int) (w : World) : Calls Try.prog 79 #[vI n, vI lo, vI hi] w (Gives [] w fun v L => v = vB ((decide (lo ≤ n)) && (decide (n ≤ hi))) ∧ L = []) := by
 refine calls_J [] 15 Try.func79 rfl Try.ntmps79 [(0, vI n), (1, vI lo), (2, vI hi)] rfl rfl (Give.nil w) ?_
 refine J_seq (J_region ?_)
 refine jr_ (vB false) ?_
 refine JO_nil (JX_then (J_seq (J_region ?_)))
 refine jr_ (vI n) ?_
 refine jr_ (vI lo) ?_
 refine js_ (vB (decide (lo ≤ n))) (x_geq_i rfl rfl) ?_
 refine jr_ (vB (decide (lo ≤ n))) ?_
 refine JO_cut 4 (fun z => z = ((decide (lo ≤ n)) && (decide (n ≤ hi)))) (fun z => [(6, vB false), (14, vB z)]) (fun _ => []) ?_ ?_
 ·rcases Bool.eq_false_or_eq_true (decide (lo ≤ n)) with g2 | g2
  ·have g2r := g2
   have g2r := of_decide_eq_true g2r
   refine jg_ g2 (vI n) (rfl) ?_
   refine jg_ g2 (vI hi) (rfl) ?_
   refine jg_ g2 (vB (decide (n ≤ hi))) (x_leq_i rfl rfl) ?_
   refine js_ (vB (decide (n ≤ hi))) (x_pick_t rfl g2 rfl) ?_
   refine JO_nil (JX_cut (decide (n ≤ hi)) (by rw [g2]; simp) ⟨rfl, rfl, trivial⟩ (fun _ h => h))
  ·have g2r := g2
   have g2r := of_decide_eq_false g2r
   refine sh_ g2 ?_
   refine sh_ g2 ?_
   refine sh_ g2 ?_
   refine js_ (vB false) (x_pick_f rfl g2 rfl) ?_
   refine JO_nil (JX_cut (false) (by rw [g2]; simp) ⟨rfl, rfl, trivial⟩ (fun _ h => h))
 rintro z1 rfl
 refine jr_ (vB ((decide (lo ≤ n)) && (decide (n ≤ hi)))) ?_
 refine JO_nil (JX_then (J_ret ?_))
 refine JX_rets [vB ((decide (lo ≤ n)) && (decide (n ≤ hi)))] (vB ((decide (lo ≤ n)) && (decide (n ≤ hi)))) Try.results79 (fun w h => ⟨rfl, trivial⟩) rfl [] (fun _ h => h) ⟨?_, ?_⟩
 ·rfl
 ·rfl
set_option maxRecDepth 20000 in
theorem f61_ok (n : Int) (lo : Int) (hi : Int) (w : World) : Calls Try.prog 61 #[vI n, vI lo, vI hi] w (Gives [] w fun v L => v = vB ((decide (lo ≤ n)) && (decide (n ≤ hi))) ∧ L = []) := by
 refine calls_J [] 15 Try.func61 rfl Try.ntmps61 [(0, vI n), (1, vI lo), (2, vI hi)] rfl rfl (Give.nil w) ?_
 refine J_seq (J_region ?_)
 refine jr_ (vB false) ?_
 refine JO_nil (JX_then (J_seq (J_region ?_)))
 refine jr_ (vI n) ?_
 refine jr_ (vI lo) ?_
 refine js_ (vB (decide (lo ≤ n))) (x_geq_i rfl rfl) ?_
 refine jr_ (vB (decide (lo ≤ n))) ?_
 refine JO_cut 4 (fun z => z = ((decide (lo ≤ n)) && (decide (n ≤ hi)))) (fun z => [(6, vB false), (14, vB z)]) (fun _ => []) ?_ ?_
 ·rcases Bool.eq_false_or_eq_true (decide (lo ≤ n)) with g2 | g2
  ·have g2r := g2
   have g2r := of_decide_eq_true g2r
   refine jg_ g2 (vI n) (rfl) ?_
   refine jg_ g2 (vI hi) (rfl) ?_
   refine jg_ g2 (vB (decide (n ≤ hi))) (x_leq_i rfl rfl) ?_
   refine js_ (vB (decide (n ≤ hi))) (x_pick_t rfl g2 rfl) ?_
   refine JO_nil (JX_cut (decide (n ≤ hi)) (by rw [g2]; simp) ⟨rfl, rfl, trivial⟩ (fun _ h => h))
  ·have g2r := g2
   have g2r := of_decide_eq_false g2r
   refine sh_ g2 ?_
   refine sh_ g2 ?_
   refine sh_ g2 ?_
   refine js_ (vB false) (x_pick_f rfl g2 rfl) ?_
   refine JO_nil (JX_cut (false) (by rw [g2]; simp) ⟨rfl, rfl, trivial⟩ (fun _ h => h))
 rintro z1 rfl
 refine jr_ (vB ((decide (lo ≤ n)) && (decide (n ≤ hi)))) ?_
 refine JO_nil (JX_then (J_ret ?_))
 refine JX_rets [vB ((decide (lo ≤ n)) && (decide (n ≤ hi)))] (vB ((decide (lo ≤ n)) && (decide (n ≤ hi)))) Try.results61 (fun w h => ⟨rfl, trivial⟩) rfl [] (fun _ h => h) ⟨?_, ?_⟩
 ·rfl
 ·rfl
set_option maxRecDepth 20000 in
theorem f100_ok (l : List Int) (lA : Option Addr) (lC : Nat) (w : World) (lR : RO [] w lA (l.map vI)) (q0 : l.length ≤ 9223372036854775807) : Calls Try.prog 100 #[Value.slice lA l.length lC] w (Gives [] w fun v L => v = vB (R16.zeros l) ∧ L = []) := by
 refine calls_J [] 14 Try.func100 rfl Try.ntmps100 [(0, Value.slice lA l.length lC)] rfl rfl (Give.nil w) ?_
 refine J_seq (J_region ?_)
 refine jr_ (vB false) ?_
 refine JO_nil (JX_then (J_seq (J_seq (J_region ?_))))
 refine jr_ (Value.slice lA l.length lC) ?_
 refine js_ (vI ((l.length : Nat) : Int)) (x_len_sl Try.underlying159 rfl) ?_
 refine jr_ (vI 0) ?_
 refine JO_nil (JX_then (J_block ?_))
 refine J_loop (X := Nat) (fun (k : Nat) => (k ≤ l.length) ∧ (∀ i, i < k → l.getD i 0 = 0)) (fun (k : Nat) => [(5, Value.slice lA l.length lC), (6, vI ((l.length : Nat) : Int)), (7, vI ((k : Nat) : Int))]) (fun (k : Nat) => []) (fun (k : Nat) => l.length - k) (0 : Nat) ?_ ⟨rfl, rfl, rfl, trivial⟩ (fun _ h => h) ?_
 ·show (0 ≤ l.length) ∧ (∀ i, i < 0 → l.getD i 0 = 0)
  refine ⟨?_, ?_⟩
  ·first | rfl | omega | (simp_all; done) | (simp_all; omega)
  ·intro i hi; omega
 intro k hI1
 obtain ⟨i1_0, i1_1⟩ : (k ≤ l.length) ∧ (∀ i, i < k → l.getD i 0 = 0) := hI1
 refine J_weaken (E' := [(5, Value.slice lA l.length lC), (6, vI ((l.length : Nat) : Int)), (7, vI ((k : Nat) : Int))]) (L' := []) ⟨rfl, rfl, rfl, trivial⟩ (fun _ h => h) ?_
 refine J_seq (J_region ?_)
 refine js_ (vB (decide (((k : Nat) : Int) < ((l.length : Nat) : Int)))) (x_lss_i rfl rfl) ?_
 refine JO_nil (JX_then (J_seq ?_))
 refine J_cond (decide (((k : Nat) : Int) < ((l.length : Nat) : Int))) rfl rfl (fun h1 => ?_) (fun h1 => ?_)
 ·have h1 := of_decide_eq_true h1
  refine J_skip (JX_then (J_seq (J_block (J_seq (J_region ?_)))))
  refine JO_read (Value.pointer (some (adr lA k))) rfl trivial (x_indexAddr_at (k := k) (off := k) (cells_ro lR) Try.underlying159 Ty.sz3 rfl rfl lt_ (by rw [List.length_map]; first | omega | (simp; omega) | (simp_all; omega) | (simp_all; done)) (Nat.mul_one _)) ?_
  refine JO_read (vI (l.getD k 0)) rfl trivial (x_load_at (cells_ro lR) rfl Ty.sc3 (map_at vI l 0 lt_)) ?_
  refine jr_ (vI (l.getD k 0)) ?_
  refine JO_nil (JX_then (J_seq (J_region ?_)))
  refine jr_ (vI (l.getD k 0)) ?_
  refine js_ (vB (decide ((l.getD k 0) ≠ 0))) (x_neq_i rfl rfl) ?_
  refine JO_nil (JX_then ?_)
  refine J_cond (decide ((l.getD k 0) ≠ 0)) rfl rfl (fun h2 => ?_) (fun h2 => ?_)
  ·have h2 := of_decide_eq_true h2
   refine J_seq (J_region ?_)
   refine jr_ (vB false) ?_
   refine JO_nil (JX_then (J_ret (JX_block_ret (JX_then_ret (JX_round_ret ?_)))))
   refine JX_block_ret (JX_then_ret ?_)
   refine JX_rets [vB false] (vB false) Try.results100 (fun w h => ⟨rfl, trivial⟩) rfl [] (fun _ h => h) ⟨?_, ?_⟩
   ·have e_x0 : (false : Bool) = (R16.zeros l) := by first | exact R16.zeros_bad (k := k) (by omega) (by assumption) | exact R16.zeros_end i1_0 (by assumption) i1_1
    exact congrArg (fun (x0 : Bool) => vB x0) e_x0
   ·rfl
  ·have h2 := of_decide_eq_false h2
   refine J_skip (JX_block (JX_then (J_region ?_)))
   refine js_ (vI ((k + 1 : Nat) : Int)) (x_add_n (a := k) (b := 1) rfl rfl (by omega)) ?_
   refine jr_ (vI ((k + 1 : Nat) : Int)) ?_
   refine JO_nil ?_
   refine JX_round (k + 1 : Nat) ?_ ?_ ⟨rfl, rfl, rfl, trivial⟩ (fun _ h => h)
   ·show ((k + 1) ≤ l.length) ∧ (∀ i, i < (k + 1) → l.getD i 0 = 0)
    refine ⟨?_, ?_⟩
    ·first | rfl | omega | (simp_all; done) | (simp_all; omega)
    ·intro i hi; by_cases hik : i = k
     ·subst hik; simp_all
     ·exact i1_1 i (by omega)
   ·show l.length - (k + 1) < l.length - k
    first | omega | (simp; omega) | (simp_all; omega)
 ·have h1 := of_decide_eq_false h1
  refine J_exit (JX_then_exit (JX_round_exit (JX_block_hit (JX_then (J_seq ?_)))))
  refine J_region ?_
  refine jr_ (vB true) ?_
  refine JO_nil (JX_then (J_ret ?_))
  refine JX_rets [vB true] (vB true) Try.results100 (fun w h => ⟨rfl, trivial⟩) rfl [] (fun _ h => h) ⟨?_, ?_⟩
  ·have e_x0 : (true : Bool) = (R16.zeros l) := by first | exact R16.zeros_bad (k := k) (by omega) (by assumption) | exact R16.zeros_end i1_0 (by assumption) i1_1
   exact congrArg (fun (x0 : Bool) => vB x0) e_x0
  ·rfl
set_option maxRecDepth 20000 in
theorem f69_ok (d : DataSet) (w : World) : Calls Try.prog 69 #[Value.agg ((DataSet.enc d)).toArray] w (Gives [] w fun v L => v = vB (R16.valid d) ∧ L = []) := by
 refine calls_J [] 112 Try.func69 rfl Try.ntmps69 [(0, Value.agg ((DataSet.enc d)).toArray)] rfl rfl (Give.nil w) ?_
 refine J_seq (J_region ?_)
 refine JO_op rfl trivial (O_box rfl rfl fun b1 => ?_)
 refine jr_ (vB false) ?_
 refine JO_nil (JX_then (J_seq (J_region ?_)))
 refine js_ (Value.agg #[vI 128, vI 256, vI 512]) (x_build (by kernel_rfl)) ?_
 refine JO_op rfl trivial (O_alloc Ty.ze146 rfl fun b2 => ?_)
 refine JO_op rfl trivial (O_store 0 [vI 128, vI 256, vI 512] [Ent.blk b2 146 [vI 128, vI 256, vI 512], Ent.blk b1 24 (DataSet.enc d)] rfl rfl rfl Ty.sz146 rfl (Nat.le_of_ble_eq_true rfl) rfl rfl rfl ?_)
 refine JO_nil (JX_then (J_seq (J_region ?_)))
 refine jr_ (vB false) ?_
 refine JO_nil (JX_then (J_seq (J_seq (J_region ?_))))
 refine JO_read (Value.agg #[vI 128, vI 256, vI 512]) rfl trivial (x_loadN 0 [vI 128, vI 256, vI 512] rfl rfl Ty.ag146 Ty.sz146 rfl) ?_
 refine jr_ (vI 0) ?_
 refine JO_nil (JX_then (J_block ?_))
 refine J_loop (X := Nat × Bool) (fun (⟨k, kn⟩ : Nat × Bool) => (k ≤ 3) ∧ (kn = (([128, 256, 512] : List Int).take k).any fun n => decide (d.Interval = n))) (fun (⟨k, kn⟩ : Nat × Bool) => [(1, Value.pointer (some ⟨b1, 0, none⟩)), (2, vB false), (4, vB kn), (8, Value.agg #[vI 128, vI 256, vI 512]), (9, vI ((k : Nat) : Int))]) (fun (⟨k, kn⟩ : Nat × Bool) => [Ent.blk b1 24 (DataSet.enc d)]) (fun (⟨k, kn⟩ : Nat × Bool) => 3 - k) ((0, false) : Nat × Bool) ?_ ⟨rfl, rfl, rfl, rfl, rfl, trivial⟩ (fun _ h => h.keep [false, true] rfl) ?_
 ·show (0 ≤ 3) ∧ (false = (([128, 256, 512] : List Int).take 0).any fun n => decide (d.Interval = n))
  refine ⟨?_, ?_⟩
  ·first | rfl | omega | (simp_all; done) | (simp_all; omega)
  ·rfl
 rintro ⟨k, kn⟩ hI1
 obtain ⟨i1_0, i1_1⟩ : (k ≤ 3) ∧ (kn = (([128, 256, 512] : List Int).take k).any fun n => decide (d.Interval = n)) := hI1
 refine J_weaken (E' := [(1, Value.pointer (some ⟨b1, 0, none⟩)), (2, vB false), (4, vB kn), (8, Value.agg #[vI 128, vI 256, vI 512]), (9, vI ((k : Nat) : Int))]) (L' := [Ent.blk b1 24 (DataSet.enc d)]) ⟨rfl, rfl, rfl, rfl, rfl, trivial⟩ (fun _ h => h) ?_
 refine J_seq (J_region ?_)
 refine js_ (vB (decide (((k : Nat) : Int) < 3))) (x_lss_i rfl rfl) ?_
 refine JO_nil (JX_then (J_seq ?_))
 refine J_cond (decide (((k : Nat) : Int) < 3)) rfl rfl (fun h3 => ?_) (fun h3 => ?_)
 ·have h3 := of_decide_eq_true h3
  refine J_skip (JX_then (J_seq (J_block (J_seq (J_region ?_)))))
  refine js_ (vI (([128, 256, 512] : List Int).getD k 0)) (x_idx_arr vI (xs := ([128, 256, 512] : List Int)) (k := k) rfl rfl Try.underlying146 Ty.sc3 Ty.sz3 rfl lt_) ?_
  refine jr_ (vI (([128, 256, 512] : List Int).getD k 0)) ?_
  refine JO_nil (JX_then (J_region ?_))
  refine jr_ (vB kn) ?_
  refine jr_ (vB kn) ?_
  refine JO_cut 5 (fun z => z = (kn || (decide (d.Interval = (([128, 256, 512] : List Int).getD k 0))))) (fun z => [(1, Value.pointer (some ⟨b1, 0, none⟩)), (2, vB false), (4, vB kn), (8, Value.agg #[vI 128, vI 256, vI 512]), (9, vI ((k : Nat) : Int)), (18, vB z)]) (fun _ => [Ent.blk b1 24 (DataSet.enc d)]) ?_ ?_
  ·rcases Bool.eq_false_or_eq_true (kn) with g5 | g5
   ·have g5r := g5
    refine sh_ g5 ?_
    refine sh_ g5 ?_
    refine sh_ g5 ?_
    refine sh_ g5 ?_
    refine js_ (vB true) (x_pick_t rfl g5 rfl) ?_
    refine JO_nil (JX_cut (true) (by rw [g5]; simp) ⟨rfl, rfl, rfl, rfl, rfl, rfl, trivial⟩ (fun _ h => h))
   ·have g5r := g5
    refine jg_ g5 (Value.pointer (some ⟨b1, 7, none⟩)) (x_fieldAddr Ty.fi24_7 rfl rfl) ?_
    refine JO_read (vI d.Interval) rfl ⟨_, rfl, g5⟩ (x_load 0 rfl rfl Ty.sc3 rfl) ?_
    refine jg_ g5 (vI (([128, 256, 512] : List Int).getD k 0)) (rfl) ?_
    refine jg_ g5 (vB (decide (d.Interval = (([128, 256, 512] : List Int).getD k 0)))) (x_eql_i rfl rfl) ?_
    refine js_ (vB (decide (d.Interval = (([128, 256, 512] : List Int).getD k 0)))) (x_pick_f rfl g5 rfl) ?_
    refine JO_nil (JX_cut (decide (d.Interval = (([128, 256, 512] : List Int).getD k 0))) (by rw [g5]; simp) ⟨rfl, rfl, rfl, rfl, rfl, rfl, trivial⟩ (fun _ h => h))
  rintro z4 rfl
  refine jr_ (vB (kn || (decide (d.Interval = (([128, 256, 512] : List Int).getD k 0))))) ?_
  refine JO_nil (JX_block (JX_then (J_region ?_)))
  refine js_ (vI ((k + 1 : Nat) : Int)) (x_add_n (a := k) (b := 1) rfl rfl (by omega)) ?_
  refine jr_ (vI ((k + 1 : Nat) : Int)) ?_
  refine JO_nil ?_
  refine JX_round ((k + 1, kn || (decide (d.Interval = (([128, 256, 512] : List Int).getD k 0)))) : Nat × Bool) ?_ ?_ ⟨rfl, rfl, rfl, rfl, rfl, trivial⟩ (fun _ h => h)
  ·show ((k + 1) ≤ 3) ∧ ((kn || (decide (d.Interval = (([128, 256, 512] : List Int).getD k 0)))) = (([128, 256, 512] : List Int).take (k + 1)).any fun n => decide (d.Interval = n))
   refine ⟨?_, ?_⟩
   ·first | rfl | omega | (simp_all; done) | (simp_all; omega)
   ·rw [i1_1]; exact R16.known_step (by omega)
  ·show 3 - (k + 1) < 3 - k
   first | omega | (simp; omega) | (simp_all; omega)
 ·have h3 := of_decide_eq_false h3
  refine J_exit (JX_then_exit (JX_round_exit ?_))
  have hkn : kn = true → (d.Interval = 128 ∨ d.Interval = 256 ∨ d.Interval = 512) := by intro h; rw [i1_1, show k = 3 by omega] at h; simpa using h
  refine JX_block_hit (JX_then (J_seq (J_seq (J_region ?_))))
  refine jr_ (vB kn) ?_
  refine js_ (vB (!kn)) (x_not rfl) ?_
  refine jr_ (vB (!kn)) ?_
  refine JO_cut 5 (fun z => z = ((!kn) || (!((decide (1 ≤ d.Org)) && (decide (d.Org ≤ 3)))))) (fun z => [(1, Value.pointer (some ⟨b1, 0, none⟩)), (2, vB false), (27, vB z)]) (fun _ => [Ent.blk b1 24 (DataSet.enc d)]) ?_ ?_
  ·rcases Bool.eq_false_or_eq_true (!kn) with g7 | g7
   ·have g7r := g7
    have g7r : (kn) = false := bnot_true g7r
    refine sh_ g7 ?_
    refine sh_ g7 ?_
    refine sh_ g7 ?_
    refine sh_ g7 ?_
    refine js_ (vB true) (x_pick_t rfl g7 rfl) ?_
    refine JO_nil (JX_cut (true) (by rw [g7]; simp) ⟨rfl, rfl, rfl, trivial⟩ (fun _ h => h))
   ·have g7r := g7
    have g7r : (kn) = true := bnot_false g7r
    have hi8 := hkn g7r
    refine jg_ g7 (Value.pointer (some ⟨b1, 1, none⟩)) (x_fieldAddr Ty.fi24_1 rfl rfl) ?_
    refine JO_read (vI d.Org) rfl ⟨_, rfl, g7⟩ (x_load 0 rfl rfl Ty.sc3 rfl) ?_
    refine JO_call [] [] [Ent.blk b1 24 (DataSet.enc d)] rfl ⟨_, rfl, g7⟩ (fun _ => x_call Ty.ca99 rfl) (fun _ h => h) (fun _ h => by cases h) (fun w hS => f99_ok d.Org 1 3 w) ?_
    rintro _ _ ⟨rfl, rfl⟩
    refine jg_ g7 (vB (!((decide (1 ≤ d.Org)) && (decide (d.Org ≤ 3))))) (x_not rfl) ?_
    refine js_ (vB (!((decide (1 ≤ d.Org)) && (decide (d.Org ≤ 3))))) (x_pick_f rfl g7 rfl) ?_
    refine JO_nil (JX_cut (!((decide (1 ≤ d.Org)) && (decide (d.Org ≤ 3)))) (by rw [g7]; simp) ⟨rfl, rfl, rfl, trivial⟩ (fun _ h => h))
  rintro z6 rfl
  refine jr_ (vB ((!kn) || (!((decide (1 ≤ d.Org)) && (decide (d.Org ≤ 3)))))) ?_
  refine JO_cut 9 (fun z => z = (((!kn) || (!((decide (1 ≤ d.Org)) && (decide (d.Org ≤ 3))))) || (!((decide (1 ≤ d.Length)) && (decide (d.Length ≤ (min 200 (d.Interval - 7)))))))) (fun z => [(1, Value.pointer (some ⟨b1, 0, none⟩)), (2, vB false), (37, vB z)]) (fun _ => [Ent.blk b1 24 (DataSet.enc d)]) ?_ ?_
  ·rcases Bool.eq_false_or_eq_true ((!kn) || (!((decide (1 ≤ d.Org)) && (decide (d.Org ≤ 3))))) with g10 | g10
   ·have g10r := g10
    simp only [Bool.and_eq_true, Bool.or_eq_true, Bool.and_eq_false_iff, Bool.or_eq_false_iff, Bool.not_eq_true', Bool.not_eq_false', decide_eq_true_eq, decide_eq_false_iff_not] at g10r
    refine sh_ g10 ?_
    refine sh_ g10 ?_
    refine sh_ g10 ?_
    refine sh_ g10 ?_
    refine sh_ g10 ?_
    refine sh_ g10 ?_
    refine sh_ g10 ?_
    refine sh_ g10 ?_
    refine js_ (vB true) (x_pick_t rfl g10 rfl) ?_
    refine JO_nil (JX_cut (true) (by rw [g10]; simp) ⟨rfl, rfl, rfl, trivial⟩ (fun _ h => h))
   ·have g10r := g10
    have ⟨g10r, h11⟩ := bor_false g10r
    have g10r : (kn) = true := bnot_false g10r
    have hi12 := hkn g10r
    have h11 : ((decide (1 ≤ d.Org)) && (decide (d.Org ≤ 3))) = true := bnot_false h11
    have ⟨h11, h13⟩ := band_true h11
    have h11 := of_decide_eq_true h11
    have h13 := of_decide_eq_true h13
    refine jg_ g10 (Value.pointer (some ⟨b1, 3, none⟩)) (x_fieldAddr Ty.fi24_3 rfl rfl) ?_
    refine JO_read (vI d.Length) rfl ⟨_, rfl, g10⟩ (x_load 0 rfl rfl Ty.sc3 rfl) ?_
    refine jg_ g10 (Value.pointer (some ⟨b1, 7, none⟩)) (x_fieldAddr Ty.fi24_7 rfl rfl) ?_
    refine JO_read (vI d.Interval) rfl ⟨_, rfl, g10⟩ (x_load 0 rfl rfl Ty.sc3 rfl) ?_
    refine jg_ g10 (vI (d.Interval - 7)) (x_sub_i (a := d.Interval) (b := 7) rfl rfl (by omega) (by omega)) ?_
    refine jg_ g10 (vI (min 200 (d.Interval - 7))) (x_min_i (a := 200) (b := d.Interval - 7) rfl rfl) ?_
    refine JO_call [] [] [Ent.blk b1 24 (DataSet.enc d)] rfl ⟨_, rfl, g10⟩ (fun _ => x_call Ty.ca99 rfl) (fun _ h => h) (fun _ h => by cases h) (fun w hS => f99_ok d.Length 1 (min 200 (d.Interval - 7)) w) ?_
    rintro _ _ ⟨rfl, rfl⟩
    refine jg_ g10 (vB (!((decide (1 ≤ d.Length)) && (decide (d.Length ≤ (min 200 (d.Interval - 7))))))) (x_not rfl) ?_
    refine js_ (vB (!((decide (1 ≤ d.Length)) && (decide (d.Length ≤ (min 200 (d.Interval - 7))))))) (x_pick_f rfl g10 rfl) ?_
    refine JO_nil (JX_cut (!((decide (1 ≤ d.Length)) && (decide (d.Length ≤ (min 200 (d.Interval - 7)))))) (by rw [g10]; simp) ⟨rfl, rfl, rfl, trivial⟩ (fun _ h => h))
  rintro z9 rfl
  refine jr_ (vB (((!kn) || (!((decide (1 ≤ d.Org)) && (decide (d.Org ≤ 3))))) || (!((decide (1 ≤ d.Length)) && (decide (d.Length ≤ (min 200 (d.Interval - 7)))))))) ?_
  refine JO_cut 8 (fun z => z = ((((!kn) || (!((decide (1 ≤ d.Org)) && (decide (d.Org ≤ 3))))) || (!((decide (1 ≤ d.Length)) && (decide (d.Length ≤ (min 200 (d.Interval - 7))))))) || (!(R16.zeros [d.Format, d.Block])))) (fun z => [(1, Value.pointer (some ⟨b1, 0, none⟩)), (2, vB false), (46, vB z)]) (fun _ => [Ent.blk b1 24 (DataSet.enc d)]) ?_ ?_
  ·rcases Bool.eq_false_or_eq_true (((!kn) || (!((decide (1 ≤ d.Org)) && (decide (d.Org ≤ 3))))) || (!((decide (1 ≤ d.Length)) && (decide (d.Length ≤ (min 200 (d.Interval - 7))))))) with g15 | g15
   ·have g15r := g15
    simp only [Bool.and_eq_true, Bool.or_eq_true, Bool.and_eq_false_iff, Bool.or_eq_false_iff, Bool.not_eq_true', Bool.not_eq_false', decide_eq_true_eq, decide_eq_false_iff_not] at g15r
    refine sh_ g15 ?_
    refine sh_ g15 ?_
    refine sh_ g15 ?_
    refine sh_ g15 ?_
    refine sh_ g15 ?_
    refine sh_ g15 ?_
    refine sh_ g15 ?_
    refine js_ (vB true) (x_pick_t rfl g15 rfl) ?_
    refine JO_nil (JX_cut (true) (by rw [g15]; simp) ⟨rfl, rfl, rfl, trivial⟩ (fun _ h => h))
   ·have g15r := g15
    have ⟨g15r, h16⟩ := bor_false g15r
    have ⟨g15r, h17⟩ := bor_false g15r
    have g15r : (kn) = true := bnot_false g15r
    have hi18 := hkn g15r
    have h17 : ((decide (1 ≤ d.Org)) && (decide (d.Org ≤ 3))) = true := bnot_false h17
    have ⟨h17, h19⟩ := band_true h17
    have h17 := of_decide_eq_true h17
    have h19 := of_decide_eq_true h19
    have h16 : ((decide (1 ≤ d.Length)) && (decide (d.Length ≤ (min 200 (d.Interval - 7))))) = true := bnot_false h16
    have ⟨h16, h20⟩ := band_true h16
    have h16 := of_decide_eq_true h16
    have h20 := of_decide_eq_true h20
    refine jg_ g15 (Value.pointer (some ⟨b1, 2, none⟩)) (x_fieldAddr Ty.fi24_2 rfl rfl) ?_
    refine JO_read (vI d.Format) rfl ⟨_, rfl, g15⟩ (x_load 0 rfl rfl Ty.sc3 rfl) ?_
    refine jg_ g15 (Value.pointer (some ⟨b1, 4, none⟩)) (x_fieldAddr Ty.fi24_4 rfl rfl) ?_
    refine JO_read (vI d.Block) rfl ⟨_, rfl, g15⟩ (x_load 0 rfl rfl Ty.sc3 rfl) ?_
    refine JO_op rfl ⟨_, rfl, g15⟩ (O_buildSlice (cs := [vI d.Format, vI d.Block]) Try.underlying159 Ty.sz3 Ty.ze3 (by decide) (by decide) (by kernel_rfl) fun b21 => ?_)
    refine JO_call [] [] [Ent.blk b21 3 [vI d.Format, vI d.Block], Ent.blk b1 24 (DataSet.enc d)] rfl ⟨_, rfl, g15⟩ (fun _ => x_call Ty.ca100 rfl) (fun _ h => h) (fun _ h => by cases h) (fun w hS => f100_ok [d.Format, d.Block] (some ⟨b21, 0, none⟩) 2 w (RO.of_blk hS 0 (off := 0) (m := 2) rfl rfl) hy_) ?_
    rintro _ _ ⟨rfl, rfl⟩
    refine jg_ g15 (vB (!(R16.zeros [d.Format, d.Block]))) (x_not rfl) ?_
    refine js_ (vB (!(R16.zeros [d.Format, d.Block]))) (x_pick_f rfl g15 rfl) ?_
    refine JO_nil (JX_cut (!(R16.zeros [d.Format, d.Block])) (by rw [g15]; simp) ⟨rfl, rfl, rfl, trivial⟩ (fun _ h => h.keep [false, true] rfl))
  rintro z14 rfl
  refine JO_nil (JX_then ?_)
  refine J_cond ((((!kn) || (!((decide (1 ≤ d.Org)) && (decide (d.Org ≤ 3))))) || (!((decide (1 ≤ d.Length)) && (decide (d.Length ≤ (min 200 (d.Interval - 7))))))) || (!(R16.zeros [d.Format, d.Block]))) rfl rfl (fun h22 => ?_) (fun h22 => ?_)
  ·simp only [Bool.and_eq_true, Bool.or_eq_true, Bool.and_eq_false_iff, Bool.or_eq_false_iff, Bool.not_eq_true', Bool.not_eq_false', decide_eq_true_eq, decide_eq_false_iff_not] at h22
   refine J_seq (J_region ?_)
   refine jr_ (vB false) ?_
   refine JO_nil (JX_then (J_ret (JX_then_ret ?_)))
   refine JX_rets [vB false] (vB false) Try.results69 (fun w h => ⟨rfl, trivial⟩) rfl [] (fun _ h => h.keep [false] rfl) ⟨?_, ?_⟩
   ·have e_x0 : (false : Bool) = (R16.valid d) := by
     have hk3 : k = 3 := by omega
     subst hk3
     rw [R16.known3] at i1_1
     subst i1_1
     rw [Bool.eq_iff_iff]
     simp only [Bool.and_eq_true, Bool.or_eq_true, Bool.not_eq_true', Bool.and_eq_false_iff, Bool.or_eq_false_iff, decide_eq_true_eq, decide_eq_false_iff_not, R16.zeros, List.all_cons, List.all_nil, R16.valid, R16.bet, Bool.false_eq_true, and_true, true_and, Bool.and_true, Bool.true_eq_false, or_false, Decidable.not_not, ne_eq, false_iff, true_iff, iff_true, iff_false] at *
     by_cases hO : d.Org = 3
     ·rw [if_pos hO]; simp only [Bool.and_eq_true, decide_eq_true_eq]; omega
     ·rw [if_neg hO]; simp only [Bool.and_eq_true, decide_eq_true_eq]; omega
    exact congrArg (fun (x0 : Bool) => vB x0) e_x0
   ·rfl
  ·have ⟨h22, h23⟩ := bor_false h22
   have ⟨h22, h24⟩ := bor_false h22
   have ⟨h22, h25⟩ := bor_false h22
   have h22 : (kn) = true := bnot_false h22
   have hi26 := hkn h22
   have h25 : ((decide (1 ≤ d.Org)) && (decide (d.Org ≤ 3))) = true := bnot_false h25
   have ⟨h25, h27⟩ := band_true h25
   have h25 := of_decide_eq_true h25
   have h27 := of_decide_eq_true h27
   have h24 : ((decide (1 ≤ d.Length)) && (decide (d.Length ≤ (min 200 (d.Interval - 7))))) = true := bnot_false h24
   have ⟨h24, h28⟩ := band_true h24
   have h24 := of_decide_eq_true h24
   have h28 := of_decide_eq_true h28
   have h23 : (R16.zeros [d.Format, d.Block]) = true := bnot_false h23
   refine J_skip (JX_then (J_seq (J_seq (J_region ?_))))
   refine js_ (Value.pointer (some ⟨b1, 1, none⟩)) (x_fieldAddr Ty.fi24_1 rfl rfl) ?_
   refine JO_read (vI d.Org) rfl trivial (x_load 0 rfl rfl Ty.sc3 rfl) ?_
   refine js_ (vB (decide (d.Org ≠ 3))) (x_neq_i rfl rfl) ?_
   refine JO_nil (JX_then ?_)
   refine J_cond (decide (d.Org ≠ 3)) rfl rfl (fun h29 => ?_) (fun h29 => ?_)
   ·have h29 := of_decide_eq_true h29
    refine J_seq (J_region ?_)
    refine js_ (Value.pointer (some ⟨b1, 5, none⟩)) (x_fieldAddr Ty.fi24_5 rfl rfl) ?_
    refine JO_read (vI d.KeyAt) rfl trivial (x_load 0 rfl rfl Ty.sc3 rfl) ?_
    refine js_ (Value.pointer (some ⟨b1, 6, none⟩)) (x_fieldAddr Ty.fi24_6 rfl rfl) ?_
    refine JO_read (vI d.KeyLength) rfl trivial (x_load 0 rfl rfl Ty.sc3 rfl) ?_
    refine js_ (Value.pointer (some ⟨b1, 8, none⟩)) (x_fieldAddr Ty.fi24_8 rfl rfl) ?_
    refine JO_read (vI d.Area) rfl trivial (x_load 0 rfl rfl Ty.sc3 rfl) ?_
    refine js_ (Value.pointer (some ⟨b1, 9, none⟩)) (x_fieldAddr Ty.fi24_9 rfl rfl) ?_
    refine JO_read (vI d.FreeInterval) rfl trivial (x_load 0 rfl rfl Ty.sc3 rfl) ?_
    refine js_ (Value.pointer (some ⟨b1, 10, none⟩)) (x_fieldAddr Ty.fi24_10 rfl rfl) ?_
    refine JO_read (vI d.FreeArea) rfl trivial (x_load 0 rfl rfl Ty.sc3 rfl) ?_
    refine JO_op rfl trivial (O_buildSlice (cs := [vI d.KeyAt, vI d.KeyLength, vI d.Area, vI d.FreeInterval, vI d.FreeArea]) Try.underlying159 Ty.sz3 Ty.ze3 (by decide) (by decide) (by kernel_rfl) fun b30 => ?_)
    refine JO_call [] [] [Ent.blk b30 3 [vI d.KeyAt, vI d.KeyLength, vI d.Area, vI d.FreeInterval, vI d.FreeArea], Ent.blk b1 24 (DataSet.enc d)] rfl trivial (fun _ => x_call Ty.ca100 rfl) (fun _ h => h) (fun _ h => by cases h) (fun w hS => f100_ok [d.KeyAt, d.KeyLength, d.Area, d.FreeInterval, d.FreeArea] (some ⟨b30, 0, none⟩) 5 w (RO.of_blk hS 0 (off := 0) (m := 5) rfl rfl) hy_) ?_
    rintro _ _ ⟨rfl, rfl⟩
    refine jr_ (vB (R16.zeros [d.KeyAt, d.KeyLength, d.Area, d.FreeInterval, d.FreeArea])) ?_
    refine JO_nil (JX_then (J_ret (JX_then_ret ?_)))
    refine JX_rets [vB (R16.zeros [d.KeyAt, d.KeyLength, d.Area, d.FreeInterval, d.FreeArea])] (vB (R16.zeros [d.KeyAt, d.KeyLength, d.Area, d.FreeInterval, d.FreeArea])) Try.results69 (fun w h => ⟨rfl, trivial⟩) rfl [] (fun _ h => h.keep [false, false] rfl) ⟨?_, ?_⟩
    ·have e_x0 : (R16.zeros [d.KeyAt, d.KeyLength, d.Area, d.FreeInterval, d.FreeArea] : Bool) = (R16.valid d) := by
      have hk3 : k = 3 := by omega
      subst hk3
      rw [R16.known3] at i1_1
      subst i1_1
      rw [Bool.eq_iff_iff]
      simp only [Bool.and_eq_true, Bool.or_eq_true, Bool.not_eq_true', Bool.and_eq_false_iff, Bool.or_eq_false_iff, decide_eq_true_eq, decide_eq_false_iff_not, R16.zeros, List.all_cons, List.all_nil, R16.valid, R16.bet, Bool.false_eq_true, and_true, true_and, Bool.and_true, Bool.true_eq_false, or_false, Decidable.not_not, ne_eq, false_iff, true_iff, iff_true, iff_false] at *
      by_cases hO : d.Org = 3
      ·rw [if_pos hO]; simp only [Bool.and_eq_true, decide_eq_true_eq]; omega
      ·rw [if_neg hO]; simp only [Bool.and_eq_true, decide_eq_true_eq]; omega
     exact congrArg (fun (x0 : Bool) => vB x0) e_x0
    ·rfl
   ·have h29 := of_decide_eq_false h29
    refine J_skip (JX_then (J_seq (J_region ?_)))
    refine js_ (Value.pointer (some ⟨b1, 3, none⟩)) (x_fieldAddr Ty.fi24_3 rfl rfl) ?_
    refine JO_read (vI d.Length) rfl trivial (x_load 0 rfl rfl Ty.sc3 rfl) ?_
    refine js_ (Value.pointer (some ⟨b1, 7, none⟩)) (x_fieldAddr Ty.fi24_7 rfl rfl) ?_
    refine JO_read (vI d.Interval) rfl trivial (x_load 0 rfl rfl Ty.sc3 rfl) ?_
    refine js_ (vI (d.Interval / 2)) (x_quo_i (a := d.Interval) (b := 2) rfl rfl (by omega) (by omega) (by omega)) ?_
    refine js_ (vI ((d.Interval / 2) - 8)) (x_sub_i (a := d.Interval / 2) (b := 8) rfl rfl (by omega) (by omega)) ?_
    refine js_ (vB (decide (d.Length ≤ (d.Interval / 2) - 8))) (x_leq_i rfl rfl) ?_
    refine jr_ (vB (decide (d.Length ≤ (d.Interval / 2) - 8))) ?_
    refine JO_cut 6 (fun z => z = ((decide (d.Length ≤ (d.Interval / 2) - 8)) && ((decide (0 ≤ d.KeyAt)) && (decide (d.KeyAt ≤ d.Length))))) (fun z => [(1, Value.pointer (some ⟨b1, 0, none⟩)), (2, vB false), (75, vB z)]) (fun _ => [Ent.blk b1 24 (DataSet.enc d)]) ?_ ?_
    ·rcases Bool.eq_false_or_eq_true (decide (d.Length ≤ (d.Interval / 2) - 8)) with g32 | g32
     ·have g32r := g32
      have g32r := of_decide_eq_true g32r
      refine jg_ g32 (Value.pointer (some ⟨b1, 5, none⟩)) (x_fieldAddr Ty.fi24_5 rfl rfl) ?_
      refine JO_read (vI d.KeyAt) rfl ⟨_, rfl, g32⟩ (x_load 0 rfl rfl Ty.sc3 rfl) ?_
      refine jg_ g32 (Value.pointer (some ⟨b1, 3, none⟩)) (x_fieldAddr Ty.fi24_3 rfl rfl) ?_
      refine JO_read (vI d.Length) rfl ⟨_, rfl, g32⟩ (x_load 0 rfl rfl Ty.sc3 rfl) ?_
      refine JO_call [] [] [Ent.blk b1 24 (DataSet.enc d)] rfl ⟨_, rfl, g32⟩ (fun _ => x_call Ty.ca99 rfl) (fun _ h => h) (fun _ h => by cases h) (fun w hS => f99_ok d.KeyAt 0 d.Length w) ?_
      rintro _ _ ⟨rfl, rfl⟩
      refine js_ (vB ((decide (0 ≤ d.KeyAt)) && (decide (d.KeyAt ≤ d.Length)))) (x_pick_t rfl g32 rfl) ?_
      refine JO_nil (JX_cut ((decide (0 ≤ d.KeyAt)) && (decide (d.KeyAt ≤ d.Length))) (by rw [g32]; simp) ⟨rfl, rfl, rfl, trivial⟩ (fun _ h => h))
     ·have g32r := g32
      have g32r := of_decide_eq_false g32r
      refine sh_ g32 ?_
      refine sh_ g32 ?_
      refine sh_ g32 ?_
      refine sh_ g32 ?_
      refine sh_ g32 ?_
      refine js_ (vB false) (x_pick_f rfl g32 rfl) ?_
      refine JO_nil (JX_cut (false) (by rw [g32]; simp) ⟨rfl, rfl, rfl, trivial⟩ (fun _ h => h))
    rintro z31 rfl
    refine jr_ (vB ((decide (d.Length ≤ (d.Interval / 2) - 8)) && ((decide (0 ≤ d.KeyAt)) && (decide (d.KeyAt ≤ d.Length))))) ?_
    refine JO_cut 7 (fun z => z = (((decide (d.Length ≤ (d.Interval / 2) - 8)) && ((decide (0 ≤ d.KeyAt)) && (decide (d.KeyAt ≤ d.Length)))) && ((decide (1 ≤ d.KeyLength)) && (decide (d.KeyLength ≤ (d.Interval / 16)))))) (fun z => [(1, Value.pointer (some ⟨b1, 0, none⟩)), (2, vB false), (83, vB z)]) (fun _ => [Ent.blk b1 24 (DataSet.enc d)]) ?_ ?_
    ·rcases Bool.eq_false_or_eq_true ((decide (d.Length ≤ (d.Interval / 2) - 8)) && ((decide (0 ≤ d.KeyAt)) && (decide (d.KeyAt ≤ d.Length)))) with g34 | g34
     ·have g34r := g34
      have ⟨g34r, h35⟩ := band_true g34r
      have g34r := of_decide_eq_true g34r
      have ⟨h35, h36⟩ := band_true h35
      have h35 := of_decide_eq_true h35
      have h36 := of_decide_eq_true h36
      refine jg_ g34 (Value.pointer (some ⟨b1, 6, none⟩)) (x_fieldAddr Ty.fi24_6 rfl rfl) ?_
      refine JO_read (vI d.KeyLength) rfl ⟨_, rfl, g34⟩ (x_load 0 rfl rfl Ty.sc3 rfl) ?_
      refine jg_ g34 (Value.pointer (some ⟨b1, 7, none⟩)) (x_fieldAddr Ty.fi24_7 rfl rfl) ?_
      refine JO_read (vI d.Interval) rfl ⟨_, rfl, g34⟩ (x_load 0 rfl rfl Ty.sc3 rfl) ?_
      refine jg_ g34 (vI (d.Interval / 16)) (x_quo_i (a := d.Interval) (b := 16) rfl rfl (by omega) (by omega) (by omega)) ?_
      refine JO_call [] [] [Ent.blk b1 24 (DataSet.enc d)] rfl ⟨_, rfl, g34⟩ (fun _ => x_call Ty.ca99 rfl) (fun _ h => h) (fun _ h => by cases h) (fun w hS => f99_ok d.KeyLength 1 (d.Interval / 16) w) ?_
      rintro _ _ ⟨rfl, rfl⟩
      refine js_ (vB ((decide (1 ≤ d.KeyLength)) && (decide (d.KeyLength ≤ (d.Interval / 16))))) (x_pick_t rfl g34 rfl) ?_
      refine JO_nil (JX_cut ((decide (1 ≤ d.KeyLength)) && (decide (d.KeyLength ≤ (d.Interval / 16)))) (by rw [g34]; simp) ⟨rfl, rfl, rfl, trivial⟩ (fun _ h => h))
     ·have g34r := g34
      simp only [Bool.and_eq_true, Bool.or_eq_true, Bool.and_eq_false_iff, Bool.or_eq_false_iff, Bool.not_eq_true', Bool.not_eq_false', decide_eq_true_eq, decide_eq_false_iff_not] at g34r
      refine sh_ g34 ?_
      refine sh_ g34 ?_
      refine sh_ g34 ?_
      refine sh_ g34 ?_
      refine sh_ g34 ?_
      refine sh_ g34 ?_
      refine js_ (vB false) (x_pick_f rfl g34 rfl) ?_
      refine JO_nil (JX_cut (false) (by rw [g34]; simp) ⟨rfl, rfl, rfl, trivial⟩ (fun _ h => h))
    rintro z33 rfl
    refine jr_ (vB (((decide (d.Length ≤ (d.Interval / 2) - 8)) && ((decide (0 ≤ d.KeyAt)) && (decide (d.KeyAt ≤ d.Length)))) && ((decide (1 ≤ d.KeyLength)) && (decide (d.KeyLength ≤ (d.Interval / 16)))))) ?_
    refine JO_cut 9 (fun z => z = ((((decide (d.Length ≤ (d.Interval / 2) - 8)) && ((decide (0 ≤ d.KeyAt)) && (decide (d.KeyAt ≤ d.Length)))) && ((decide (1 ≤ d.KeyLength)) && (decide (d.KeyLength ≤ (d.Interval / 16))))) && (decide (d.KeyAt + d.KeyLength ≤ d.Length)))) (fun z => [(1, Value.pointer (some ⟨b1, 0, none⟩)), (2, vB false), (93, vB z)]) (fun _ => [Ent.blk b1 24 (DataSet.enc d)]) ?_ ?_
    ·rcases Bool.eq_false_or_eq_true (((decide (d.Length ≤ (d.Interval / 2) - 8)) && ((decide (0 ≤ d.KeyAt)) && (decide (d.KeyAt ≤ d.Length)))) && ((decide (1 ≤ d.KeyLength)) && (decide (d.KeyLength ≤ (d.Interval / 16))))) with g38 | g38
     ·have g38r := g38
      have ⟨g38r, h39⟩ := band_true g38r
      have ⟨g38r, h40⟩ := band_true g38r
      have g38r := of_decide_eq_true g38r
      have ⟨h40, h41⟩ := band_true h40
      have h40 := of_decide_eq_true h40
      have h41 := of_decide_eq_true h41
      have ⟨h39, h42⟩ := band_true h39
      have h39 := of_decide_eq_true h39
      have h42 := of_decide_eq_true h42
      refine jg_ g38 (Value.pointer (some ⟨b1, 5, none⟩)) (x_fieldAddr Ty.fi24_5 rfl rfl) ?_
      refine JO_read (vI d.KeyAt) rfl ⟨_, rfl, g38⟩ (x_load 0 rfl rfl Ty.sc3 rfl) ?_
      refine jg_ g38 (Value.pointer (some ⟨b1, 6, none⟩)) (x_fieldAddr Ty.fi24_6 rfl rfl) ?_
      refine JO_read (vI d.KeyLength) rfl ⟨_, rfl, g38⟩ (x_load 0 rfl rfl Ty.sc3 rfl) ?_
      refine jg_ g38 (vI (d.KeyAt + d.KeyLength)) (x_add_i (a := d.KeyAt) (b := d.KeyLength) rfl rfl (by omega) (by omega)) ?_
      refine jg_ g38 (Value.pointer (some ⟨b1, 3, none⟩)) (x_fieldAddr Ty.fi24_3 rfl rfl) ?_
      refine JO_read (vI d.Length) rfl ⟨_, rfl, g38⟩ (x_load 0 rfl rfl Ty.sc3 rfl) ?_
      refine jg_ g38 (vB (decide (d.KeyAt + d.KeyLength ≤ d.Length))) (x_leq_i rfl rfl) ?_
      refine js_ (vB (decide (d.KeyAt + d.KeyLength ≤ d.Length))) (x_pick_t rfl g38 rfl) ?_
      refine JO_nil (JX_cut (decide (d.KeyAt + d.KeyLength ≤ d.Length)) (by rw [g38]; simp) ⟨rfl, rfl, rfl, trivial⟩ (fun _ h => h))
     ·have g38r := g38
      simp only [Bool.and_eq_true, Bool.or_eq_true, Bool.and_eq_false_iff, Bool.or_eq_false_iff, Bool.not_eq_true', Bool.not_eq_false', decide_eq_true_eq, decide_eq_false_iff_not] at g38r
      refine sh_ g38 ?_
      refine sh_ g38 ?_
      refine sh_ g38 ?_
      refine sh_ g38 ?_
      refine sh_ g38 ?_
      refine sh_ g38 ?_
      refine sh_ g38 ?_
      refine sh_ g38 ?_
      refine js_ (vB false) (x_pick_f rfl g38 rfl) ?_
      refine JO_nil (JX_cut (false) (by rw [g38]; simp) ⟨rfl, rfl, rfl, trivial⟩ (fun _ h => h))
    rintro z37 rfl
    refine jr_ (vB ((((decide (d.Length ≤ (d.Interval / 2) - 8)) && ((decide (0 ≤ d.KeyAt)) && (decide (d.KeyAt ≤ d.Length)))) && ((decide (1 ≤ d.KeyLength)) && (decide (d.KeyLength ≤ (d.Interval / 16))))) && (decide (d.KeyAt + d.KeyLength ≤ d.Length)))) ?_
    refine JO_cut 4 (fun z => z = (((((decide (d.Length ≤ (d.Interval / 2) - 8)) && ((decide (0 ≤ d.KeyAt)) && (decide (d.KeyAt ≤ d.Length)))) && ((decide (1 ≤ d.KeyLength)) && (decide (d.KeyLength ≤ (d.Interval / 16))))) && (decide (d.KeyAt + d.KeyLength ≤ d.Length))) && ((decide (2 ≤ d.Area)) && (decide (d.Area ≤ 8))))) (fun z => [(1, Value.pointer (some ⟨b1, 0, none⟩)), (2, vB false), (98, vB z)]) (fun _ => [Ent.blk b1 24 (DataSet.enc d)]) ?_ ?_
    ·rcases Bool.eq_false_or_eq_true ((((decide (d.Length ≤ (d.Interval / 2) - 8)) && ((decide (0 ≤ d.KeyAt)) && (decide (d.KeyAt ≤ d.Length)))) && ((decide (1 ≤ d.KeyLength)) && (decide (d.KeyLength ≤ (d.Interval / 16))))) && (decide (d.KeyAt + d.KeyLength ≤ d.Length))) with g44 | g44
     ·have g44r := g44
      have ⟨g44r, h45⟩ := band_true g44r
      have ⟨g44r, h46⟩ := band_true g44r
      have ⟨g44r, h47⟩ := band_true g44r
      have g44r := of_decide_eq_true g44r
      have ⟨h47, h48⟩ := band_true h47
      have h47 := of_decide_eq_true h47
      have h48 := of_decide_eq_true h48
      have ⟨h46, h49⟩ := band_true h46
      have h46 := of_decide_eq_true h46
      have h49 := of_decide_eq_true h49
      have h45 := of_decide_eq_true h45
      refine jg_ g44 (Value.pointer (some ⟨b1, 8, none⟩)) (x_fieldAddr Ty.fi24_8 rfl rfl) ?_
      refine JO_read (vI d.Area) rfl ⟨_, rfl, g44⟩ (x_load 0 rfl rfl Ty.sc3 rfl) ?_
      refine JO_call [] [] [Ent.blk b1 24 (DataSet.enc d)] rfl ⟨_, rfl, g44⟩ (fun _ => x_call Ty.ca99 rfl) (fun _ h => h) (fun _ h => by cases h) (fun w hS => f99_ok d.Area 2 8 w) ?_
      rintro _ _ ⟨rfl, rfl⟩
      refine js_ (vB ((decide (2 ≤ d.Area)) && (decide (d.Area ≤ 8)))) (x_pick_t rfl g44 rfl) ?_
      refine JO_nil (JX_cut ((decide (2 ≤ d.Area)) && (decide (d.Area ≤ 8))) (by rw [g44]; simp) ⟨rfl, rfl, rfl, trivial⟩ (fun _ h => h))
     ·have g44r := g44
      simp only [Bool.and_eq_true, Bool.or_eq_true, Bool.and_eq_false_iff, Bool.or_eq_false_iff, Bool.not_eq_true', Bool.not_eq_false', decide_eq_true_eq, decide_eq_false_iff_not] at g44r
      refine sh_ g44 ?_
      refine sh_ g44 ?_
      refine sh_ g44 ?_
      refine js_ (vB false) (x_pick_f rfl g44 rfl) ?_
      refine JO_nil (JX_cut (false) (by rw [g44]; simp) ⟨rfl, rfl, rfl, trivial⟩ (fun _ h => h))
    rintro z43 rfl
    refine jr_ (vB (((((decide (d.Length ≤ (d.Interval / 2) - 8)) && ((decide (0 ≤ d.KeyAt)) && (decide (d.KeyAt ≤ d.Length)))) && ((decide (1 ≤ d.KeyLength)) && (decide (d.KeyLength ≤ (d.Interval / 16))))) && (decide (d.KeyAt + d.KeyLength ≤ d.Length))) && ((decide (2 ≤ d.Area)) && (decide (d.Area ≤ 8))))) ?_
    refine JO_cut 4 (fun z => z = ((((((decide (d.Length ≤ (d.Interval / 2) - 8)) && ((decide (0 ≤ d.KeyAt)) && (decide (d.KeyAt ≤ d.Length)))) && ((decide (1 ≤ d.KeyLength)) && (decide (d.KeyLength ≤ (d.Interval / 16))))) && (decide (d.KeyAt + d.KeyLength ≤ d.Length))) && ((decide (2 ≤ d.Area)) && (decide (d.Area ≤ 8)))) && ((decide (0 ≤ d.FreeInterval)) && (decide (d.FreeInterval ≤ 90))))) (fun z => [(1, Value.pointer (some ⟨b1, 0, none⟩)), (2, vB false), (103, vB z)]) (fun _ => [Ent.blk b1 24 (DataSet.enc d)]) ?_ ?_
    ·rcases Bool.eq_false_or_eq_true (((((decide (d.Length ≤ (d.Interval / 2) - 8)) && ((decide (0 ≤ d.KeyAt)) && (decide (d.KeyAt ≤ d.Length)))) && ((decide (1 ≤ d.KeyLength)) && (decide (d.KeyLength ≤ (d.Interval / 16))))) && (decide (d.KeyAt + d.KeyLength ≤ d.Length))) && ((decide (2 ≤ d.Area)) && (decide (d.Area ≤ 8)))) with g51 | g51
     ·have g51r := g51
      have ⟨g51r, h52⟩ := band_true g51r
      have ⟨g51r, h53⟩ := band_true g51r
      have ⟨g51r, h54⟩ := band_true g51r
      have ⟨g51r, h55⟩ := band_true g51r
      have g51r := of_decide_eq_true g51r
      have ⟨h55, h56⟩ := band_true h55
      have h55 := of_decide_eq_true h55
      have h56 := of_decide_eq_true h56
      have ⟨h54, h57⟩ := band_true h54
      have h54 := of_decide_eq_true h54
      have h57 := of_decide_eq_true h57
      have h53 := of_decide_eq_true h53
      have ⟨h52, h58⟩ := band_true h52
      have h52 := of_decide_eq_true h52
      have h58 := of_decide_eq_true h58
      refine jg_ g51 (Value.pointer (some ⟨b1, 9, none⟩)) (x_fieldAddr Ty.fi24_9 rfl rfl) ?_
      refine JO_read (vI d.FreeInterval) rfl ⟨_, rfl, g51⟩ (x_load 0 rfl rfl Ty.sc3 rfl) ?_
      refine JO_call [] [] [Ent.blk b1 24 (DataSet.enc d)] rfl ⟨_, rfl, g51⟩ (fun _ => x_call Ty.ca99 rfl) (fun _ h => h) (fun _ h => by cases h) (fun w hS => f99_ok d.FreeInterval 0 90 w) ?_
      rintro _ _ ⟨rfl, rfl⟩
      refine js_ (vB ((decide (0 ≤ d.FreeInterval)) && (decide (d.FreeInterval ≤ 90)))) (x_pick_t rfl g51 rfl) ?_
      refine JO_nil (JX_cut ((decide (0 ≤ d.FreeInterval)) && (decide (d.FreeInterval ≤ 90))) (by rw [g51]; simp) ⟨rfl, rfl, rfl, trivial⟩ (fun _ h => h))
     ·have g51r := g51
      simp only [Bool.and_eq_true, Bool.or_eq_true, Bool.and_eq_false_iff, Bool.or_eq_false_iff, Bool.not_eq_true', Bool.not_eq_false', decide_eq_true_eq, decide_eq_false_iff_not] at g51r
      refine sh_ g51 ?_
      refine sh_ g51 ?_
      refine sh_ g51 ?_
      refine js_ (vB false) (x_pick_f rfl g51 rfl) ?_
      refine JO_nil (JX_cut (false) (by rw [g51]; simp) ⟨rfl, rfl, rfl, trivial⟩ (fun _ h => h))
    rintro z50 rfl
    refine jr_ (vB ((((((decide (d.Length ≤ (d.Interval / 2) - 8)) && ((decide (0 ≤ d.KeyAt)) && (decide (d.KeyAt ≤ d.Length)))) && ((decide (1 ≤ d.KeyLength)) && (decide (d.KeyLength ≤ (d.Interval / 16))))) && (decide (d.KeyAt + d.KeyLength ≤ d.Length))) && ((decide (2 ≤ d.Area)) && (decide (d.Area ≤ 8)))) && ((decide (0 ≤ d.FreeInterval)) && (decide (d.FreeInterval ≤ 90))))) ?_
    refine JO_cut 7 (fun z => z = (((((((decide (d.Length ≤ (d.Interval / 2) - 8)) && ((decide (0 ≤ d.KeyAt)) && (decide (d.KeyAt ≤ d.Length)))) && ((decide (1 ≤ d.KeyLength)) && (decide (d.KeyLength ≤ (d.Interval / 16))))) && (decide (d.KeyAt + d.KeyLength ≤ d.Length))) && ((decide (2 ≤ d.Area)) && (decide (d.Area ≤ 8)))) && ((decide (0 ≤ d.FreeInterval)) && (decide (d.FreeInterval ≤ 90)))) && ((decide (0 ≤ d.FreeArea)) && (decide (d.FreeArea ≤ (d.Area - 1)))))) (fun z => [(2, vB false), (111, vB z)]) (fun _ => [Ent.blk b1 24 (DataSet.enc d)]) ?_ ?_
    ·rcases Bool.eq_false_or_eq_true ((((((decide (d.Length ≤ (d.Interval / 2) - 8)) && ((decide (0 ≤ d.KeyAt)) && (decide (d.KeyAt ≤ d.Length)))) && ((decide (1 ≤ d.KeyLength)) && (decide (d.KeyLength ≤ (d.Interval / 16))))) && (decide (d.KeyAt + d.KeyLength ≤ d.Length))) && ((decide (2 ≤ d.Area)) && (decide (d.Area ≤ 8)))) && ((decide (0 ≤ d.FreeInterval)) && (decide (d.FreeInterval ≤ 90)))) with g60 | g60
     ·have g60r := g60
      have ⟨g60r, h61⟩ := band_true g60r
      have ⟨g60r, h62⟩ := band_true g60r
      have ⟨g60r, h63⟩ := band_true g60r
      have ⟨g60r, h64⟩ := band_true g60r
      have ⟨g60r, h65⟩ := band_true g60r
      have g60r := of_decide_eq_true g60r
      have ⟨h65, h66⟩ := band_true h65
      have h65 := of_decide_eq_true h65
      have h66 := of_decide_eq_true h66
      have ⟨h64, h67⟩ := band_true h64
      have h64 := of_decide_eq_true h64
      have h67 := of_decide_eq_true h67
      have h63 := of_decide_eq_true h63
      have ⟨h62, h68⟩ := band_true h62
      have h62 := of_decide_eq_true h62
      have h68 := of_decide_eq_true h68
      have ⟨h61, h69⟩ := band_true h61
      have h61 := of_decide_eq_true h61
      have h69 := of_decide_eq_true h69
      refine jg_ g60 (Value.pointer (some ⟨b1, 10, none⟩)) (x_fieldAddr Ty.fi24_10 rfl rfl) ?_
      refine JO_read (vI d.FreeArea) rfl ⟨_, rfl, g60⟩ (x_load 0 rfl rfl Ty.sc3 rfl) ?_
      refine jg_ g60 (Value.pointer (some ⟨b1, 8, none⟩)) (x_fieldAddr Ty.fi24_8 rfl rfl) ?_
      refine JO_read (vI d.Area) rfl ⟨_, rfl, g60⟩ (x_load 0 rfl rfl Ty.sc3 rfl) ?_
      refine jg_ g60 (vI (d.Area - 1)) (x_sub_i (a := d.Area) (b := 1) rfl rfl (by omega) (by omega)) ?_
      refine JO_call [] [] [Ent.blk b1 24 (DataSet.enc d)] rfl ⟨_, rfl, g60⟩ (fun _ => x_call Ty.ca99 rfl) (fun _ h => h) (fun _ h => by cases h) (fun w hS => f99_ok d.FreeArea 0 (d.Area - 1) w) ?_
      rintro _ _ ⟨rfl, rfl⟩
      refine js_ (vB ((decide (0 ≤ d.FreeArea)) && (decide (d.FreeArea ≤ (d.Area - 1))))) (x_pick_t rfl g60 rfl) ?_
      refine JO_nil (JX_cut ((decide (0 ≤ d.FreeArea)) && (decide (d.FreeArea ≤ (d.Area - 1)))) (by rw [g60]; simp) ⟨rfl, rfl, trivial⟩ (fun _ h => h))
     ·have g60r := g60
      simp only [Bool.and_eq_true, Bool.or_eq_true, Bool.and_eq_false_iff, Bool.or_eq_false_iff, Bool.not_eq_true', Bool.not_eq_false', decide_eq_true_eq, decide_eq_false_iff_not] at g60r
      refine sh_ g60 ?_
      refine sh_ g60 ?_
      refine sh_ g60 ?_
      refine sh_ g60 ?_
      refine sh_ g60 ?_
      refine sh_ g60 ?_
      refine js_ (vB false) (x_pick_f rfl g60 rfl) ?_
      refine JO_nil (JX_cut (false) (by rw [g60]; simp) ⟨rfl, rfl, trivial⟩ (fun _ h => h))
    rintro z59 rfl
    refine jr_ (vB (((((((decide (d.Length ≤ (d.Interval / 2) - 8)) && ((decide (0 ≤ d.KeyAt)) && (decide (d.KeyAt ≤ d.Length)))) && ((decide (1 ≤ d.KeyLength)) && (decide (d.KeyLength ≤ (d.Interval / 16))))) && (decide (d.KeyAt + d.KeyLength ≤ d.Length))) && ((decide (2 ≤ d.Area)) && (decide (d.Area ≤ 8)))) && ((decide (0 ≤ d.FreeInterval)) && (decide (d.FreeInterval ≤ 90)))) && ((decide (0 ≤ d.FreeArea)) && (decide (d.FreeArea ≤ (d.Area - 1)))))) ?_
    refine JO_nil (JX_then (J_ret ?_))
    refine JX_rets [vB (((((((decide (d.Length ≤ (d.Interval / 2) - 8)) && ((decide (0 ≤ d.KeyAt)) && (decide (d.KeyAt ≤ d.Length)))) && ((decide (1 ≤ d.KeyLength)) && (decide (d.KeyLength ≤ (d.Interval / 16))))) && (decide (d.KeyAt + d.KeyLength ≤ d.Length))) && ((decide (2 ≤ d.Area)) && (decide (d.Area ≤ 8)))) && ((decide (0 ≤ d.FreeInterval)) && (decide (d.FreeInterval ≤ 90)))) && ((decide (0 ≤ d.FreeArea)) && (decide (d.FreeArea ≤ (d.Area - 1)))))] (vB (((((((decide (d.Length ≤ (d.Interval / 2) - 8)) && ((decide (0 ≤ d.KeyAt)) && (decide (d.KeyAt ≤ d.Length)))) && ((decide (1 ≤ d.KeyLength)) && (decide (d.KeyLength ≤ (d.Interval / 16))))) && (decide (d.KeyAt + d.KeyLength ≤ d.Length))) && ((decide (2 ≤ d.Area)) && (decide (d.Area ≤ 8)))) && ((decide (0 ≤ d.FreeInterval)) && (decide (d.FreeInterval ≤ 90)))) && ((decide (0 ≤ d.FreeArea)) && (decide (d.FreeArea ≤ (d.Area - 1)))))) Try.results69 (fun w h => ⟨rfl, trivial⟩) rfl [] (fun _ h => h.keep [false] rfl) ⟨?_, ?_⟩
    ·have e_x0 : (((((((decide (d.Length ≤ (d.Interval / 2) - 8)) && ((decide (0 ≤ d.KeyAt)) && (decide (d.KeyAt ≤ d.Length)))) && ((decide (1 ≤ d.KeyLength)) && (decide (d.KeyLength ≤ (d.Interval / 16))))) && (decide (d.KeyAt + d.KeyLength ≤ d.Length))) && ((decide (2 ≤ d.Area)) && (decide (d.Area ≤ 8)))) && ((decide (0 ≤ d.FreeInterval)) && (decide (d.FreeInterval ≤ 90)))) && ((decide (0 ≤ d.FreeArea)) && (decide (d.FreeArea ≤ (d.Area - 1)))) : Bool) = (R16.valid d) := by
      have hk3 : k = 3 := by omega
      subst hk3
      rw [R16.known3] at i1_1
      subst i1_1
      rw [Bool.eq_iff_iff]
      simp only [Bool.and_eq_true, Bool.or_eq_true, Bool.not_eq_true', Bool.and_eq_false_iff, Bool.or_eq_false_iff, decide_eq_true_eq, decide_eq_false_iff_not, R16.zeros, List.all_cons, List.all_nil, R16.valid, R16.bet, Bool.false_eq_true, and_true, true_and, Bool.and_true, Bool.true_eq_false, or_false, Decidable.not_not, ne_eq, false_iff, true_iff, iff_true, iff_false] at *
      by_cases hO : d.Org = 3
      ·rw [if_pos hO]; simp only [Bool.and_eq_true, decide_eq_true_eq]; omega
      ·rw [if_neg hO]; simp only [Bool.and_eq_true, decide_eq_true_eq]; omega
     exact congrArg (fun (x0 : Bool) => vB x0) e_x0
    ·rfl
set_option maxRecDepth 20000 in
theorem f49_ok (d : DataSet) (w : World) : Calls Try.prog 49 #[Value.agg ((DataSet.enc d)).toArray] w (Gives [] w fun v L => v = vB (R16.valid d) ∧ L = []) := by
 refine calls_J [] 123 Try.func49 rfl Try.ntmps49 [(0, Value.agg ((DataSet.enc d)).toArray)] rfl rfl (Give.nil w) ?_
 refine J_seq (J_region ?_)
 refine JO_op rfl trivial (O_box rfl rfl fun b1 => ?_)
 refine jr_ (vB false) ?_
 refine JO_nil (JX_then (J_seq (J_seq (J_region ?_))))
 refine js_ (Value.pointer (some ⟨b1, 1, none⟩)) (x_fieldAddr Ty.fi24_1 rfl rfl) ?_
 refine JO_read (vI d.Org) rfl trivial (x_load 0 rfl rfl Ty.sc3 rfl) ?_
 refine js_ (vB (decide (d.Org ≠ 1))) (x_neq_i rfl rfl) ?_
 refine jr_ (vB (decide (d.Org ≠ 1))) ?_
 refine JO_cut 4 (fun z => z = ((decide (d.Org ≠ 1)) && (decide (d.Org ≠ 2)))) (fun z => [(1, Value.pointer (some ⟨b1, 0, none⟩)), (2, vB false), (10, vB z)]) (fun _ => [Ent.blk b1 24 (DataSet.enc d)]) ?_ ?_
 ·rcases Bool.eq_false_or_eq_true (decide (d.Org ≠ 1)) with g3 | g3
  ·have g3r := g3
   have g3r := of_decide_eq_true g3r
   refine jg_ g3 (Value.pointer (some ⟨b1, 1, none⟩)) (x_fieldAddr Ty.fi24_1 rfl rfl) ?_
   refine JO_read (vI d.Org) rfl ⟨_, rfl, g3⟩ (x_load 0 rfl rfl Ty.sc3 rfl) ?_
   refine jg_ g3 (vB (decide (d.Org ≠ 2))) (x_neq_i rfl rfl) ?_
   refine js_ (vB (decide (d.Org ≠ 2))) (x_pick_t rfl g3 rfl) ?_
   refine JO_nil (JX_cut (decide (d.Org ≠ 2)) (by rw [g3]; simp) ⟨rfl, rfl, rfl, trivial⟩ (fun _ h => h))
  ·have g3r := g3
   have g3r := of_decide_eq_false g3r
   refine sh_ g3 ?_
   refine sh_ g3 ?_
   refine sh_ g3 ?_
   refine js_ (vB false) (x_pick_f rfl g3 rfl) ?_
   refine JO_nil (JX_cut (false) (by rw [g3]; simp) ⟨rfl, rfl, rfl, trivial⟩ (fun _ h => h))
 rintro z2 rfl
 refine jr_ (vB ((decide (d.Org ≠ 1)) && (decide (d.Org ≠ 2)))) ?_
 refine JO_cut 4 (fun z => z = (((decide (d.Org ≠ 1)) && (decide (d.Org ≠ 2))) && (decide (d.Org ≠ 3)))) (fun z => [(1, Value.pointer (some ⟨b1, 0, none⟩)), (2, vB false), (15, vB z)]) (fun _ => [Ent.blk b1 24 (DataSet.enc d)]) ?_ ?_
 ·rcases Bool.eq_false_or_eq_true ((decide (d.Org ≠ 1)) && (decide (d.Org ≠ 2))) with g5 | g5
  ·have g5r := g5
   have ⟨g5r, h6⟩ := band_true g5r
   have g5r := of_decide_eq_true g5r
   have h6 := of_decide_eq_true h6
   refine jg_ g5 (Value.pointer (some ⟨b1, 1, none⟩)) (x_fieldAddr Ty.fi24_1 rfl rfl) ?_
   refine JO_read (vI d.Org) rfl ⟨_, rfl, g5⟩ (x_load 0 rfl rfl Ty.sc3 rfl) ?_
   refine jg_ g5 (vB (decide (d.Org ≠ 3))) (x_neq_i rfl rfl) ?_
   refine js_ (vB (decide (d.Org ≠ 3))) (x_pick_t rfl g5 rfl) ?_
   refine JO_nil (JX_cut (decide (d.Org ≠ 3)) (by rw [g5]; simp) ⟨rfl, rfl, rfl, trivial⟩ (fun _ h => h))
  ·have g5r := g5
   simp only [Bool.and_eq_true, Bool.or_eq_true, Bool.and_eq_false_iff, Bool.or_eq_false_iff, Bool.not_eq_true', Bool.not_eq_false', decide_eq_true_eq, decide_eq_false_iff_not] at g5r
   refine sh_ g5 ?_
   refine sh_ g5 ?_
   refine sh_ g5 ?_
   refine js_ (vB false) (x_pick_f rfl g5 rfl) ?_
   refine JO_nil (JX_cut (false) (by rw [g5]; simp) ⟨rfl, rfl, rfl, trivial⟩ (fun _ h => h))
 rintro z4 rfl
 refine jr_ (vB (((decide (d.Org ≠ 1)) && (decide (d.Org ≠ 2))) && (decide (d.Org ≠ 3)))) ?_
 refine JO_cut 14 (fun z => z = ((((decide (d.Org ≠ 1)) && (decide (d.Org ≠ 2))) && (decide (d.Org ≠ 3))) || (((decide (d.Interval ≠ 128)) && (decide (d.Interval ≠ 256))) && (decide (d.Interval ≠ 512))))) (fun z => [(1, Value.pointer (some ⟨b1, 0, none⟩)), (2, vB false), (30, vB z)]) (fun _ => [Ent.blk b1 24 (DataSet.enc d)]) ?_ ?_
 ·rcases Bool.eq_false_or_eq_true (((decide (d.Org ≠ 1)) && (decide (d.Org ≠ 2))) && (decide (d.Org ≠ 3))) with g8 | g8
  ·have g8r := g8
   have ⟨g8r, h9⟩ := band_true g8r
   have ⟨g8r, h10⟩ := band_true g8r
   have g8r := of_decide_eq_true g8r
   have h10 := of_decide_eq_true h10
   have h9 := of_decide_eq_true h9
   refine sh_ g8 ?_
   refine sh_ g8 ?_
   refine sh_ g8 ?_
   refine sh_ g8 ?_
   refine JO_shunU rfl ⟨_, rfl, rfl⟩ ?_
   refine JO_shunU rfl ⟨_, rfl, rfl⟩ ?_
   refine JO_shunU rfl ⟨_, rfl, rfl⟩ ?_
   refine sh_ g8 ?_
   refine sh_ g8 ?_
   refine JO_shunU rfl ⟨_, rfl, rfl⟩ ?_
   refine JO_shunU rfl ⟨_, rfl, rfl⟩ ?_
   refine JO_shunU rfl ⟨_, rfl, rfl⟩ ?_
   refine sh_ g8 ?_
   refine js_ (vB true) (x_pick_t rfl g8 rfl) ?_
   refine JO_nil (JX_cut (true) (by rw [g8]; simp) ⟨rfl, rfl, rfl, trivial⟩ (fun _ h => h))
  ·have g8r := g8
   simp only [Bool.and_eq_true, Bool.or_eq_true, Bool.and_eq_false_iff, Bool.or_eq_false_iff, Bool.not_eq_true', Bool.not_eq_false', decide_eq_true_eq, decide_eq_false_iff_not] at g8r
   refine jg_ g8 (Value.pointer (some ⟨b1, 7, none⟩)) (x_fieldAddr Ty.fi24_7 rfl rfl) ?_
   refine JO_read (vI d.Interval) rfl ⟨_, rfl, g8⟩ (x_load 0 rfl rfl Ty.sc3 rfl) ?_
   refine jg_ g8 (vB (decide (d.Interval ≠ 128))) (x_neq_i rfl rfl) ?_
   refine jg_ g8 (vB (decide (d.Interval ≠ 128))) (rfl) ?_
   refine JO_cut 4 (fun z => z = ((decide (d.Interval ≠ 128)) && (decide (d.Interval ≠ 256)))) (fun z => [(1, Value.pointer (some ⟨b1, 0, none⟩)), (2, vB false), (16, vB (((decide (d.Org ≠ 1)) && (decide (d.Org ≠ 2))) && (decide (d.Org ≠ 3)))), (24, vB z)]) (fun _ => [Ent.blk b1 24 (DataSet.enc d)]) ?_ ?_
   ·rcases Bool.eq_false_or_eq_true (decide (d.Interval ≠ 128)) with g12 | g12
    ·have g12r := g12
     have g12r := of_decide_eq_true g12r
     refine jg_ g12 (Value.pointer (some ⟨b1, 7, none⟩)) (x_fieldAddr Ty.fi24_7 rfl rfl) ?_
     refine JO_read (vI d.Interval) rfl ⟨_, rfl, g12⟩ (x_load 0 rfl rfl Ty.sc3 rfl) ?_
     refine jg_ g12 (vB (decide (d.Interval ≠ 256))) (x_neq_i rfl rfl) ?_
     refine jg_ g8 (vB (decide (d.Interval ≠ 256))) (x_pick_t rfl g12 rfl) ?_
     refine JO_nil (JX_cut (decide (d.Interval ≠ 256)) (by rw [g12]; simp) ⟨rfl, rfl, rfl, rfl, trivial⟩ (fun _ h => h))
    ·have g12r := g12
     have g12r := of_decide_eq_false g12r
     refine sh_ g12 ?_
     refine sh_ g12 ?_
     refine sh_ g12 ?_
     refine jg_ g8 (vB false) (x_pick_f rfl g12 rfl) ?_
     refine JO_nil (JX_cut (false) (by rw [g12]; simp) ⟨rfl, rfl, rfl, rfl, trivial⟩ (fun _ h => h))
   rintro z11 rfl
   refine jg_ g8 (vB ((decide (d.Interval ≠ 128)) && (decide (d.Interval ≠ 256)))) (rfl) ?_
   refine JO_cut 4 (fun z => z = (((decide (d.Interval ≠ 128)) && (decide (d.Interval ≠ 256))) && (decide (d.Interval ≠ 512)))) (fun z => [(1, Value.pointer (some ⟨b1, 0, none⟩)), (2, vB false), (16, vB (((decide (d.Org ≠ 1)) && (decide (d.Org ≠ 2))) && (decide (d.Org ≠ 3)))), (29, vB z)]) (fun _ => [Ent.blk b1 24 (DataSet.enc d)]) ?_ ?_
   ·rcases Bool.eq_false_or_eq_true ((decide (d.Interval ≠ 128)) && (decide (d.Interval ≠ 256))) with g14 | g14
    ·have g14r := g14
     have ⟨g14r, h15⟩ := band_true g14r
     have g14r := of_decide_eq_true g14r
     have h15 := of_decide_eq_true h15
     refine jg_ g14 (Value.pointer (some ⟨b1, 7, none⟩)) (x_fieldAddr Ty.fi24_7 rfl rfl) ?_
     refine JO_read (vI d.Interval) rfl ⟨_, rfl, g14⟩ (x_load 0 rfl rfl Ty.sc3 rfl) ?_
     refine jg_ g14 (vB (decide (d.Interval ≠ 512))) (x_neq_i rfl rfl) ?_
     refine jg_ g8 (vB (decide (d.Interval ≠ 512))) (x_pick_t rfl g14 rfl) ?_
     refine JO_nil (JX_cut (decide (d.Interval ≠ 512)) (by rw [g14]; simp) ⟨rfl, rfl, rfl, rfl, trivial⟩ (fun _ h => h))
    ·have g14r := g14
     simp only [Bool.and_eq_true, Bool.or_eq_true, Bool.and_eq_false_iff, Bool.or_eq_false_iff, Bool.not_eq_true', Bool.not_eq_false', decide_eq_true_eq, decide_eq_false_iff_not] at g14r
     refine sh_ g14 ?_
     refine sh_ g14 ?_
     refine sh_ g14 ?_
     refine jg_ g8 (vB false) (x_pick_f rfl g14 rfl) ?_
     refine JO_nil (JX_cut (false) (by rw [g14]; simp) ⟨rfl, rfl, rfl, rfl, trivial⟩ (fun _ h => h))
   rintro z13 rfl
   refine js_ (vB (((decide (d.Interval ≠ 128)) && (decide (d.Interval ≠ 256))) && (decide (d.Interval ≠ 512)))) (x_pick_f rfl g8 rfl) ?_
   refine JO_nil (JX_cut (((decide (d.Interval ≠ 128)) && (decide (d.Interval ≠ 256))) && (decide (d.Interval ≠ 512))) (by rw [g8]; simp) ⟨rfl, rfl, rfl, trivial⟩ (fun _ h => h))
 rintro z7 rfl
 refine JO_nil (JX_then ?_)
 refine J_cond ((((decide (d.Org ≠ 1)) && (decide (d.Org ≠ 2))) && (decide (d.Org ≠ 3))) || (((decide (d.Interval ≠ 128)) && (decide (d.Interval ≠ 256))) && (decide (d.Interval ≠ 512)))) rfl rfl (fun h16 => ?_) (fun h16 => ?_)
 ·simp only [Bool.and_eq_true, Bool.or_eq_true, Bool.and_eq_false_iff, Bool.or_eq_false_iff, Bool.not_eq_true', Bool.not_eq_false', decide_eq_true_eq, decide_eq_false_iff_not] at h16
  refine J_seq (J_region ?_)
  refine jr_ (vB false) ?_
  refine JO_nil (JX_then (J_ret (JX_then_ret ?_)))
  refine JX_rets [vB false] (vB false) Try.results49 (fun w h => ⟨rfl, trivial⟩) rfl [] (fun _ h => h.keep [false] rfl) ⟨?_, ?_⟩
  ·have e_x0 : (false : Bool) = (R16.valid d) := by
    rw [Bool.eq_iff_iff]
    simp only [Bool.and_eq_true, Bool.or_eq_true, Bool.not_eq_true', Bool.and_eq_false_iff, Bool.or_eq_false_iff, decide_eq_true_eq, decide_eq_false_iff_not, R16.valid, R16.bet, Bool.false_eq_true, and_true, true_and, Bool.and_true, Bool.true_eq_false, or_false, Decidable.not_not, ne_eq, false_iff, true_iff, iff_true, iff_false] at *
    by_cases hO : d.Org = 3
    ·rw [if_pos hO]; simp only [Bool.and_eq_true, decide_eq_true_eq]; omega
    ·rw [if_neg hO]; simp only [Bool.and_eq_true, decide_eq_true_eq]; omega
   exact congrArg (fun (x0 : Bool) => vB x0) e_x0
  ·rfl
 ·have ⟨h16, h17⟩ := bor_false h16
  simp only [Bool.and_eq_true, Bool.or_eq_true, Bool.and_eq_false_iff, Bool.or_eq_false_iff, Bool.not_eq_true', Bool.not_eq_false', decide_eq_true_eq, decide_eq_false_iff_not] at h16
  simp only [Bool.and_eq_true, Bool.or_eq_true, Bool.and_eq_false_iff, Bool.or_eq_false_iff, Bool.not_eq_true', Bool.not_eq_false', decide_eq_true_eq, decide_eq_false_iff_not] at h17
  refine J_skip (JX_then (J_seq (J_seq (J_region ?_))))
  refine js_ (Value.pointer (some ⟨b1, 3, none⟩)) (x_fieldAddr Ty.fi24_3 rfl rfl) ?_
  refine JO_read (vI d.Length) rfl trivial (x_load 0 rfl rfl Ty.sc3 rfl) ?_
  refine js_ (Value.pointer (some ⟨b1, 7, none⟩)) (x_fieldAddr Ty.fi24_7 rfl rfl) ?_
  refine JO_read (vI d.Interval) rfl trivial (x_load 0 rfl rfl Ty.sc3 rfl) ?_
  refine js_ (vI (d.Interval - 7)) (x_sub_i (a := d.Interval) (b := 7) rfl rfl (by omega) (by omega)) ?_
  refine js_ (vI (min 200 (d.Interval - 7))) (x_min_i (a := 200) (b := d.Interval - 7) rfl rfl) ?_
  refine JO_call [] [] [Ent.blk b1 24 (DataSet.enc d)] rfl trivial (fun _ => x_call Ty.ca79 rfl) (fun _ h => h) (fun _ h => by cases h) (fun w hS => f79_ok d.Length 1 (min 200 (d.Interval - 7)) w) ?_
  rintro _ _ ⟨rfl, rfl⟩
  refine js_ (vB (!((decide (1 ≤ d.Length)) && (decide (d.Length ≤ (min 200 (d.Interval - 7))))))) (x_not rfl) ?_
  refine jr_ (vB (!((decide (1 ≤ d.Length)) && (decide (d.Length ≤ (min 200 (d.Interval - 7))))))) ?_
  refine JO_cut 4 (fun z => z = ((!((decide (1 ≤ d.Length)) && (decide (d.Length ≤ (min 200 (d.Interval - 7)))))) || (decide (d.Format ≠ 0)))) (fun z => [(1, Value.pointer (some ⟨b1, 0, none⟩)), (2, vB false), (43, vB z)]) (fun _ => [Ent.blk b1 24 (DataSet.enc d)]) ?_ ?_
  ·rcases Bool.eq_false_or_eq_true (!((decide (1 ≤ d.Length)) && (decide (d.Length ≤ (min 200 (d.Interval - 7)))))) with g19 | g19
   ·have g19r := g19
    have g19r : ((decide (1 ≤ d.Length)) && (decide (d.Length ≤ (min 200 (d.Interval - 7))))) = false := bnot_true g19r
    simp only [Bool.and_eq_true, Bool.or_eq_true, Bool.and_eq_false_iff, Bool.or_eq_false_iff, Bool.not_eq_true', Bool.not_eq_false', decide_eq_true_eq, decide_eq_false_iff_not] at g19r
    refine sh_ g19 ?_
    refine sh_ g19 ?_
    refine sh_ g19 ?_
    refine js_ (vB true) (x_pick_t rfl g19 rfl) ?_
    refine JO_nil (JX_cut (true) (by rw [g19]; simp) ⟨rfl, rfl, rfl, trivial⟩ (fun _ h => h))
   ·have g19r := g19
    have g19r : ((decide (1 ≤ d.Length)) && (decide (d.Length ≤ (min 200 (d.Interval - 7))))) = true := bnot_false g19r
    have ⟨g19r, h20⟩ := band_true g19r
    have g19r := of_decide_eq_true g19r
    have h20 := of_decide_eq_true h20
    refine jg_ g19 (Value.pointer (some ⟨b1, 2, none⟩)) (x_fieldAddr Ty.fi24_2 rfl rfl) ?_
    refine JO_read (vI d.Format) rfl ⟨_, rfl, g19⟩ (x_load 0 rfl rfl Ty.sc3 rfl) ?_
    refine jg_ g19 (vB (decide (d.Format ≠ 0))) (x_neq_i rfl rfl) ?_
    refine js_ (vB (decide (d.Format ≠ 0))) (x_pick_f rfl g19 rfl) ?_
    refine JO_nil (JX_cut (decide (d.Format ≠ 0)) (by rw [g19]; simp) ⟨rfl, rfl, rfl, trivial⟩ (fun _ h => h))
  rintro z18 rfl
  refine jr_ (vB ((!((decide (1 ≤ d.Length)) && (decide (d.Length ≤ (min 200 (d.Interval - 7)))))) || (decide (d.Format ≠ 0)))) ?_
  refine JO_cut 4 (fun z => z = (((!((decide (1 ≤ d.Length)) && (decide (d.Length ≤ (min 200 (d.Interval - 7)))))) || (decide (d.Format ≠ 0))) || (decide (d.Block ≠ 0)))) (fun z => [(1, Value.pointer (some ⟨b1, 0, none⟩)), (2, vB false), (48, vB z)]) (fun _ => [Ent.blk b1 24 (DataSet.enc d)]) ?_ ?_
  ·rcases Bool.eq_false_or_eq_true ((!((decide (1 ≤ d.Length)) && (decide (d.Length ≤ (min 200 (d.Interval - 7)))))) || (decide (d.Format ≠ 0))) with g22 | g22
   ·have g22r := g22
    simp only [Bool.and_eq_true, Bool.or_eq_true, Bool.and_eq_false_iff, Bool.or_eq_false_iff, Bool.not_eq_true', Bool.not_eq_false', decide_eq_true_eq, decide_eq_false_iff_not] at g22r
    refine sh_ g22 ?_
    refine sh_ g22 ?_
    refine sh_ g22 ?_
    refine js_ (vB true) (x_pick_t rfl g22 rfl) ?_
    refine JO_nil (JX_cut (true) (by rw [g22]; simp) ⟨rfl, rfl, rfl, trivial⟩ (fun _ h => h))
   ·have g22r := g22
    have ⟨g22r, h23⟩ := bor_false g22r
    have g22r : ((decide (1 ≤ d.Length)) && (decide (d.Length ≤ (min 200 (d.Interval - 7))))) = true := bnot_false g22r
    have ⟨g22r, h24⟩ := band_true g22r
    have g22r := of_decide_eq_true g22r
    have h24 := of_decide_eq_true h24
    have h23 := of_decide_eq_false h23
    refine jg_ g22 (Value.pointer (some ⟨b1, 4, none⟩)) (x_fieldAddr Ty.fi24_4 rfl rfl) ?_
    refine JO_read (vI d.Block) rfl ⟨_, rfl, g22⟩ (x_load 0 rfl rfl Ty.sc3 rfl) ?_
    refine jg_ g22 (vB (decide (d.Block ≠ 0))) (x_neq_i rfl rfl) ?_
    refine js_ (vB (decide (d.Block ≠ 0))) (x_pick_f rfl g22 rfl) ?_
    refine JO_nil (JX_cut (decide (d.Block ≠ 0)) (by rw [g22]; simp) ⟨rfl, rfl, rfl, trivial⟩ (fun _ h => h))
  rintro z21 rfl
  refine JO_nil (JX_then ?_)
  refine J_cond (((!((decide (1 ≤ d.Length)) && (decide (d.Length ≤ (min 200 (d.Interval - 7)))))) || (decide (d.Format ≠ 0))) || (decide (d.Block ≠ 0))) rfl rfl (fun h25 => ?_) (fun h25 => ?_)
  ·simp only [Bool.and_eq_true, Bool.or_eq_true, Bool.and_eq_false_iff, Bool.or_eq_false_iff, Bool.not_eq_true', Bool.not_eq_false', decide_eq_true_eq, decide_eq_false_iff_not] at h25
   refine J_seq (J_region ?_)
   refine jr_ (vB false) ?_
   refine JO_nil (JX_then (J_ret (JX_then_ret ?_)))
   refine JX_rets [vB false] (vB false) Try.results49 (fun w h => ⟨rfl, trivial⟩) rfl [] (fun _ h => h.keep [false] rfl) ⟨?_, ?_⟩
   ·have e_x0 : (false : Bool) = (R16.valid d) := by
     rw [Bool.eq_iff_iff]
     simp only [Bool.and_eq_true, Bool.or_eq_true, Bool.not_eq_true', Bool.and_eq_false_iff, Bool.or_eq_false_iff, decide_eq_true_eq, decide_eq_false_iff_not, R16.valid, R16.bet, Bool.false_eq_true, and_true, true_and, Bool.and_true, Bool.true_eq_false, or_false, Decidable.not_not, ne_eq, false_iff, true_iff, iff_true, iff_false] at *
     by_cases hO : d.Org = 3
     ·rw [if_pos hO]; simp only [Bool.and_eq_true, decide_eq_true_eq]; omega
     ·rw [if_neg hO]; simp only [Bool.and_eq_true, decide_eq_true_eq]; omega
    exact congrArg (fun (x0 : Bool) => vB x0) e_x0
   ·rfl
  ·have ⟨h25, h26⟩ := bor_false h25
   have ⟨h25, h27⟩ := bor_false h25
   have h25 : ((decide (1 ≤ d.Length)) && (decide (d.Length ≤ (min 200 (d.Interval - 7))))) = true := bnot_false h25
   have ⟨h25, h28⟩ := band_true h25
   have h25 := of_decide_eq_true h25
   have h28 := of_decide_eq_true h28
   have h27 := of_decide_eq_false h27
   have h26 := of_decide_eq_false h26
   refine J_skip (JX_then (J_seq (J_seq (J_region ?_))))
   refine js_ (Value.pointer (some ⟨b1, 1, none⟩)) (x_fieldAddr Ty.fi24_1 rfl rfl) ?_
   refine JO_read (vI d.Org) rfl trivial (x_load 0 rfl rfl Ty.sc3 rfl) ?_
   refine js_ (vB (decide (d.Org ≠ 3))) (x_neq_i rfl rfl) ?_
   refine JO_nil (JX_then ?_)
   refine J_cond (decide (d.Org ≠ 3)) rfl rfl (fun h29 => ?_) (fun h29 => ?_)
   ·have h29 := of_decide_eq_true h29
    refine J_seq (J_region ?_)
    refine js_ (Value.pointer (some ⟨b1, 5, none⟩)) (x_fieldAddr Ty.fi24_5 rfl rfl) ?_
    refine JO_read (vI d.KeyAt) rfl trivial (x_load 0 rfl rfl Ty.sc3 rfl) ?_
    refine js_ (vB (decide (d.KeyAt = 0))) (x_eql_i rfl rfl) ?_
    refine jr_ (vB (decide (d.KeyAt = 0))) ?_
    refine JO_cut 4 (fun z => z = ((decide (d.KeyAt = 0)) && (decide (d.KeyLength = 0)))) (fun z => [(1, Value.pointer (some ⟨b1, 0, none⟩)), (2, vB false), (59, vB z)]) (fun _ => [Ent.blk b1 24 (DataSet.enc d)]) ?_ ?_
    ·rcases Bool.eq_false_or_eq_true (decide (d.KeyAt = 0)) with g31 | g31
     ·have g31r := g31
      have g31r := of_decide_eq_true g31r
      refine jg_ g31 (Value.pointer (some ⟨b1, 6, none⟩)) (x_fieldAddr Ty.fi24_6 rfl rfl) ?_
      refine JO_read (vI d.KeyLength) rfl ⟨_, rfl, g31⟩ (x_load 0 rfl rfl Ty.sc3 rfl) ?_
      refine jg_ g31 (vB (decide (d.KeyLength = 0))) (x_eql_i rfl rfl) ?_
      refine js_ (vB (decide (d.KeyLength = 0))) (x_pick_t rfl g31 rfl) ?_
      refine JO_nil (JX_cut (decide (d.KeyLength = 0)) (by rw [g31]; simp) ⟨rfl, rfl, rfl, trivial⟩ (fun _ h => h))
     ·have g31r := g31
      have g31r := of_decide_eq_false g31r
      refine sh_ g31 ?_
      refine sh_ g31 ?_
      refine sh_ g31 ?_
      refine js_ (vB false) (x_pick_f rfl g31 rfl) ?_
      refine JO_nil (JX_cut (false) (by rw [g31]; simp) ⟨rfl, rfl, rfl, trivial⟩ (fun _ h => h))
    rintro z30 rfl
    refine jr_ (vB ((decide (d.KeyAt = 0)) && (decide (d.KeyLength = 0)))) ?_
    refine JO_cut 4 (fun z => z = (((decide (d.KeyAt = 0)) && (decide (d.KeyLength = 0))) && (decide (d.Area = 0)))) (fun z => [(1, Value.pointer (some ⟨b1, 0, none⟩)), (2, vB false), (64, vB z)]) (fun _ => [Ent.blk b1 24 (DataSet.enc d)]) ?_ ?_
    ·rcases Bool.eq_false_or_eq_true ((decide (d.KeyAt = 0)) && (decide (d.KeyLength = 0))) with g33 | g33
     ·have g33r := g33
      have ⟨g33r, h34⟩ := band_true g33r
      have g33r := of_decide_eq_true g33r
      have h34 := of_decide_eq_true h34
      refine jg_ g33 (Value.pointer (some ⟨b1, 8, none⟩)) (x_fieldAddr Ty.fi24_8 rfl rfl) ?_
      refine JO_read (vI d.Area) rfl ⟨_, rfl, g33⟩ (x_load 0 rfl rfl Ty.sc3 rfl) ?_
      refine jg_ g33 (vB (decide (d.Area = 0))) (x_eql_i rfl rfl) ?_
      refine js_ (vB (decide (d.Area = 0))) (x_pick_t rfl g33 rfl) ?_
      refine JO_nil (JX_cut (decide (d.Area = 0)) (by rw [g33]; simp) ⟨rfl, rfl, rfl, trivial⟩ (fun _ h => h))
     ·have g33r := g33
      simp only [Bool.and_eq_true, Bool.or_eq_true, Bool.and_eq_false_iff, Bool.or_eq_false_iff, Bool.not_eq_true', Bool.not_eq_false', decide_eq_true_eq, decide_eq_false_iff_not] at g33r
      refine sh_ g33 ?_
      refine sh_ g33 ?_
      refine sh_ g33 ?_
      refine js_ (vB false) (x_pick_f rfl g33 rfl) ?_
      refine JO_nil (JX_cut (false) (by rw [g33]; simp) ⟨rfl, rfl, rfl, trivial⟩ (fun _ h => h))
    rintro z32 rfl
    refine jr_ (vB (((decide (d.KeyAt = 0)) && (decide (d.KeyLength = 0))) && (decide (d.Area = 0)))) ?_
    refine JO_cut 4 (fun z => z = ((((decide (d.KeyAt = 0)) && (decide (d.KeyLength = 0))) && (decide (d.Area = 0))) && (decide (d.FreeInterval = 0)))) (fun z => [(1, Value.pointer (some ⟨b1, 0, none⟩)), (2, vB false), (69, vB z)]) (fun _ => [Ent.blk b1 24 (DataSet.enc d)]) ?_ ?_
    ·rcases Bool.eq_false_or_eq_true (((decide (d.KeyAt = 0)) && (decide (d.KeyLength = 0))) && (decide (d.Area = 0))) with g36 | g36
     ·have g36r := g36
      have ⟨g36r, h37⟩ := band_true g36r
      have ⟨g36r, h38⟩ := band_true g36r
      have g36r := of_decide_eq_true g36r
      have h38 := of_decide_eq_true h38
      have h37 := of_decide_eq_true h37
      refine jg_ g36 (Value.pointer (some ⟨b1, 9, none⟩)) (x_fieldAddr Ty.fi24_9 rfl rfl) ?_
      refine JO_read (vI d.FreeInterval) rfl ⟨_, rfl, g36⟩ (x_load 0 rfl rfl Ty.sc3 rfl) ?_
      refine jg_ g36 (vB (decide (d.FreeInterval = 0))) (x_eql_i rfl rfl) ?_
      refine js_ (vB (decide (d.FreeInterval = 0))) (x_pick_t rfl g36 rfl) ?_
      refine JO_nil (JX_cut (decide (d.FreeInterval = 0)) (by rw [g36]; simp) ⟨rfl, rfl, rfl, trivial⟩ (fun _ h => h))
     ·have g36r := g36
      simp only [Bool.and_eq_true, Bool.or_eq_true, Bool.and_eq_false_iff, Bool.or_eq_false_iff, Bool.not_eq_true', Bool.not_eq_false', decide_eq_true_eq, decide_eq_false_iff_not] at g36r
      refine sh_ g36 ?_
      refine sh_ g36 ?_
      refine sh_ g36 ?_
      refine js_ (vB false) (x_pick_f rfl g36 rfl) ?_
      refine JO_nil (JX_cut (false) (by rw [g36]; simp) ⟨rfl, rfl, rfl, trivial⟩ (fun _ h => h))
    rintro z35 rfl
    refine jr_ (vB ((((decide (d.KeyAt = 0)) && (decide (d.KeyLength = 0))) && (decide (d.Area = 0))) && (decide (d.FreeInterval = 0)))) ?_
    refine JO_cut 4 (fun z => z = (((((decide (d.KeyAt = 0)) && (decide (d.KeyLength = 0))) && (decide (d.Area = 0))) && (decide (d.FreeInterval = 0))) && (decide (d.FreeArea = 0)))) (fun z => [(1, Value.pointer (some ⟨b1, 0, none⟩)), (2, vB false), (74, vB z)]) (fun _ => [Ent.blk b1 24 (DataSet.enc d)]) ?_ ?_
    ·rcases Bool.eq_false_or_eq_true ((((decide (d.KeyAt = 0)) && (decide (d.KeyLength = 0))) && (decide (d.Area = 0))) && (decide (d.FreeInterval = 0))) with g40 | g40
     ·have g40r := g40
      have ⟨g40r, h41⟩ := band_true g40r
      have ⟨g40r, h42⟩ := band_true g40r
      have ⟨g40r, h43⟩ := band_true g40r
      have g40r := of_decide_eq_true g40r
      have h43 := of_decide_eq_true h43
      have h42 := of_decide_eq_true h42
      have h41 := of_decide_eq_true h41
      refine jg_ g40 (Value.pointer (some ⟨b1, 10, none⟩)) (x_fieldAddr Ty.fi24_10 rfl rfl) ?_
      refine JO_read (vI d.FreeArea) rfl ⟨_, rfl, g40⟩ (x_load 0 rfl rfl Ty.sc3 rfl) ?_
      refine jg_ g40 (vB (decide (d.FreeArea = 0))) (x_eql_i rfl rfl) ?_
      refine js_ (vB (decide (d.FreeArea = 0))) (x_pick_t rfl g40 rfl) ?_
      refine JO_nil (JX_cut (decide (d.FreeArea = 0)) (by rw [g40]; simp) ⟨rfl, rfl, rfl, trivial⟩ (fun _ h => h))
     ·have g40r := g40
      simp only [Bool.and_eq_true, Bool.or_eq_true, Bool.and_eq_false_iff, Bool.or_eq_false_iff, Bool.not_eq_true', Bool.not_eq_false', decide_eq_true_eq, decide_eq_false_iff_not] at g40r
      refine sh_ g40 ?_
      refine sh_ g40 ?_
      refine sh_ g40 ?_
      refine js_ (vB false) (x_pick_f rfl g40 rfl) ?_
      refine JO_nil (JX_cut (false) (by rw [g40]; simp) ⟨rfl, rfl, rfl, trivial⟩ (fun _ h => h))
    rintro z39 rfl
    refine jr_ (vB (((((decide (d.KeyAt = 0)) && (decide (d.KeyLength = 0))) && (decide (d.Area = 0))) && (decide (d.FreeInterval = 0))) && (decide (d.FreeArea = 0)))) ?_
    refine JO_nil (JX_then (J_ret (JX_then_ret ?_)))
    refine JX_rets [vB (((((decide (d.KeyAt = 0)) && (decide (d.KeyLength = 0))) && (decide (d.Area = 0))) && (decide (d.FreeInterval = 0))) && (decide (d.FreeArea = 0)))] (vB (((((decide (d.KeyAt = 0)) && (decide (d.KeyLength = 0))) && (decide (d.Area = 0))) && (decide (d.FreeInterval = 0))) && (decide (d.FreeArea = 0)))) Try.results49 (fun w h => ⟨rfl, trivial⟩) rfl [] (fun _ h => h.keep [false] rfl) ⟨?_, ?_⟩
    ·have e_x0 : (((((decide (d.KeyAt = 0)) && (decide (d.KeyLength = 0))) && (decide (d.Area = 0))) && (decide (d.FreeInterval = 0))) && (decide (d.FreeArea = 0)) : Bool) = (R16.valid d) := by
      rw [Bool.eq_iff_iff]
      simp only [Bool.and_eq_true, Bool.or_eq_true, Bool.not_eq_true', Bool.and_eq_false_iff, Bool.or_eq_false_iff, decide_eq_true_eq, decide_eq_false_iff_not, R16.valid, R16.bet, Bool.false_eq_true, and_true, true_and, Bool.and_true, Bool.true_eq_false, or_false, Decidable.not_not, ne_eq, false_iff, true_iff, iff_true, iff_false] at *
      by_cases hO : d.Org = 3
      ·rw [if_pos hO]; simp only [Bool.and_eq_true, decide_eq_true_eq]; omega
      ·rw [if_neg hO]; simp only [Bool.and_eq_true, decide_eq_true_eq]; omega
     exact congrArg (fun (x0 : Bool) => vB x0) e_x0
    ·rfl
   ·have h29 := of_decide_eq_false h29
    refine J_skip (JX_then (J_seq (J_region ?_)))
    refine js_ (Value.pointer (some ⟨b1, 3, none⟩)) (x_fieldAddr Ty.fi24_3 rfl rfl) ?_
    refine JO_read (vI d.Length) rfl trivial (x_load 0 rfl rfl Ty.sc3 rfl) ?_
    refine js_ (Value.pointer (some ⟨b1, 7, none⟩)) (x_fieldAddr Ty.fi24_7 rfl rfl) ?_
    refine JO_read (vI d.Interval) rfl trivial (x_load 0 rfl rfl Ty.sc3 rfl) ?_
    refine js_ (vI (d.Interval / 2)) (x_quo_i (a := d.Interval) (b := 2) rfl rfl (by omega) (by omega) (by omega)) ?_
    refine js_ (vI ((d.Interval / 2) - 8)) (x_sub_i (a := d.Interval / 2) (b := 8) rfl rfl (by omega) (by omega)) ?_
    refine js_ (vB (decide (d.Length ≤ (d.Interval / 2) - 8))) (x_leq_i rfl rfl) ?_
    refine jr_ (vB (decide (d.Length ≤ (d.Interval / 2) - 8))) ?_
    refine JO_cut 4 (fun z => z = ((decide (d.Length ≤ (d.Interval / 2) - 8)) && ((decide (0 ≤ d.KeyAt)) && (decide (d.KeyAt ≤ 200))))) (fun z => [(1, Value.pointer (some ⟨b1, 0, none⟩)), (2, vB false), (86, vB z)]) (fun _ => [Ent.blk b1 24 (DataSet.enc d)]) ?_ ?_
    ·rcases Bool.eq_false_or_eq_true (decide (d.Length ≤ (d.Interval / 2) - 8)) with g45 | g45
     ·have g45r := g45
      have g45r := of_decide_eq_true g45r
      refine jg_ g45 (Value.pointer (some ⟨b1, 5, none⟩)) (x_fieldAddr Ty.fi24_5 rfl rfl) ?_
      refine JO_read (vI d.KeyAt) rfl ⟨_, rfl, g45⟩ (x_load 0 rfl rfl Ty.sc3 rfl) ?_
      refine JO_call [] [] [Ent.blk b1 24 (DataSet.enc d)] rfl ⟨_, rfl, g45⟩ (fun _ => x_call Ty.ca79 rfl) (fun _ h => h) (fun _ h => by cases h) (fun w hS => f79_ok d.KeyAt 0 200 w) ?_
      rintro _ _ ⟨rfl, rfl⟩
      refine js_ (vB ((decide (0 ≤ d.KeyAt)) && (decide (d.KeyAt ≤ 200)))) (x_pick_t rfl g45 rfl) ?_
      refine JO_nil (JX_cut ((decide (0 ≤ d.KeyAt)) && (decide (d.KeyAt ≤ 200))) (by rw [g45]; simp) ⟨rfl, rfl, rfl, trivial⟩ (fun _ h => h))
     ·have g45r := g45
      have g45r := of_decide_eq_false g45r
      refine sh_ g45 ?_
      refine sh_ g45 ?_
      refine sh_ g45 ?_
      refine js_ (vB false) (x_pick_f rfl g45 rfl) ?_
      refine JO_nil (JX_cut (false) (by rw [g45]; simp) ⟨rfl, rfl, rfl, trivial⟩ (fun _ h => h))
    rintro z44 rfl
    refine jr_ (vB ((decide (d.Length ≤ (d.Interval / 2) - 8)) && ((decide (0 ≤ d.KeyAt)) && (decide (d.KeyAt ≤ 200))))) ?_
    refine JO_cut 7 (fun z => z = (((decide (d.Length ≤ (d.Interval / 2) - 8)) && ((decide (0 ≤ d.KeyAt)) && (decide (d.KeyAt ≤ 200)))) && ((decide (1 ≤ d.KeyLength)) && (decide (d.KeyLength ≤ (d.Interval / 16)))))) (fun z => [(1, Value.pointer (some ⟨b1, 0, none⟩)), (2, vB false), (94, vB z)]) (fun _ => [Ent.blk b1 24 (DataSet.enc d)]) ?_ ?_
    ·rcases Bool.eq_false_or_eq_true ((decide (d.Length ≤ (d.Interval / 2) - 8)) && ((decide (0 ≤ d.KeyAt)) && (decide (d.KeyAt ≤ 200)))) with g47 | g47
     ·have g47r := g47
      have ⟨g47r, h48⟩ := band_true g47r
      have g47r := of_decide_eq_true g47r
      have ⟨h48, h49⟩ := band_true h48
      have h48 := of_decide_eq_true h48
      have h49 := of_decide_eq_true h49
      refine jg_ g47 (Value.pointer (some ⟨b1, 6, none⟩)) (x_fieldAddr Ty.fi24_6 rfl rfl) ?_
      refine JO_read (vI d.KeyLength) rfl ⟨_, rfl, g47⟩ (x_load 0 rfl rfl Ty.sc3 rfl) ?_
      refine jg_ g47 (Value.pointer (some ⟨b1, 7, none⟩)) (x_fieldAddr Ty.fi24_7 rfl rfl) ?_
      refine JO_read (vI d.Interval) rfl ⟨_, rfl, g47⟩ (x_load 0 rfl rfl Ty.sc3 rfl) ?_
      refine jg_ g47 (vI (d.Interval / 16)) (x_quo_i (a := d.Interval) (b := 16) rfl rfl (by omega) (by omega) (by omega)) ?_
      refine JO_call [] [] [Ent.blk b1 24 (DataSet.enc d)] rfl ⟨_, rfl, g47⟩ (fun _ => x_call Ty.ca79 rfl) (fun _ h => h) (fun _ h => by cases h) (fun w hS => f79_ok d.KeyLength 1 (d.Interval / 16) w) ?_
      rintro _ _ ⟨rfl, rfl⟩
      refine js_ (vB ((decide (1 ≤ d.KeyLength)) && (decide (d.KeyLength ≤ (d.Interval / 16))))) (x_pick_t rfl g47 rfl) ?_
      refine JO_nil (JX_cut ((decide (1 ≤ d.KeyLength)) && (decide (d.KeyLength ≤ (d.Interval / 16)))) (by rw [g47]; simp) ⟨rfl, rfl, rfl, trivial⟩ (fun _ h => h))
     ·have g47r := g47
      simp only [Bool.and_eq_true, Bool.or_eq_true, Bool.and_eq_false_iff, Bool.or_eq_false_iff, Bool.not_eq_true', Bool.not_eq_false', decide_eq_true_eq, decide_eq_false_iff_not] at g47r
      refine sh_ g47 ?_
      refine sh_ g47 ?_
      refine sh_ g47 ?_
      refine sh_ g47 ?_
      refine sh_ g47 ?_
      refine sh_ g47 ?_
      refine js_ (vB false) (x_pick_f rfl g47 rfl) ?_
      refine JO_nil (JX_cut (false) (by rw [g47]; simp) ⟨rfl, rfl, rfl, trivial⟩ (fun _ h => h))
    rintro z46 rfl
    refine jr_ (vB (((decide (d.Length ≤ (d.Interval / 2) - 8)) && ((decide (0 ≤ d.KeyAt)) && (decide (d.KeyAt ≤ 200)))) && ((decide (1 ≤ d.KeyLength)) && (decide (d.KeyLength ≤ (d.Interval / 16)))))) ?_
    refine JO_cut 9 (fun z => z = ((((decide (d.Length ≤ (d.Interval / 2) - 8)) && ((decide (0 ≤ d.KeyAt)) && (decide (d.KeyAt ≤ 200)))) && ((decide (1 ≤ d.KeyLength)) && (decide (d.KeyLength ≤ (d.Interval / 16))))) && (decide (d.KeyAt + d.KeyLength ≤ d.Length)))) (fun z => [(1, Value.pointer (some ⟨b1, 0, none⟩)), (2, vB false), (104, vB z)]) (fun _ => [Ent.blk b1 24 (DataSet.enc d)]) ?_ ?_
    ·rcases Bool.eq_false_or_eq_true (((decide (d.Length ≤ (d.Interval / 2) - 8)) && ((decide (0 ≤ d.KeyAt)) && (decide (d.KeyAt ≤ 200)))) && ((decide (1 ≤ d.KeyLength)) && (decide (d.KeyLength ≤ (d.Interval / 16))))) with g51 | g51
     ·have g51r := g51
      have ⟨g51r, h52⟩ := band_true g51r
      have ⟨g51r, h53⟩ := band_true g51r
      have g51r := of_decide_eq_true g51r
      have ⟨h53, h54⟩ := band_true h53
      have h53 := of_decide_eq_true h53
      have h54 := of_decide_eq_true h54
      have ⟨h52, h55⟩ := band_true h52
      have h52 := of_decide_eq_true h52
      have h55 := of_decide_eq_true h55
      refine jg_ g51 (Value.pointer (some ⟨b1, 5, none⟩)) (x_fieldAddr Ty.fi24_5 rfl rfl) ?_
      refine JO_read (vI d.KeyAt) rfl ⟨_, rfl, g51⟩ (x_load 0 rfl rfl Ty.sc3 rfl) ?_
      refine jg_ g51 (Value.pointer (some ⟨b1, 6, none⟩)) (x_fieldAddr Ty.fi24_6 rfl rfl) ?_
      refine JO_read (vI d.KeyLength) rfl ⟨_, rfl, g51⟩ (x_load 0 rfl rfl Ty.sc3 rfl) ?_
      refine jg_ g51 (vI (d.KeyAt + d.KeyLength)) (x_add_i (a := d.KeyAt) (b := d.KeyLength) rfl rfl (by omega) (by omega)) ?_
      refine jg_ g51 (Value.pointer (some ⟨b1, 3, none⟩)) (x_fieldAddr Ty.fi24_3 rfl rfl) ?_
      refine JO_read (vI d.Length) rfl ⟨_, rfl, g51⟩ (x_load 0 rfl rfl Ty.sc3 rfl) ?_
      refine jg_ g51 (vB (decide (d.KeyAt + d.KeyLength ≤ d.Length))) (x_leq_i rfl rfl) ?_
      refine js_ (vB (decide (d.KeyAt + d.KeyLength ≤ d.Length))) (x_pick_t rfl g51 rfl) ?_
      refine JO_nil (JX_cut (decide (d.KeyAt + d.KeyLength ≤ d.Length)) (by rw [g51]; simp) ⟨rfl, rfl, rfl, trivial⟩ (fun _ h => h))
     ·have g51r := g51
      simp only [Bool.and_eq_true, Bool.or_eq_true, Bool.and_eq_false_iff, Bool.or_eq_false_iff, Bool.not_eq_true', Bool.not_eq_false', decide_eq_true_eq, decide_eq_false_iff_not] at g51r
      refine sh_ g51 ?_
      refine sh_ g51 ?_
      refine sh_ g51 ?_
      refine sh_ g51 ?_
      refine sh_ g51 ?_
      refine sh_ g51 ?_
      refine sh_ g51 ?_
      refine sh_ g51 ?_
      refine js_ (vB false) (x_pick_f rfl g51 rfl) ?_
      refine JO_nil (JX_cut (false) (by rw [g51]; simp) ⟨rfl, rfl, rfl, trivial⟩ (fun _ h => h))
    rintro z50 rfl
    refine jr_ (vB ((((decide (d.Length ≤ (d.Interval / 2) - 8)) && ((decide (0 ≤ d.KeyAt)) && (decide (d.KeyAt ≤ 200)))) && ((decide (1 ≤ d.KeyLength)) && (decide (d.KeyLength ≤ (d.Interval / 16))))) && (decide (d.KeyAt + d.KeyLength ≤ d.Length)))) ?_
    refine JO_cut 4 (fun z => z = (((((decide (d.Length ≤ (d.Interval / 2) - 8)) && ((decide (0 ≤ d.KeyAt)) && (decide (d.KeyAt ≤ 200)))) && ((decide (1 ≤ d.KeyLength)) && (decide (d.KeyLength ≤ (d.Interval / 16))))) && (decide (d.KeyAt + d.KeyLength ≤ d.Length))) && ((decide (2 ≤ d.Area)) && (decide (d.Area ≤ 8))))) (fun z => [(1, Value.pointer (some ⟨b1, 0, none⟩)), (2, vB false), (109, vB z)]) (fun _ => [Ent.blk b1 24 (DataSet.enc d)]) ?_ ?_
    ·rcases Bool.eq_false_or_eq_true ((((decide (d.Length ≤ (d.Interval / 2) - 8)) && ((decide (0 ≤ d.KeyAt)) && (decide (d.KeyAt ≤ 200)))) && ((decide (1 ≤ d.KeyLength)) && (decide (d.KeyLength ≤ (d.Interval / 16))))) && (decide (d.KeyAt + d.KeyLength ≤ d.Length))) with g57 | g57
     ·have g57r := g57
      have ⟨g57r, h58⟩ := band_true g57r
      have ⟨g57r, h59⟩ := band_true g57r
      have ⟨g57r, h60⟩ := band_true g57r
      have g57r := of_decide_eq_true g57r
      have ⟨h60, h61⟩ := band_true h60
      have h60 := of_decide_eq_true h60
      have h61 := of_decide_eq_true h61
      have ⟨h59, h62⟩ := band_true h59
      have h59 := of_decide_eq_true h59
      have h62 := of_decide_eq_true h62
      have h58 := of_decide_eq_true h58
      refine jg_ g57 (Value.pointer (some ⟨b1, 8, none⟩)) (x_fieldAddr Ty.fi24_8 rfl rfl) ?_
      refine JO_read (vI d.Area) rfl ⟨_, rfl, g57⟩ (x_load 0 rfl rfl Ty.sc3 rfl) ?_
      refine JO_call [] [] [Ent.blk b1 24 (DataSet.enc d)] rfl ⟨_, rfl, g57⟩ (fun _ => x_call Ty.ca79 rfl) (fun _ h => h) (fun _ h => by cases h) (fun w hS => f79_ok d.Area 2 8 w) ?_
      rintro _ _ ⟨rfl, rfl⟩
      refine js_ (vB ((decide (2 ≤ d.Area)) && (decide (d.Area ≤ 8)))) (x_pick_t rfl g57 rfl) ?_
      refine JO_nil (JX_cut ((decide (2 ≤ d.Area)) && (decide (d.Area ≤ 8))) (by rw [g57]; simp) ⟨rfl, rfl, rfl, trivial⟩ (fun _ h => h))
     ·have g57r := g57
      simp only [Bool.and_eq_true, Bool.or_eq_true, Bool.and_eq_false_iff, Bool.or_eq_false_iff, Bool.not_eq_true', Bool.not_eq_false', decide_eq_true_eq, decide_eq_false_iff_not] at g57r
      refine sh_ g57 ?_
      refine sh_ g57 ?_
      refine sh_ g57 ?_
      refine js_ (vB false) (x_pick_f rfl g57 rfl) ?_
      refine JO_nil (JX_cut (false) (by rw [g57]; simp) ⟨rfl, rfl, rfl, trivial⟩ (fun _ h => h))
    rintro z56 rfl
    refine jr_ (vB (((((decide (d.Length ≤ (d.Interval / 2) - 8)) && ((decide (0 ≤ d.KeyAt)) && (decide (d.KeyAt ≤ 200)))) && ((decide (1 ≤ d.KeyLength)) && (decide (d.KeyLength ≤ (d.Interval / 16))))) && (decide (d.KeyAt + d.KeyLength ≤ d.Length))) && ((decide (2 ≤ d.Area)) && (decide (d.Area ≤ 8))))) ?_
    refine JO_cut 4 (fun z => z = ((((((decide (d.Length ≤ (d.Interval / 2) - 8)) && ((decide (0 ≤ d.KeyAt)) && (decide (d.KeyAt ≤ 200)))) && ((decide (1 ≤ d.KeyLength)) && (decide (d.KeyLength ≤ (d.Interval / 16))))) && (decide (d.KeyAt + d.KeyLength ≤ d.Length))) && ((decide (2 ≤ d.Area)) && (decide (d.Area ≤ 8)))) && ((decide (0 ≤ d.FreeInterval)) && (decide (d.FreeInterval ≤ 90))))) (fun z => [(1, Value.pointer (some ⟨b1, 0, none⟩)), (2, vB false), (114, vB z)]) (fun _ => [Ent.blk b1 24 (DataSet.enc d)]) ?_ ?_
    ·rcases Bool.eq_false_or_eq_true (((((decide (d.Length ≤ (d.Interval / 2) - 8)) && ((decide (0 ≤ d.KeyAt)) && (decide (d.KeyAt ≤ 200)))) && ((decide (1 ≤ d.KeyLength)) && (decide (d.KeyLength ≤ (d.Interval / 16))))) && (decide (d.KeyAt + d.KeyLength ≤ d.Length))) && ((decide (2 ≤ d.Area)) && (decide (d.Area ≤ 8)))) with g64 | g64
     ·have g64r := g64
      have ⟨g64r, h65⟩ := band_true g64r
      have ⟨g64r, h66⟩ := band_true g64r
      have ⟨g64r, h67⟩ := band_true g64r
      have ⟨g64r, h68⟩ := band_true g64r
      have g64r := of_decide_eq_true g64r
      have ⟨h68, h69⟩ := band_true h68
      have h68 := of_decide_eq_true h68
      have h69 := of_decide_eq_true h69
      have ⟨h67, h70⟩ := band_true h67
      have h67 := of_decide_eq_true h67
      have h70 := of_decide_eq_true h70
      have h66 := of_decide_eq_true h66
      have ⟨h65, h71⟩ := band_true h65
      have h65 := of_decide_eq_true h65
      have h71 := of_decide_eq_true h71
      refine jg_ g64 (Value.pointer (some ⟨b1, 9, none⟩)) (x_fieldAddr Ty.fi24_9 rfl rfl) ?_
      refine JO_read (vI d.FreeInterval) rfl ⟨_, rfl, g64⟩ (x_load 0 rfl rfl Ty.sc3 rfl) ?_
      refine JO_call [] [] [Ent.blk b1 24 (DataSet.enc d)] rfl ⟨_, rfl, g64⟩ (fun _ => x_call Ty.ca79 rfl) (fun _ h => h) (fun _ h => by cases h) (fun w hS => f79_ok d.FreeInterval 0 90 w) ?_
      rintro _ _ ⟨rfl, rfl⟩
      refine js_ (vB ((decide (0 ≤ d.FreeInterval)) && (decide (d.FreeInterval ≤ 90)))) (x_pick_t rfl g64 rfl) ?_
      refine JO_nil (JX_cut ((decide (0 ≤ d.FreeInterval)) && (decide (d.FreeInterval ≤ 90))) (by rw [g64]; simp) ⟨rfl, rfl, rfl, trivial⟩ (fun _ h => h))
     ·have g64r := g64
      simp only [Bool.and_eq_true, Bool.or_eq_true, Bool.and_eq_false_iff, Bool.or_eq_false_iff, Bool.not_eq_true', Bool.not_eq_false', decide_eq_true_eq, decide_eq_false_iff_not] at g64r
      refine sh_ g64 ?_
      refine sh_ g64 ?_
      refine sh_ g64 ?_
      refine js_ (vB false) (x_pick_f rfl g64 rfl) ?_
      refine JO_nil (JX_cut (false) (by rw [g64]; simp) ⟨rfl, rfl, rfl, trivial⟩ (fun _ h => h))
    rintro z63 rfl
    refine jr_ (vB ((((((decide (d.Length ≤ (d.Interval / 2) - 8)) && ((decide (0 ≤ d.KeyAt)) && (decide (d.KeyAt ≤ 200)))) && ((decide (1 ≤ d.KeyLength)) && (decide (d.KeyLength ≤ (d.Interval / 16))))) && (decide (d.KeyAt + d.KeyLength ≤ d.Length))) && ((decide (2 ≤ d.Area)) && (decide (d.Area ≤ 8)))) && ((decide (0 ≤ d.FreeInterval)) && (decide (d.FreeInterval ≤ 90))))) ?_
    refine JO_cut 7 (fun z => z = (((((((decide (d.Length ≤ (d.Interval / 2) - 8)) && ((decide (0 ≤ d.KeyAt)) && (decide (d.KeyAt ≤ 200)))) && ((decide (1 ≤ d.KeyLength)) && (decide (d.KeyLength ≤ (d.Interval / 16))))) && (decide (d.KeyAt + d.KeyLength ≤ d.Length))) && ((decide (2 ≤ d.Area)) && (decide (d.Area ≤ 8)))) && ((decide (0 ≤ d.FreeInterval)) && (decide (d.FreeInterval ≤ 90)))) && ((decide (0 ≤ d.FreeArea)) && (decide (d.FreeArea ≤ (d.Area - 1)))))) (fun z => [(2, vB false), (122, vB z)]) (fun _ => [Ent.blk b1 24 (DataSet.enc d)]) ?_ ?_
    ·rcases Bool.eq_false_or_eq_true ((((((decide (d.Length ≤ (d.Interval / 2) - 8)) && ((decide (0 ≤ d.KeyAt)) && (decide (d.KeyAt ≤ 200)))) && ((decide (1 ≤ d.KeyLength)) && (decide (d.KeyLength ≤ (d.Interval / 16))))) && (decide (d.KeyAt + d.KeyLength ≤ d.Length))) && ((decide (2 ≤ d.Area)) && (decide (d.Area ≤ 8)))) && ((decide (0 ≤ d.FreeInterval)) && (decide (d.FreeInterval ≤ 90)))) with g73 | g73
     ·have g73r := g73
      have ⟨g73r, h74⟩ := band_true g73r
      have ⟨g73r, h75⟩ := band_true g73r
      have ⟨g73r, h76⟩ := band_true g73r
      have ⟨g73r, h77⟩ := band_true g73r
      have ⟨g73r, h78⟩ := band_true g73r
      have g73r := of_decide_eq_true g73r
      have ⟨h78, h79⟩ := band_true h78
      have h78 := of_decide_eq_true h78
      have h79 := of_decide_eq_true h79
      have ⟨h77, h80⟩ := band_true h77
      have h77 := of_decide_eq_true h77
      have h80 := of_decide_eq_true h80
      have h76 := of_decide_eq_true h76
      have ⟨h75, h81⟩ := band_true h75
      have h75 := of_decide_eq_true h75
      have h81 := of_decide_eq_true h81
      have ⟨h74, h82⟩ := band_true h74
      have h74 := of_decide_eq_true h74
      have h82 := of_decide_eq_true h82
      refine jg_ g73 (Value.pointer (some ⟨b1, 10, none⟩)) (x_fieldAddr Ty.fi24_10 rfl rfl) ?_
      refine JO_read (vI d.FreeArea) rfl ⟨_, rfl, g73⟩ (x_load 0 rfl rfl Ty.sc3 rfl) ?_
      refine jg_ g73 (Value.pointer (some ⟨b1, 8, none⟩)) (x_fieldAddr Ty.fi24_8 rfl rfl) ?_
      refine JO_read (vI d.Area) rfl ⟨_, rfl, g73⟩ (x_load 0 rfl rfl Ty.sc3 rfl) ?_
      refine jg_ g73 (vI (d.Area - 1)) (x_sub_i (a := d.Area) (b := 1) rfl rfl (by omega) (by omega)) ?_
      refine JO_call [] [] [Ent.blk b1 24 (DataSet.enc d)] rfl ⟨_, rfl, g73⟩ (fun _ => x_call Ty.ca79 rfl) (fun _ h => h) (fun _ h => by cases h) (fun w hS => f79_ok d.FreeArea 0 (d.Area - 1) w) ?_
      rintro _ _ ⟨rfl, rfl⟩
      refine js_ (vB ((decide (0 ≤ d.FreeArea)) && (decide (d.FreeArea ≤ (d.Area - 1))))) (x_pick_t rfl g73 rfl) ?_
      refine JO_nil (JX_cut ((decide (0 ≤ d.FreeArea)) && (decide (d.FreeArea ≤ (d.Area - 1)))) (by rw [g73]; simp) ⟨rfl, rfl, trivial⟩ (fun _ h => h))
     ·have g73r := g73
      simp only [Bool.and_eq_true, Bool.or_eq_true, Bool.and_eq_false_iff, Bool.or_eq_false_iff, Bool.not_eq_true', Bool.not_eq_false', decide_eq_true_eq, decide_eq_false_iff_not] at g73r
      refine sh_ g73 ?_
      refine sh_ g73 ?_
      refine sh_ g73 ?_
      refine sh_ g73 ?_
      refine sh_ g73 ?_
      refine sh_ g73 ?_
      refine js_ (vB false) (x_pick_f rfl g73 rfl) ?_
      refine JO_nil (JX_cut (false) (by rw [g73]; simp) ⟨rfl, rfl, trivial⟩ (fun _ h => h))
    rintro z72 rfl
    refine jr_ (vB (((((((decide (d.Length ≤ (d.Interval / 2) - 8)) && ((decide (0 ≤ d.KeyAt)) && (decide (d.KeyAt ≤ 200)))) && ((decide (1 ≤ d.KeyLength)) && (decide (d.KeyLength ≤ (d.Interval / 16))))) && (decide (d.KeyAt + d.KeyLength ≤ d.Length))) && ((decide (2 ≤ d.Area)) && (decide (d.Area ≤ 8)))) && ((decide (0 ≤ d.FreeInterval)) && (decide (d.FreeInterval ≤ 90)))) && ((decide (0 ≤ d.FreeArea)) && (decide (d.FreeArea ≤ (d.Area - 1)))))) ?_
    refine JO_nil (JX_then (J_ret ?_))
    refine JX_rets [vB (((((((decide (d.Length ≤ (d.Interval / 2) - 8)) && ((decide (0 ≤ d.KeyAt)) && (decide (d.KeyAt ≤ 200)))) && ((decide (1 ≤ d.KeyLength)) && (decide (d.KeyLength ≤ (d.Interval / 16))))) && (decide (d.KeyAt + d.KeyLength ≤ d.Length))) && ((decide (2 ≤ d.Area)) && (decide (d.Area ≤ 8)))) && ((decide (0 ≤ d.FreeInterval)) && (decide (d.FreeInterval ≤ 90)))) && ((decide (0 ≤ d.FreeArea)) && (decide (d.FreeArea ≤ (d.Area - 1)))))] (vB (((((((decide (d.Length ≤ (d.Interval / 2) - 8)) && ((decide (0 ≤ d.KeyAt)) && (decide (d.KeyAt ≤ 200)))) && ((decide (1 ≤ d.KeyLength)) && (decide (d.KeyLength ≤ (d.Interval / 16))))) && (decide (d.KeyAt + d.KeyLength ≤ d.Length))) && ((decide (2 ≤ d.Area)) && (decide (d.Area ≤ 8)))) && ((decide (0 ≤ d.FreeInterval)) && (decide (d.FreeInterval ≤ 90)))) && ((decide (0 ≤ d.FreeArea)) && (decide (d.FreeArea ≤ (d.Area - 1)))))) Try.results49 (fun w h => ⟨rfl, trivial⟩) rfl [] (fun _ h => h.keep [false] rfl) ⟨?_, ?_⟩
    ·have e_x0 : (((((((decide (d.Length ≤ (d.Interval / 2) - 8)) && ((decide (0 ≤ d.KeyAt)) && (decide (d.KeyAt ≤ 200)))) && ((decide (1 ≤ d.KeyLength)) && (decide (d.KeyLength ≤ (d.Interval / 16))))) && (decide (d.KeyAt + d.KeyLength ≤ d.Length))) && ((decide (2 ≤ d.Area)) && (decide (d.Area ≤ 8)))) && ((decide (0 ≤ d.FreeInterval)) && (decide (d.FreeInterval ≤ 90)))) && ((decide (0 ≤ d.FreeArea)) && (decide (d.FreeArea ≤ (d.Area - 1)))) : Bool) = (R16.valid d) := by
      rw [Bool.eq_iff_iff]
      simp only [Bool.and_eq_true, Bool.or_eq_true, Bool.not_eq_true', Bool.and_eq_false_iff, Bool.or_eq_false_iff, decide_eq_true_eq, decide_eq_false_iff_not, R16.valid, R16.bet, Bool.false_eq_true, and_true, true_and, Bool.and_true, Bool.true_eq_false, or_false, Decidable.not_not, ne_eq, false_iff, true_iff, iff_true, iff_false] at *
      by_cases hO : d.Org = 3
      ·rw [if_pos hO]; simp only [Bool.and_eq_true, decide_eq_true_eq]; omega
      ·rw [if_neg hO]; simp only [Bool.and_eq_true, decide_eq_true_eq]; omega
     exact congrArg (fun (x0 : Bool) => vB x0) e_x0
    ·rfl
end Go.Proofs.Ytmbinhhlfbgiaaa
