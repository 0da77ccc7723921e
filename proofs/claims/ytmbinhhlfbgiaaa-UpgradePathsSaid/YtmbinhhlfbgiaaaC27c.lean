/- contracts C27c -/
import Derived.Test.YtmbinhhlfbgiaaaC27b
namespace Go.Proofs.Ytmbinhhlfbgiaaa
open Go.GV
set_option linter.unusedVariables false
set_option linter.unusedSimpArgs false
set_option maxRecDepth 20000 in
theorem f71_ok (c : Change) (w : World) : Calls Try.prog 71 #[Value.agg ((Change.enc c)).toArray] w (Gives [] w fun v L => v = vB (R27.ck1 c) ∧ L = []) := by
 refine calls_J [] 11 Try.func71 rfl Try.ntmps71 [(0, Value.agg ((Change.enc c)).toArray)] rfl rfl (Give.nil w) ?_
 refine J_seq (J_region ?_)
 refine JO_op rfl trivial (O_box rfl rfl fun b1 => ?_)
 refine jr_ (vB false) ?_
 refine JO_nil (JX_then (J_seq (J_region ?_)))
 refine js_ (Value.pointer (some ⟨b1, 2, none⟩)) (x_fieldAddr Ty.fi27_2 rfl rfl) ?_
 refine JO_read (vS c.Key) rfl trivial (x_load 0 rfl rfl Ty.sc9 rfl) ?_
 refine js_ (vB (decide (c.Key = ([] : Bytes)))) (x_eql_s rfl rfl) ?_
 refine jr_ (vB (decide (c.Key = ([] : Bytes)))) ?_
 refine JO_cut 4 (fun z => z = ((decide (c.Key = ([] : Bytes))) && (decide (c.Record = ([] : Bytes))))) (fun z => [(2, vB false), (10, vB z)]) (fun _ => [Ent.blk b1 27 (Change.enc c)]) ?_ ?_
 ·rcases Bool.eq_false_or_eq_true (decide (c.Key = ([] : Bytes))) with g3 | g3
  ·have g3r := g3
   have g3r := of_decide_eq_true g3r
   refine jg_ g3 (Value.pointer (some ⟨b1, 3, none⟩)) (x_fieldAddr Ty.fi27_3 rfl rfl) ?_
   refine JO_read (vS c.Record) rfl ⟨_, rfl, g3⟩ (x_load 0 rfl rfl Ty.sc9 rfl) ?_
   refine jg_ g3 (vB (decide (c.Record = ([] : Bytes)))) (x_eql_s rfl rfl) ?_
   refine js_ (vB (decide (c.Record = ([] : Bytes)))) (x_pick_t rfl g3 rfl) ?_
   refine JO_nil (JX_cut (decide (c.Record = ([] : Bytes))) (by rw [g3]; simp) ⟨rfl, rfl, trivial⟩ (fun _ h => h))
  ·have g3r := g3
   have g3r := of_decide_eq_false g3r
   have g3rl := List.length_pos_iff.2 g3r
   refine sh_ g3 ?_
   refine sh_ g3 ?_
   refine sh_ g3 ?_
   refine js_ (vB false) (x_pick_f rfl g3 rfl) ?_
   refine JO_nil (JX_cut (false) (by rw [g3]; simp) ⟨rfl, rfl, trivial⟩ (fun _ h => h))
 rintro z2 rfl
 refine jr_ (vB ((decide (c.Key = ([] : Bytes))) && (decide (c.Record = ([] : Bytes))))) ?_
 refine JO_nil (JX_then (J_ret ?_))
 refine JX_rets [vB ((decide (c.Key = ([] : Bytes))) && (decide (c.Record = ([] : Bytes))))] (vB ((decide (c.Key = ([] : Bytes))) && (decide (c.Record = ([] : Bytes))))) Try.results71 (fun w h => ⟨rfl, trivial⟩) rfl [] (fun _ h => h.keep [false] rfl) ⟨?_, ?_⟩
 ·have e_x0 : ((decide (c.Key = ([] : Bytes))) && (decide (c.Record = ([] : Bytes))) : Bool) = (R27.ck1 c) := by rfl
  exact congrArg (fun (x0 : Bool) => vB x0) e_x0
 ·rfl
set_option maxRecDepth 20000 in
theorem f72_ok (c : Change) (b : Nat) (d : DataSet) (w : World) (hg : Give [b] w [Ent.blk b 24 (DataSet.enc d)]) : Calls Try.prog 72 #[Value.agg ((Change.enc c)).toArray, Value.pointer (some ⟨b, 0, none⟩)] w (Gives [b] w fun v L => v = vB (R27.ck2 d c) ∧ L = [Ent.blk b 24 (DataSet.enc d)]) := by
 refine calls_J [b] 15 Try.func72 rfl Try.ntmps72 [(0, Value.agg ((Change.enc c)).toArray), (1, Value.pointer (some ⟨b, 0, none⟩))] rfl rfl hg ?_
 refine J_seq (J_region ?_)
 refine JO_op rfl trivial (O_box rfl rfl fun b1 => ?_)
 refine jr_ (vB false) ?_
 refine JO_nil (JX_then (J_seq (J_region ?_)))
 refine js_ (Value.pointer (some ⟨b1, 2, none⟩)) (x_fieldAddr Ty.fi27_2 rfl rfl) ?_
 refine JO_read (vS c.Key) rfl trivial (x_load 0 rfl rfl Ty.sc9 rfl) ?_
 refine js_ (vI ((c.Key.length : Nat) : Int)) (x_len_s rfl Try.underlying9) ?_
 refine js_ (Value.pointer (some ⟨b, 6, none⟩)) (x_fieldAddr Ty.fi24_6 rfl rfl) ?_
 refine JO_read (vI d.KeyLength) rfl trivial (x_load 1 rfl rfl Ty.sc3 rfl) ?_
 refine js_ (vB (decide (((c.Key.length : Nat) : Int) = d.KeyLength))) (x_eql_i rfl rfl) ?_
 refine jr_ (vB (decide (((c.Key.length : Nat) : Int) = d.KeyLength))) ?_
 refine JO_cut 4 (fun z => z = ((decide (((c.Key.length : Nat) : Int) = d.KeyLength)) && (decide (c.Record = ([] : Bytes))))) (fun z => [(3, vB false), (14, vB z)]) (fun _ => [Ent.blk b1 27 (Change.enc c), Ent.blk b 24 (DataSet.enc d)]) ?_ ?_
 ·rcases Bool.eq_false_or_eq_true (decide (((c.Key.length : Nat) : Int) = d.KeyLength)) with g3 | g3
  ·have g3r := g3
   have g3r := of_decide_eq_true g3r
   refine jg_ g3 (Value.pointer (some ⟨b1, 3, none⟩)) (x_fieldAddr Ty.fi27_3 rfl rfl) ?_
   refine JO_read (vS c.Record) rfl ⟨_, rfl, g3⟩ (x_load 0 rfl rfl Ty.sc9 rfl) ?_
   refine jg_ g3 (vB (decide (c.Record = ([] : Bytes)))) (x_eql_s rfl rfl) ?_
   refine js_ (vB (decide (c.Record = ([] : Bytes)))) (x_pick_t rfl g3 rfl) ?_
   refine JO_nil (JX_cut (decide (c.Record = ([] : Bytes))) (by rw [g3]; simp) ⟨rfl, rfl, trivial⟩ (fun _ h => h))
  ·have g3r := g3
   have g3r := of_decide_eq_false g3r
   refine sh_ g3 ?_
   refine sh_ g3 ?_
   refine sh_ g3 ?_
   refine js_ (vB false) (x_pick_f rfl g3 rfl) ?_
   refine JO_nil (JX_cut (false) (by rw [g3]; simp) ⟨rfl, rfl, trivial⟩ (fun _ h => h))
 rintro z2 rfl
 refine jr_ (vB ((decide (((c.Key.length : Nat) : Int) = d.KeyLength)) && (decide (c.Record = ([] : Bytes))))) ?_
 refine JO_nil (JX_then (J_ret ?_))
 refine JX_rets [vB ((decide (((c.Key.length : Nat) : Int) = d.KeyLength)) && (decide (c.Record = ([] : Bytes))))] (vB ((decide (((c.Key.length : Nat) : Int) = d.KeyLength)) && (decide (c.Record = ([] : Bytes))))) Try.results72 (fun w h => ⟨rfl, trivial⟩) rfl [Ent.blk b 24 (DataSet.enc d)] (fun _ h => h.keep [false, true] rfl) ⟨?_, ?_⟩
 ·have e_x0 : ((decide (((c.Key.length : Nat) : Int) = d.KeyLength)) && (decide (c.Record = ([] : Bytes))) : Bool) = (R27.ck2 d c) := by rfl
  exact congrArg (fun (x0 : Bool) => vB x0) e_x0
 ·rfl
set_option maxRecDepth 20000 in
theorem f73_ok (c : Change) (b : Nat) (d : DataSet) (w : World) (q0 : c.Record.length ≤ 1000000) (hg : Give [b] w [Ent.blk b 24 (DataSet.enc d)]) : Calls Try.prog 73 #[Value.agg ((Change.enc c)).toArray, Value.pointer (some ⟨b, 0, none⟩)] w (Gives [b] w fun v L => v = vB (R27.ck3 d c) ∧ L = [Ent.blk b 24 (DataSet.enc d)]) := by
 refine calls_J [b] 21 Try.func73 rfl Try.ntmps73 [(0, Value.agg ((Change.enc c)).toArray), (1, Value.pointer (some ⟨b, 0, none⟩))] rfl rfl hg ?_
 refine J_seq (J_region ?_)
 refine JO_op rfl trivial (O_box rfl rfl fun b1 => ?_)
 refine jr_ (vB false) ?_
 refine JO_nil (JX_then (J_seq (J_region ?_)))
 refine JO_read (Value.agg ((DataSet.enc d)).toArray) rfl trivial (x_loadN 1 (DataSet.enc d) rfl rfl Ty.ag24 Ty.sz24 rfl) ?_
 refine js_ (Value.pointer (some ⟨b1, 3, none⟩)) (x_fieldAddr Ty.fi27_3 rfl rfl) ?_
 refine JO_read (vS c.Record) rfl trivial (x_load 0 rfl rfl Ty.sc9 rfl) ?_
 refine JO_call [] [] [Ent.blk b1 27 (Change.enc c), Ent.blk b 24 (DataSet.enc d)] rfl trivial (fun _ => x_call Ty.ca74 rfl) (fun _ h => h) (fun _ h => by cases h) (fun w hS => f74_ok d c.Record w hy_) ?_
 rintro _ _ ⟨rfl, rfl⟩
 refine jr_ (Value.tuple #[vS ((R27.ofK d c.Record).1), vI ((R27.ofK d c.Record).2)]) ?_
 refine jr_ (vS ((R27.ofK d c.Record).1)) ?_
 refine jr_ (vI ((R27.ofK d c.Record).2)) ?_
 refine jr_ (vS ((R27.ofK d c.Record).1)) ?_
 refine jr_ (vI ((R27.ofK d c.Record).2)) ?_
 refine JO_nil (JX_then (J_seq (J_region ?_)))
 refine jr_ (vI ((R27.ofK d c.Record).2)) ?_
 refine js_ (vB (decide ((R27.ofK d c.Record).2 = 0))) (x_eql_i rfl rfl) ?_
 refine jr_ (vB (decide ((R27.ofK d c.Record).2 = 0))) ?_
 refine JO_cut 5 (fun z => z = ((decide ((R27.ofK d c.Record).2 = 0)) && (decide ((R27.ofK d c.Record).1 = c.Key)))) (fun z => [(3, vB false), (20, vB z)]) (fun _ => [Ent.blk b1 27 (Change.enc c), Ent.blk b 24 (DataSet.enc d)]) ?_ ?_
 ·rcases Bool.eq_false_or_eq_true (decide ((R27.ofK d c.Record).2 = 0)) with g3 | g3
  ·have g3r := g3
   have g3r := of_decide_eq_true g3r
   refine jg_ g3 (vS ((R27.ofK d c.Record).1)) (rfl) ?_
   refine jg_ g3 (Value.pointer (some ⟨b1, 2, none⟩)) (x_fieldAddr Ty.fi27_2 rfl rfl) ?_
   refine JO_read (vS c.Key) rfl ⟨_, rfl, g3⟩ (x_load 0 rfl rfl Ty.sc9 rfl) ?_
   refine jg_ g3 (vB (decide ((R27.ofK d c.Record).1 = c.Key))) (x_eql_s rfl rfl) ?_
   refine js_ (vB (decide ((R27.ofK d c.Record).1 = c.Key))) (x_pick_t rfl g3 rfl) ?_
   refine JO_nil (JX_cut (decide ((R27.ofK d c.Record).1 = c.Key)) (by rw [g3]; simp) ⟨rfl, rfl, trivial⟩ (fun _ h => h))
  ·have g3r := g3
   have g3r := of_decide_eq_false g3r
   refine sh_ g3 ?_
   refine sh_ g3 ?_
   refine sh_ g3 ?_
   refine sh_ g3 ?_
   refine js_ (vB false) (x_pick_f rfl g3 rfl) ?_
   refine JO_nil (JX_cut (false) (by rw [g3]; simp) ⟨rfl, rfl, trivial⟩ (fun _ h => h))
 rintro z2 rfl
 refine jr_ (vB ((decide ((R27.ofK d c.Record).2 = 0)) && (decide ((R27.ofK d c.Record).1 = c.Key)))) ?_
 refine JO_nil (JX_then (J_ret ?_))
 refine JX_rets [vB ((decide ((R27.ofK d c.Record).2 = 0)) && (decide ((R27.ofK d c.Record).1 = c.Key)))] (vB ((decide ((R27.ofK d c.Record).2 = 0)) && (decide ((R27.ofK d c.Record).1 = c.Key)))) Try.results73 (fun w h => ⟨rfl, trivial⟩) rfl [Ent.blk b 24 (DataSet.enc d)] (fun _ h => h.keep [false, true] rfl) ⟨?_, ?_⟩
 ·have e_x0 : ((decide ((R27.ofK d c.Record).2 = 0)) && (decide ((R27.ofK d c.Record).1 = c.Key)) : Bool) = (R27.ck3 d c) := by rfl
  exact congrArg (fun (x0 : Bool) => vB x0) e_x0
 ·rfl
set_option maxRecDepth 20000 in
theorem f75_ok (c : Change) (b : Nat) (d : DataSet) (w : World) (hg : Give [b] w [Ent.blk b 24 (DataSet.enc d)]) : Calls Try.prog 75 #[Value.agg ((Change.enc c)).toArray, Value.pointer (some ⟨b, 0, none⟩)] w (Gives [b] w fun v L => v = vB (R27.ck4 d c) ∧ L = [Ent.blk b 24 (DataSet.enc d)]) := by
 refine calls_J [b] 22 Try.func75 rfl Try.ntmps75 [(0, Value.agg ((Change.enc c)).toArray), (1, Value.pointer (some ⟨b, 0, none⟩))] rfl rfl hg ?_
 refine J_seq (J_region ?_)
 refine JO_op rfl trivial (O_box rfl rfl fun b1 => ?_)
 refine jr_ (vB false) ?_
 refine JO_nil (JX_then (J_seq (J_region ?_)))
 refine js_ (Value.pointer (some ⟨b1, 2, none⟩)) (x_fieldAddr Ty.fi27_2 rfl rfl) ?_
 refine JO_read (vS c.Key) rfl trivial (x_load 0 rfl rfl Ty.sc9 rfl) ?_
 refine js_ (vI ((c.Key.length : Nat) : Int)) (x_len_s rfl Try.underlying9) ?_
 refine js_ (vB (decide (((c.Key.length : Nat) : Int) = 8))) (x_eql_i rfl rfl) ?_
 refine jr_ (vB (decide (((c.Key.length : Nat) : Int) = 8))) ?_
 refine JO_cut 5 (fun z => z = ((decide (((c.Key.length : Nat) : Int) = 8)) && (decide ((1 : Int) ≤ ((c.Record.length : Nat) : Int))))) (fun z => [(1, Value.pointer (some ⟨b, 0, none⟩)), (2, Value.pointer (some ⟨b1, 0, none⟩)), (3, vB false), (13, vB z)]) (fun _ => [Ent.blk b1 27 (Change.enc c), Ent.blk b 24 (DataSet.enc d)]) ?_ ?_
 ·rcases Bool.eq_false_or_eq_true (decide (((c.Key.length : Nat) : Int) = 8)) with g3 | g3
  ·have g3r := g3
   have g3r := of_decide_eq_true g3r
   refine jg_ g3 (Value.pointer (some ⟨b1, 3, none⟩)) (x_fieldAddr Ty.fi27_3 rfl rfl) ?_
   refine JO_read (vS c.Record) rfl ⟨_, rfl, g3⟩ (x_load 0 rfl rfl Ty.sc9 rfl) ?_
   refine jg_ g3 (vI ((c.Record.length : Nat) : Int)) (x_len_s rfl Try.underlying9) ?_
   refine jg_ g3 (vB (decide ((1 : Int) ≤ ((c.Record.length : Nat) : Int)))) (x_geq_i rfl rfl) ?_
   refine js_ (vB (decide ((1 : Int) ≤ ((c.Record.length : Nat) : Int)))) (x_pick_t rfl g3 rfl) ?_
   refine JO_nil (JX_cut (decide ((1 : Int) ≤ ((c.Record.length : Nat) : Int))) (by rw [g3]; simp) ⟨rfl, rfl, rfl, rfl, trivial⟩ (fun _ h => h))
  ·have g3r := g3
   have g3r := of_decide_eq_false g3r
   refine sh_ g3 ?_
   refine sh_ g3 ?_
   refine sh_ g3 ?_
   refine sh_ g3 ?_
   refine js_ (vB false) (x_pick_f rfl g3 rfl) ?_
   refine JO_nil (JX_cut (false) (by rw [g3]; simp) ⟨rfl, rfl, rfl, rfl, trivial⟩ (fun _ h => h))
 rintro z2 rfl
 refine jr_ (vB ((decide (((c.Key.length : Nat) : Int) = 8)) && (decide ((1 : Int) ≤ ((c.Record.length : Nat) : Int))))) ?_
 refine JO_cut 7 (fun z => z = (((decide (((c.Key.length : Nat) : Int) = 8)) && (decide ((1 : Int) ≤ ((c.Record.length : Nat) : Int)))) && (decide (((c.Record.length : Nat) : Int) ≤ d.Length)))) (fun z => [(3, vB false), (21, vB z)]) (fun _ => [Ent.blk b1 27 (Change.enc c), Ent.blk b 24 (DataSet.enc d)]) ?_ ?_
 ·rcases Bool.eq_false_or_eq_true ((decide (((c.Key.length : Nat) : Int) = 8)) && (decide ((1 : Int) ≤ ((c.Record.length : Nat) : Int)))) with g5 | g5
  ·have g5r := g5
   have ⟨g5r, h6⟩ := band_true g5r
   have g5r := of_decide_eq_true g5r
   have h6 := of_decide_eq_true h6
   refine jg_ g5 (Value.pointer (some ⟨b1, 3, none⟩)) (x_fieldAddr Ty.fi27_3 rfl rfl) ?_
   refine JO_read (vS c.Record) rfl ⟨_, rfl, g5⟩ (x_load 0 rfl rfl Ty.sc9 rfl) ?_
   refine jg_ g5 (vI ((c.Record.length : Nat) : Int)) (x_len_s rfl Try.underlying9) ?_
   refine jg_ g5 (Value.pointer (some ⟨b, 3, none⟩)) (x_fieldAddr Ty.fi24_3 rfl rfl) ?_
   refine JO_read (vI d.Length) rfl ⟨_, rfl, g5⟩ (x_load 1 rfl rfl Ty.sc3 rfl) ?_
   refine jg_ g5 (vB (decide (((c.Record.length : Nat) : Int) ≤ d.Length))) (x_leq_i rfl rfl) ?_
   refine js_ (vB (decide (((c.Record.length : Nat) : Int) ≤ d.Length))) (x_pick_t rfl g5 rfl) ?_
   refine JO_nil (JX_cut (decide (((c.Record.length : Nat) : Int) ≤ d.Length)) (by rw [g5]; simp) ⟨rfl, rfl, trivial⟩ (fun _ h => h))
  ·have g5r := g5
   simp only [Bool.and_eq_true, Bool.or_eq_true, Bool.and_eq_false_iff, Bool.or_eq_false_iff, Bool.not_eq_true', Bool.not_eq_false', decide_eq_true_eq, decide_eq_false_iff_not] at g5r
   refine sh_ g5 ?_
   refine sh_ g5 ?_
   refine sh_ g5 ?_
   refine sh_ g5 ?_
   refine sh_ g5 ?_
   refine sh_ g5 ?_
   refine js_ (vB false) (x_pick_f rfl g5 rfl) ?_
   refine JO_nil (JX_cut (false) (by rw [g5]; simp) ⟨rfl, rfl, trivial⟩ (fun _ h => h))
 rintro z4 rfl
 refine jr_ (vB (((decide (((c.Key.length : Nat) : Int) = 8)) && (decide ((1 : Int) ≤ ((c.Record.length : Nat) : Int)))) && (decide (((c.Record.length : Nat) : Int) ≤ d.Length)))) ?_
 refine JO_nil (JX_then (J_ret ?_))
 refine JX_rets [vB (((decide (((c.Key.length : Nat) : Int) = 8)) && (decide ((1 : Int) ≤ ((c.Record.length : Nat) : Int)))) && (decide (((c.Record.length : Nat) : Int) ≤ d.Length)))] (vB (((decide (((c.Key.length : Nat) : Int) = 8)) && (decide ((1 : Int) ≤ ((c.Record.length : Nat) : Int)))) && (decide (((c.Record.length : Nat) : Int) ≤ d.Length)))) Try.results75 (fun w h => ⟨rfl, trivial⟩) rfl [Ent.blk b 24 (DataSet.enc d)] (fun _ h => h.keep [false, true] rfl) ⟨?_, ?_⟩
 ·have e_x0 : (((decide (((c.Key.length : Nat) : Int) = 8)) && (decide ((1 : Int) ≤ ((c.Record.length : Nat) : Int)))) && (decide (((c.Record.length : Nat) : Int) ≤ d.Length)) : Bool) = (R27.ck4 d c) := by rfl
  exact congrArg (fun (x0 : Bool) => vB x0) e_x0
 ·rfl
set_option maxRecDepth 20000 in
theorem f76_ok (c : Change) (w : World) (q0 : c.Key.length ≤ 1000000) : Calls Try.prog 76 #[Value.agg ((Change.enc c)).toArray] w (Gives [] w fun v L => v = vB (R27.ck5 c) ∧ L = []) := by
 refine calls_J [] 11 Try.func76 rfl Try.ntmps76 [(0, Value.agg ((Change.enc c)).toArray)] rfl rfl (Give.nil w) ?_
 refine J_seq (J_region ?_)
 refine JO_op rfl trivial (O_box rfl rfl fun b1 => ?_)
 refine jr_ (vB false) ?_
 refine JO_nil (JX_then (J_seq (J_region ?_)))
 refine js_ (Value.pointer (some ⟨b1, 2, none⟩)) (x_fieldAddr Ty.fi27_2 rfl rfl) ?_
 refine JO_read (vS c.Key) rfl trivial (x_load 0 rfl rfl Ty.sc9 rfl) ?_
 refine JO_call [] [] [Ent.blk b1 27 (Change.enc c)] rfl trivial (fun _ => x_call Ty.ca77 rfl) (fun _ h => h) (fun _ h => by cases h) (fun w hS => f77_ok c.Key w hy_) ?_
 rintro _ _ ⟨rfl, rfl⟩
 refine jr_ (vB (R27.isSlot c.Key)) ?_
 refine JO_cut 4 (fun z => z = ((R27.isSlot c.Key) && (decide (c.Record = ([] : Bytes))))) (fun z => [(2, vB false), (10, vB z)]) (fun _ => [Ent.blk b1 27 (Change.enc c)]) ?_ ?_
 ·rcases Bool.eq_false_or_eq_true (R27.isSlot c.Key) with g3 | g3
  ·have g3r := g3
   refine jg_ g3 (Value.pointer (some ⟨b1, 3, none⟩)) (x_fieldAddr Ty.fi27_3 rfl rfl) ?_
   refine JO_read (vS c.Record) rfl ⟨_, rfl, g3⟩ (x_load 0 rfl rfl Ty.sc9 rfl) ?_
   refine jg_ g3 (vB (decide (c.Record = ([] : Bytes)))) (x_eql_s rfl rfl) ?_
   refine js_ (vB (decide (c.Record = ([] : Bytes)))) (x_pick_t rfl g3 rfl) ?_
   refine JO_nil (JX_cut (decide (c.Record = ([] : Bytes))) (by rw [g3]; simp) ⟨rfl, rfl, trivial⟩ (fun _ h => h))
  ·have g3r := g3
   refine sh_ g3 ?_
   refine sh_ g3 ?_
   refine sh_ g3 ?_
   refine js_ (vB false) (x_pick_f rfl g3 rfl) ?_
   refine JO_nil (JX_cut (false) (by rw [g3]; simp) ⟨rfl, rfl, trivial⟩ (fun _ h => h))
 rintro z2 rfl
 refine jr_ (vB ((R27.isSlot c.Key) && (decide (c.Record = ([] : Bytes))))) ?_
 refine JO_nil (JX_then (J_ret ?_))
 refine JX_rets [vB ((R27.isSlot c.Key) && (decide (c.Record = ([] : Bytes))))] (vB ((R27.isSlot c.Key) && (decide (c.Record = ([] : Bytes))))) Try.results76 (fun w h => ⟨rfl, trivial⟩) rfl [] (fun _ h => h.keep [false] rfl) ⟨?_, ?_⟩
 ·have e_x0 : ((R27.isSlot c.Key) && (decide (c.Record = ([] : Bytes))) : Bool) = (R27.ck5 c) := by rfl
  exact congrArg (fun (x0 : Bool) => vB x0) e_x0
 ·rfl
set_option maxRecDepth 20000 in
theorem f78_ok (c : Change) (b : Nat) (d : DataSet) (w : World) (q0 : c.Key.length ≤ 1000000) (hg : Give [b] w [Ent.blk b 24 (DataSet.enc d)]) : Calls Try.prog 78 #[Value.agg ((Change.enc c)).toArray, Value.pointer (some ⟨b, 0, none⟩)] w (Gives [b] w fun v L => v = vB (R27.ck6 d c) ∧ L = [Ent.blk b 24 (DataSet.enc d)]) := by
 refine calls_J [b] 15 Try.func78 rfl Try.ntmps78 [(0, Value.agg ((Change.enc c)).toArray), (1, Value.pointer (some ⟨b, 0, none⟩))] rfl rfl hg ?_
 refine J_seq (J_region ?_)
 refine JO_op rfl trivial (O_box rfl rfl fun b1 => ?_)
 refine jr_ (vB false) ?_
 refine JO_nil (JX_then (J_seq (J_region ?_)))
 refine js_ (Value.pointer (some ⟨b1, 2, none⟩)) (x_fieldAddr Ty.fi27_2 rfl rfl) ?_
 refine JO_read (vS c.Key) rfl trivial (x_load 0 rfl rfl Ty.sc9 rfl) ?_
 refine JO_call [] [] [Ent.blk b1 27 (Change.enc c), Ent.blk b 24 (DataSet.enc d)] rfl trivial (fun _ => x_call Ty.ca77 rfl) (fun _ h => h) (fun _ h => by cases h) (fun w hS => f77_ok c.Key w hy_) ?_
 rintro _ _ ⟨rfl, rfl⟩
 refine jr_ (vB (R27.isSlot c.Key)) ?_
 refine JO_cut 7 (fun z => z = ((R27.isSlot c.Key) && (decide (((c.Record.length : Nat) : Int) = d.Length)))) (fun z => [(3, vB false), (14, vB z)]) (fun _ => [Ent.blk b1 27 (Change.enc c), Ent.blk b 24 (DataSet.enc d)]) ?_ ?_
 ·rcases Bool.eq_false_or_eq_true (R27.isSlot c.Key) with g3 | g3
  ·have g3r := g3
   refine jg_ g3 (Value.pointer (some ⟨b1, 3, none⟩)) (x_fieldAddr Ty.fi27_3 rfl rfl) ?_
   refine JO_read (vS c.Record) rfl ⟨_, rfl, g3⟩ (x_load 0 rfl rfl Ty.sc9 rfl) ?_
   refine jg_ g3 (vI ((c.Record.length : Nat) : Int)) (x_len_s rfl Try.underlying9) ?_
   refine jg_ g3 (Value.pointer (some ⟨b, 3, none⟩)) (x_fieldAddr Ty.fi24_3 rfl rfl) ?_
   refine JO_read (vI d.Length) rfl ⟨_, rfl, g3⟩ (x_load 1 rfl rfl Ty.sc3 rfl) ?_
   refine jg_ g3 (vB (decide (((c.Record.length : Nat) : Int) = d.Length))) (x_eql_i rfl rfl) ?_
   refine js_ (vB (decide (((c.Record.length : Nat) : Int) = d.Length))) (x_pick_t rfl g3 rfl) ?_
   refine JO_nil (JX_cut (decide (((c.Record.length : Nat) : Int) = d.Length)) (by rw [g3]; simp) ⟨rfl, rfl, trivial⟩ (fun _ h => h))
  ·have g3r := g3
   refine sh_ g3 ?_
   refine sh_ g3 ?_
   refine sh_ g3 ?_
   refine sh_ g3 ?_
   refine sh_ g3 ?_
   refine sh_ g3 ?_
   refine js_ (vB false) (x_pick_f rfl g3 rfl) ?_
   refine JO_nil (JX_cut (false) (by rw [g3]; simp) ⟨rfl, rfl, trivial⟩ (fun _ h => h))
 rintro z2 rfl
 refine jr_ (vB ((R27.isSlot c.Key) && (decide (((c.Record.length : Nat) : Int) = d.Length)))) ?_
 refine JO_nil (JX_then (J_ret ?_))
 refine JX_rets [vB ((R27.isSlot c.Key) && (decide (((c.Record.length : Nat) : Int) = d.Length)))] (vB ((R27.isSlot c.Key) && (decide (((c.Record.length : Nat) : Int) = d.Length)))) Try.results78 (fun w h => ⟨rfl, trivial⟩) rfl [Ent.blk b 24 (DataSet.enc d)] (fun _ h => h.keep [false, true] rfl) ⟨?_, ?_⟩
 ·have e_x0 : ((R27.isSlot c.Key) && (decide (((c.Record.length : Nat) : Int) = d.Length)) : Bool) = (R27.ck6 d c) := by rfl
  exact congrArg (fun (x0 : Bool) => vB x0) e_x0
 ·rfl
set_option maxRecDepth 20000 in
theorem f47_ok3 (d : DataSet) (w : World) (q0 : d.Org = 3) : Calls Try.prog 47 #[Value.agg ((DataSet.enc d)).toArray] w (Gives [] w fun v L => ∃ M : Nat, ∃ b : Nat, v = Value.map (some M) ∧ L = [Ent.mp vI M [(3, Value.func (.func 71) #[] #[]), (1, Value.func (.func 72) #[] #[Value.pointer (some ⟨b, 0, none⟩)]), (0, Value.func (.func 73) #[] #[Value.pointer (some ⟨b, 0, none⟩)])], Ent.blk b 24 (DataSet.enc d)]) := by
 refine calls_J [] 23 Try.func47 rfl Try.ntmps47 [(0, Value.agg ((DataSet.enc d)).toArray)] rfl rfl (Give.nil w) ?_
 refine J_seq (J_region ?_)
 refine JO_op rfl trivial (O_box rfl rfl fun b1 => ?_)
 refine jr_ (Value.map none) ?_
 refine JO_nil (JX_then (J_seq (J_region ?_)))
 refine jr_ (Value.func (.func 71) #[] #[]) ?_
 refine JO_nil (JX_then (J_seq (J_seq (J_region ?_))))
 refine js_ (Value.pointer (some ⟨b1, 1, none⟩)) (x_fieldAddr Ty.fi24_1 rfl rfl) ?_
 refine JO_read (vI d.Org) rfl trivial (x_load 0 rfl rfl Ty.sc3 rfl) ?_
 refine JO_nil (JX_then (J_block (J_seq (J_region ?_))))
 refine js_ (vB (decide (d.Org = 3))) (x_eql_i rfl rfl) ?_
 refine jr_ (vB (decide (d.Org = 3))) ?_
 refine JO_nil (JX_then ?_)
 refine J_cond (decide (d.Org = 3)) rfl rfl (fun h2 => ?_) (fun h2 => ?_)
 ·have h2 := of_decide_eq_true h2
  refine J_seq (J_region ?_)
  refine JO_op rfl trivial (O_makeMap vI fun b3 => ?_)
  refine jr_ (Value.func (.func 71) #[] #[]) ?_
  refine JO_op rfl trivial (O_insert 0 (f := vI) (k := 3) [(3, Value.func (.func 71) #[] #[])] [Ent.mp vI b3 [(3, Value.func (.func 71) #[] #[])], Ent.blk b1 24 (DataSet.enc d)] rfl rfl rfl rfl Try.underlying104 (mapK_i Try.underlying3) rfl rfl ?_)
  refine js_ (Value.func (.func 72) #[] #[Value.pointer (some ⟨b1, 0, none⟩)]) (x_makeFunc rfl rfl) ?_
  refine JO_op rfl trivial (O_insert 0 (f := vI) (k := 1) [(3, Value.func (.func 71) #[] #[]), (1, Value.func (.func 72) #[] #[Value.pointer (some ⟨b1, 0, none⟩)])] [Ent.mp vI b3 [(3, Value.func (.func 71) #[] #[]), (1, Value.func (.func 72) #[] #[Value.pointer (some ⟨b1, 0, none⟩)])], Ent.blk b1 24 (DataSet.enc d)] rfl rfl rfl rfl Try.underlying104 (mapK_i Try.underlying3) rfl rfl ?_)
  refine js_ (Value.func (.func 73) #[] #[Value.pointer (some ⟨b1, 0, none⟩)]) (x_makeFunc rfl rfl) ?_
  refine JO_op rfl trivial (O_insert 0 (f := vI) (k := 0) [(3, Value.func (.func 71) #[] #[]), (1, Value.func (.func 72) #[] #[Value.pointer (some ⟨b1, 0, none⟩)]), (0, Value.func (.func 73) #[] #[Value.pointer (some ⟨b1, 0, none⟩)])] [Ent.mp vI b3 [(3, Value.func (.func 71) #[] #[]), (1, Value.func (.func 72) #[] #[Value.pointer (some ⟨b1, 0, none⟩)]), (0, Value.func (.func 73) #[] #[Value.pointer (some ⟨b1, 0, none⟩)])], Ent.blk b1 24 (DataSet.enc d)] rfl rfl rfl rfl Try.underlying104 (mapK_i Try.underlying3) rfl rfl ?_)
  refine jr_ (Value.map (some b3)) ?_
  refine jr_ (Value.map (some b3)) ?_
  refine JO_nil (JX_then (J_ret (JX_block_ret (JX_then_ret ?_))))
  refine JX_rets [Value.map (some b3)] (Value.map (some b3)) Try.results47 (fun w h => ⟨rfl, trivial⟩) rfl [Ent.mp vI b3 [(3, Value.func (.func 71) #[] #[]), (1, Value.func (.func 72) #[] #[Value.pointer (some ⟨b1, 0, none⟩)]), (0, Value.func (.func 73) #[] #[Value.pointer (some ⟨b1, 0, none⟩)])], Ent.blk b1 24 (DataSet.enc d)] (fun _ h => h) ⟨b3, b1, ?_, ?_⟩
  ·rfl
  ·rfl
 ·have h2 := of_decide_eq_false h2
  refine J_seq (J_region ?_)
  refine js_ (vB (decide (d.Org = 1))) (x_eql_i rfl rfl) ?_
  refine jr_ (vB (decide (d.Org = 1))) ?_
  refine JO_nil (JX_then ?_)
  refine J_cond (decide (d.Org = 1)) rfl rfl (fun h4 => ?_) (fun h4 => ?_)
  ·have h4 := of_decide_eq_true h4
   refine J_seq (J_region ?_)
   refine JO_op rfl trivial (O_makeMap vI fun b5 => ?_)
   refine jr_ (Value.func (.func 71) #[] #[]) ?_
   refine JO_op rfl trivial (O_insert 0 (f := vI) (k := 3) [(3, Value.func (.func 71) #[] #[])] [Ent.mp vI b5 [(3, Value.func (.func 71) #[] #[])], Ent.blk b1 24 (DataSet.enc d)] rfl rfl rfl rfl Try.underlying104 (mapK_i Try.underlying3) rfl rfl ?_)
   refine js_ (Value.func (.func 75) #[] #[Value.pointer (some ⟨b1, 0, none⟩)]) (x_makeFunc rfl rfl) ?_
   refine JO_op rfl trivial (O_insert 0 (f := vI) (k := 2) [(3, Value.func (.func 71) #[] #[]), (2, Value.func (.func 75) #[] #[Value.pointer (some ⟨b1, 0, none⟩)])] [Ent.mp vI b5 [(3, Value.func (.func 71) #[] #[]), (2, Value.func (.func 75) #[] #[Value.pointer (some ⟨b1, 0, none⟩)])], Ent.blk b1 24 (DataSet.enc d)] rfl rfl rfl rfl Try.underlying104 (mapK_i Try.underlying3) rfl rfl ?_)
   refine jr_ (Value.map (some b5)) ?_
   refine jr_ (Value.map (some b5)) ?_
   refine JO_nil (JX_then (J_ret (JX_block_ret (JX_then_ret ?_))))
   refine JX_rets [Value.map (some b5)] (Value.map (some b5)) Try.results47 (fun w h => ⟨rfl, trivial⟩) rfl [Ent.mp vI b5 [(3, Value.func (.func 71) #[] #[]), (2, Value.func (.func 75) #[] #[Value.pointer (some ⟨b1, 0, none⟩)])], Ent.blk b1 24 (DataSet.enc d)] (fun _ h => h) ⟨b5, b1, ?_, ?_⟩
   ·rfl
   ·have e_y0 : ([(3, Value.func (.func 71) #[] #[]), (2, Value.func (.func 75) #[] #[Value.pointer (some ⟨b1, 0, none⟩)])] : List (Int × Value)) = [(3, Value.func (.func 71) #[] #[]), (1, Value.func (.func 72) #[] #[Value.pointer (some ⟨b1, 0, none⟩)]), (0, Value.func (.func 73) #[] #[Value.pointer (some ⟨b1, 0, none⟩)])] := by
     first | rfl | omega | (simp_all; done) | (simp_all; omega)
    have e_all := (congrArg (fun (y0 : List (Int × Value)) => [Ent.mp vI b5 y0, Ent.blk b1 24 (DataSet.enc d)]) e_y0)
    exact e_all
  ·have h4 := of_decide_eq_false h4
   refine J_skip (JX_block (JX_then (J_seq (J_region ?_))))
   refine JO_op rfl trivial (O_makeMap vI fun b6 => ?_)
   refine jr_ (Value.func (.func 71) #[] #[]) ?_
   refine JO_op rfl trivial (O_insert 0 (f := vI) (k := 3) [(3, Value.func (.func 71) #[] #[])] [Ent.mp vI b6 [(3, Value.func (.func 71) #[] #[])], Ent.blk b1 24 (DataSet.enc d)] rfl rfl rfl rfl Try.underlying104 (mapK_i Try.underlying3) rfl rfl ?_)
   refine JO_op rfl trivial (O_insert 0 (f := vI) (k := 1) [(3, Value.func (.func 71) #[] #[]), (1, Value.func (.func 76) #[] #[])] [Ent.mp vI b6 [(3, Value.func (.func 71) #[] #[]), (1, Value.func (.func 76) #[] #[])], Ent.blk b1 24 (DataSet.enc d)] rfl rfl rfl rfl Try.underlying104 (mapK_i Try.underlying3) rfl rfl ?_)
   refine js_ (Value.func (.func 78) #[] #[Value.pointer (some ⟨b1, 0, none⟩)]) (x_makeFunc rfl rfl) ?_
   refine JO_op rfl trivial (O_insert 0 (f := vI) (k := 0) [(3, Value.func (.func 71) #[] #[]), (1, Value.func (.func 76) #[] #[]), (0, Value.func (.func 78) #[] #[Value.pointer (some ⟨b1, 0, none⟩)])] [Ent.mp vI b6 [(3, Value.func (.func 71) #[] #[]), (1, Value.func (.func 76) #[] #[]), (0, Value.func (.func 78) #[] #[Value.pointer (some ⟨b1, 0, none⟩)])], Ent.blk b1 24 (DataSet.enc d)] rfl rfl rfl rfl Try.underlying104 (mapK_i Try.underlying3) rfl rfl ?_)
   refine jr_ (Value.map (some b6)) ?_
   refine jr_ (Value.map (some b6)) ?_
   refine JO_nil (JX_then (J_ret ?_))
   refine JX_rets [Value.map (some b6)] (Value.map (some b6)) Try.results47 (fun w h => ⟨rfl, trivial⟩) rfl [Ent.mp vI b6 [(3, Value.func (.func 71) #[] #[]), (1, Value.func (.func 76) #[] #[]), (0, Value.func (.func 78) #[] #[Value.pointer (some ⟨b1, 0, none⟩)])], Ent.blk b1 24 (DataSet.enc d)] (fun _ h => h) ⟨b6, b1, ?_, ?_⟩
   ·rfl
   ·have e_y0 : ([(3, Value.func (.func 71) #[] #[]), (1, Value.func (.func 76) #[] #[]), (0, Value.func (.func 78) #[] #[Value.pointer (some ⟨b1, 0, none⟩)])] : List (Int × Value)) = [(3, Value.func (.func 71) #[] #[]), (1, Value.func (.func 72) #[] #[Value.pointer (some ⟨b1, 0, none⟩)]), (0, Value.func (.func 73) #[] #[Value.pointer (some ⟨b1, 0, none⟩)])] := by
     first | rfl | omega | (simp_all; done) | (simp_all; omega)
    have e_all := (congrArg (fun (y0 : List (Int × Value)) => [Ent.mp vI b6 y0, Ent.blk b1 24 (DataSet.enc d)]) e_y0)
    exact e_all
set_option maxRecDepth 20000 in
theorem f47_ok1 (d : DataSet) (w : World) (q0 : d.Org = 1) : Calls Try.prog 47 #[Value.agg ((DataSet.enc d)).toArray] w (Gives [] w fun v L => ∃ M : Nat, ∃ b : Nat, v = Value.map (some M) ∧ L = [Ent.mp vI M [(3, Value.func (.func 71) #[] #[]), (2, Value.func (.func 75) #[] #[Value.pointer (some ⟨b, 0, none⟩)])], Ent.blk b 24 (DataSet.enc d)]) := by
 refine calls_J [] 23 Try.func47 rfl Try.ntmps47 [(0, Value.agg ((DataSet.enc d)).toArray)] rfl rfl (Give.nil w) ?_
 refine J_seq (J_region ?_)
 refine JO_op rfl trivial (O_box rfl rfl fun b1 => ?_)
 refine jr_ (Value.map none) ?_
 refine JO_nil (JX_then (J_seq (J_region ?_)))
 refine jr_ (Value.func (.func 71) #[] #[]) ?_
 refine JO_nil (JX_then (J_seq (J_seq (J_region ?_))))
 refine js_ (Value.pointer (some ⟨b1, 1, none⟩)) (x_fieldAddr Ty.fi24_1 rfl rfl) ?_
 refine JO_read (vI d.Org) rfl trivial (x_load 0 rfl rfl Ty.sc3 rfl) ?_
 refine JO_nil (JX_then (J_block (J_seq (J_region ?_))))
 refine js_ (vB (decide (d.Org = 3))) (x_eql_i rfl rfl) ?_
 refine jr_ (vB (decide (d.Org = 3))) ?_
 refine JO_nil (JX_then ?_)
 refine J_cond (decide (d.Org = 3)) rfl rfl (fun h2 => ?_) (fun h2 => ?_)
 ·have h2 := of_decide_eq_true h2
  refine J_seq (J_region ?_)
  refine JO_op rfl trivial (O_makeMap vI fun b3 => ?_)
  refine jr_ (Value.func (.func 71) #[] #[]) ?_
  refine JO_op rfl trivial (O_insert 0 (f := vI) (k := 3) [(3, Value.func (.func 71) #[] #[])] [Ent.mp vI b3 [(3, Value.func (.func 71) #[] #[])], Ent.blk b1 24 (DataSet.enc d)] rfl rfl rfl rfl Try.underlying104 (mapK_i Try.underlying3) rfl rfl ?_)
  refine js_ (Value.func (.func 72) #[] #[Value.pointer (some ⟨b1, 0, none⟩)]) (x_makeFunc rfl rfl) ?_
  refine JO_op rfl trivial (O_insert 0 (f := vI) (k := 1) [(3, Value.func (.func 71) #[] #[]), (1, Value.func (.func 72) #[] #[Value.pointer (some ⟨b1, 0, none⟩)])] [Ent.mp vI b3 [(3, Value.func (.func 71) #[] #[]), (1, Value.func (.func 72) #[] #[Value.pointer (some ⟨b1, 0, none⟩)])], Ent.blk b1 24 (DataSet.enc d)] rfl rfl rfl rfl Try.underlying104 (mapK_i Try.underlying3) rfl rfl ?_)
  refine js_ (Value.func (.func 73) #[] #[Value.pointer (some ⟨b1, 0, none⟩)]) (x_makeFunc rfl rfl) ?_
  refine JO_op rfl trivial (O_insert 0 (f := vI) (k := 0) [(3, Value.func (.func 71) #[] #[]), (1, Value.func (.func 72) #[] #[Value.pointer (some ⟨b1, 0, none⟩)]), (0, Value.func (.func 73) #[] #[Value.pointer (some ⟨b1, 0, none⟩)])] [Ent.mp vI b3 [(3, Value.func (.func 71) #[] #[]), (1, Value.func (.func 72) #[] #[Value.pointer (some ⟨b1, 0, none⟩)]), (0, Value.func (.func 73) #[] #[Value.pointer (some ⟨b1, 0, none⟩)])], Ent.blk b1 24 (DataSet.enc d)] rfl rfl rfl rfl Try.underlying104 (mapK_i Try.underlying3) rfl rfl ?_)
  refine jr_ (Value.map (some b3)) ?_
  refine jr_ (Value.map (some b3)) ?_
  refine JO_nil (JX_then (J_ret (JX_block_ret (JX_then_ret ?_))))
  refine JX_rets [Value.map (some b3)] (Value.map (some b3)) Try.results47 (fun w h => ⟨rfl, trivial⟩) rfl [Ent.mp vI b3 [(3, Value.func (.func 71) #[] #[]), (1, Value.func (.func 72) #[] #[Value.pointer (some ⟨b1, 0, none⟩)]), (0, Value.func (.func 73) #[] #[Value.pointer (some ⟨b1, 0, none⟩)])], Ent.blk b1 24 (DataSet.enc d)] (fun _ h => h) ⟨b3, b1, ?_, ?_⟩
  ·rfl
  ·have e_y0 : ([(3, Value.func (.func 71) #[] #[]), (1, Value.func (.func 72) #[] #[Value.pointer (some ⟨b1, 0, none⟩)]), (0, Value.func (.func 73) #[] #[Value.pointer (some ⟨b1, 0, none⟩)])] : List (Int × Value)) = [(3, Value.func (.func 71) #[] #[]), (2, Value.func (.func 75) #[] #[Value.pointer (some ⟨b1, 0, none⟩)])] := by
    first | rfl | omega | (simp_all; done) | (simp_all; omega)
   have e_all := (congrArg (fun (y0 : List (Int × Value)) => [Ent.mp vI b3 y0, Ent.blk b1 24 (DataSet.enc d)]) e_y0)
   exact e_all
 ·have h2 := of_decide_eq_false h2
  refine J_seq (J_region ?_)
  refine js_ (vB (decide (d.Org = 1))) (x_eql_i rfl rfl) ?_
  refine jr_ (vB (decide (d.Org = 1))) ?_
  refine JO_nil (JX_then ?_)
  refine J_cond (decide (d.Org = 1)) rfl rfl (fun h4 => ?_) (fun h4 => ?_)
  ·have h4 := of_decide_eq_true h4
   refine J_seq (J_region ?_)
   refine JO_op rfl trivial (O_makeMap vI fun b5 => ?_)
   refine jr_ (Value.func (.func 71) #[] #[]) ?_
   refine JO_op rfl trivial (O_insert 0 (f := vI) (k := 3) [(3, Value.func (.func 71) #[] #[])] [Ent.mp vI b5 [(3, Value.func (.func 71) #[] #[])], Ent.blk b1 24 (DataSet.enc d)] rfl rfl rfl rfl Try.underlying104 (mapK_i Try.underlying3) rfl rfl ?_)
   refine js_ (Value.func (.func 75) #[] #[Value.pointer (some ⟨b1, 0, none⟩)]) (x_makeFunc rfl rfl) ?_
   refine JO_op rfl trivial (O_insert 0 (f := vI) (k := 2) [(3, Value.func (.func 71) #[] #[]), (2, Value.func (.func 75) #[] #[Value.pointer (some ⟨b1, 0, none⟩)])] [Ent.mp vI b5 [(3, Value.func (.func 71) #[] #[]), (2, Value.func (.func 75) #[] #[Value.pointer (some ⟨b1, 0, none⟩)])], Ent.blk b1 24 (DataSet.enc d)] rfl rfl rfl rfl Try.underlying104 (mapK_i Try.underlying3) rfl rfl ?_)
   refine jr_ (Value.map (some b5)) ?_
   refine jr_ (Value.map (some b5)) ?_
   refine JO_nil (JX_then (J_ret (JX_block_ret (JX_then_ret ?_))))
   refine JX_rets [Value.map (some b5)] (Value.map (some b5)) Try.results47 (fun w h => ⟨rfl, trivial⟩) rfl [Ent.mp vI b5 [(3, Value.func (.func 71) #[] #[]), (2, Value.func (.func 75) #[] #[Value.pointer (some ⟨b1, 0, none⟩)])], Ent.blk b1 24 (DataSet.enc d)] (fun _ h => h) ⟨b5, b1, ?_, ?_⟩
   ·rfl
   ·rfl
  ·have h4 := of_decide_eq_false h4
   refine J_skip (JX_block (JX_then (J_seq (J_region ?_))))
   refine JO_op rfl trivial (O_makeMap vI fun b6 => ?_)
   refine jr_ (Value.func (.func 71) #[] #[]) ?_
   refine JO_op rfl trivial (O_insert 0 (f := vI) (k := 3) [(3, Value.func (.func 71) #[] #[])] [Ent.mp vI b6 [(3, Value.func (.func 71) #[] #[])], Ent.blk b1 24 (DataSet.enc d)] rfl rfl rfl rfl Try.underlying104 (mapK_i Try.underlying3) rfl rfl ?_)
   refine JO_op rfl trivial (O_insert 0 (f := vI) (k := 1) [(3, Value.func (.func 71) #[] #[]), (1, Value.func (.func 76) #[] #[])] [Ent.mp vI b6 [(3, Value.func (.func 71) #[] #[]), (1, Value.func (.func 76) #[] #[])], Ent.blk b1 24 (DataSet.enc d)] rfl rfl rfl rfl Try.underlying104 (mapK_i Try.underlying3) rfl rfl ?_)
   refine js_ (Value.func (.func 78) #[] #[Value.pointer (some ⟨b1, 0, none⟩)]) (x_makeFunc rfl rfl) ?_
   refine JO_op rfl trivial (O_insert 0 (f := vI) (k := 0) [(3, Value.func (.func 71) #[] #[]), (1, Value.func (.func 76) #[] #[]), (0, Value.func (.func 78) #[] #[Value.pointer (some ⟨b1, 0, none⟩)])] [Ent.mp vI b6 [(3, Value.func (.func 71) #[] #[]), (1, Value.func (.func 76) #[] #[]), (0, Value.func (.func 78) #[] #[Value.pointer (some ⟨b1, 0, none⟩)])], Ent.blk b1 24 (DataSet.enc d)] rfl rfl rfl rfl Try.underlying104 (mapK_i Try.underlying3) rfl rfl ?_)
   refine jr_ (Value.map (some b6)) ?_
   refine jr_ (Value.map (some b6)) ?_
   refine JO_nil (JX_then (J_ret ?_))
   refine JX_rets [Value.map (some b6)] (Value.map (some b6)) Try.results47 (fun w h => ⟨rfl, trivial⟩) rfl [Ent.mp vI b6 [(3, Value.func (.func 71) #[] #[]), (1, Value.func (.func 76) #[] #[]), (0, Value.func (.func 78) #[] #[Value.pointer (some ⟨b1, 0, none⟩)])], Ent.blk b1 24 (DataSet.enc d)] (fun _ h => h) ⟨b6, b1, ?_, ?_⟩
   ·rfl
   ·have e_y0 : ([(3, Value.func (.func 71) #[] #[]), (1, Value.func (.func 76) #[] #[]), (0, Value.func (.func 78) #[] #[Value.pointer (some ⟨b1, 0, none⟩)])] : List (Int × Value)) = [(3, Value.func (.func 71) #[] #[]), (2, Value.func (.func 75) #[] #[Value.pointer (some ⟨b1, 0, none⟩)])] := by
     first | rfl | omega | (simp_all; done) | (simp_all; omega)
    have e_all := (congrArg (fun (y0 : List (Int × Value)) => [Ent.mp vI b6 y0, Ent.blk b1 24 (DataSet.enc d)]) e_y0)
    exact e_all
set_option maxRecDepth 20000 in
theorem f47_ok2 (d : DataSet) (w : World) (q0 : ¬ d.Org = 3) (q1 : ¬ d.Org = 1) : Calls Try.prog 47 #[Value.agg ((DataSet.enc d)).toArray] w (Gives [] w fun v L => ∃ M : Nat, ∃ b : Nat, v = Value.map (some M) ∧ L = [Ent.mp vI M [(3, Value.func (.func 71) #[] #[]), (1, Value.func (.func 76) #[] #[]), (0, Value.func (.func 78) #[] #[Value.pointer (some ⟨b, 0, none⟩)])], Ent.blk b 24 (DataSet.enc d)]) := by
 refine calls_J [] 23 Try.func47 rfl Try.ntmps47 [(0, Value.agg ((DataSet.enc d)).toArray)] rfl rfl (Give.nil w) ?_
 refine J_seq (J_region ?_)
 refine JO_op rfl trivial (O_box rfl rfl fun b1 => ?_)
 refine jr_ (Value.map none) ?_
 refine JO_nil (JX_then (J_seq (J_region ?_)))
 refine jr_ (Value.func (.func 71) #[] #[]) ?_
 refine JO_nil (JX_then (J_seq (J_seq (J_region ?_))))
 refine js_ (Value.pointer (some ⟨b1, 1, none⟩)) (x_fieldAddr Ty.fi24_1 rfl rfl) ?_
 refine JO_read (vI d.Org) rfl trivial (x_load 0 rfl rfl Ty.sc3 rfl) ?_
 refine JO_nil (JX_then (J_block (J_seq (J_region ?_))))
 refine js_ (vB (decide (d.Org = 3))) (x_eql_i rfl rfl) ?_
 refine jr_ (vB (decide (d.Org = 3))) ?_
 refine JO_nil (JX_then ?_)
 refine J_cond (decide (d.Org = 3)) rfl rfl (fun h2 => ?_) (fun h2 => ?_)
 ·have h2 := of_decide_eq_true h2
  refine J_seq (J_region ?_)
  refine JO_op rfl trivial (O_makeMap vI fun b3 => ?_)
  refine jr_ (Value.func (.func 71) #[] #[]) ?_
  refine JO_op rfl trivial (O_insert 0 (f := vI) (k := 3) [(3, Value.func (.func 71) #[] #[])] [Ent.mp vI b3 [(3, Value.func (.func 71) #[] #[])], Ent.blk b1 24 (DataSet.enc d)] rfl rfl rfl rfl Try.underlying104 (mapK_i Try.underlying3) rfl rfl ?_)
  refine js_ (Value.func (.func 72) #[] #[Value.pointer (some ⟨b1, 0, none⟩)]) (x_makeFunc rfl rfl) ?_
  refine JO_op rfl trivial (O_insert 0 (f := vI) (k := 1) [(3, Value.func (.func 71) #[] #[]), (1, Value.func (.func 72) #[] #[Value.pointer (some ⟨b1, 0, none⟩)])] [Ent.mp vI b3 [(3, Value.func (.func 71) #[] #[]), (1, Value.func (.func 72) #[] #[Value.pointer (some ⟨b1, 0, none⟩)])], Ent.blk b1 24 (DataSet.enc d)] rfl rfl rfl rfl Try.underlying104 (mapK_i Try.underlying3) rfl rfl ?_)
  refine js_ (Value.func (.func 73) #[] #[Value.pointer (some ⟨b1, 0, none⟩)]) (x_makeFunc rfl rfl) ?_
  refine JO_op rfl trivial (O_insert 0 (f := vI) (k := 0) [(3, Value.func (.func 71) #[] #[]), (1, Value.func (.func 72) #[] #[Value.pointer (some ⟨b1, 0, none⟩)]), (0, Value.func (.func 73) #[] #[Value.pointer (some ⟨b1, 0, none⟩)])] [Ent.mp vI b3 [(3, Value.func (.func 71) #[] #[]), (1, Value.func (.func 72) #[] #[Value.pointer (some ⟨b1, 0, none⟩)]), (0, Value.func (.func 73) #[] #[Value.pointer (some ⟨b1, 0, none⟩)])], Ent.blk b1 24 (DataSet.enc d)] rfl rfl rfl rfl Try.underlying104 (mapK_i Try.underlying3) rfl rfl ?_)
  refine jr_ (Value.map (some b3)) ?_
  refine jr_ (Value.map (some b3)) ?_
  refine JO_nil (JX_then (J_ret (JX_block_ret (JX_then_ret ?_))))
  refine JX_rets [Value.map (some b3)] (Value.map (some b3)) Try.results47 (fun w h => ⟨rfl, trivial⟩) rfl [Ent.mp vI b3 [(3, Value.func (.func 71) #[] #[]), (1, Value.func (.func 72) #[] #[Value.pointer (some ⟨b1, 0, none⟩)]), (0, Value.func (.func 73) #[] #[Value.pointer (some ⟨b1, 0, none⟩)])], Ent.blk b1 24 (DataSet.enc d)] (fun _ h => h) ⟨b3, b1, ?_, ?_⟩
  ·rfl
  ·have e_y0 : ([(3, Value.func (.func 71) #[] #[]), (1, Value.func (.func 72) #[] #[Value.pointer (some ⟨b1, 0, none⟩)]), (0, Value.func (.func 73) #[] #[Value.pointer (some ⟨b1, 0, none⟩)])] : List (Int × Value)) = [(3, Value.func (.func 71) #[] #[]), (1, Value.func (.func 76) #[] #[]), (0, Value.func (.func 78) #[] #[Value.pointer (some ⟨b1, 0, none⟩)])] := by
    first | rfl | omega | (simp_all; done) | (simp_all; omega)
   have e_all := (congrArg (fun (y0 : List (Int × Value)) => [Ent.mp vI b3 y0, Ent.blk b1 24 (DataSet.enc d)]) e_y0)
   exact e_all
 ·have h2 := of_decide_eq_false h2
  refine J_seq (J_region ?_)
  refine js_ (vB (decide (d.Org = 1))) (x_eql_i rfl rfl) ?_
  refine jr_ (vB (decide (d.Org = 1))) ?_
  refine JO_nil (JX_then ?_)
  refine J_cond (decide (d.Org = 1)) rfl rfl (fun h4 => ?_) (fun h4 => ?_)
  ·have h4 := of_decide_eq_true h4
   refine J_seq (J_region ?_)
   refine JO_op rfl trivial (O_makeMap vI fun b5 => ?_)
   refine jr_ (Value.func (.func 71) #[] #[]) ?_
   refine JO_op rfl trivial (O_insert 0 (f := vI) (k := 3) [(3, Value.func (.func 71) #[] #[])] [Ent.mp vI b5 [(3, Value.func (.func 71) #[] #[])], Ent.blk b1 24 (DataSet.enc d)] rfl rfl rfl rfl Try.underlying104 (mapK_i Try.underlying3) rfl rfl ?_)
   refine js_ (Value.func (.func 75) #[] #[Value.pointer (some ⟨b1, 0, none⟩)]) (x_makeFunc rfl rfl) ?_
   refine JO_op rfl trivial (O_insert 0 (f := vI) (k := 2) [(3, Value.func (.func 71) #[] #[]), (2, Value.func (.func 75) #[] #[Value.pointer (some ⟨b1, 0, none⟩)])] [Ent.mp vI b5 [(3, Value.func (.func 71) #[] #[]), (2, Value.func (.func 75) #[] #[Value.pointer (some ⟨b1, 0, none⟩)])], Ent.blk b1 24 (DataSet.enc d)] rfl rfl rfl rfl Try.underlying104 (mapK_i Try.underlying3) rfl rfl ?_)
   refine jr_ (Value.map (some b5)) ?_
   refine jr_ (Value.map (some b5)) ?_
   refine JO_nil (JX_then (J_ret (JX_block_ret (JX_then_ret ?_))))
   refine JX_rets [Value.map (some b5)] (Value.map (some b5)) Try.results47 (fun w h => ⟨rfl, trivial⟩) rfl [Ent.mp vI b5 [(3, Value.func (.func 71) #[] #[]), (2, Value.func (.func 75) #[] #[Value.pointer (some ⟨b1, 0, none⟩)])], Ent.blk b1 24 (DataSet.enc d)] (fun _ h => h) ⟨b5, b1, ?_, ?_⟩
   ·rfl
   ·have e_y0 : ([(3, Value.func (.func 71) #[] #[]), (2, Value.func (.func 75) #[] #[Value.pointer (some ⟨b1, 0, none⟩)])] : List (Int × Value)) = [(3, Value.func (.func 71) #[] #[]), (1, Value.func (.func 76) #[] #[]), (0, Value.func (.func 78) #[] #[Value.pointer (some ⟨b1, 0, none⟩)])] := by
     first | rfl | omega | (simp_all; done) | (simp_all; omega)
    have e_all := (congrArg (fun (y0 : List (Int × Value)) => [Ent.mp vI b5 y0, Ent.blk b1 24 (DataSet.enc d)]) e_y0)
    exact e_all
  ·have h4 := of_decide_eq_false h4
   refine J_skip (JX_block (JX_then (J_seq (J_region ?_))))
   refine JO_op rfl trivial (O_makeMap vI fun b6 => ?_)
   refine jr_ (Value.func (.func 71) #[] #[]) ?_
   refine JO_op rfl trivial (O_insert 0 (f := vI) (k := 3) [(3, Value.func (.func 71) #[] #[])] [Ent.mp vI b6 [(3, Value.func (.func 71) #[] #[])], Ent.blk b1 24 (DataSet.enc d)] rfl rfl rfl rfl Try.underlying104 (mapK_i Try.underlying3) rfl rfl ?_)
   refine JO_op rfl trivial (O_insert 0 (f := vI) (k := 1) [(3, Value.func (.func 71) #[] #[]), (1, Value.func (.func 76) #[] #[])] [Ent.mp vI b6 [(3, Value.func (.func 71) #[] #[]), (1, Value.func (.func 76) #[] #[])], Ent.blk b1 24 (DataSet.enc d)] rfl rfl rfl rfl Try.underlying104 (mapK_i Try.underlying3) rfl rfl ?_)
   refine js_ (Value.func (.func 78) #[] #[Value.pointer (some ⟨b1, 0, none⟩)]) (x_makeFunc rfl rfl) ?_
   refine JO_op rfl trivial (O_insert 0 (f := vI) (k := 0) [(3, Value.func (.func 71) #[] #[]), (1, Value.func (.func 76) #[] #[]), (0, Value.func (.func 78) #[] #[Value.pointer (some ⟨b1, 0, none⟩)])] [Ent.mp vI b6 [(3, Value.func (.func 71) #[] #[]), (1, Value.func (.func 76) #[] #[]), (0, Value.func (.func 78) #[] #[Value.pointer (some ⟨b1, 0, none⟩)])], Ent.blk b1 24 (DataSet.enc d)] rfl rfl rfl rfl Try.underlying104 (mapK_i Try.underlying3) rfl rfl ?_)
   refine jr_ (Value.map (some b6)) ?_
   refine jr_ (Value.map (some b6)) ?_
   refine JO_nil (JX_then (J_ret ?_))
   refine JX_rets [Value.map (some b6)] (Value.map (some b6)) Try.results47 (fun w h => ⟨rfl, trivial⟩) rfl [Ent.mp vI b6 [(3, Value.func (.func 71) #[] #[]), (1, Value.func (.func 76) #[] #[]), (0, Value.func (.func 78) #[] #[Value.pointer (some ⟨b1, 0, none⟩)])], Ent.blk b1 24 (DataSet.enc d)] (fun _ h => h) ⟨b6, b1, ?_, ?_⟩
   ·rfl
   ·rfl
set_option maxRecDepth 20000 in
theorem f24_ok (d : DataSet) (c : Change) (w : World) (q0 : R16.valid d = true) (q1 : c.Record.length ≤ 1000000) (q2 : c.Key.length ≤ 1000000) : Calls Try.prog 24 #[Value.agg ((DataSet.enc d)).toArray, Value.agg ((Change.enc c)).toArray] w (Gives [] w fun v L => v = vB (R27.isChange d c) ∧ L = []) := by
 refine calls_J [] 33 Try.func24 rfl Try.ntmps24 [(0, Value.agg ((DataSet.enc d)).toArray), (1, Value.agg ((Change.enc c)).toArray)] rfl rfl (Give.nil w) ?_
 rcases (R27.kinds d c q0) with hc | hc | hc | hc | hc | hc | hc | hc | hc | hc | hc
 ·refine J_seq (J_region ?_)
  refine JO_op rfl trivial (O_box rfl rfl fun b1 => ?_)
  refine JO_op rfl trivial (O_box rfl rfl fun b2 => ?_)
  refine jr_ (vB false) ?_
  refine JO_nil (JX_then (J_seq ?_))
  refine J_draw [Ent.blk b2 27 (Change.enc c), Ent.blk b1 24 (DataSet.enc d)] [] [Ent.blk b2 27 (Change.enc c), Ent.blk b1 24 (DataSet.enc d)] 10 Ty.mixed rfl ?_
  refine jt_ 0 (Value.agg ((DataSet.enc d)).toArray) rfl (x_loadN 1 (DataSet.enc d) rfl rfl Ty.ag24 Ty.sz24 rfl) ?_
  refine jt_ 2 (Value.pointer (some ⟨b2, 0, none⟩)) rfl (fun _ _ => x_fieldAddr Ty.fi27_0 rfl rfl) ?_
  refine jt_ 3 (vI c.Kind) rfl (x_load 0 rfl rfl Ty.sc3 rfl) ?_
  refine JA_one 1 (by kernel_rfl) (fun _ h => ⟨h, fun _ => h⟩) ?_
  refine JI_call [] [] [Ent.blk b2 27 (Change.enc c), Ent.blk b1 24 (DataSet.enc d)] rfl rfl trivial (fun _ => x_call Ty.ca47 rfl) (fun _ h => h) (fun _ h => by cases h) (fun w hS => f47_ok3 d w hy_) ?_
  rintro _ _ ⟨M3, b4, rfl, rfl⟩
  refine JA_one 4 (by kernel_rfl) (fun _ h => ⟨h.keep [false, false, true, true] rfl, fun _ => h.keep [false, false, true, true] rfl⟩) ?_
  refine JI_read (Value.tuple #[Value.func (.func 71) #[] #[], vB true]) rfl rfl trivial (x_lookup_ok 0 (f := vI) (k := c.Kind) rfl rfl rfl Try.underlying104 (mapK_i Try.underlying3) Ty.ze102 (lk_hit (by omega))) ?_
  refine jt_ 5 (Value.tuple #[Value.func (.func 71) #[] #[], vB true]) rfl (fun _ _ => rfl) ?_
  refine jt_ 6 (Value.func (.func 71) #[] #[]) rfl (fun _ _ => rfl) ?_
  refine jt_ 7 (vB true) rfl (fun _ _ => rfl) ?_
  refine jt_ 8 (Value.func (.func 71) #[] #[]) rfl (fun _ _ => rfl) ?_
  refine jt_ 9 (vB true) rfl (fun _ _ => rfl) ?_
  refine JA_done (by kernel_rfl) (fun _ h => ⟨h.keep [false, false, true, true] rfl, fun _ => h.keep [false, false, true, true] rfl⟩) ?_
  refine JX_then (J_seq (J_region ?_))
  refine jr_ (vB true) ?_
  refine jr_ (vB true) ?_
  refine jg_ rfl (Value.pointer (some ⟨b2, 1, none⟩)) (x_fieldAddr Ty.fi27_1 rfl rfl) ?_
  refine JO_read (vI c.Id) rfl ⟨_, rfl, rfl⟩ (x_load 2 rfl rfl Ty.sc3 rfl) ?_
  refine jg_ rfl (Value.pointer (some ⟨b1, 0, none⟩)) (x_fieldAddr Ty.fi24_0 rfl rfl) ?_
  refine JO_read (vI d.Id) rfl ⟨_, rfl, rfl⟩ (x_load 3 rfl rfl Ty.sc3 rfl) ?_
  refine jg_ rfl (vB (decide (c.Id = d.Id))) (x_eql_i rfl rfl) ?_
  refine jr_ (vB (decide (c.Id = d.Id))) ?_
  refine jr_ (vB (decide (c.Id = d.Id))) ?_
  refine JO_cut 4 (fun z => z = ((decide (c.Id = d.Id)) && (decide (c.Volume = ([] : Bytes))))) (fun z => [(3, Value.pointer (some ⟨b2, 0, none⟩)), (4, vB false), (5, Value.func (.func 71) #[] #[]), (27, vB z)]) (fun _ => [Ent.mp vI M3 [(3, Value.func (.func 71) #[] #[]), (1, Value.func (.func 72) #[] #[Value.pointer (some ⟨b4, 0, none⟩)]), (0, Value.func (.func 73) #[] #[Value.pointer (some ⟨b4, 0, none⟩)])], Ent.blk b4 24 (DataSet.enc d), Ent.blk b2 27 (Change.enc c), Ent.blk b1 24 (DataSet.enc d)]) ?_ ?_
  ·rcases Bool.eq_false_or_eq_true (decide (c.Id = d.Id)) with g6 | g6
   ·have g6r := g6
    have g6r := of_decide_eq_true g6r
    refine jg_ g6 (Value.pointer (some ⟨b2, 4, none⟩)) (x_fieldAddr Ty.fi27_4 rfl rfl) ?_
    refine JO_read (vS c.Volume) rfl ⟨_, rfl, g6⟩ (x_load 2 rfl rfl Ty.sc9 rfl) ?_
    refine jg_ g6 (vB (decide (c.Volume = ([] : Bytes)))) (x_eql_s rfl rfl) ?_
    refine js_ (vB (decide (c.Volume = ([] : Bytes)))) (x_pick_t rfl g6 rfl) ?_
    refine JO_nil (JX_cut (decide (c.Volume = ([] : Bytes))) (by rw [g6]; simp) ⟨rfl, rfl, rfl, rfl, trivial⟩ (fun _ h => h))
   ·have g6r := g6
    have g6r := of_decide_eq_false g6r
    refine sh_ g6 ?_
    refine sh_ g6 ?_
    refine sh_ g6 ?_
    refine js_ (vB false) (x_pick_f rfl g6 rfl) ?_
    refine JO_nil (JX_cut (false) (by rw [g6]; simp) ⟨rfl, rfl, rfl, rfl, trivial⟩ (fun _ h => h))
  rintro z5 rfl
  refine jr_ (vB ((decide (c.Id = d.Id)) && (decide (c.Volume = ([] : Bytes))))) ?_
  refine JO_cut 4 (fun z => z = (((decide (c.Id = d.Id)) && (decide (c.Volume = ([] : Bytes)))) && (R27.ck1 c))) (fun z => [(4, vB false), (32, vB z)]) (fun _ => [Ent.mp vI M3 [(3, Value.func (.func 71) #[] #[]), (1, Value.func (.func 72) #[] #[Value.pointer (some ⟨b4, 0, none⟩)]), (0, Value.func (.func 73) #[] #[Value.pointer (some ⟨b4, 0, none⟩)])], Ent.blk b4 24 (DataSet.enc d), Ent.blk b2 27 (Change.enc c), Ent.blk b1 24 (DataSet.enc d)]) ?_ ?_
  ·rcases Bool.eq_false_or_eq_true ((decide (c.Id = d.Id)) && (decide (c.Volume = ([] : Bytes)))) with g8 | g8
   ·have g8r := g8
    have ⟨g8r, h9⟩ := band_true g8r
    have g8r := of_decide_eq_true g8r
    have h9 := of_decide_eq_true h9
    refine jg_ g8 (Value.func (.func 71) #[] #[]) (rfl) ?_
    refine JO_read (Value.agg ((Change.enc c)).toArray) rfl ⟨_, rfl, g8⟩ (x_loadN 2 (Change.enc c) rfl rfl Ty.ag27 Ty.sz27 rfl) ?_
    refine JO_call [] [] [Ent.mp vI M3 [(3, Value.func (.func 71) #[] #[]), (1, Value.func (.func 72) #[] #[Value.pointer (some ⟨b4, 0, none⟩)]), (0, Value.func (.func 73) #[] #[Value.pointer (some ⟨b4, 0, none⟩)])], Ent.blk b4 24 (DataSet.enc d), Ent.blk b2 27 (Change.enc c), Ent.blk b1 24 (DataSet.enc d)] rfl ⟨_, rfl, g8⟩ (fun _ => x_callv (first := []) (caps := []) rfl Ty.ca71 rfl) (fun _ h => h) (fun _ h => by cases h) (fun w hS => f71_ok c w) ?_
    rintro _ _ ⟨rfl, rfl⟩
    refine js_ (vB (R27.ck1 c)) (x_pick_t rfl g8 rfl) ?_
    refine JO_nil (JX_cut (R27.ck1 c) (by rw [g8]; simp) ⟨rfl, rfl, trivial⟩ (fun _ h => h))
   ·have g8r := g8
    simp only [Bool.and_eq_true, Bool.or_eq_true, Bool.and_eq_false_iff, Bool.or_eq_false_iff, Bool.not_eq_true', Bool.not_eq_false', decide_eq_true_eq, decide_eq_false_iff_not] at g8r
    refine sh_ g8 ?_
    refine sh_ g8 ?_
    refine sh_ g8 ?_
    refine js_ (vB false) (x_pick_f rfl g8 rfl) ?_
    refine JO_nil (JX_cut (false) (by rw [g8]; simp) ⟨rfl, rfl, trivial⟩ (fun _ h => h))
  rintro z7 rfl
  refine jr_ (vB (((decide (c.Id = d.Id)) && (decide (c.Volume = ([] : Bytes)))) && (R27.ck1 c))) ?_
  refine JO_nil (JX_then (J_ret ?_))
  refine JX_rets [vB (((decide (c.Id = d.Id)) && (decide (c.Volume = ([] : Bytes)))) && (R27.ck1 c))] (vB (((decide (c.Id = d.Id)) && (decide (c.Volume = ([] : Bytes)))) && (R27.ck1 c))) Try.results24 (fun w h => ⟨rfl, trivial⟩) rfl [] (fun _ h => h.keep [false, false, false, false] rfl) ⟨?_, ?_⟩
  ·have e_x0 : (((decide (c.Id = d.Id)) && (decide (c.Volume = ([] : Bytes)))) && (R27.ck1 c) : Bool) = (R27.isChange d c) := by first | (simp [R27.isChange, R27.kindOk, hc]; done) | (simp [R27.isChange, R27.kindOk, hc, *]; done)
   exact congrArg (fun (x0 : Bool) => vB x0) e_x0
  ·rfl
 ·refine J_seq (J_region ?_)
  refine JO_op rfl trivial (O_box rfl rfl fun b10 => ?_)
  refine JO_op rfl trivial (O_box rfl rfl fun b11 => ?_)
  refine jr_ (vB false) ?_
  refine JO_nil (JX_then (J_seq ?_))
  refine J_draw [Ent.blk b11 27 (Change.enc c), Ent.blk b10 24 (DataSet.enc d)] [] [Ent.blk b11 27 (Change.enc c), Ent.blk b10 24 (DataSet.enc d)] 10 Ty.mixed rfl ?_
  refine jt_ 0 (Value.agg ((DataSet.enc d)).toArray) rfl (x_loadN 1 (DataSet.enc d) rfl rfl Ty.ag24 Ty.sz24 rfl) ?_
  refine jt_ 2 (Value.pointer (some ⟨b11, 0, none⟩)) rfl (fun _ _ => x_fieldAddr Ty.fi27_0 rfl rfl) ?_
  refine jt_ 3 (vI c.Kind) rfl (x_load 0 rfl rfl Ty.sc3 rfl) ?_
  refine JA_one 1 (by kernel_rfl) (fun _ h => ⟨h, fun _ => h⟩) ?_
  refine JI_call [] [] [Ent.blk b11 27 (Change.enc c), Ent.blk b10 24 (DataSet.enc d)] rfl rfl trivial (fun _ => x_call Ty.ca47 rfl) (fun _ h => h) (fun _ h => by cases h) (fun w hS => f47_ok3 d w hy_) ?_
  rintro _ _ ⟨M12, b13, rfl, rfl⟩
  refine JA_one 4 (by kernel_rfl) (fun _ h => ⟨h.keep [false, false, true, true] rfl, fun _ => h.keep [false, false, true, true] rfl⟩) ?_
  refine JI_read (Value.tuple #[Value.func (.func 72) #[] #[Value.pointer (some ⟨b13, 0, none⟩)], vB true]) rfl rfl trivial (x_lookup_ok 0 (f := vI) (k := c.Kind) rfl rfl rfl Try.underlying104 (mapK_i Try.underlying3) Ty.ze102 (lk_ne (by omega) (lk_hit (by omega)))) ?_
  refine jt_ 5 (Value.tuple #[Value.func (.func 72) #[] #[Value.pointer (some ⟨b13, 0, none⟩)], vB true]) rfl (fun _ _ => rfl) ?_
  refine jt_ 6 (Value.func (.func 72) #[] #[Value.pointer (some ⟨b13, 0, none⟩)]) rfl (fun _ _ => rfl) ?_
  refine jt_ 7 (vB true) rfl (fun _ _ => rfl) ?_
  refine jt_ 8 (Value.func (.func 72) #[] #[Value.pointer (some ⟨b13, 0, none⟩)]) rfl (fun _ _ => rfl) ?_
  refine jt_ 9 (vB true) rfl (fun _ _ => rfl) ?_
  refine JA_done (by kernel_rfl) (fun _ h => ⟨h.keep [false, false, true, true] rfl, fun _ => h.keep [false, false, true, true] rfl⟩) ?_
  refine JX_then (J_seq (J_region ?_))
  refine jr_ (vB true) ?_
  refine jr_ (vB true) ?_
  refine jg_ rfl (Value.pointer (some ⟨b11, 1, none⟩)) (x_fieldAddr Ty.fi27_1 rfl rfl) ?_
  refine JO_read (vI c.Id) rfl ⟨_, rfl, rfl⟩ (x_load 2 rfl rfl Ty.sc3 rfl) ?_
  refine jg_ rfl (Value.pointer (some ⟨b10, 0, none⟩)) (x_fieldAddr Ty.fi24_0 rfl rfl) ?_
  refine JO_read (vI d.Id) rfl ⟨_, rfl, rfl⟩ (x_load 3 rfl rfl Ty.sc3 rfl) ?_
  refine jg_ rfl (vB (decide (c.Id = d.Id))) (x_eql_i rfl rfl) ?_
  refine jr_ (vB (decide (c.Id = d.Id))) ?_
  refine jr_ (vB (decide (c.Id = d.Id))) ?_
  refine JO_cut 4 (fun z => z = ((decide (c.Id = d.Id)) && (decide (c.Volume = ([] : Bytes))))) (fun z => [(3, Value.pointer (some ⟨b11, 0, none⟩)), (4, vB false), (5, Value.func (.func 72) #[] #[Value.pointer (some ⟨b13, 0, none⟩)]), (27, vB z)]) (fun _ => [Ent.mp vI M12 [(3, Value.func (.func 71) #[] #[]), (1, Value.func (.func 72) #[] #[Value.pointer (some ⟨b13, 0, none⟩)]), (0, Value.func (.func 73) #[] #[Value.pointer (some ⟨b13, 0, none⟩)])], Ent.blk b13 24 (DataSet.enc d), Ent.blk b11 27 (Change.enc c), Ent.blk b10 24 (DataSet.enc d)]) ?_ ?_
  ·rcases Bool.eq_false_or_eq_true (decide (c.Id = d.Id)) with g15 | g15
   ·have g15r := g15
    have g15r := of_decide_eq_true g15r
    refine jg_ g15 (Value.pointer (some ⟨b11, 4, none⟩)) (x_fieldAddr Ty.fi27_4 rfl rfl) ?_
    refine JO_read (vS c.Volume) rfl ⟨_, rfl, g15⟩ (x_load 2 rfl rfl Ty.sc9 rfl) ?_
    refine jg_ g15 (vB (decide (c.Volume = ([] : Bytes)))) (x_eql_s rfl rfl) ?_
    refine js_ (vB (decide (c.Volume = ([] : Bytes)))) (x_pick_t rfl g15 rfl) ?_
    refine JO_nil (JX_cut (decide (c.Volume = ([] : Bytes))) (by rw [g15]; simp) ⟨rfl, rfl, rfl, rfl, trivial⟩ (fun _ h => h))
   ·have g15r := g15
    have g15r := of_decide_eq_false g15r
    refine sh_ g15 ?_
    refine sh_ g15 ?_
    refine sh_ g15 ?_
    refine js_ (vB false) (x_pick_f rfl g15 rfl) ?_
    refine JO_nil (JX_cut (false) (by rw [g15]; simp) ⟨rfl, rfl, rfl, rfl, trivial⟩ (fun _ h => h))
  rintro z14 rfl
  refine jr_ (vB ((decide (c.Id = d.Id)) && (decide (c.Volume = ([] : Bytes))))) ?_
  refine JO_cut 4 (fun z => z = (((decide (c.Id = d.Id)) && (decide (c.Volume = ([] : Bytes)))) && (R27.ck2 d c))) (fun z => [(4, vB false), (32, vB z)]) (fun _ => [Ent.blk b13 24 (DataSet.enc d), Ent.mp vI M12 [(3, Value.func (.func 71) #[] #[]), (1, Value.func (.func 72) #[] #[Value.pointer (some ⟨b13, 0, none⟩)]), (0, Value.func (.func 73) #[] #[Value.pointer (some ⟨b13, 0, none⟩)])], Ent.blk b11 27 (Change.enc c), Ent.blk b10 24 (DataSet.enc d)]) ?_ ?_
  ·rcases Bool.eq_false_or_eq_true ((decide (c.Id = d.Id)) && (decide (c.Volume = ([] : Bytes)))) with g17 | g17
   ·have g17r := g17
    have ⟨g17r, h18⟩ := band_true g17r
    have g17r := of_decide_eq_true g17r
    have h18 := of_decide_eq_true h18
    refine jg_ g17 (Value.func (.func 72) #[] #[Value.pointer (some ⟨b13, 0, none⟩)]) (rfl) ?_
    refine JO_read (Value.agg ((Change.enc c)).toArray) rfl ⟨_, rfl, g17⟩ (x_loadN 2 (Change.enc c) rfl rfl Ty.ag27 Ty.sz27 rfl) ?_
    refine JO_call [b13] [Ent.blk b13 24 (DataSet.enc d)] [Ent.mp vI M12 [(3, Value.func (.func 71) #[] #[]), (1, Value.func (.func 72) #[] #[Value.pointer (some ⟨b13, 0, none⟩)]), (0, Value.func (.func 73) #[] #[Value.pointer (some ⟨b13, 0, none⟩)])], Ent.blk b11 27 (Change.enc c), Ent.blk b10 24 (DataSet.enc d)] rfl ⟨_, rfl, g17⟩ (fun _ => x_callv (first := []) (caps := [Value.pointer (some ⟨b13, 0, none⟩)]) rfl Ty.ca72 rfl) (fun _ h => ((((h.front 3 _ rfl).front 3 _ rfl).front 2 _ rfl).front 3 _ rfl).keep [true, true, true, true] rfl) (own_mem rfl) (fun w hS => f72_ok c b13 d w  (hS.give (own_in rfl))) ?_
    rintro _ _ ⟨rfl, rfl⟩
    refine js_ (vB (R27.ck2 d c)) (x_pick_t rfl g17 rfl) ?_
    refine JO_nil (JX_cut (R27.ck2 d c) (by rw [g17]; simp) ⟨rfl, rfl, trivial⟩ (fun _ h => h))
   ·have g17r := g17
    simp only [Bool.and_eq_true, Bool.or_eq_true, Bool.and_eq_false_iff, Bool.or_eq_false_iff, Bool.not_eq_true', Bool.not_eq_false', decide_eq_true_eq, decide_eq_false_iff_not] at g17r
    refine sh_ g17 ?_
    refine sh_ g17 ?_
    refine sh_ g17 ?_
    refine js_ (vB false) (x_pick_f rfl g17 rfl) ?_
    refine JO_nil (JX_cut (false) (by rw [g17]; simp) ⟨rfl, rfl, trivial⟩ (fun _ h => ((((h.front 3 _ rfl).front 3 _ rfl).front 2 _ rfl).front 3 _ rfl).keep [true, true, true, true] rfl))
  rintro z16 rfl
  refine jr_ (vB (((decide (c.Id = d.Id)) && (decide (c.Volume = ([] : Bytes)))) && (R27.ck2 d c))) ?_
  refine JO_nil (JX_then (J_ret ?_))
  refine JX_rets [vB (((decide (c.Id = d.Id)) && (decide (c.Volume = ([] : Bytes)))) && (R27.ck2 d c))] (vB (((decide (c.Id = d.Id)) && (decide (c.Volume = ([] : Bytes)))) && (R27.ck2 d c))) Try.results24 (fun w h => ⟨rfl, trivial⟩) rfl [] (fun _ h => h.keep [false, false, false, false] rfl) ⟨?_, ?_⟩
  ·have e_x0 : (((decide (c.Id = d.Id)) && (decide (c.Volume = ([] : Bytes)))) && (R27.ck2 d c) : Bool) = (R27.isChange d c) := by first | (simp [R27.isChange, R27.kindOk, hc]; done) | (simp [R27.isChange, R27.kindOk, hc, *]; done)
   exact congrArg (fun (x0 : Bool) => vB x0) e_x0
  ·rfl
 ·refine J_seq (J_region ?_)
  refine JO_op rfl trivial (O_box rfl rfl fun b19 => ?_)
  refine JO_op rfl trivial (O_box rfl rfl fun b20 => ?_)
  refine jr_ (vB false) ?_
  refine JO_nil (JX_then (J_seq ?_))
  refine J_draw [Ent.blk b20 27 (Change.enc c), Ent.blk b19 24 (DataSet.enc d)] [] [Ent.blk b20 27 (Change.enc c), Ent.blk b19 24 (DataSet.enc d)] 10 Ty.mixed rfl ?_
  refine jt_ 0 (Value.agg ((DataSet.enc d)).toArray) rfl (x_loadN 1 (DataSet.enc d) rfl rfl Ty.ag24 Ty.sz24 rfl) ?_
  refine jt_ 2 (Value.pointer (some ⟨b20, 0, none⟩)) rfl (fun _ _ => x_fieldAddr Ty.fi27_0 rfl rfl) ?_
  refine jt_ 3 (vI c.Kind) rfl (x_load 0 rfl rfl Ty.sc3 rfl) ?_
  refine JA_one 1 (by kernel_rfl) (fun _ h => ⟨h, fun _ => h⟩) ?_
  refine JI_call [] [] [Ent.blk b20 27 (Change.enc c), Ent.blk b19 24 (DataSet.enc d)] rfl rfl trivial (fun _ => x_call Ty.ca47 rfl) (fun _ h => h) (fun _ h => by cases h) (fun w hS => f47_ok3 d w hy_) ?_
  rintro _ _ ⟨M21, b22, rfl, rfl⟩
  refine JA_one 4 (by kernel_rfl) (fun _ h => ⟨h.keep [false, false, true, true] rfl, fun _ => h.keep [false, false, true, true] rfl⟩) ?_
  refine JI_read (Value.tuple #[Value.func (.func 73) #[] #[Value.pointer (some ⟨b22, 0, none⟩)], vB true]) rfl rfl trivial (x_lookup_ok 0 (f := vI) (k := c.Kind) rfl rfl rfl Try.underlying104 (mapK_i Try.underlying3) Ty.ze102 (lk_ne (by omega) (lk_ne (by omega) (lk_hit (by omega))))) ?_
  refine jt_ 5 (Value.tuple #[Value.func (.func 73) #[] #[Value.pointer (some ⟨b22, 0, none⟩)], vB true]) rfl (fun _ _ => rfl) ?_
  refine jt_ 6 (Value.func (.func 73) #[] #[Value.pointer (some ⟨b22, 0, none⟩)]) rfl (fun _ _ => rfl) ?_
  refine jt_ 7 (vB true) rfl (fun _ _ => rfl) ?_
  refine jt_ 8 (Value.func (.func 73) #[] #[Value.pointer (some ⟨b22, 0, none⟩)]) rfl (fun _ _ => rfl) ?_
  refine jt_ 9 (vB true) rfl (fun _ _ => rfl) ?_
  refine JA_done (by kernel_rfl) (fun _ h => ⟨h.keep [false, false, true, true] rfl, fun _ => h.keep [false, false, true, true] rfl⟩) ?_
  refine JX_then (J_seq (J_region ?_))
  refine jr_ (vB true) ?_
  refine jr_ (vB true) ?_
  refine jg_ rfl (Value.pointer (some ⟨b20, 1, none⟩)) (x_fieldAddr Ty.fi27_1 rfl rfl) ?_
  refine JO_read (vI c.Id) rfl ⟨_, rfl, rfl⟩ (x_load 2 rfl rfl Ty.sc3 rfl) ?_
  refine jg_ rfl (Value.pointer (some ⟨b19, 0, none⟩)) (x_fieldAddr Ty.fi24_0 rfl rfl) ?_
  refine JO_read (vI d.Id) rfl ⟨_, rfl, rfl⟩ (x_load 3 rfl rfl Ty.sc3 rfl) ?_
  refine jg_ rfl (vB (decide (c.Id = d.Id))) (x_eql_i rfl rfl) ?_
  refine jr_ (vB (decide (c.Id = d.Id))) ?_
  refine jr_ (vB (decide (c.Id = d.Id))) ?_
  refine JO_cut 4 (fun z => z = ((decide (c.Id = d.Id)) && (decide (c.Volume = ([] : Bytes))))) (fun z => [(3, Value.pointer (some ⟨b20, 0, none⟩)), (4, vB false), (5, Value.func (.func 73) #[] #[Value.pointer (some ⟨b22, 0, none⟩)]), (27, vB z)]) (fun _ => [Ent.mp vI M21 [(3, Value.func (.func 71) #[] #[]), (1, Value.func (.func 72) #[] #[Value.pointer (some ⟨b22, 0, none⟩)]), (0, Value.func (.func 73) #[] #[Value.pointer (some ⟨b22, 0, none⟩)])], Ent.blk b22 24 (DataSet.enc d), Ent.blk b20 27 (Change.enc c), Ent.blk b19 24 (DataSet.enc d)]) ?_ ?_
  ·rcases Bool.eq_false_or_eq_true (decide (c.Id = d.Id)) with g24 | g24
   ·have g24r := g24
    have g24r := of_decide_eq_true g24r
    refine jg_ g24 (Value.pointer (some ⟨b20, 4, none⟩)) (x_fieldAddr Ty.fi27_4 rfl rfl) ?_
    refine JO_read (vS c.Volume) rfl ⟨_, rfl, g24⟩ (x_load 2 rfl rfl Ty.sc9 rfl) ?_
    refine jg_ g24 (vB (decide (c.Volume = ([] : Bytes)))) (x_eql_s rfl rfl) ?_
    refine js_ (vB (decide (c.Volume = ([] : Bytes)))) (x_pick_t rfl g24 rfl) ?_
    refine JO_nil (JX_cut (decide (c.Volume = ([] : Bytes))) (by rw [g24]; simp) ⟨rfl, rfl, rfl, rfl, trivial⟩ (fun _ h => h))
   ·have g24r := g24
    have g24r := of_decide_eq_false g24r
    refine sh_ g24 ?_
    refine sh_ g24 ?_
    refine sh_ g24 ?_
    refine js_ (vB false) (x_pick_f rfl g24 rfl) ?_
    refine JO_nil (JX_cut (false) (by rw [g24]; simp) ⟨rfl, rfl, rfl, rfl, trivial⟩ (fun _ h => h))
  rintro z23 rfl
  refine jr_ (vB ((decide (c.Id = d.Id)) && (decide (c.Volume = ([] : Bytes))))) ?_
  refine JO_cut 4 (fun z => z = (((decide (c.Id = d.Id)) && (decide (c.Volume = ([] : Bytes)))) && (R27.ck3 d c))) (fun z => [(4, vB false), (32, vB z)]) (fun _ => [Ent.blk b22 24 (DataSet.enc d), Ent.mp vI M21 [(3, Value.func (.func 71) #[] #[]), (1, Value.func (.func 72) #[] #[Value.pointer (some ⟨b22, 0, none⟩)]), (0, Value.func (.func 73) #[] #[Value.pointer (some ⟨b22, 0, none⟩)])], Ent.blk b20 27 (Change.enc c), Ent.blk b19 24 (DataSet.enc d)]) ?_ ?_
  ·rcases Bool.eq_false_or_eq_true ((decide (c.Id = d.Id)) && (decide (c.Volume = ([] : Bytes)))) with g26 | g26
   ·have g26r := g26
    have ⟨g26r, h27⟩ := band_true g26r
    have g26r := of_decide_eq_true g26r
    have h27 := of_decide_eq_true h27
    refine jg_ g26 (Value.func (.func 73) #[] #[Value.pointer (some ⟨b22, 0, none⟩)]) (rfl) ?_
    refine JO_read (Value.agg ((Change.enc c)).toArray) rfl ⟨_, rfl, g26⟩ (x_loadN 2 (Change.enc c) rfl rfl Ty.ag27 Ty.sz27 rfl) ?_
    refine JO_call [b22] [Ent.blk b22 24 (DataSet.enc d)] [Ent.mp vI M21 [(3, Value.func (.func 71) #[] #[]), (1, Value.func (.func 72) #[] #[Value.pointer (some ⟨b22, 0, none⟩)]), (0, Value.func (.func 73) #[] #[Value.pointer (some ⟨b22, 0, none⟩)])], Ent.blk b20 27 (Change.enc c), Ent.blk b19 24 (DataSet.enc d)] rfl ⟨_, rfl, g26⟩ (fun _ => x_callv (first := []) (caps := [Value.pointer (some ⟨b22, 0, none⟩)]) rfl Ty.ca73 rfl) (fun _ h => ((((h.front 3 _ rfl).front 3 _ rfl).front 2 _ rfl).front 3 _ rfl).keep [true, true, true, true] rfl) (own_mem rfl) (fun w hS => f73_ok c b22 d w hy_ (hS.give (own_in rfl))) ?_
    rintro _ _ ⟨rfl, rfl⟩
    refine js_ (vB (R27.ck3 d c)) (x_pick_t rfl g26 rfl) ?_
    refine JO_nil (JX_cut (R27.ck3 d c) (by rw [g26]; simp) ⟨rfl, rfl, trivial⟩ (fun _ h => h))
   ·have g26r := g26
    simp only [Bool.and_eq_true, Bool.or_eq_true, Bool.and_eq_false_iff, Bool.or_eq_false_iff, Bool.not_eq_true', Bool.not_eq_false', decide_eq_true_eq, decide_eq_false_iff_not] at g26r
    refine sh_ g26 ?_
    refine sh_ g26 ?_
    refine sh_ g26 ?_
    refine js_ (vB false) (x_pick_f rfl g26 rfl) ?_
    refine JO_nil (JX_cut (false) (by rw [g26]; simp) ⟨rfl, rfl, trivial⟩ (fun _ h => ((((h.front 3 _ rfl).front 3 _ rfl).front 2 _ rfl).front 3 _ rfl).keep [true, true, true, true] rfl))
  rintro z25 rfl
  refine jr_ (vB (((decide (c.Id = d.Id)) && (decide (c.Volume = ([] : Bytes)))) && (R27.ck3 d c))) ?_
  refine JO_nil (JX_then (J_ret ?_))
  refine JX_rets [vB (((decide (c.Id = d.Id)) && (decide (c.Volume = ([] : Bytes)))) && (R27.ck3 d c))] (vB (((decide (c.Id = d.Id)) && (decide (c.Volume = ([] : Bytes)))) && (R27.ck3 d c))) Try.results24 (fun w h => ⟨rfl, trivial⟩) rfl [] (fun _ h => h.keep [false, false, false, false] rfl) ⟨?_, ?_⟩
  ·have e_x0 : (((decide (c.Id = d.Id)) && (decide (c.Volume = ([] : Bytes)))) && (R27.ck3 d c) : Bool) = (R27.isChange d c) := by first | (simp [R27.isChange, R27.kindOk, hc]; done) | (simp [R27.isChange, R27.kindOk, hc, *]; done)
   exact congrArg (fun (x0 : Bool) => vB x0) e_x0
  ·rfl
 ·refine J_seq (J_region ?_)
  refine JO_op rfl trivial (O_box rfl rfl fun b28 => ?_)
  refine JO_op rfl trivial (O_box rfl rfl fun b29 => ?_)
  refine jr_ (vB false) ?_
  refine JO_nil (JX_then (J_seq ?_))
  refine J_draw [Ent.blk b29 27 (Change.enc c), Ent.blk b28 24 (DataSet.enc d)] [] [Ent.blk b29 27 (Change.enc c), Ent.blk b28 24 (DataSet.enc d)] 10 Ty.mixed rfl ?_
  refine jt_ 0 (Value.agg ((DataSet.enc d)).toArray) rfl (x_loadN 1 (DataSet.enc d) rfl rfl Ty.ag24 Ty.sz24 rfl) ?_
  refine jt_ 2 (Value.pointer (some ⟨b29, 0, none⟩)) rfl (fun _ _ => x_fieldAddr Ty.fi27_0 rfl rfl) ?_
  refine jt_ 3 (vI c.Kind) rfl (x_load 0 rfl rfl Ty.sc3 rfl) ?_
  refine JA_one 1 (by kernel_rfl) (fun _ h => ⟨h, fun _ => h⟩) ?_
  refine JI_call [] [] [Ent.blk b29 27 (Change.enc c), Ent.blk b28 24 (DataSet.enc d)] rfl rfl trivial (fun _ => x_call Ty.ca47 rfl) (fun _ h => h) (fun _ h => by cases h) (fun w hS => f47_ok3 d w hy_) ?_
  rintro _ _ ⟨M30, b31, rfl, rfl⟩
  refine JA_one 4 (by kernel_rfl) (fun _ h => ⟨h.keep [false, false, true, true] rfl, fun _ => h.keep [false, false, true, true] rfl⟩) ?_
  refine JI_read (Value.tuple #[Value.nilFunc, vB false]) rfl rfl trivial (x_lookup_ok 0 (f := vI) (k := c.Kind) rfl rfl rfl Try.underlying104 (mapK_i Try.underlying3) Ty.ze102 (lk_ne (by omega) (lk_ne (by omega) (lk_ne (by omega) lk_nil)))) ?_
  refine jt_ 5 (Value.tuple #[Value.nilFunc, vB false]) rfl (fun _ _ => rfl) ?_
  refine jt_ 6 (Value.nilFunc) rfl (fun _ _ => rfl) ?_
  refine jt_ 7 (vB false) rfl (fun _ _ => rfl) ?_
  refine jt_ 8 (Value.nilFunc) rfl (fun _ _ => rfl) ?_
  refine jt_ 9 (vB false) rfl (fun _ _ => rfl) ?_
  refine JA_done (by kernel_rfl) (fun _ h => ⟨h.keep [false, false, true, true] rfl, fun _ => h.keep [false, false, true, true] rfl⟩) ?_
  refine JX_then (J_seq (J_region ?_))
  refine jr_ (vB false) ?_
  refine jr_ (vB false) ?_
  refine sh_ rfl ?_
  refine sh_ rfl ?_
  refine sh_ rfl ?_
  refine sh_ rfl ?_
  refine sh_ rfl ?_
  refine jr_ (vB false) ?_
  refine jr_ (vB false) ?_
  refine sh_ rfl ?_
  refine sh_ rfl ?_
  refine sh_ rfl ?_
  refine jr_ (vB false) ?_
  refine jr_ (vB false) ?_
  refine sh_ rfl ?_
  refine sh_ rfl ?_
  refine sh_ rfl ?_
  refine jr_ (vB false) ?_
  refine jr_ (vB false) ?_
  refine JO_nil (JX_then (J_ret ?_))
  refine JX_rets [vB false] (vB false) Try.results24 (fun w h => ⟨rfl, trivial⟩) rfl [] (fun _ h => h.keep [false, false, false, false] rfl) ⟨?_, ?_⟩
  ·have e_x0 : (false : Bool) = (R27.isChange d c) := by first | (simp [R27.isChange, R27.kindOk, hc]; done) | (simp [R27.isChange, R27.kindOk, hc, *]; done)
   exact congrArg (fun (x0 : Bool) => vB x0) e_x0
  ·rfl
 ·refine J_seq (J_region ?_)
  refine JO_op rfl trivial (O_box rfl rfl fun b32 => ?_)
  refine JO_op rfl trivial (O_box rfl rfl fun b33 => ?_)
  refine jr_ (vB false) ?_
  refine JO_nil (JX_then (J_seq ?_))
  refine J_draw [Ent.blk b33 27 (Change.enc c), Ent.blk b32 24 (DataSet.enc d)] [] [Ent.blk b33 27 (Change.enc c), Ent.blk b32 24 (DataSet.enc d)] 10 Ty.mixed rfl ?_
  refine jt_ 0 (Value.agg ((DataSet.enc d)).toArray) rfl (x_loadN 1 (DataSet.enc d) rfl rfl Ty.ag24 Ty.sz24 rfl) ?_
  refine jt_ 2 (Value.pointer (some ⟨b33, 0, none⟩)) rfl (fun _ _ => x_fieldAddr Ty.fi27_0 rfl rfl) ?_
  refine jt_ 3 (vI c.Kind) rfl (x_load 0 rfl rfl Ty.sc3 rfl) ?_
  refine JA_one 1 (by kernel_rfl) (fun _ h => ⟨h, fun _ => h⟩) ?_
  refine JI_call [] [] [Ent.blk b33 27 (Change.enc c), Ent.blk b32 24 (DataSet.enc d)] rfl rfl trivial (fun _ => x_call Ty.ca47 rfl) (fun _ h => h) (fun _ h => by cases h) (fun w hS => f47_ok1 d w hy_) ?_
  rintro _ _ ⟨M34, b35, rfl, rfl⟩
  refine JA_one 4 (by kernel_rfl) (fun _ h => ⟨h.keep [false, false, true, true] rfl, fun _ => h.keep [false, false, true, true] rfl⟩) ?_
  refine JI_read (Value.tuple #[Value.func (.func 71) #[] #[], vB true]) rfl rfl trivial (x_lookup_ok 0 (f := vI) (k := c.Kind) rfl rfl rfl Try.underlying104 (mapK_i Try.underlying3) Ty.ze102 (lk_hit (by omega))) ?_
  refine jt_ 5 (Value.tuple #[Value.func (.func 71) #[] #[], vB true]) rfl (fun _ _ => rfl) ?_
  refine jt_ 6 (Value.func (.func 71) #[] #[]) rfl (fun _ _ => rfl) ?_
  refine jt_ 7 (vB true) rfl (fun _ _ => rfl) ?_
  refine jt_ 8 (Value.func (.func 71) #[] #[]) rfl (fun _ _ => rfl) ?_
  refine jt_ 9 (vB true) rfl (fun _ _ => rfl) ?_
  refine JA_done (by kernel_rfl) (fun _ h => ⟨h.keep [false, false, true, true] rfl, fun _ => h.keep [false, false, true, true] rfl⟩) ?_
  refine JX_then (J_seq (J_region ?_))
  refine jr_ (vB true) ?_
  refine jr_ (vB true) ?_
  refine jg_ rfl (Value.pointer (some ⟨b33, 1, none⟩)) (x_fieldAddr Ty.fi27_1 rfl rfl) ?_
  refine JO_read (vI c.Id) rfl ⟨_, rfl, rfl⟩ (x_load 2 rfl rfl Ty.sc3 rfl) ?_
  refine jg_ rfl (Value.pointer (some ⟨b32, 0, none⟩)) (x_fieldAddr Ty.fi24_0 rfl rfl) ?_
  refine JO_read (vI d.Id) rfl ⟨_, rfl, rfl⟩ (x_load 3 rfl rfl Ty.sc3 rfl) ?_
  refine jg_ rfl (vB (decide (c.Id = d.Id))) (x_eql_i rfl rfl) ?_
  refine jr_ (vB (decide (c.Id = d.Id))) ?_
  refine jr_ (vB (decide (c.Id = d.Id))) ?_
  refine JO_cut 4 (fun z => z = ((decide (c.Id = d.Id)) && (decide (c.Volume = ([] : Bytes))))) (fun z => [(3, Value.pointer (some ⟨b33, 0, none⟩)), (4, vB false), (5, Value.func (.func 71) #[] #[]), (27, vB z)]) (fun _ => [Ent.mp vI M34 [(3, Value.func (.func 71) #[] #[]), (2, Value.func (.func 75) #[] #[Value.pointer (some ⟨b35, 0, none⟩)])], Ent.blk b35 24 (DataSet.enc d), Ent.blk b33 27 (Change.enc c), Ent.blk b32 24 (DataSet.enc d)]) ?_ ?_
  ·rcases Bool.eq_false_or_eq_true (decide (c.Id = d.Id)) with g37 | g37
   ·have g37r := g37
    have g37r := of_decide_eq_true g37r
    refine jg_ g37 (Value.pointer (some ⟨b33, 4, none⟩)) (x_fieldAddr Ty.fi27_4 rfl rfl) ?_
    refine JO_read (vS c.Volume) rfl ⟨_, rfl, g37⟩ (x_load 2 rfl rfl Ty.sc9 rfl) ?_
    refine jg_ g37 (vB (decide (c.Volume = ([] : Bytes)))) (x_eql_s rfl rfl) ?_
    refine js_ (vB (decide (c.Volume = ([] : Bytes)))) (x_pick_t rfl g37 rfl) ?_
    refine JO_nil (JX_cut (decide (c.Volume = ([] : Bytes))) (by rw [g37]; simp) ⟨rfl, rfl, rfl, rfl, trivial⟩ (fun _ h => h))
   ·have g37r := g37
    have g37r := of_decide_eq_false g37r
    refine sh_ g37 ?_
    refine sh_ g37 ?_
    refine sh_ g37 ?_
    refine js_ (vB false) (x_pick_f rfl g37 rfl) ?_
    refine JO_nil (JX_cut (false) (by rw [g37]; simp) ⟨rfl, rfl, rfl, rfl, trivial⟩ (fun _ h => h))
  rintro z36 rfl
  refine jr_ (vB ((decide (c.Id = d.Id)) && (decide (c.Volume = ([] : Bytes))))) ?_
  refine JO_cut 4 (fun z => z = (((decide (c.Id = d.Id)) && (decide (c.Volume = ([] : Bytes)))) && (R27.ck1 c))) (fun z => [(4, vB false), (32, vB z)]) (fun _ => [Ent.mp vI M34 [(3, Value.func (.func 71) #[] #[]), (2, Value.func (.func 75) #[] #[Value.pointer (some ⟨b35, 0, none⟩)])], Ent.blk b35 24 (DataSet.enc d), Ent.blk b33 27 (Change.enc c), Ent.blk b32 24 (DataSet.enc d)]) ?_ ?_
  ·rcases Bool.eq_false_or_eq_true ((decide (c.Id = d.Id)) && (decide (c.Volume = ([] : Bytes)))) with g39 | g39
   ·have g39r := g39
    have ⟨g39r, h40⟩ := band_true g39r
    have g39r := of_decide_eq_true g39r
    have h40 := of_decide_eq_true h40
    refine jg_ g39 (Value.func (.func 71) #[] #[]) (rfl) ?_
    refine JO_read (Value.agg ((Change.enc c)).toArray) rfl ⟨_, rfl, g39⟩ (x_loadN 2 (Change.enc c) rfl rfl Ty.ag27 Ty.sz27 rfl) ?_
    refine JO_call [] [] [Ent.mp vI M34 [(3, Value.func (.func 71) #[] #[]), (2, Value.func (.func 75) #[] #[Value.pointer (some ⟨b35, 0, none⟩)])], Ent.blk b35 24 (DataSet.enc d), Ent.blk b33 27 (Change.enc c), Ent.blk b32 24 (DataSet.enc d)] rfl ⟨_, rfl, g39⟩ (fun _ => x_callv (first := []) (caps := []) rfl Ty.ca71 rfl) (fun _ h => h) (fun _ h => by cases h) (fun w hS => f71_ok c w) ?_
    rintro _ _ ⟨rfl, rfl⟩
    refine js_ (vB (R27.ck1 c)) (x_pick_t rfl g39 rfl) ?_
    refine JO_nil (JX_cut (R27.ck1 c) (by rw [g39]; simp) ⟨rfl, rfl, trivial⟩ (fun _ h => h))
   ·have g39r := g39
    simp only [Bool.and_eq_true, Bool.or_eq_true, Bool.and_eq_false_iff, Bool.or_eq_false_iff, Bool.not_eq_true', Bool.not_eq_false', decide_eq_true_eq, decide_eq_false_iff_not] at g39r
    refine sh_ g39 ?_
    refine sh_ g39 ?_
    refine sh_ g39 ?_
    refine js_ (vB false) (x_pick_f rfl g39 rfl) ?_
    refine JO_nil (JX_cut (false) (by rw [g39]; simp) ⟨rfl, rfl, trivial⟩ (fun _ h => h))
  rintro z38 rfl
  refine jr_ (vB (((decide (c.Id = d.Id)) && (decide (c.Volume = ([] : Bytes)))) && (R27.ck1 c))) ?_
  refine JO_nil (JX_then (J_ret ?_))
  refine JX_rets [vB (((decide (c.Id = d.Id)) && (decide (c.Volume = ([] : Bytes)))) && (R27.ck1 c))] (vB (((decide (c.Id = d.Id)) && (decide (c.Volume = ([] : Bytes)))) && (R27.ck1 c))) Try.results24 (fun w h => ⟨rfl, trivial⟩) rfl [] (fun _ h => h.keep [false, false, false, false] rfl) ⟨?_, ?_⟩
  ·have e_x0 : (((decide (c.Id = d.Id)) && (decide (c.Volume = ([] : Bytes)))) && (R27.ck1 c) : Bool) = (R27.isChange d c) := by first | (simp [R27.isChange, R27.kindOk, hc]; done) | (simp [R27.isChange, R27.kindOk, hc, *]; done)
   exact congrArg (fun (x0 : Bool) => vB x0) e_x0
  ·rfl
 ·refine J_seq (J_region ?_)
  refine JO_op rfl trivial (O_box rfl rfl fun b41 => ?_)
  refine JO_op rfl trivial (O_box rfl rfl fun b42 => ?_)
  refine jr_ (vB false) ?_
  refine JO_nil (JX_then (J_seq ?_))
  refine J_draw [Ent.blk b42 27 (Change.enc c), Ent.blk b41 24 (DataSet.enc d)] [] [Ent.blk b42 27 (Change.enc c), Ent.blk b41 24 (DataSet.enc d)] 10 Ty.mixed rfl ?_
  refine jt_ 0 (Value.agg ((DataSet.enc d)).toArray) rfl (x_loadN 1 (DataSet.enc d) rfl rfl Ty.ag24 Ty.sz24 rfl) ?_
  refine jt_ 2 (Value.pointer (some ⟨b42, 0, none⟩)) rfl (fun _ _ => x_fieldAddr Ty.fi27_0 rfl rfl) ?_
  refine jt_ 3 (vI c.Kind) rfl (x_load 0 rfl rfl Ty.sc3 rfl) ?_
  refine JA_one 1 (by kernel_rfl) (fun _ h => ⟨h, fun _ => h⟩) ?_
  refine JI_call [] [] [Ent.blk b42 27 (Change.enc c), Ent.blk b41 24 (DataSet.enc d)] rfl rfl trivial (fun _ => x_call Ty.ca47 rfl) (fun _ h => h) (fun _ h => by cases h) (fun w hS => f47_ok1 d w hy_) ?_
  rintro _ _ ⟨M43, b44, rfl, rfl⟩
  refine JA_one 4 (by kernel_rfl) (fun _ h => ⟨h.keep [false, false, true, true] rfl, fun _ => h.keep [false, false, true, true] rfl⟩) ?_
  refine JI_read (Value.tuple #[Value.func (.func 75) #[] #[Value.pointer (some ⟨b44, 0, none⟩)], vB true]) rfl rfl trivial (x_lookup_ok 0 (f := vI) (k := c.Kind) rfl rfl rfl Try.underlying104 (mapK_i Try.underlying3) Ty.ze102 (lk_ne (by omega) (lk_hit (by omega)))) ?_
  refine jt_ 5 (Value.tuple #[Value.func (.func 75) #[] #[Value.pointer (some ⟨b44, 0, none⟩)], vB true]) rfl (fun _ _ => rfl) ?_
  refine jt_ 6 (Value.func (.func 75) #[] #[Value.pointer (some ⟨b44, 0, none⟩)]) rfl (fun _ _ => rfl) ?_
  refine jt_ 7 (vB true) rfl (fun _ _ => rfl) ?_
  refine jt_ 8 (Value.func (.func 75) #[] #[Value.pointer (some ⟨b44, 0, none⟩)]) rfl (fun _ _ => rfl) ?_
  refine jt_ 9 (vB true) rfl (fun _ _ => rfl) ?_
  refine JA_done (by kernel_rfl) (fun _ h => ⟨h.keep [false, false, true, true] rfl, fun _ => h.keep [false, false, true, true] rfl⟩) ?_
  refine JX_then (J_seq (J_region ?_))
  refine jr_ (vB true) ?_
  refine jr_ (vB true) ?_
  refine jg_ rfl (Value.pointer (some ⟨b42, 1, none⟩)) (x_fieldAddr Ty.fi27_1 rfl rfl) ?_
  refine JO_read (vI c.Id) rfl ⟨_, rfl, rfl⟩ (x_load 2 rfl rfl Ty.sc3 rfl) ?_
  refine jg_ rfl (Value.pointer (some ⟨b41, 0, none⟩)) (x_fieldAddr Ty.fi24_0 rfl rfl) ?_
  refine JO_read (vI d.Id) rfl ⟨_, rfl, rfl⟩ (x_load 3 rfl rfl Ty.sc3 rfl) ?_
  refine jg_ rfl (vB (decide (c.Id = d.Id))) (x_eql_i rfl rfl) ?_
  refine jr_ (vB (decide (c.Id = d.Id))) ?_
  refine jr_ (vB (decide (c.Id = d.Id))) ?_
  refine JO_cut 4 (fun z => z = ((decide (c.Id = d.Id)) && (decide (c.Volume = ([] : Bytes))))) (fun z => [(3, Value.pointer (some ⟨b42, 0, none⟩)), (4, vB false), (5, Value.func (.func 75) #[] #[Value.pointer (some ⟨b44, 0, none⟩)]), (27, vB z)]) (fun _ => [Ent.mp vI M43 [(3, Value.func (.func 71) #[] #[]), (2, Value.func (.func 75) #[] #[Value.pointer (some ⟨b44, 0, none⟩)])], Ent.blk b44 24 (DataSet.enc d), Ent.blk b42 27 (Change.enc c), Ent.blk b41 24 (DataSet.enc d)]) ?_ ?_
  ·rcases Bool.eq_false_or_eq_true (decide (c.Id = d.Id)) with g46 | g46
   ·have g46r := g46
    have g46r := of_decide_eq_true g46r
    refine jg_ g46 (Value.pointer (some ⟨b42, 4, none⟩)) (x_fieldAddr Ty.fi27_4 rfl rfl) ?_
    refine JO_read (vS c.Volume) rfl ⟨_, rfl, g46⟩ (x_load 2 rfl rfl Ty.sc9 rfl) ?_
    refine jg_ g46 (vB (decide (c.Volume = ([] : Bytes)))) (x_eql_s rfl rfl) ?_
    refine js_ (vB (decide (c.Volume = ([] : Bytes)))) (x_pick_t rfl g46 rfl) ?_
    refine JO_nil (JX_cut (decide (c.Volume = ([] : Bytes))) (by rw [g46]; simp) ⟨rfl, rfl, rfl, rfl, trivial⟩ (fun _ h => h))
   ·have g46r := g46
    have g46r := of_decide_eq_false g46r
    refine sh_ g46 ?_
    refine sh_ g46 ?_
    refine sh_ g46 ?_
    refine js_ (vB false) (x_pick_f rfl g46 rfl) ?_
    refine JO_nil (JX_cut (false) (by rw [g46]; simp) ⟨rfl, rfl, rfl, rfl, trivial⟩ (fun _ h => h))
  rintro z45 rfl
  refine jr_ (vB ((decide (c.Id = d.Id)) && (decide (c.Volume = ([] : Bytes))))) ?_
  refine JO_cut 4 (fun z => z = (((decide (c.Id = d.Id)) && (decide (c.Volume = ([] : Bytes)))) && (R27.ck4 d c))) (fun z => [(4, vB false), (32, vB z)]) (fun _ => [Ent.blk b44 24 (DataSet.enc d), Ent.mp vI M43 [(3, Value.func (.func 71) #[] #[]), (2, Value.func (.func 75) #[] #[Value.pointer (some ⟨b44, 0, none⟩)])], Ent.blk b42 27 (Change.enc c), Ent.blk b41 24 (DataSet.enc d)]) ?_ ?_
  ·rcases Bool.eq_false_or_eq_true ((decide (c.Id = d.Id)) && (decide (c.Volume = ([] : Bytes)))) with g48 | g48
   ·have g48r := g48
    have ⟨g48r, h49⟩ := band_true g48r
    have g48r := of_decide_eq_true g48r
    have h49 := of_decide_eq_true h49
    refine jg_ g48 (Value.func (.func 75) #[] #[Value.pointer (some ⟨b44, 0, none⟩)]) (rfl) ?_
    refine JO_read (Value.agg ((Change.enc c)).toArray) rfl ⟨_, rfl, g48⟩ (x_loadN 2 (Change.enc c) rfl rfl Ty.ag27 Ty.sz27 rfl) ?_
    refine JO_call [b44] [Ent.blk b44 24 (DataSet.enc d)] [Ent.mp vI M43 [(3, Value.func (.func 71) #[] #[]), (2, Value.func (.func 75) #[] #[Value.pointer (some ⟨b44, 0, none⟩)])], Ent.blk b42 27 (Change.enc c), Ent.blk b41 24 (DataSet.enc d)] rfl ⟨_, rfl, g48⟩ (fun _ => x_callv (first := []) (caps := [Value.pointer (some ⟨b44, 0, none⟩)]) rfl Ty.ca75 rfl) (fun _ h => ((((h.front 3 _ rfl).front 3 _ rfl).front 2 _ rfl).front 3 _ rfl).keep [true, true, true, true] rfl) (own_mem rfl) (fun w hS => f75_ok c b44 d w  (hS.give (own_in rfl))) ?_
    rintro _ _ ⟨rfl, rfl⟩
    refine js_ (vB (R27.ck4 d c)) (x_pick_t rfl g48 rfl) ?_
    refine JO_nil (JX_cut (R27.ck4 d c) (by rw [g48]; simp) ⟨rfl, rfl, trivial⟩ (fun _ h => h))
   ·have g48r := g48
    simp only [Bool.and_eq_true, Bool.or_eq_true, Bool.and_eq_false_iff, Bool.or_eq_false_iff, Bool.not_eq_true', Bool.not_eq_false', decide_eq_true_eq, decide_eq_false_iff_not] at g48r
    refine sh_ g48 ?_
    refine sh_ g48 ?_
    refine sh_ g48 ?_
    refine js_ (vB false) (x_pick_f rfl g48 rfl) ?_
    refine JO_nil (JX_cut (false) (by rw [g48]; simp) ⟨rfl, rfl, trivial⟩ (fun _ h => ((((h.front 3 _ rfl).front 3 _ rfl).front 2 _ rfl).front 3 _ rfl).keep [true, true, true, true] rfl))
  rintro z47 rfl
  refine jr_ (vB (((decide (c.Id = d.Id)) && (decide (c.Volume = ([] : Bytes)))) && (R27.ck4 d c))) ?_
  refine JO_nil (JX_then (J_ret ?_))
  refine JX_rets [vB (((decide (c.Id = d.Id)) && (decide (c.Volume = ([] : Bytes)))) && (R27.ck4 d c))] (vB (((decide (c.Id = d.Id)) && (decide (c.Volume = ([] : Bytes)))) && (R27.ck4 d c))) Try.results24 (fun w h => ⟨rfl, trivial⟩) rfl [] (fun _ h => h.keep [false, false, false, false] rfl) ⟨?_, ?_⟩
  ·have e_x0 : (((decide (c.Id = d.Id)) && (decide (c.Volume = ([] : Bytes)))) && (R27.ck4 d c) : Bool) = (R27.isChange d c) := by first | (simp [R27.isChange, R27.kindOk, hc]; done) | (simp [R27.isChange, R27.kindOk, hc, *]; done)
   exact congrArg (fun (x0 : Bool) => vB x0) e_x0
  ·rfl
 ·refine J_seq (J_region ?_)
  refine JO_op rfl trivial (O_box rfl rfl fun b50 => ?_)
  refine JO_op rfl trivial (O_box rfl rfl fun b51 => ?_)
  refine jr_ (vB false) ?_
  refine JO_nil (JX_then (J_seq ?_))
  refine J_draw [Ent.blk b51 27 (Change.enc c), Ent.blk b50 24 (DataSet.enc d)] [] [Ent.blk b51 27 (Change.enc c), Ent.blk b50 24 (DataSet.enc d)] 10 Ty.mixed rfl ?_
  refine jt_ 0 (Value.agg ((DataSet.enc d)).toArray) rfl (x_loadN 1 (DataSet.enc d) rfl rfl Ty.ag24 Ty.sz24 rfl) ?_
  refine jt_ 2 (Value.pointer (some ⟨b51, 0, none⟩)) rfl (fun _ _ => x_fieldAddr Ty.fi27_0 rfl rfl) ?_
  refine jt_ 3 (vI c.Kind) rfl (x_load 0 rfl rfl Ty.sc3 rfl) ?_
  refine JA_one 1 (by kernel_rfl) (fun _ h => ⟨h, fun _ => h⟩) ?_
  refine JI_call [] [] [Ent.blk b51 27 (Change.enc c), Ent.blk b50 24 (DataSet.enc d)] rfl rfl trivial (fun _ => x_call Ty.ca47 rfl) (fun _ h => h) (fun _ h => by cases h) (fun w hS => f47_ok1 d w hy_) ?_
  rintro _ _ ⟨M52, b53, rfl, rfl⟩
  refine JA_one 4 (by kernel_rfl) (fun _ h => ⟨h.keep [false, false, true, true] rfl, fun _ => h.keep [false, false, true, true] rfl⟩) ?_
  refine JI_read (Value.tuple #[Value.nilFunc, vB false]) rfl rfl trivial (x_lookup_ok 0 (f := vI) (k := c.Kind) rfl rfl rfl Try.underlying104 (mapK_i Try.underlying3) Ty.ze102 (lk_ne (by omega) (lk_ne (by omega) lk_nil))) ?_
  refine jt_ 5 (Value.tuple #[Value.nilFunc, vB false]) rfl (fun _ _ => rfl) ?_
  refine jt_ 6 (Value.nilFunc) rfl (fun _ _ => rfl) ?_
  refine jt_ 7 (vB false) rfl (fun _ _ => rfl) ?_
  refine jt_ 8 (Value.nilFunc) rfl (fun _ _ => rfl) ?_
  refine jt_ 9 (vB false) rfl (fun _ _ => rfl) ?_
  refine JA_done (by kernel_rfl) (fun _ h => ⟨h.keep [false, false, true, true] rfl, fun _ => h.keep [false, false, true, true] rfl⟩) ?_
  refine JX_then (J_seq (J_region ?_))
  refine jr_ (vB false) ?_
  refine jr_ (vB false) ?_
  refine sh_ rfl ?_
  refine sh_ rfl ?_
  refine sh_ rfl ?_
  refine sh_ rfl ?_
  refine sh_ rfl ?_
  refine jr_ (vB false) ?_
  refine jr_ (vB false) ?_
  refine sh_ rfl ?_
  refine sh_ rfl ?_
  refine sh_ rfl ?_
  refine jr_ (vB false) ?_
  refine jr_ (vB false) ?_
  refine sh_ rfl ?_
  refine sh_ rfl ?_
  refine sh_ rfl ?_
  refine jr_ (vB false) ?_
  refine jr_ (vB false) ?_
  refine JO_nil (JX_then (J_ret ?_))
  refine JX_rets [vB false] (vB false) Try.results24 (fun w h => ⟨rfl, trivial⟩) rfl [] (fun _ h => h.keep [false, false, false, false] rfl) ⟨?_, ?_⟩
  ·have e_x0 : (false : Bool) = (R27.isChange d c) := by first | (simp [R27.isChange, R27.kindOk, hc]; done) | (simp [R27.isChange, R27.kindOk, hc, *]; done)
   exact congrArg (fun (x0 : Bool) => vB x0) e_x0
  ·rfl
 ·refine J_seq (J_region ?_)
  refine JO_op rfl trivial (O_box rfl rfl fun b54 => ?_)
  refine JO_op rfl trivial (O_box rfl rfl fun b55 => ?_)
  refine jr_ (vB false) ?_
  refine JO_nil (JX_then (J_seq ?_))
  refine J_draw [Ent.blk b55 27 (Change.enc c), Ent.blk b54 24 (DataSet.enc d)] [] [Ent.blk b55 27 (Change.enc c), Ent.blk b54 24 (DataSet.enc d)] 10 Ty.mixed rfl ?_
  refine jt_ 0 (Value.agg ((DataSet.enc d)).toArray) rfl (x_loadN 1 (DataSet.enc d) rfl rfl Ty.ag24 Ty.sz24 rfl) ?_
  refine jt_ 2 (Value.pointer (some ⟨b55, 0, none⟩)) rfl (fun _ _ => x_fieldAddr Ty.fi27_0 rfl rfl) ?_
  refine jt_ 3 (vI c.Kind) rfl (x_load 0 rfl rfl Ty.sc3 rfl) ?_
  refine JA_one 1 (by kernel_rfl) (fun _ h => ⟨h, fun _ => h⟩) ?_
  refine JI_call [] [] [Ent.blk b55 27 (Change.enc c), Ent.blk b54 24 (DataSet.enc d)] rfl rfl trivial (fun _ => x_call Ty.ca47 rfl) (fun _ h => h) (fun _ h => by cases h) (fun w hS => f47_ok2 d w hy_ hy_) ?_
  rintro _ _ ⟨M56, b57, rfl, rfl⟩
  refine JA_one 4 (by kernel_rfl) (fun _ h => ⟨h.keep [false, false, true, true] rfl, fun _ => h.keep [false, false, true, true] rfl⟩) ?_
  refine JI_read (Value.tuple #[Value.func (.func 71) #[] #[], vB true]) rfl rfl trivial (x_lookup_ok 0 (f := vI) (k := c.Kind) rfl rfl rfl Try.underlying104 (mapK_i Try.underlying3) Ty.ze102 (lk_hit (by omega))) ?_
  refine jt_ 5 (Value.tuple #[Value.func (.func 71) #[] #[], vB true]) rfl (fun _ _ => rfl) ?_
  refine jt_ 6 (Value.func (.func 71) #[] #[]) rfl (fun _ _ => rfl) ?_
  refine jt_ 7 (vB true) rfl (fun _ _ => rfl) ?_
  refine jt_ 8 (Value.func (.func 71) #[] #[]) rfl (fun _ _ => rfl) ?_
  refine jt_ 9 (vB true) rfl (fun _ _ => rfl) ?_
  refine JA_done (by kernel_rfl) (fun _ h => ⟨h.keep [false, false, true, true] rfl, fun _ => h.keep [false, false, true, true] rfl⟩) ?_
  refine JX_then (J_seq (J_region ?_))
  refine jr_ (vB true) ?_
  refine jr_ (vB true) ?_
  refine jg_ rfl (Value.pointer (some ⟨b55, 1, none⟩)) (x_fieldAddr Ty.fi27_1 rfl rfl) ?_
  refine JO_read (vI c.Id) rfl ⟨_, rfl, rfl⟩ (x_load 2 rfl rfl Ty.sc3 rfl) ?_
  refine jg_ rfl (Value.pointer (some ⟨b54, 0, none⟩)) (x_fieldAddr Ty.fi24_0 rfl rfl) ?_
  refine JO_read (vI d.Id) rfl ⟨_, rfl, rfl⟩ (x_load 3 rfl rfl Ty.sc3 rfl) ?_
  refine jg_ rfl (vB (decide (c.Id = d.Id))) (x_eql_i rfl rfl) ?_
  refine jr_ (vB (decide (c.Id = d.Id))) ?_
  refine jr_ (vB (decide (c.Id = d.Id))) ?_
  refine JO_cut 4 (fun z => z = ((decide (c.Id = d.Id)) && (decide (c.Volume = ([] : Bytes))))) (fun z => [(3, Value.pointer (some ⟨b55, 0, none⟩)), (4, vB false), (5, Value.func (.func 71) #[] #[]), (27, vB z)]) (fun _ => [Ent.mp vI M56 [(3, Value.func (.func 71) #[] #[]), (1, Value.func (.func 76) #[] #[]), (0, Value.func (.func 78) #[] #[Value.pointer (some ⟨b57, 0, none⟩)])], Ent.blk b57 24 (DataSet.enc d), Ent.blk b55 27 (Change.enc c), Ent.blk b54 24 (DataSet.enc d)]) ?_ ?_
  ·rcases Bool.eq_false_or_eq_true (decide (c.Id = d.Id)) with g59 | g59
   ·have g59r := g59
    have g59r := of_decide_eq_true g59r
    refine jg_ g59 (Value.pointer (some ⟨b55, 4, none⟩)) (x_fieldAddr Ty.fi27_4 rfl rfl) ?_
    refine JO_read (vS c.Volume) rfl ⟨_, rfl, g59⟩ (x_load 2 rfl rfl Ty.sc9 rfl) ?_
    refine jg_ g59 (vB (decide (c.Volume = ([] : Bytes)))) (x_eql_s rfl rfl) ?_
    refine js_ (vB (decide (c.Volume = ([] : Bytes)))) (x_pick_t rfl g59 rfl) ?_
    refine JO_nil (JX_cut (decide (c.Volume = ([] : Bytes))) (by rw [g59]; simp) ⟨rfl, rfl, rfl, rfl, trivial⟩ (fun _ h => h))
   ·have g59r := g59
    have g59r := of_decide_eq_false g59r
    refine sh_ g59 ?_
    refine sh_ g59 ?_
    refine sh_ g59 ?_
    refine js_ (vB false) (x_pick_f rfl g59 rfl) ?_
    refine JO_nil (JX_cut (false) (by rw [g59]; simp) ⟨rfl, rfl, rfl, rfl, trivial⟩ (fun _ h => h))
  rintro z58 rfl
  refine jr_ (vB ((decide (c.Id = d.Id)) && (decide (c.Volume = ([] : Bytes))))) ?_
  refine JO_cut 4 (fun z => z = (((decide (c.Id = d.Id)) && (decide (c.Volume = ([] : Bytes)))) && (R27.ck1 c))) (fun z => [(4, vB false), (32, vB z)]) (fun _ => [Ent.mp vI M56 [(3, Value.func (.func 71) #[] #[]), (1, Value.func (.func 76) #[] #[]), (0, Value.func (.func 78) #[] #[Value.pointer (some ⟨b57, 0, none⟩)])], Ent.blk b57 24 (DataSet.enc d), Ent.blk b55 27 (Change.enc c), Ent.blk b54 24 (DataSet.enc d)]) ?_ ?_
  ·rcases Bool.eq_false_or_eq_true ((decide (c.Id = d.Id)) && (decide (c.Volume = ([] : Bytes)))) with g61 | g61
   ·have g61r := g61
    have ⟨g61r, h62⟩ := band_true g61r
    have g61r := of_decide_eq_true g61r
    have h62 := of_decide_eq_true h62
    refine jg_ g61 (Value.func (.func 71) #[] #[]) (rfl) ?_
    refine JO_read (Value.agg ((Change.enc c)).toArray) rfl ⟨_, rfl, g61⟩ (x_loadN 2 (Change.enc c) rfl rfl Ty.ag27 Ty.sz27 rfl) ?_
    refine JO_call [] [] [Ent.mp vI M56 [(3, Value.func (.func 71) #[] #[]), (1, Value.func (.func 76) #[] #[]), (0, Value.func (.func 78) #[] #[Value.pointer (some ⟨b57, 0, none⟩)])], Ent.blk b57 24 (DataSet.enc d), Ent.blk b55 27 (Change.enc c), Ent.blk b54 24 (DataSet.enc d)] rfl ⟨_, rfl, g61⟩ (fun _ => x_callv (first := []) (caps := []) rfl Ty.ca71 rfl) (fun _ h => h) (fun _ h => by cases h) (fun w hS => f71_ok c w) ?_
    rintro _ _ ⟨rfl, rfl⟩
    refine js_ (vB (R27.ck1 c)) (x_pick_t rfl g61 rfl) ?_
    refine JO_nil (JX_cut (R27.ck1 c) (by rw [g61]; simp) ⟨rfl, rfl, trivial⟩ (fun _ h => h))
   ·have g61r := g61
    simp only [Bool.and_eq_true, Bool.or_eq_true, Bool.and_eq_false_iff, Bool.or_eq_false_iff, Bool.not_eq_true', Bool.not_eq_false', decide_eq_true_eq, decide_eq_false_iff_not] at g61r
    refine sh_ g61 ?_
    refine sh_ g61 ?_
    refine sh_ g61 ?_
    refine js_ (vB false) (x_pick_f rfl g61 rfl) ?_
    refine JO_nil (JX_cut (false) (by rw [g61]; simp) ⟨rfl, rfl, trivial⟩ (fun _ h => h))
  rintro z60 rfl
  refine jr_ (vB (((decide (c.Id = d.Id)) && (decide (c.Volume = ([] : Bytes)))) && (R27.ck1 c))) ?_
  refine JO_nil (JX_then (J_ret ?_))
  refine JX_rets [vB (((decide (c.Id = d.Id)) && (decide (c.Volume = ([] : Bytes)))) && (R27.ck1 c))] (vB (((decide (c.Id = d.Id)) && (decide (c.Volume = ([] : Bytes)))) && (R27.ck1 c))) Try.results24 (fun w h => ⟨rfl, trivial⟩) rfl [] (fun _ h => h.keep [false, false, false, false] rfl) ⟨?_, ?_⟩
  ·have e_x0 : (((decide (c.Id = d.Id)) && (decide (c.Volume = ([] : Bytes)))) && (R27.ck1 c) : Bool) = (R27.isChange d c) := by first | (simp [R27.isChange, R27.kindOk, hc]; done) | (simp [R27.isChange, R27.kindOk, hc, *]; done)
   exact congrArg (fun (x0 : Bool) => vB x0) e_x0
  ·rfl
 ·refine J_seq (J_region ?_)
  refine JO_op rfl trivial (O_box rfl rfl fun b63 => ?_)
  refine JO_op rfl trivial (O_box rfl rfl fun b64 => ?_)
  refine jr_ (vB false) ?_
  refine JO_nil (JX_then (J_seq ?_))
  refine J_draw [Ent.blk b64 27 (Change.enc c), Ent.blk b63 24 (DataSet.enc d)] [] [Ent.blk b64 27 (Change.enc c), Ent.blk b63 24 (DataSet.enc d)] 10 Ty.mixed rfl ?_
  refine jt_ 0 (Value.agg ((DataSet.enc d)).toArray) rfl (x_loadN 1 (DataSet.enc d) rfl rfl Ty.ag24 Ty.sz24 rfl) ?_
  refine jt_ 2 (Value.pointer (some ⟨b64, 0, none⟩)) rfl (fun _ _ => x_fieldAddr Ty.fi27_0 rfl rfl) ?_
  refine jt_ 3 (vI c.Kind) rfl (x_load 0 rfl rfl Ty.sc3 rfl) ?_
  refine JA_one 1 (by kernel_rfl) (fun _ h => ⟨h, fun _ => h⟩) ?_
  refine JI_call [] [] [Ent.blk b64 27 (Change.enc c), Ent.blk b63 24 (DataSet.enc d)] rfl rfl trivial (fun _ => x_call Ty.ca47 rfl) (fun _ h => h) (fun _ h => by cases h) (fun w hS => f47_ok2 d w hy_ hy_) ?_
  rintro _ _ ⟨M65, b66, rfl, rfl⟩
  refine JA_one 4 (by kernel_rfl) (fun _ h => ⟨h.keep [false, false, true, true] rfl, fun _ => h.keep [false, false, true, true] rfl⟩) ?_
  refine JI_read (Value.tuple #[Value.func (.func 76) #[] #[], vB true]) rfl rfl trivial (x_lookup_ok 0 (f := vI) (k := c.Kind) rfl rfl rfl Try.underlying104 (mapK_i Try.underlying3) Ty.ze102 (lk_ne (by omega) (lk_hit (by omega)))) ?_
  refine jt_ 5 (Value.tuple #[Value.func (.func 76) #[] #[], vB true]) rfl (fun _ _ => rfl) ?_
  refine jt_ 6 (Value.func (.func 76) #[] #[]) rfl (fun _ _ => rfl) ?_
  refine jt_ 7 (vB true) rfl (fun _ _ => rfl) ?_
  refine jt_ 8 (Value.func (.func 76) #[] #[]) rfl (fun _ _ => rfl) ?_
  refine jt_ 9 (vB true) rfl (fun _ _ => rfl) ?_
  refine JA_done (by kernel_rfl) (fun _ h => ⟨h.keep [false, false, true, true] rfl, fun _ => h.keep [false, false, true, true] rfl⟩) ?_
  refine JX_then (J_seq (J_region ?_))
  refine jr_ (vB true) ?_
  refine jr_ (vB true) ?_
  refine jg_ rfl (Value.pointer (some ⟨b64, 1, none⟩)) (x_fieldAddr Ty.fi27_1 rfl rfl) ?_
  refine JO_read (vI c.Id) rfl ⟨_, rfl, rfl⟩ (x_load 2 rfl rfl Ty.sc3 rfl) ?_
  refine jg_ rfl (Value.pointer (some ⟨b63, 0, none⟩)) (x_fieldAddr Ty.fi24_0 rfl rfl) ?_
  refine JO_read (vI d.Id) rfl ⟨_, rfl, rfl⟩ (x_load 3 rfl rfl Ty.sc3 rfl) ?_
  refine jg_ rfl (vB (decide (c.Id = d.Id))) (x_eql_i rfl rfl) ?_
  refine jr_ (vB (decide (c.Id = d.Id))) ?_
  refine jr_ (vB (decide (c.Id = d.Id))) ?_
  refine JO_cut 4 (fun z => z = ((decide (c.Id = d.Id)) && (decide (c.Volume = ([] : Bytes))))) (fun z => [(3, Value.pointer (some ⟨b64, 0, none⟩)), (4, vB false), (5, Value.func (.func 76) #[] #[]), (27, vB z)]) (fun _ => [Ent.mp vI M65 [(3, Value.func (.func 71) #[] #[]), (1, Value.func (.func 76) #[] #[]), (0, Value.func (.func 78) #[] #[Value.pointer (some ⟨b66, 0, none⟩)])], Ent.blk b66 24 (DataSet.enc d), Ent.blk b64 27 (Change.enc c), Ent.blk b63 24 (DataSet.enc d)]) ?_ ?_
  ·rcases Bool.eq_false_or_eq_true (decide (c.Id = d.Id)) with g68 | g68
   ·have g68r := g68
    have g68r := of_decide_eq_true g68r
    refine jg_ g68 (Value.pointer (some ⟨b64, 4, none⟩)) (x_fieldAddr Ty.fi27_4 rfl rfl) ?_
    refine JO_read (vS c.Volume) rfl ⟨_, rfl, g68⟩ (x_load 2 rfl rfl Ty.sc9 rfl) ?_
    refine jg_ g68 (vB (decide (c.Volume = ([] : Bytes)))) (x_eql_s rfl rfl) ?_
    refine js_ (vB (decide (c.Volume = ([] : Bytes)))) (x_pick_t rfl g68 rfl) ?_
    refine JO_nil (JX_cut (decide (c.Volume = ([] : Bytes))) (by rw [g68]; simp) ⟨rfl, rfl, rfl, rfl, trivial⟩ (fun _ h => h))
   ·have g68r := g68
    have g68r := of_decide_eq_false g68r
    refine sh_ g68 ?_
    refine sh_ g68 ?_
    refine sh_ g68 ?_
    refine js_ (vB false) (x_pick_f rfl g68 rfl) ?_
    refine JO_nil (JX_cut (false) (by rw [g68]; simp) ⟨rfl, rfl, rfl, rfl, trivial⟩ (fun _ h => h))
  rintro z67 rfl
  refine jr_ (vB ((decide (c.Id = d.Id)) && (decide (c.Volume = ([] : Bytes))))) ?_
  refine JO_cut 4 (fun z => z = (((decide (c.Id = d.Id)) && (decide (c.Volume = ([] : Bytes)))) && (R27.ck5 c))) (fun z => [(4, vB false), (32, vB z)]) (fun _ => [Ent.mp vI M65 [(3, Value.func (.func 71) #[] #[]), (1, Value.func (.func 76) #[] #[]), (0, Value.func (.func 78) #[] #[Value.pointer (some ⟨b66, 0, none⟩)])], Ent.blk b66 24 (DataSet.enc d), Ent.blk b64 27 (Change.enc c), Ent.blk b63 24 (DataSet.enc d)]) ?_ ?_
  ·rcases Bool.eq_false_or_eq_true ((decide (c.Id = d.Id)) && (decide (c.Volume = ([] : Bytes)))) with g70 | g70
   ·have g70r := g70
    have ⟨g70r, h71⟩ := band_true g70r
    have g70r := of_decide_eq_true g70r
    have h71 := of_decide_eq_true h71
    refine jg_ g70 (Value.func (.func 76) #[] #[]) (rfl) ?_
    refine JO_read (Value.agg ((Change.enc c)).toArray) rfl ⟨_, rfl, g70⟩ (x_loadN 2 (Change.enc c) rfl rfl Ty.ag27 Ty.sz27 rfl) ?_
    refine JO_call [] [] [Ent.mp vI M65 [(3, Value.func (.func 71) #[] #[]), (1, Value.func (.func 76) #[] #[]), (0, Value.func (.func 78) #[] #[Value.pointer (some ⟨b66, 0, none⟩)])], Ent.blk b66 24 (DataSet.enc d), Ent.blk b64 27 (Change.enc c), Ent.blk b63 24 (DataSet.enc d)] rfl ⟨_, rfl, g70⟩ (fun _ => x_callv (first := []) (caps := []) rfl Ty.ca76 rfl) (fun _ h => h) (fun _ h => by cases h) (fun w hS => f76_ok c w hy_) ?_
    rintro _ _ ⟨rfl, rfl⟩
    refine js_ (vB (R27.ck5 c)) (x_pick_t rfl g70 rfl) ?_
    refine JO_nil (JX_cut (R27.ck5 c) (by rw [g70]; simp) ⟨rfl, rfl, trivial⟩ (fun _ h => h))
   ·have g70r := g70
    simp only [Bool.and_eq_true, Bool.or_eq_true, Bool.and_eq_false_iff, Bool.or_eq_false_iff, Bool.not_eq_true', Bool.not_eq_false', decide_eq_true_eq, decide_eq_false_iff_not] at g70r
    refine sh_ g70 ?_
    refine sh_ g70 ?_
    refine sh_ g70 ?_
    refine js_ (vB false) (x_pick_f rfl g70 rfl) ?_
    refine JO_nil (JX_cut (false) (by rw [g70]; simp) ⟨rfl, rfl, trivial⟩ (fun _ h => h))
  rintro z69 rfl
  refine jr_ (vB (((decide (c.Id = d.Id)) && (decide (c.Volume = ([] : Bytes)))) && (R27.ck5 c))) ?_
  refine JO_nil (JX_then (J_ret ?_))
  refine JX_rets [vB (((decide (c.Id = d.Id)) && (decide (c.Volume = ([] : Bytes)))) && (R27.ck5 c))] (vB (((decide (c.Id = d.Id)) && (decide (c.Volume = ([] : Bytes)))) && (R27.ck5 c))) Try.results24 (fun w h => ⟨rfl, trivial⟩) rfl [] (fun _ h => h.keep [false, false, false, false] rfl) ⟨?_, ?_⟩
  ·have e_x0 : (((decide (c.Id = d.Id)) && (decide (c.Volume = ([] : Bytes)))) && (R27.ck5 c) : Bool) = (R27.isChange d c) := by first | (simp [R27.isChange, R27.kindOk, hc]; done) | (simp [R27.isChange, R27.kindOk, hc, *]; done)
   exact congrArg (fun (x0 : Bool) => vB x0) e_x0
  ·rfl
 ·refine J_seq (J_region ?_)
  refine JO_op rfl trivial (O_box rfl rfl fun b72 => ?_)
  refine JO_op rfl trivial (O_box rfl rfl fun b73 => ?_)
  refine jr_ (vB false) ?_
  refine JO_nil (JX_then (J_seq ?_))
  refine J_draw [Ent.blk b73 27 (Change.enc c), Ent.blk b72 24 (DataSet.enc d)] [] [Ent.blk b73 27 (Change.enc c), Ent.blk b72 24 (DataSet.enc d)] 10 Ty.mixed rfl ?_
  refine jt_ 0 (Value.agg ((DataSet.enc d)).toArray) rfl (x_loadN 1 (DataSet.enc d) rfl rfl Ty.ag24 Ty.sz24 rfl) ?_
  refine jt_ 2 (Value.pointer (some ⟨b73, 0, none⟩)) rfl (fun _ _ => x_fieldAddr Ty.fi27_0 rfl rfl) ?_
  refine jt_ 3 (vI c.Kind) rfl (x_load 0 rfl rfl Ty.sc3 rfl) ?_
  refine JA_one 1 (by kernel_rfl) (fun _ h => ⟨h, fun _ => h⟩) ?_
  refine JI_call [] [] [Ent.blk b73 27 (Change.enc c), Ent.blk b72 24 (DataSet.enc d)] rfl rfl trivial (fun _ => x_call Ty.ca47 rfl) (fun _ h => h) (fun _ h => by cases h) (fun w hS => f47_ok2 d w hy_ hy_) ?_
  rintro _ _ ⟨M74, b75, rfl, rfl⟩
  refine JA_one 4 (by kernel_rfl) (fun _ h => ⟨h.keep [false, false, true, true] rfl, fun _ => h.keep [false, false, true, true] rfl⟩) ?_
  refine JI_read (Value.tuple #[Value.func (.func 78) #[] #[Value.pointer (some ⟨b75, 0, none⟩)], vB true]) rfl rfl trivial (x_lookup_ok 0 (f := vI) (k := c.Kind) rfl rfl rfl Try.underlying104 (mapK_i Try.underlying3) Ty.ze102 (lk_ne (by omega) (lk_ne (by omega) (lk_hit (by omega))))) ?_
  refine jt_ 5 (Value.tuple #[Value.func (.func 78) #[] #[Value.pointer (some ⟨b75, 0, none⟩)], vB true]) rfl (fun _ _ => rfl) ?_
  refine jt_ 6 (Value.func (.func 78) #[] #[Value.pointer (some ⟨b75, 0, none⟩)]) rfl (fun _ _ => rfl) ?_
  refine jt_ 7 (vB true) rfl (fun _ _ => rfl) ?_
  refine jt_ 8 (Value.func (.func 78) #[] #[Value.pointer (some ⟨b75, 0, none⟩)]) rfl (fun _ _ => rfl) ?_
  refine jt_ 9 (vB true) rfl (fun _ _ => rfl) ?_
  refine JA_done (by kernel_rfl) (fun _ h => ⟨h.keep [false, false, true, true] rfl, fun _ => h.keep [false, false, true, true] rfl⟩) ?_
  refine JX_then (J_seq (J_region ?_))
  refine jr_ (vB true) ?_
  refine jr_ (vB true) ?_
  refine jg_ rfl (Value.pointer (some ⟨b73, 1, none⟩)) (x_fieldAddr Ty.fi27_1 rfl rfl) ?_
  refine JO_read (vI c.Id) rfl ⟨_, rfl, rfl⟩ (x_load 2 rfl rfl Ty.sc3 rfl) ?_
  refine jg_ rfl (Value.pointer (some ⟨b72, 0, none⟩)) (x_fieldAddr Ty.fi24_0 rfl rfl) ?_
  refine JO_read (vI d.Id) rfl ⟨_, rfl, rfl⟩ (x_load 3 rfl rfl Ty.sc3 rfl) ?_
  refine jg_ rfl (vB (decide (c.Id = d.Id))) (x_eql_i rfl rfl) ?_
  refine jr_ (vB (decide (c.Id = d.Id))) ?_
  refine jr_ (vB (decide (c.Id = d.Id))) ?_
  refine JO_cut 4 (fun z => z = ((decide (c.Id = d.Id)) && (decide (c.Volume = ([] : Bytes))))) (fun z => [(3, Value.pointer (some ⟨b73, 0, none⟩)), (4, vB false), (5, Value.func (.func 78) #[] #[Value.pointer (some ⟨b75, 0, none⟩)]), (27, vB z)]) (fun _ => [Ent.mp vI M74 [(3, Value.func (.func 71) #[] #[]), (1, Value.func (.func 76) #[] #[]), (0, Value.func (.func 78) #[] #[Value.pointer (some ⟨b75, 0, none⟩)])], Ent.blk b75 24 (DataSet.enc d), Ent.blk b73 27 (Change.enc c), Ent.blk b72 24 (DataSet.enc d)]) ?_ ?_
  ·rcases Bool.eq_false_or_eq_true (decide (c.Id = d.Id)) with g77 | g77
   ·have g77r := g77
    have g77r := of_decide_eq_true g77r
    refine jg_ g77 (Value.pointer (some ⟨b73, 4, none⟩)) (x_fieldAddr Ty.fi27_4 rfl rfl) ?_
    refine JO_read (vS c.Volume) rfl ⟨_, rfl, g77⟩ (x_load 2 rfl rfl Ty.sc9 rfl) ?_
    refine jg_ g77 (vB (decide (c.Volume = ([] : Bytes)))) (x_eql_s rfl rfl) ?_
    refine js_ (vB (decide (c.Volume = ([] : Bytes)))) (x_pick_t rfl g77 rfl) ?_
    refine JO_nil (JX_cut (decide (c.Volume = ([] : Bytes))) (by rw [g77]; simp) ⟨rfl, rfl, rfl, rfl, trivial⟩ (fun _ h => h))
   ·have g77r := g77
    have g77r := of_decide_eq_false g77r
    refine sh_ g77 ?_
    refine sh_ g77 ?_
    refine sh_ g77 ?_
    refine js_ (vB false) (x_pick_f rfl g77 rfl) ?_
    refine JO_nil (JX_cut (false) (by rw [g77]; simp) ⟨rfl, rfl, rfl, rfl, trivial⟩ (fun _ h => h))
  rintro z76 rfl
  refine jr_ (vB ((decide (c.Id = d.Id)) && (decide (c.Volume = ([] : Bytes))))) ?_
  refine JO_cut 4 (fun z => z = (((decide (c.Id = d.Id)) && (decide (c.Volume = ([] : Bytes)))) && (R27.ck6 d c))) (fun z => [(4, vB false), (32, vB z)]) (fun _ => [Ent.blk b75 24 (DataSet.enc d), Ent.mp vI M74 [(3, Value.func (.func 71) #[] #[]), (1, Value.func (.func 76) #[] #[]), (0, Value.func (.func 78) #[] #[Value.pointer (some ⟨b75, 0, none⟩)])], Ent.blk b73 27 (Change.enc c), Ent.blk b72 24 (DataSet.enc d)]) ?_ ?_
  ·rcases Bool.eq_false_or_eq_true ((decide (c.Id = d.Id)) && (decide (c.Volume = ([] : Bytes)))) with g79 | g79
   ·have g79r := g79
    have ⟨g79r, h80⟩ := band_true g79r
    have g79r := of_decide_eq_true g79r
    have h80 := of_decide_eq_true h80
    refine jg_ g79 (Value.func (.func 78) #[] #[Value.pointer (some ⟨b75, 0, none⟩)]) (rfl) ?_
    refine JO_read (Value.agg ((Change.enc c)).toArray) rfl ⟨_, rfl, g79⟩ (x_loadN 2 (Change.enc c) rfl rfl Ty.ag27 Ty.sz27 rfl) ?_
    refine JO_call [b75] [Ent.blk b75 24 (DataSet.enc d)] [Ent.mp vI M74 [(3, Value.func (.func 71) #[] #[]), (1, Value.func (.func 76) #[] #[]), (0, Value.func (.func 78) #[] #[Value.pointer (some ⟨b75, 0, none⟩)])], Ent.blk b73 27 (Change.enc c), Ent.blk b72 24 (DataSet.enc d)] rfl ⟨_, rfl, g79⟩ (fun _ => x_callv (first := []) (caps := [Value.pointer (some ⟨b75, 0, none⟩)]) rfl Ty.ca78 rfl) (fun _ h => ((((h.front 3 _ rfl).front 3 _ rfl).front 2 _ rfl).front 3 _ rfl).keep [true, true, true, true] rfl) (own_mem rfl) (fun w hS => f78_ok c b75 d w hy_ (hS.give (own_in rfl))) ?_
    rintro _ _ ⟨rfl, rfl⟩
    refine js_ (vB (R27.ck6 d c)) (x_pick_t rfl g79 rfl) ?_
    refine JO_nil (JX_cut (R27.ck6 d c) (by rw [g79]; simp) ⟨rfl, rfl, trivial⟩ (fun _ h => h))
   ·have g79r := g79
    simp only [Bool.and_eq_true, Bool.or_eq_true, Bool.and_eq_false_iff, Bool.or_eq_false_iff, Bool.not_eq_true', Bool.not_eq_false', decide_eq_true_eq, decide_eq_false_iff_not] at g79r
    refine sh_ g79 ?_
    refine sh_ g79 ?_
    refine sh_ g79 ?_
    refine js_ (vB false) (x_pick_f rfl g79 rfl) ?_
    refine JO_nil (JX_cut (false) (by rw [g79]; simp) ⟨rfl, rfl, trivial⟩ (fun _ h => ((((h.front 3 _ rfl).front 3 _ rfl).front 2 _ rfl).front 3 _ rfl).keep [true, true, true, true] rfl))
  rintro z78 rfl
  refine jr_ (vB (((decide (c.Id = d.Id)) && (decide (c.Volume = ([] : Bytes)))) && (R27.ck6 d c))) ?_
  refine JO_nil (JX_then (J_ret ?_))
  refine JX_rets [vB (((decide (c.Id = d.Id)) && (decide (c.Volume = ([] : Bytes)))) && (R27.ck6 d c))] (vB (((decide (c.Id = d.Id)) && (decide (c.Volume = ([] : Bytes)))) && (R27.ck6 d c))) Try.results24 (fun w h => ⟨rfl, trivial⟩) rfl [] (fun _ h => h.keep [false, false, false, false] rfl) ⟨?_, ?_⟩
  ·have e_x0 : (((decide (c.Id = d.Id)) && (decide (c.Volume = ([] : Bytes)))) && (R27.ck6 d c) : Bool) = (R27.isChange d c) := by first | (simp [R27.isChange, R27.kindOk, hc]; done) | (simp [R27.isChange, R27.kindOk, hc, *]; done)
   exact congrArg (fun (x0 : Bool) => vB x0) e_x0
  ·rfl
 ·refine J_seq (J_region ?_)
  refine JO_op rfl trivial (O_box rfl rfl fun b81 => ?_)
  refine JO_op rfl trivial (O_box rfl rfl fun b82 => ?_)
  refine jr_ (vB false) ?_
  refine JO_nil (JX_then (J_seq ?_))
  refine J_draw [Ent.blk b82 27 (Change.enc c), Ent.blk b81 24 (DataSet.enc d)] [] [Ent.blk b82 27 (Change.enc c), Ent.blk b81 24 (DataSet.enc d)] 10 Ty.mixed rfl ?_
  refine jt_ 0 (Value.agg ((DataSet.enc d)).toArray) rfl (x_loadN 1 (DataSet.enc d) rfl rfl Ty.ag24 Ty.sz24 rfl) ?_
  refine jt_ 2 (Value.pointer (some ⟨b82, 0, none⟩)) rfl (fun _ _ => x_fieldAddr Ty.fi27_0 rfl rfl) ?_
  refine jt_ 3 (vI c.Kind) rfl (x_load 0 rfl rfl Ty.sc3 rfl) ?_
  refine JA_one 1 (by kernel_rfl) (fun _ h => ⟨h, fun _ => h⟩) ?_
  refine JI_call [] [] [Ent.blk b82 27 (Change.enc c), Ent.blk b81 24 (DataSet.enc d)] rfl rfl trivial (fun _ => x_call Ty.ca47 rfl) (fun _ h => h) (fun _ h => by cases h) (fun w hS => f47_ok2 d w hy_ hy_) ?_
  rintro _ _ ⟨M83, b84, rfl, rfl⟩
  refine JA_one 4 (by kernel_rfl) (fun _ h => ⟨h.keep [false, false, true, true] rfl, fun _ => h.keep [false, false, true, true] rfl⟩) ?_
  refine JI_read (Value.tuple #[Value.nilFunc, vB false]) rfl rfl trivial (x_lookup_ok 0 (f := vI) (k := c.Kind) rfl rfl rfl Try.underlying104 (mapK_i Try.underlying3) Ty.ze102 (lk_ne (by omega) (lk_ne (by omega) (lk_ne (by omega) lk_nil)))) ?_
  refine jt_ 5 (Value.tuple #[Value.nilFunc, vB false]) rfl (fun _ _ => rfl) ?_
  refine jt_ 6 (Value.nilFunc) rfl (fun _ _ => rfl) ?_
  refine jt_ 7 (vB false) rfl (fun _ _ => rfl) ?_
  refine jt_ 8 (Value.nilFunc) rfl (fun _ _ => rfl) ?_
  refine jt_ 9 (vB false) rfl (fun _ _ => rfl) ?_
  refine JA_done (by kernel_rfl) (fun _ h => ⟨h.keep [false, false, true, true] rfl, fun _ => h.keep [false, false, true, true] rfl⟩) ?_
  refine JX_then (J_seq (J_region ?_))
  refine jr_ (vB false) ?_
  refine jr_ (vB false) ?_
  refine sh_ rfl ?_
  refine sh_ rfl ?_
  refine sh_ rfl ?_
  refine sh_ rfl ?_
  refine sh_ rfl ?_
  refine jr_ (vB false) ?_
  refine jr_ (vB false) ?_
  refine sh_ rfl ?_
  refine sh_ rfl ?_
  refine sh_ rfl ?_
  refine jr_ (vB false) ?_
  refine jr_ (vB false) ?_
  refine sh_ rfl ?_
  refine sh_ rfl ?_
  refine sh_ rfl ?_
  refine jr_ (vB false) ?_
  refine jr_ (vB false) ?_
  refine JO_nil (JX_then (J_ret ?_))
  refine JX_rets [vB false] (vB false) Try.results24 (fun w h => ⟨rfl, trivial⟩) rfl [] (fun _ h => h.keep [false, false, false, false] rfl) ⟨?_, ?_⟩
  ·have e_x0 : (false : Bool) = (R27.isChange d c) := by first | (simp [R27.isChange, R27.kindOk, hc]; done) | (simp [R27.isChange, R27.kindOk, hc, *]; done)
   exact congrArg (fun (x0 : Bool) => vB x0) e_x0
  ·rfl
end Go.Proofs.Ytmbinhhlfbgiaaa
