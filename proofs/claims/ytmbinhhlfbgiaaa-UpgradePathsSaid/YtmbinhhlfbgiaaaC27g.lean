/- contracts C27g -/
import Derived.Test.YtmbinhhlfbgiaaaC27f
namespace Go.Proofs.Ytmbinhhlfbgiaaa
open Go.GV
set_option linter.unusedVariables false
set_option linter.unusedSimpArgs false
set_option maxHeartbeats 2000000 in
set_option maxRecDepth 20000 in
theorem f10_ok (ds : List Data) (dsA : Option Addr) (dsC : Nat) (base : DataSet) (alts : List DataSet) (altsA : Option Addr) (altsC : Nat) (c : Change) (w : World) (dsR : RO [] w dsA (ds.flatMap Data.enc)) (dsN : ∀ i : Nat, RO [] w (ds.getD i default).PairsA (((ds.getD i default).Pairs).flatMap Pair.enc)) (altsR : RO [] w altsA (alts.flatMap DataSet.enc)) (q0 : ds.length ≤ 1000) (q1 : ∀ i, (ds.getD i default).Pairs.length ≤ 1000) (q2 : alts.length ≤ 50) (q3 : c.Key.length ≤ 1000) (q4 : c.Record.length ≤ 1000) (q5 : R27.Shorts ds) : Calls Try.prog 10 #[Value.iface 34 (Value.agg #[Value.slice dsA ds.length dsC, Value.pointer none]), Value.agg ((DataSet.enc base)).toArray, Value.slice altsA alts.length altsC, Value.agg ((Change.enc c)).toArray] w (Gives [] w fun v L => ∃ A : Option Addr, ∃ cc : Nat, v = Value.tuple #[Value.slice A ((R27.plan ds base alts c).1.length) cc, vI ((R27.plan ds base alts c).2)] ∧ L = [Ent.row (.slice A ((R27.plan ds base alts c).1).length cc) 27 5 ((R27.plan ds base alts c).1).length (((R27.plan ds base alts c).1).flatMap Change.enc)]) := by
 refine calls_J [] 77 Try.func10 rfl Try.ntmps10 [(0, Value.iface 34 (Value.agg #[Value.slice dsA ds.length dsC, Value.pointer none])), (1, Value.agg ((DataSet.enc base)).toArray), (2, Value.slice altsA alts.length altsC), (3, Value.agg ((Change.enc c)).toArray)] rfl rfl (Give.nil w) ?_
 refine J_seq (J_region ?_)
 refine JO_op rfl trivial (O_box rfl rfl fun b1 => ?_)
 refine JO_op rfl trivial (O_box rfl rfl fun b2 => ?_)
 refine JO_op rfl trivial (O_box rfl rfl fun b3 => ?_)
 refine JO_op rfl trivial (O_box rfl rfl fun b4 => ?_)
 refine jr_ (Value.slice none 0 0) ?_
 refine jr_ (vI 0) ?_
 refine JO_nil (JX_then (J_seq (J_seq (J_region ?_))))
 refine JO_read (Value.agg ((DataSet.enc base)).toArray) rfl trivial (x_loadN 2 (DataSet.enc base) rfl rfl Ty.ag24 Ty.sz24 rfl) ?_
 refine JO_read (Value.slice altsA alts.length altsC) rfl trivial (x_load 1 rfl rfl Ty.sc25 rfl) ?_
 refine JO_call [] [] [Ent.blk b4 27 (Change.enc c), Ent.blk b3 25 [Value.slice altsA alts.length altsC], Ent.blk b2 24 (DataSet.enc base), Ent.blk b1 70 [Value.iface 34 (Value.agg #[Value.slice dsA ds.length dsC, Value.pointer none])]] rfl trivial (fun _ => x_call Ty.ca23 rfl) (fun _ h => h) (fun _ h => by cases h) (fun w hS => f23_ok base alts altsA altsC w (altsR.on hS (fun _ h => by cases h)) hy_) ?_
 rintro _ _ ⟨rfl, rfl⟩
 refine js_ (vB (!(R27.isSphere base alts))) (x_not rfl) ?_
 refine jr_ (vB (!(R27.isSphere base alts))) ?_
 refine JO_cut 5 (fun z => z = ((!(R27.isSphere base alts)) || (!(R27.isChange base c)))) (fun z => [(4, Value.pointer (some ⟨b1, 0, none⟩)), (5, Value.pointer (some ⟨b2, 0, none⟩)), (6, Value.pointer (some ⟨b3, 0, none⟩)), (7, Value.pointer (some ⟨b4, 0, none⟩)), (8, Value.slice none 0 0), (9, vI 0), (26, vB z)]) (fun _ => [Ent.blk b4 27 (Change.enc c), Ent.blk b3 25 [Value.slice altsA alts.length altsC], Ent.blk b2 24 (DataSet.enc base), Ent.blk b1 70 [Value.iface 34 (Value.agg #[Value.slice dsA ds.length dsC, Value.pointer none])]]) ?_ ?_
 ·rcases Bool.eq_false_or_eq_true (!(R27.isSphere base alts)) with g6 | g6
  ·have g6r := g6
   have g6r : (R27.isSphere base alts) = false := bnot_true g6r
   refine sh_ g6 ?_
   refine sh_ g6 ?_
   refine sh_ g6 ?_
   refine sh_ g6 ?_
   refine js_ (vB true) (x_pick_t rfl g6 rfl) ?_
   refine JO_nil (JX_cut (true) (by rw [g6]; simp) ⟨rfl, rfl, rfl, rfl, rfl, rfl, rfl, trivial⟩ (fun _ h => h))
  ·have g6r := g6
   have g6r : (R27.isSphere base alts) = true := bnot_false g6r
   have hi7 := R27.isSphere_valid g6r
   refine JO_read (Value.agg ((DataSet.enc base)).toArray) rfl ⟨_, rfl, g6⟩ (x_loadN 2 (DataSet.enc base) rfl rfl Ty.ag24 Ty.sz24 rfl) ?_
   refine JO_read (Value.agg ((Change.enc c)).toArray) rfl ⟨_, rfl, g6⟩ (x_loadN 0 (Change.enc c) rfl rfl Ty.ag27 Ty.sz27 rfl) ?_
   refine JO_call [] [] [Ent.blk b4 27 (Change.enc c), Ent.blk b3 25 [Value.slice altsA alts.length altsC], Ent.blk b2 24 (DataSet.enc base), Ent.blk b1 70 [Value.iface 34 (Value.agg #[Value.slice dsA ds.length dsC, Value.pointer none])]] rfl ⟨_, rfl, g6⟩ (fun _ => x_call Ty.ca24 rfl) (fun _ h => h) (fun _ h => by cases h) (fun w hS => f24_ok base c w hy_ hy_ hy_) ?_
   rintro _ _ ⟨rfl, rfl⟩
   refine jg_ g6 (vB (!(R27.isChange base c))) (x_not rfl) ?_
   refine js_ (vB (!(R27.isChange base c))) (x_pick_f rfl g6 rfl) ?_
   refine JO_nil (JX_cut (!(R27.isChange base c)) (by rw [g6]; simp) ⟨rfl, rfl, rfl, rfl, rfl, rfl, rfl, trivial⟩ (fun _ h => h))
 rintro z5 rfl
 refine JO_nil (JX_then ?_)
 refine J_cond ((!(R27.isSphere base alts)) || (!(R27.isChange base c))) rfl rfl (fun h8 => ?_) (fun h8 => ?_)
 ·have h8w := h8
  simp only [Bool.and_eq_true, Bool.or_eq_true, Bool.and_eq_false_iff, Bool.or_eq_false_iff, Bool.not_eq_true', Bool.not_eq_false', decide_eq_true_eq, decide_eq_false_iff_not] at h8
  refine J_seq (J_region ?_)
  refine jr_ (Value.slice none 0 0) ?_
  refine jr_ (vI 1) ?_
  refine JO_nil (JX_then (J_ret (JX_then_ret ?_)))
  first
   | have hd : False := by omega
   | have hd := R27.pl_bad (ds := ds) (by assumption)
   | have hd := R27.pl_empty (ds := ds) (by assumption) (by assumption)
   | have hd := R27.pl_get (ds := ds) (by assumption) (by assumption) (by assumption) (by assumption)
   | have hd := R27.pl_errA (ds := ds) (by assumption) (by assumption) (by assumption) (by assumption) (by assumption)
   | have hd := R27.pl_okA (ds := ds) (by assumption) (by assumption) (by assumption) (by assumption) (by assumption)
   | have hd := R27.pl_errB (ds := ds) (by assumption) (by assumption) (by assumption)
   | have hd := R27.pl_okB (ds := ds) (by assumption) (by assumption) (by assumption)
  refine JX_rets [Value.slice none 0 0, vI 1] (Value.tuple #[Value.slice none 0 0, vI 1]) Try.results10 (fun w h => ⟨rfl, rfl, trivial⟩) rfl [Ent.row (.slice none ([] : List Change).length 0) 27 5 ([] : List Change).length (([] : List Change).flatMap Change.enc)] (fun _ h => (h.nilrow 27 5).keep [true, false, false, false, false] rfl) ⟨none, 0, ?_, ?_⟩
  ·have e_x0 : (0 : Nat) = ((R27.plan ds base alts c).1.length) := by first | (rw [hd]; done) | (rw [hd]; rfl) | exact hd.elim
   have e_x1 : (1 : Int) = ((R27.plan ds base alts c).2) := by first | (rw [hd]; done) | (rw [hd]; rfl) | exact hd.elim
   have e_all := (congr (congrArg (fun (x0 : Nat) (x1 : Int) => Value.tuple #[Value.slice none x0 0, vI x1]) e_x0) e_x1)
   exact e_all
  ·have e_y0 : (([] : List Change) : List Change) = (R27.plan ds base alts c).1 := by
    first | (rw [hd]; done) | (rw [hd]; rfl) | exact hd.elim
   have e_all := (congrArg (fun (y0 : List Change) => [Ent.row (.slice none y0.length 0) 27 5 y0.length (y0.flatMap Change.enc)]) e_y0)
   exact e_all
 ·have h8w := h8
  have ⟨h8, h9⟩ := bor_false h8
  have h8 : (R27.isSphere base alts) = true := bnot_false h8
  have hi10 := R27.isSphere_valid h8
  have h9 : (R27.isChange base c) = true := bnot_false h9
  refine J_skip (JX_then (J_seq (J_region ?_)))
  refine JO_read (Value.agg ((Change.enc c)).toArray) rfl trivial (x_loadN 0 (Change.enc c) rfl rfl Ty.ag27 Ty.sz27 rfl) ?_
  refine JO_op rfl trivial (O_alloc Ty.ze27 rfl fun b11 => ?_)
  refine JO_op rfl trivial (O_storeS (vs := (Change.enc c)) 0 (Change.enc c) [Ent.blk b11 27 (Change.enc c), Ent.blk b4 27 (Change.enc c), Ent.blk b3 25 [Value.slice altsA alts.length altsC], Ent.blk b2 24 (DataSet.enc base), Ent.blk b1 70 [Value.iface 34 (Value.agg #[Value.slice dsA ds.length dsC, Value.pointer none])]] rfl rfl rfl Ty.sz27 rfl (Nat.le_of_ble_eq_true rfl) rfl (st_all rfl) rfl ?_)
  refine JO_nil (JX_then (J_seq (J_seq (J_region ?_))))
  refine js_ (Value.pointer (some ⟨b4, 0, none⟩)) (x_fieldAddr Ty.fi27_0 rfl rfl) ?_
  refine JO_read (vI c.Kind) rfl trivial (x_load 1 rfl rfl Ty.sc3 rfl) ?_
  refine js_ (vB (decide (c.Kind = 2))) (x_eql_i rfl rfl) ?_
  refine JO_nil (JX_then ?_)
  refine J_cond (decide (c.Kind = 2)) rfl rfl (fun h12 => ?_) (fun h12 => ?_)
  ·have h12w := h12
   have h12 := of_decide_eq_true h12
   refine J_region ?_
   refine js_ (Value.pointer (some ⟨b11, 2, none⟩)) (x_fieldAddr Ty.fi27_2 rfl rfl) ?_
   refine JO_op rfl trivial (O_store 0 [vI c.Kind, vI c.Id, vS [], vS c.Record, vS c.Volume] [Ent.blk b11 27 [vI c.Kind, vI c.Id, vS [], vS c.Record, vS c.Volume], Ent.blk b4 27 (Change.enc c), Ent.blk b3 25 [Value.slice altsA alts.length altsC], Ent.blk b2 24 (DataSet.enc base), Ent.blk b1 70 [Value.iface 34 (Value.agg #[Value.slice dsA ds.length dsC, Value.pointer none])]] rfl rfl rfl Ty.sz9 rfl (Nat.le_of_ble_eq_true rfl) rfl rfl rfl ?_)
   refine JO_nil (JX_then (J_seq (J_region ?_)))
   refine JO_read (Value.agg #[vI c.Kind, vI c.Id, vS [], vS c.Record, vS c.Volume]) rfl trivial (x_loadN 0 [vI c.Kind, vI c.Id, vS [], vS c.Record, vS c.Volume] rfl rfl Ty.ag27 Ty.sz27 rfl) ?_
   refine JO_op rfl trivial (O_buildSlice (cs := [vI c.Kind, vI c.Id, vS [], vS c.Record, vS c.Volume]) Try.underlying31 Ty.sz27 Ty.ze27 (by decide) (by decide) (by kernel_rfl) fun b13 => ?_)
   refine JO_op rfl trivial (O_alloc Ty.ze31 rfl fun b14 => ?_)
   refine JO_op rfl trivial (O_store 0 [Value.slice (some ⟨b13, 0, none⟩) 1 1] [Ent.blk b14 31 [Value.slice (some ⟨b13, 0, none⟩) 1 1], Ent.blk b13 27 [vI c.Kind, vI c.Id, vS [], vS c.Record, vS c.Volume], Ent.blk b11 27 [vI c.Kind, vI c.Id, vS [], vS c.Record, vS c.Volume], Ent.blk b4 27 (Change.enc c), Ent.blk b3 25 [Value.slice altsA alts.length altsC], Ent.blk b2 24 (DataSet.enc base), Ent.blk b1 70 [Value.iface 34 (Value.agg #[Value.slice dsA ds.length dsC, Value.pointer none])]] rfl rfl rfl Ty.sz31 rfl (Nat.le_of_ble_eq_true rfl) rfl rfl rfl ?_)
   refine JO_nil (JX_then (J_seq (J_region ?_)))
   refine js_ (Value.func (.func 25) #[] #[Value.pointer (some ⟨b3, 0, none⟩)]) (x_makeFunc rfl rfl) ?_
   refine jr_ (Value.func (.func 25) #[] #[Value.pointer (some ⟨b3, 0, none⟩)]) ?_
   refine JO_nil (JX_then (J_seq (J_seq (J_region ?_))))
   refine js_ (Value.pointer (some ⟨b4, 0, none⟩)) (x_fieldAddr Ty.fi27_0 rfl rfl) ?_
   refine JO_read (vI c.Kind) rfl trivial (x_load 3 rfl rfl Ty.sc3 rfl) ?_
   refine js_ (vB (decide (c.Kind = 3))) (x_eql_i rfl rfl) ?_
   refine JO_nil (JX_then ?_)
   refine J_cond (decide (c.Kind = 3)) rfl rfl (fun h15 => ?_) (fun h15 => ?_)
   ·have h15w := h15
    have h15 := of_decide_eq_true h15
    refine J_seq (J_region ?_)
    refine jr_ (Value.func (.func 25) #[] #[Value.pointer (some ⟨b3, 0, none⟩)]) ?_
    refine js_ (Value.func (.func 26) #[] #[Value.pointer (some ⟨b14, 0, none⟩)]) (x_makeFunc rfl rfl) ?_
    refine JO_call (Lown [Ent.blk b3 25 [Value.slice altsA alts.length altsC], Ent.blk b14 31 [Value.slice (some ⟨b13, 0, none⟩) 1 1], Ent.row (.slice (some ⟨b13, 0, none⟩) 1 1) 27 5 1 ([(Change.mk c.Kind c.Id [] c.Record c.Volume)].flatMap Change.enc)]) [Ent.blk b3 25 [Value.slice altsA alts.length altsC], Ent.blk b14 31 [Value.slice (some ⟨b13, 0, none⟩) 1 1], Ent.row (.slice (some ⟨b13, 0, none⟩) 1 1) 27 5 1 ([(Change.mk c.Kind c.Id [] c.Record c.Volume)].flatMap Change.enc)] [Ent.blk b11 27 [vI c.Kind, vI c.Id, vS [], vS c.Record, vS c.Volume], Ent.blk b4 27 (Change.enc c), Ent.blk b2 24 (DataSet.enc base), Ent.blk b1 70 [Value.iface 34 (Value.agg #[Value.slice dsA ds.length dsC, Value.pointer none])]] rfl trivial (fun _ => x_callv (first := []) (caps := [Value.pointer (some ⟨b3, 0, none⟩)]) rfl Ty.ca25 rfl) (fun _ h => (((St.torow (cs := [vI c.Kind, vI c.Id, vS [], vS c.Record, vS c.Volume]) (((((h.front 6 _ rfl).front 6 _ rfl).front 5 _ rfl).front 5 _ rfl).front 5 _ rfl) 5 1 rfl (by decide)).front 5 _ rfl).front 6 _ rfl).keep [true, true, true, true, true, true, true] rfl) lown_mem (fun w hS => f25_okA alts altsA altsC b3 b14 [(Change.mk c.Kind c.Id [] c.Record c.Volume)] (some ⟨b13, 0, none⟩) 1 1 w (altsR.on hS lown_mem) hy_ hy_ hy_ (hS.give lown_in)) ?_
    rintro _ _ ⟨e16, e17, rfl, rfl⟩
    refine JO_nil (JX_then (J_seq (J_region ?_)))
    refine JO_read (Value.slice e16 (([(Change.mk c.Kind c.Id [] c.Record c.Volume)] ++ (alts.map fun a => Change.mk 3 a.Id [] [] [])).length) e17) rfl trivial (x_load 1 rfl rfl Ty.sc31 rfl) ?_
    refine jr_ (Value.slice e16 (([(Change.mk c.Kind c.Id [] c.Record c.Volume)] ++ (alts.map fun a => Change.mk 3 a.Id [] [] [])).length) e17) ?_
    refine jr_ (vI 0) ?_
    refine JO_nil (JX_then (J_ret (JX_then_ret ?_)))
    first
     | have hd : False := by omega
     | have hd := R27.pl_bad (ds := ds) (by assumption)
     | have hd := R27.pl_empty (ds := ds) (by assumption) (by assumption)
     | have hd := R27.pl_get (ds := ds) (by assumption) (by assumption) (by assumption) (by assumption)
     | have hd := R27.pl_errA (ds := ds) (by assumption) (by assumption) (by assumption) (by assumption) (by assumption)
     | have hd := R27.pl_okA (ds := ds) (by assumption) (by assumption) (by assumption) (by assumption) (by assumption)
     | have hd := R27.pl_errB (ds := ds) (by assumption) (by assumption) (by assumption)
     | have hd := R27.pl_okB (ds := ds) (by assumption) (by assumption) (by assumption)
    refine JX_rets [Value.slice e16 (([(Change.mk c.Kind c.Id [] c.Record c.Volume)] ++ (alts.map fun a => Change.mk 3 a.Id [] [] [])).length) e17, vI 0] (Value.tuple #[Value.slice e16 (([(Change.mk c.Kind c.Id [] c.Record c.Volume)] ++ (alts.map fun a => Change.mk 3 a.Id [] [] [])).length) e17, vI 0]) Try.results10 (fun w h => ⟨rfl, rfl, trivial⟩) rfl [Ent.row (.slice e16 ([(Change.mk c.Kind c.Id [] c.Record c.Volume)] ++ (alts.map fun a => Change.mk 3 a.Id [] [] [])).length e17) 27 5 ([(Change.mk c.Kind c.Id [] c.Record c.Volume)] ++ (alts.map fun a => Change.mk 3 a.Id [] [] [])).length (([(Change.mk c.Kind c.Id [] c.Record c.Volume)] ++ (alts.map fun a => Change.mk 3 a.Id [] [] [])).flatMap Change.enc)] (fun _ h => h.keep [false, false, true, false, false, false, false] rfl) ⟨e16, e17, ?_, ?_⟩
    ·have e_x0 : (([(Change.mk c.Kind c.Id [] c.Record c.Volume)] ++ (alts.map fun a => Change.mk 3 a.Id [] [] [])).length : Nat) = ((R27.plan ds base alts c).1.length) := by first | (rw [hd]; done) | (rw [hd]; rfl) | exact hd.elim
     have e_x1 : (0 : Int) = ((R27.plan ds base alts c).2) := by first | (rw [hd]; done) | (rw [hd]; rfl) | exact hd.elim
     have e_all := (congr (congrArg (fun (x0 : Nat) (x1 : Int) => Value.tuple #[Value.slice e16 x0 e17, vI x1]) e_x0) e_x1)
     exact e_all
    ·have e_y0 : (([(Change.mk c.Kind c.Id [] c.Record c.Volume)] ++ (alts.map fun a => Change.mk 3 a.Id [] [] [])) : List Change) = (R27.plan ds base alts c).1 := by
      first | (rw [hd]; done) | (rw [hd]; rfl) | exact hd.elim
     have e_all := (congrArg (fun (y0 : List Change) => [Ent.row (.slice e16 y0.length e17) 27 5 y0.length (y0.flatMap Change.enc)]) e_y0)
     exact e_all
   ·have h15w := h15
    have h15 := of_decide_eq_false h15
    refine J_skip (JX_then (J_seq (J_region ?_)))
    refine JO_op rfl trivial (O_alloc Ty.ze9 rfl fun b18 => ?_)
    refine JO_op rfl trivial (O_store 0 [vS []] [Ent.blk b18 9 [vS []], Ent.blk b14 31 [Value.slice (some ⟨b13, 0, none⟩) 1 1], Ent.blk b13 27 [vI c.Kind, vI c.Id, vS [], vS c.Record, vS c.Volume], Ent.blk b11 27 [vI c.Kind, vI c.Id, vS [], vS c.Record, vS c.Volume], Ent.blk b4 27 (Change.enc c), Ent.blk b3 25 [Value.slice altsA alts.length altsC], Ent.blk b2 24 (DataSet.enc base), Ent.blk b1 70 [Value.iface 34 (Value.agg #[Value.slice dsA ds.length dsC, Value.pointer none])]] rfl rfl rfl Ty.sz9 rfl (Nat.le_of_ble_eq_true rfl) rfl rfl rfl ?_)
    refine jr_ (vI 6) ?_
    refine JO_nil (JX_then (J_seq (J_seq (J_region ?_))))
    refine js_ (Value.pointer (some ⟨b4, 0, none⟩)) (x_fieldAddr Ty.fi27_0 rfl rfl) ?_
    refine JO_read (vI c.Kind) rfl trivial (x_load 4 rfl rfl Ty.sc3 rfl) ?_
    refine js_ (vB (decide (c.Kind ≠ 2))) (x_neq_i rfl rfl) ?_
    refine JO_nil (JX_then ?_)
    refine J_cond (decide (c.Kind ≠ 2)) rfl rfl (fun h19 => ?_) (fun h19 => ?_)
    ·have h19w := h19
     have h19 := of_decide_eq_true h19
     refine J_region ?_
     refine JO_read (Value.iface 34 (Value.agg #[Value.slice dsA ds.length dsC, Value.pointer none])) rfl trivial (x_load 7 rfl rfl Ty.sc70 rfl) ?_
     refine js_ (Value.pointer (some ⟨b2, 0, none⟩)) (x_fieldAddr Ty.fi24_0 rfl rfl) ?_
     refine JO_read (vI base.Id) rfl trivial (x_load 6 rfl rfl Ty.sc3 rfl) ?_
     refine js_ (Value.pointer (some ⟨b4, 2, none⟩)) (x_fieldAddr Ty.fi27_2 rfl rfl) ?_
     refine JO_read (vS c.Key) rfl trivial (x_load 4 rfl rfl Ty.sc9 rfl) ?_
     refine JO_call [] [] [Ent.blk b18 9 [vS []], Ent.blk b14 31 [Value.slice (some ⟨b13, 0, none⟩) 1 1], Ent.blk b13 27 [vI c.Kind, vI c.Id, vS [], vS c.Record, vS c.Volume], Ent.blk b11 27 [vI c.Kind, vI c.Id, vS [], vS c.Record, vS c.Volume], Ent.blk b4 27 (Change.enc c), Ent.blk b3 25 [Value.slice altsA alts.length altsC], Ent.blk b2 24 (DataSet.enc base), Ent.blk b1 70 [Value.iface 34 (Value.agg #[Value.slice dsA ds.length dsC, Value.pointer none])]] rfl trivial (fun _ => x_invoke rfl Ty.mt32 Ty.ca32 Ty.mtd rfl) (fun _ h => h) (fun _ h => by cases h) (fun w hS => f32_ok ds dsA dsC base.Id c.Key w (dsR.on hS (fun _ h => by cases h)) (fun i => (dsN i).on hS (fun _ h => by cases h)) hy_ hy_) ?_
     rintro _ _ ⟨rfl, rfl⟩
     have ha20 := R27.getR_err (R27.ofD ds base.Id).Pairs c.Key
     have ha21 := R27.getR_len (by assumption) base.Id c.Key
     refine jr_ (Value.tuple #[vS ((R27.getR (R27.ofD ds base.Id).Pairs c.Key).1), vI ((R27.getR (R27.ofD ds base.Id).Pairs c.Key).2)]) ?_
     refine jr_ (vS ((R27.getR (R27.ofD ds base.Id).Pairs c.Key).1)) ?_
     refine jr_ (vI ((R27.getR (R27.ofD ds base.Id).Pairs c.Key).2)) ?_
     refine JO_op rfl trivial (O_store 0 [vS ((R27.getR (R27.ofD ds base.Id).Pairs c.Key).1)] [Ent.blk b18 9 [vS ((R27.getR (R27.ofD ds base.Id).Pairs c.Key).1)], Ent.blk b14 31 [Value.slice (some ⟨b13, 0, none⟩) 1 1], Ent.blk b13 27 [vI c.Kind, vI c.Id, vS [], vS c.Record, vS c.Volume], Ent.blk b11 27 [vI c.Kind, vI c.Id, vS [], vS c.Record, vS c.Volume], Ent.blk b4 27 (Change.enc c), Ent.blk b3 25 [Value.slice altsA alts.length altsC], Ent.blk b2 24 (DataSet.enc base), Ent.blk b1 70 [Value.iface 34 (Value.agg #[Value.slice dsA ds.length dsC, Value.pointer none])]] rfl rfl rfl Ty.sz9 rfl (Nat.le_of_ble_eq_true rfl) rfl rfl rfl ?_)
     refine jr_ (vI ((R27.getR (R27.ofD ds base.Id).Pairs c.Key).2)) ?_
     refine JO_nil (JX_then (J_seq (J_seq (J_region ?_))))
     refine jr_ (vI ((R27.getR (R27.ofD ds base.Id).Pairs c.Key).2)) ?_
     refine js_ (vB (decide ((R27.getR (R27.ofD ds base.Id).Pairs c.Key).2 ≠ 0))) (x_neq_i rfl rfl) ?_
     refine jr_ (vB (decide ((R27.getR (R27.ofD ds base.Id).Pairs c.Key).2 ≠ 0))) ?_
     refine JO_cut 8 (fun z => z = ((decide ((R27.getR (R27.ofD ds base.Id).Pairs c.Key).2 ≠ 0)) && ((decide ((R27.getR (R27.ofD ds base.Id).Pairs c.Key).2 ≠ 6)) || (decide (c.Kind = 1))))) (fun z => [(4, Value.pointer (some ⟨b1, 0, none⟩)), (7, Value.pointer (some ⟨b4, 0, none⟩)), (8, Value.slice none 0 0), (9, vI 0), (11, Value.pointer (some ⟨b14, 0, none⟩)), (12, Value.func (.func 25) #[] #[Value.pointer (some ⟨b3, 0, none⟩)]), (13, Value.pointer (some ⟨b18, 0, none⟩)), (14, vI ((R27.getR (R27.ofD ds base.Id).Pairs c.Key).2)), (64, vB z)]) (fun _ => [Ent.blk b18 9 [vS ((R27.getR (R27.ofD ds base.Id).Pairs c.Key).1)], Ent.blk b14 31 [Value.slice (some ⟨b13, 0, none⟩) 1 1], Ent.blk b13 27 [vI c.Kind, vI c.Id, vS [], vS c.Record, vS c.Volume], Ent.blk b11 27 [vI c.Kind, vI c.Id, vS [], vS c.Record, vS c.Volume], Ent.blk b4 27 (Change.enc c), Ent.blk b3 25 [Value.slice altsA alts.length altsC], Ent.blk b2 24 (DataSet.enc base), Ent.blk b1 70 [Value.iface 34 (Value.agg #[Value.slice dsA ds.length dsC, Value.pointer none])]]) ?_ ?_
     ·rcases Bool.eq_false_or_eq_true (decide ((R27.getR (R27.ofD ds base.Id).Pairs c.Key).2 ≠ 0)) with g23 | g23
      ·have g23r := g23
       have g23r := of_decide_eq_true g23r
       refine jg_ g23 (vI ((R27.getR (R27.ofD ds base.Id).Pairs c.Key).2)) (rfl) ?_
       refine jg_ g23 (vB (decide ((R27.getR (R27.ofD ds base.Id).Pairs c.Key).2 ≠ 6))) (x_neq_i rfl rfl) ?_
       refine jg_ g23 (vB (decide ((R27.getR (R27.ofD ds base.Id).Pairs c.Key).2 ≠ 6))) (rfl) ?_
       refine JO_cut 4 (fun z => z = ((decide ((R27.getR (R27.ofD ds base.Id).Pairs c.Key).2 ≠ 6)) || (decide (c.Kind = 1)))) (fun z => [(4, Value.pointer (some ⟨b1, 0, none⟩)), (7, Value.pointer (some ⟨b4, 0, none⟩)), (8, Value.slice none 0 0), (9, vI 0), (11, Value.pointer (some ⟨b14, 0, none⟩)), (12, Value.func (.func 25) #[] #[Value.pointer (some ⟨b3, 0, none⟩)]), (13, Value.pointer (some ⟨b18, 0, none⟩)), (14, vI ((R27.getR (R27.ofD ds base.Id).Pairs c.Key).2)), (56, vB (decide ((R27.getR (R27.ofD ds base.Id).Pairs c.Key).2 ≠ 0))), (63, vB z)]) (fun _ => [Ent.blk b18 9 [vS ((R27.getR (R27.ofD ds base.Id).Pairs c.Key).1)], Ent.blk b14 31 [Value.slice (some ⟨b13, 0, none⟩) 1 1], Ent.blk b13 27 [vI c.Kind, vI c.Id, vS [], vS c.Record, vS c.Volume], Ent.blk b11 27 [vI c.Kind, vI c.Id, vS [], vS c.Record, vS c.Volume], Ent.blk b4 27 (Change.enc c), Ent.blk b3 25 [Value.slice altsA alts.length altsC], Ent.blk b2 24 (DataSet.enc base), Ent.blk b1 70 [Value.iface 34 (Value.agg #[Value.slice dsA ds.length dsC, Value.pointer none])]]) ?_ ?_
       ·rcases Bool.eq_false_or_eq_true (decide ((R27.getR (R27.ofD ds base.Id).Pairs c.Key).2 ≠ 6)) with g25 | g25
        ·have g25r := g25
         have g25r := of_decide_eq_true g25r
         refine sh_ g25 ?_
         refine sh_ g25 ?_
         refine sh_ g25 ?_
         refine jg_ g23 (vB true) (x_pick_t rfl g25 rfl) ?_
         refine JO_nil (JX_cut (true) (by rw [g25]; simp) ⟨rfl, rfl, rfl, rfl, rfl, rfl, rfl, rfl, rfl, rfl, trivial⟩ (fun _ h => h))
        ·have g25r := g25
         have g25r := of_decide_eq_false g25r
         refine jg_ g25 (Value.pointer (some ⟨b4, 0, none⟩)) (x_fieldAddr Ty.fi27_0 rfl rfl) ?_
         refine JO_read (vI c.Kind) rfl ⟨_, rfl, g25⟩ (x_load 4 rfl rfl Ty.sc3 rfl) ?_
         refine jg_ g25 (vB (decide (c.Kind = 1))) (x_eql_i rfl rfl) ?_
         refine jg_ g23 (vB (decide (c.Kind = 1))) (x_pick_f rfl g25 rfl) ?_
         refine JO_nil (JX_cut (decide (c.Kind = 1)) (by rw [g25]; simp) ⟨rfl, rfl, rfl, rfl, rfl, rfl, rfl, rfl, rfl, rfl, trivial⟩ (fun _ h => h))
       rintro z24 rfl
       refine js_ (vB ((decide ((R27.getR (R27.ofD ds base.Id).Pairs c.Key).2 ≠ 6)) || (decide (c.Kind = 1)))) (x_pick_t rfl g23 rfl) ?_
       refine JO_nil (JX_cut ((decide ((R27.getR (R27.ofD ds base.Id).Pairs c.Key).2 ≠ 6)) || (decide (c.Kind = 1))) (by rw [g23]; simp) ⟨rfl, rfl, rfl, rfl, rfl, rfl, rfl, rfl, rfl, trivial⟩ (fun _ h => h))
      ·have g23r := g23
       have g23r := of_decide_eq_false g23r
       refine sh_ g23 ?_
       refine sh_ g23 ?_
       refine sh_ g23 ?_
       refine JO_shunU rfl ⟨_, rfl, rfl⟩ ?_
       refine JO_shunU rfl ⟨_, rfl, rfl⟩ ?_
       refine JO_shunU rfl ⟨_, rfl, rfl⟩ ?_
       refine sh_ g23 ?_
       refine js_ (vB false) (x_pick_f rfl g23 rfl) ?_
       refine JO_nil (JX_cut (false) (by rw [g23]; simp) ⟨rfl, rfl, rfl, rfl, rfl, rfl, rfl, rfl, rfl, trivial⟩ (fun _ h => h))
     rintro z22 rfl
     refine JO_nil (JX_then ?_)
     refine J_cond ((decide ((R27.getR (R27.ofD ds base.Id).Pairs c.Key).2 ≠ 0)) && ((decide ((R27.getR (R27.ofD ds base.Id).Pairs c.Key).2 ≠ 6)) || (decide (c.Kind = 1)))) rfl rfl (fun h26 => ?_) (fun h26 => ?_)
     ·have h26w := h26
      have ⟨h26, h27⟩ := band_true h26
      have h26 := of_decide_eq_true h26
      simp only [Bool.and_eq_true, Bool.or_eq_true, Bool.and_eq_false_iff, Bool.or_eq_false_iff, Bool.not_eq_true', Bool.not_eq_false', decide_eq_true_eq, decide_eq_false_iff_not] at h27
      refine J_seq (J_region ?_)
      refine jr_ (vI ((R27.getR (R27.ofD ds base.Id).Pairs c.Key).2)) ?_
      refine jr_ (Value.slice none 0 0) ?_
      refine jr_ (vI ((R27.getR (R27.ofD ds base.Id).Pairs c.Key).2)) ?_
      refine JO_nil (JX_then (J_ret (JX_then_ret ?_)))
      first
       | have hd : False := by omega
       | have hd := R27.pl_bad (ds := ds) (by assumption)
       | have hd := R27.pl_empty (ds := ds) (by assumption) (by assumption)
       | have hd := R27.pl_get (ds := ds) (by assumption) (by assumption) (by assumption) (by assumption)
       | have hd := R27.pl_errA (ds := ds) (by assumption) (by assumption) (by assumption) (by assumption) (by assumption)
       | have hd := R27.pl_okA (ds := ds) (by assumption) (by assumption) (by assumption) (by assumption) (by assumption)
       | have hd := R27.pl_errB (ds := ds) (by assumption) (by assumption) (by assumption)
       | have hd := R27.pl_okB (ds := ds) (by assumption) (by assumption) (by assumption)
      refine JX_rets [Value.slice none 0 0, vI ((R27.getR (R27.ofD ds base.Id).Pairs c.Key).2)] (Value.tuple #[Value.slice none 0 0, vI ((R27.getR (R27.ofD ds base.Id).Pairs c.Key).2)]) Try.results10 (fun w h => ⟨rfl, rfl, trivial⟩) rfl [Ent.row (.slice none ([] : List Change).length 0) 27 5 ([] : List Change).length (([] : List Change).flatMap Change.enc)] (fun _ h => (h.nilrow 27 5).keep [true, false, false, false, false, false, false, false, false] rfl) ⟨none, 0, ?_, ?_⟩
      ·have e_x0 : (0 : Nat) = ((R27.plan ds base alts c).1.length) := by first | (rw [hd]; done) | (rw [hd]; rfl) | exact hd.elim
       have e_x1 : ((R27.getR (R27.ofD ds base.Id).Pairs c.Key).2 : Int) = ((R27.plan ds base alts c).2) := by first | (rw [hd]; done) | (rw [hd]; rfl) | exact hd.elim
       have e_all := (congr (congrArg (fun (x0 : Nat) (x1 : Int) => Value.tuple #[Value.slice none x0 0, vI x1]) e_x0) e_x1)
       exact e_all
      ·have e_y0 : (([] : List Change) : List Change) = (R27.plan ds base alts c).1 := by
        first | (rw [hd]; done) | (rw [hd]; rfl) | exact hd.elim
       have e_all := (congrArg (fun (y0 : List Change) => [Ent.row (.slice none y0.length 0) 27 5 y0.length (y0.flatMap Change.enc)]) e_y0)
       exact e_all
     ·have h26w := h26
      simp only [Bool.and_eq_true, Bool.or_eq_true, Bool.and_eq_false_iff, Bool.or_eq_false_iff, Bool.not_eq_true', Bool.not_eq_false', decide_eq_true_eq, decide_eq_false_iff_not] at h26
      refine J_skip (JX_then (J_seq (J_region ?_)))
      refine jr_ (vI ((R27.getR (R27.ofD ds base.Id).Pairs c.Key).2)) ?_
      refine js_ (vB (decide ((R27.getR (R27.ofD ds base.Id).Pairs c.Key).2 = 0))) (x_eql_i rfl rfl) ?_
      refine JO_op rfl trivial (O_alloc Ty.ze4 rfl fun b28 => ?_)
      refine JO_op rfl trivial (O_store 0 [vB (decide ((R27.getR (R27.ofD ds base.Id).Pairs c.Key).2 = 0))] [Ent.blk b28 4 [vB (decide ((R27.getR (R27.ofD ds base.Id).Pairs c.Key).2 = 0))], Ent.blk b18 9 [vS ((R27.getR (R27.ofD ds base.Id).Pairs c.Key).1)], Ent.blk b14 31 [Value.slice (some ⟨b13, 0, none⟩) 1 1], Ent.blk b13 27 [vI c.Kind, vI c.Id, vS [], vS c.Record, vS c.Volume], Ent.blk b11 27 [vI c.Kind, vI c.Id, vS [], vS c.Record, vS c.Volume], Ent.blk b4 27 (Change.enc c), Ent.blk b3 25 [Value.slice altsA alts.length altsC], Ent.blk b2 24 (DataSet.enc base), Ent.blk b1 70 [Value.iface 34 (Value.agg #[Value.slice dsA ds.length dsC, Value.pointer none])]] rfl rfl rfl Ty.sz4 rfl (Nat.le_of_ble_eq_true rfl) rfl rfl rfl ?_)
      refine JO_nil (JX_then (J_seq (J_region ?_)))
      refine JO_op rfl trivial (O_alloc Ty.ze31 rfl fun b29 => ?_)
      refine JO_nil (JX_then (J_seq (J_region ?_)))
      refine jr_ (Value.func (.func 25) #[] #[Value.pointer (some ⟨b3, 0, none⟩)]) ?_
      refine js_ (Value.func (.func 27) #[] #[Value.pointer (some ⟨b18, 0, none⟩), Value.pointer (some ⟨b28, 0, none⟩), Value.pointer (some ⟨b4, 0, none⟩), Value.pointer (some ⟨b14, 0, none⟩), Value.pointer (some ⟨b29, 0, none⟩), Value.pointer (some ⟨b1, 0, none⟩)]) (x_makeFunc rfl rfl) ?_
      refine JO_call (Lown [Ent.blk b3 25 [Value.slice altsA alts.length altsC], Ent.blk b18 9 [vS ((R27.getR (R27.ofD ds base.Id).Pairs c.Key).1)], Ent.blk b28 4 [vB (decide ((R27.getR (R27.ofD ds base.Id).Pairs c.Key).2 = 0))], Ent.blk b4 27 (Change.enc c), Ent.blk b14 31 [Value.slice (some ⟨b13, 0, none⟩) 1 1], Ent.blk b29 31 [Value.slice none 0 0], Ent.blk b1 70 [Value.iface 34 (Value.agg #[Value.slice dsA ds.length dsC, Value.pointer none])], Ent.row (.slice (some ⟨b13, 0, none⟩) 1 1) 27 5 1 ([(Change.mk c.Kind c.Id [] c.Record c.Volume)].flatMap Change.enc), Ent.row (.slice none 0 0) 27 5 0 ([].flatMap Change.enc)]) [Ent.blk b3 25 [Value.slice altsA alts.length altsC], Ent.blk b18 9 [vS ((R27.getR (R27.ofD ds base.Id).Pairs c.Key).1)], Ent.blk b28 4 [vB (decide ((R27.getR (R27.ofD ds base.Id).Pairs c.Key).2 = 0))], Ent.blk b4 27 (Change.enc c), Ent.blk b14 31 [Value.slice (some ⟨b13, 0, none⟩) 1 1], Ent.blk b29 31 [Value.slice none 0 0], Ent.blk b1 70 [Value.iface 34 (Value.agg #[Value.slice dsA ds.length dsC, Value.pointer none])], Ent.row (.slice (some ⟨b13, 0, none⟩) 1 1) 27 5 1 ([(Change.mk c.Kind c.Id [] c.Record c.Volume)].flatMap Change.enc), Ent.row (.slice none 0 0) 27 5 0 ([].flatMap Change.enc)] [Ent.blk b11 27 [vI c.Kind, vI c.Id, vS [], vS c.Record, vS c.Volume], Ent.blk b2 24 (DataSet.enc base)] rfl trivial (fun _ => x_callv (first := []) (caps := [Value.pointer (some ⟨b3, 0, none⟩)]) rfl Ty.ca25 rfl) (fun _ h => ((((((((St.torow (cs := [vI c.Kind, vI c.Id, vS [], vS c.Record, vS c.Volume]) ((((h.front 8 _ rfl).front 6 _ rfl).nilrow 27 5).front 7 _ rfl) 5 1 rfl (by decide)).front 10 _ rfl).front 5 _ rfl).front 8 _ rfl).front 9 _ rfl).front 8 _ rfl).front 9 _ rfl).front 10 _ rfl).keep [true, true, true, true, true, true, true, true, true, true, true] rfl) lown_mem (fun w hS => f25_okB ds dsA dsC alts altsA altsC b3 b18 b28 b4 b14 b29 b1 [(Change.mk c.Kind c.Id [] c.Record c.Volume)] (some ⟨b13, 0, none⟩) 1 1 [] none 0 0 ((R27.getR (R27.ofD ds base.Id).Pairs c.Key).1) (decide ((R27.getR (R27.ofD ds base.Id).Pairs c.Key).2 = 0)) c w (dsR.on hS lown_mem) (fun i => (dsN i).on hS lown_mem) (altsR.on hS lown_mem) hy_ hy_ hy_ hy_ hy_ hy_ hy_ hy_ hy_ hy_ (hS.give lown_in)) ?_
      rintro _ _ ⟨e30, e31, e32, e33, rfl, rfl⟩
      have ha34 := R27.stepsA_len2 ds c ((R27.getR (R27.ofD ds base.Id).Pairs c.Key).1) (decide ((R27.getR (R27.ofD ds base.Id).Pairs c.Key).2 = 0)) alts [(Change.mk c.Kind c.Id [] c.Record c.Volume)] []
      try simp only [List.length_cons, List.length_nil, Nat.zero_add, Nat.reduceAdd, Nat.reduceMul] at ha34
      refine jr_ (vI ((R27.stepsA ds c ((R27.getR (R27.ofD ds base.Id).Pairs c.Key).1) (decide ((R27.getR (R27.ofD ds base.Id).Pairs c.Key).2 = 0)) alts ([(Change.mk c.Kind c.Id [] c.Record c.Volume)], [], 0)).2.2)) ?_
      refine JO_nil (JX_then (J_seq (J_seq (J_region ?_))))
      refine jr_ (vI ((R27.stepsA ds c ((R27.getR (R27.ofD ds base.Id).Pairs c.Key).1) (decide ((R27.getR (R27.ofD ds base.Id).Pairs c.Key).2 = 0)) alts ([(Change.mk c.Kind c.Id [] c.Record c.Volume)], [], 0)).2.2)) ?_
      refine js_ (vB (decide ((R27.stepsA ds c ((R27.getR (R27.ofD ds base.Id).Pairs c.Key).1) (decide ((R27.getR (R27.ofD ds base.Id).Pairs c.Key).2 = 0)) alts ([(Change.mk c.Kind c.Id [] c.Record c.Volume)], [], 0)).2.2 ≠ 0))) (x_neq_i rfl rfl) ?_
      refine JO_nil (JX_then ?_)
      refine J_cond (decide ((R27.stepsA ds c ((R27.getR (R27.ofD ds base.Id).Pairs c.Key).1) (decide ((R27.getR (R27.ofD ds base.Id).Pairs c.Key).2 = 0)) alts ([(Change.mk c.Kind c.Id [] c.Record c.Volume)], [], 0)).2.2 ≠ 0)) rfl rfl (fun h35 => ?_) (fun h35 => ?_)
      ·have h35w := h35
       have h35 := of_decide_eq_true h35
       refine J_seq (J_region ?_)
       refine jr_ (vI ((R27.stepsA ds c ((R27.getR (R27.ofD ds base.Id).Pairs c.Key).1) (decide ((R27.getR (R27.ofD ds base.Id).Pairs c.Key).2 = 0)) alts ([(Change.mk c.Kind c.Id [] c.Record c.Volume)], [], 0)).2.2)) ?_
       refine jr_ (Value.slice none 0 0) ?_
       refine jr_ (vI ((R27.stepsA ds c ((R27.getR (R27.ofD ds base.Id).Pairs c.Key).1) (decide ((R27.getR (R27.ofD ds base.Id).Pairs c.Key).2 = 0)) alts ([(Change.mk c.Kind c.Id [] c.Record c.Volume)], [], 0)).2.2)) ?_
       refine JO_nil (JX_then (J_ret (JX_then_ret ?_)))
       first
        | have hd : False := by omega
        | have hd := R27.pl_bad (ds := ds) (by assumption)
        | have hd := R27.pl_empty (ds := ds) (by assumption) (by assumption)
        | have hd := R27.pl_get (ds := ds) (by assumption) (by assumption) (by assumption) (by assumption)
        | have hd := R27.pl_errA (ds := ds) (by assumption) (by assumption) (by assumption) (by assumption) (by assumption)
        | have hd := R27.pl_okA (ds := ds) (by assumption) (by assumption) (by assumption) (by assumption) (by assumption)
        | have hd := R27.pl_errB (ds := ds) (by assumption) (by assumption) (by assumption)
        | have hd := R27.pl_okB (ds := ds) (by assumption) (by assumption) (by assumption)
       refine JX_rets [Value.slice none 0 0, vI ((R27.stepsA ds c ((R27.getR (R27.ofD ds base.Id).Pairs c.Key).1) (decide ((R27.getR (R27.ofD ds base.Id).Pairs c.Key).2 = 0)) alts ([(Change.mk c.Kind c.Id [] c.Record c.Volume)], [], 0)).2.2)] (Value.tuple #[Value.slice none 0 0, vI ((R27.stepsA ds c ((R27.getR (R27.ofD ds base.Id).Pairs c.Key).1) (decide ((R27.getR (R27.ofD ds base.Id).Pairs c.Key).2 = 0)) alts ([(Change.mk c.Kind c.Id [] c.Record c.Volume)], [], 0)).2.2)]) Try.results10 (fun w h => ⟨rfl, rfl, trivial⟩) rfl [Ent.row (.slice none ([] : List Change).length 0) 27 5 ([] : List Change).length (([] : List Change).flatMap Change.enc)] (fun _ h => (h.nilrow 27 5).keep [true, false, false, false, false, false, false, false, false, false, false, false] rfl) ⟨none, 0, ?_, ?_⟩
       ·have e_x0 : (0 : Nat) = ((R27.plan ds base alts c).1.length) := by first | (rw [hd]; done) | (rw [hd]; rfl) | exact hd.elim
        have e_x1 : ((R27.stepsA ds c ((R27.getR (R27.ofD ds base.Id).Pairs c.Key).1) (decide ((R27.getR (R27.ofD ds base.Id).Pairs c.Key).2 = 0)) alts ([(Change.mk c.Kind c.Id [] c.Record c.Volume)], [], 0)).2.2 : Int) = ((R27.plan ds base alts c).2) := by first | (rw [hd]; done) | (rw [hd]; rfl) | exact hd.elim
        have e_all := (congr (congrArg (fun (x0 : Nat) (x1 : Int) => Value.tuple #[Value.slice none x0 0, vI x1]) e_x0) e_x1)
        exact e_all
       ·have e_y0 : (([] : List Change) : List Change) = (R27.plan ds base alts c).1 := by
         first | (rw [hd]; done) | (rw [hd]; rfl) | exact hd.elim
        have e_all := (congrArg (fun (y0 : List Change) => [Ent.row (.slice none y0.length 0) 27 5 y0.length (y0.flatMap Change.enc)]) e_y0)
        exact e_all
      ·have h35w := h35
       have h35 := of_decide_eq_false h35
       refine J_skip (JX_then (J_seq (J_region ?_)))
       refine JO_read (Value.slice e30 ((R27.stepsA ds c ((R27.getR (R27.ofD ds base.Id).Pairs c.Key).1) (decide ((R27.getR (R27.ofD ds base.Id).Pairs c.Key).2 = 0)) alts ([(Change.mk c.Kind c.Id [] c.Record c.Volume)], [], 0)).1.length) e31) rfl trivial (x_load 4 rfl rfl Ty.sc31 rfl) ?_
       refine JO_read (Value.slice e32 ((R27.stepsA ds c ((R27.getR (R27.ofD ds base.Id).Pairs c.Key).1) (decide ((R27.getR (R27.ofD ds base.Id).Pairs c.Key).2 = 0)) alts ([(Change.mk c.Kind c.Id [] c.Record c.Volume)], [], 0)).2.1.length) e33) rfl trivial (x_load 5 rfl rfl Ty.sc31 rfl) ?_
       refine JO_op rfl trivial (O_append_f 7 Change.enc 5 ((R27.stepsA ds c ((R27.getR (R27.ofD ds base.Id).Pairs c.Key).1) (decide ((R27.getR (R27.ofD ds base.Id).Pairs c.Key).2 = 0)) alts ([(Change.mk c.Kind c.Id [] c.Record c.Volume)], [], 0)).1) ((R27.stepsA ds c ((R27.getR (R27.ofD ds base.Id).Pairs c.Key).1) (decide ((R27.getR (R27.ofD ds base.Id).Pairs c.Key).2 = 0)) alts ([(Change.mk c.Kind c.Id [] c.Record c.Volume)], [], 0)).2.1) Try.underlying31 Ty.sz27 Ty.by27 Ty.ze27 rfl (by decide) rfl rfl rfl rfl Change.enc_len Change.enc_one (cells_row 8 rfl) lt_ lt_ fun A36 c37 => ?_)
       refine jr_ (Value.slice A36 ((((R27.stepsA ds c ((R27.getR (R27.ofD ds base.Id).Pairs c.Key).1) (decide ((R27.getR (R27.ofD ds base.Id).Pairs c.Key).2 = 0)) alts ([(Change.mk c.Kind c.Id [] c.Record c.Volume)], [], 0)).1) ++ ((R27.stepsA ds c ((R27.getR (R27.ofD ds base.Id).Pairs c.Key).1) (decide ((R27.getR (R27.ofD ds base.Id).Pairs c.Key).2 = 0)) alts ([(Change.mk c.Kind c.Id [] c.Record c.Volume)], [], 0)).2.1)).length) c37) ?_
       refine jr_ (vI 0) ?_
       refine JO_nil (JX_then (J_ret ?_))
       first
        | have hd : False := by omega
        | have hd := R27.pl_bad (ds := ds) (by assumption)
        | have hd := R27.pl_empty (ds := ds) (by assumption) (by assumption)
        | have hd := R27.pl_get (ds := ds) (by assumption) (by assumption) (by assumption) (by assumption)
        | have hd := R27.pl_errA (ds := ds) (by assumption) (by assumption) (by assumption) (by assumption) (by assumption)
        | have hd := R27.pl_okA (ds := ds) (by assumption) (by assumption) (by assumption) (by assumption) (by assumption)
        | have hd := R27.pl_errB (ds := ds) (by assumption) (by assumption) (by assumption)
        | have hd := R27.pl_okB (ds := ds) (by assumption) (by assumption) (by assumption)
       refine JX_rets [Value.slice A36 ((((R27.stepsA ds c ((R27.getR (R27.ofD ds base.Id).Pairs c.Key).1) (decide ((R27.getR (R27.ofD ds base.Id).Pairs c.Key).2 = 0)) alts ([(Change.mk c.Kind c.Id [] c.Record c.Volume)], [], 0)).1) ++ ((R27.stepsA ds c ((R27.getR (R27.ofD ds base.Id).Pairs c.Key).1) (decide ((R27.getR (R27.ofD ds base.Id).Pairs c.Key).2 = 0)) alts ([(Change.mk c.Kind c.Id [] c.Record c.Volume)], [], 0)).2.1)).length) c37, vI 0] (Value.tuple #[Value.slice A36 ((((R27.stepsA ds c ((R27.getR (R27.ofD ds base.Id).Pairs c.Key).1) (decide ((R27.getR (R27.ofD ds base.Id).Pairs c.Key).2 = 0)) alts ([(Change.mk c.Kind c.Id [] c.Record c.Volume)], [], 0)).1) ++ ((R27.stepsA ds c ((R27.getR (R27.ofD ds base.Id).Pairs c.Key).1) (decide ((R27.getR (R27.ofD ds base.Id).Pairs c.Key).2 = 0)) alts ([(Change.mk c.Kind c.Id [] c.Record c.Volume)], [], 0)).2.1)).length) c37, vI 0]) Try.results10 (fun w h => ⟨rfl, rfl, trivial⟩) rfl [Ent.row (.slice A36 (((R27.stepsA ds c ((R27.getR (R27.ofD ds base.Id).Pairs c.Key).1) (decide ((R27.getR (R27.ofD ds base.Id).Pairs c.Key).2 = 0)) alts ([(Change.mk c.Kind c.Id [] c.Record c.Volume)], [], 0)).1) ++ ((R27.stepsA ds c ((R27.getR (R27.ofD ds base.Id).Pairs c.Key).1) (decide ((R27.getR (R27.ofD ds base.Id).Pairs c.Key).2 = 0)) alts ([(Change.mk c.Kind c.Id [] c.Record c.Volume)], [], 0)).2.1)).length c37) 27 5 (((R27.stepsA ds c ((R27.getR (R27.ofD ds base.Id).Pairs c.Key).1) (decide ((R27.getR (R27.ofD ds base.Id).Pairs c.Key).2 = 0)) alts ([(Change.mk c.Kind c.Id [] c.Record c.Volume)], [], 0)).1) ++ ((R27.stepsA ds c ((R27.getR (R27.ofD ds base.Id).Pairs c.Key).1) (decide ((R27.getR (R27.ofD ds base.Id).Pairs c.Key).2 = 0)) alts ([(Change.mk c.Kind c.Id [] c.Record c.Volume)], [], 0)).2.1)).length ((((R27.stepsA ds c ((R27.getR (R27.ofD ds base.Id).Pairs c.Key).1) (decide ((R27.getR (R27.ofD ds base.Id).Pairs c.Key).2 = 0)) alts ([(Change.mk c.Kind c.Id [] c.Record c.Volume)], [], 0)).1) ++ ((R27.stepsA ds c ((R27.getR (R27.ofD ds base.Id).Pairs c.Key).1) (decide ((R27.getR (R27.ofD ds base.Id).Pairs c.Key).2 = 0)) alts ([(Change.mk c.Kind c.Id [] c.Record c.Volume)], [], 0)).2.1)).flatMap Change.enc)] (fun _ h => h.keep [false, false, false, false, false, false, false, true, false, false, false] rfl) ⟨A36, c37, ?_, ?_⟩
       ·have e_x0 : ((((R27.stepsA ds c ((R27.getR (R27.ofD ds base.Id).Pairs c.Key).1) (decide ((R27.getR (R27.ofD ds base.Id).Pairs c.Key).2 = 0)) alts ([(Change.mk c.Kind c.Id [] c.Record c.Volume)], [], 0)).1) ++ ((R27.stepsA ds c ((R27.getR (R27.ofD ds base.Id).Pairs c.Key).1) (decide ((R27.getR (R27.ofD ds base.Id).Pairs c.Key).2 = 0)) alts ([(Change.mk c.Kind c.Id [] c.Record c.Volume)], [], 0)).2.1)).length : Nat) = ((R27.plan ds base alts c).1.length) := by first | (rw [hd]; done) | (rw [hd]; rfl) | exact hd.elim
        have e_x1 : (0 : Int) = ((R27.plan ds base alts c).2) := by first | (rw [hd]; done) | (rw [hd]; rfl) | exact hd.elim
        have e_all := (congr (congrArg (fun (x0 : Nat) (x1 : Int) => Value.tuple #[Value.slice A36 x0 c37, vI x1]) e_x0) e_x1)
        exact e_all
       ·have e_y0 : (((R27.stepsA ds c ((R27.getR (R27.ofD ds base.Id).Pairs c.Key).1) (decide ((R27.getR (R27.ofD ds base.Id).Pairs c.Key).2 = 0)) alts ([(Change.mk c.Kind c.Id [] c.Record c.Volume)], [], 0)).1) ++ ((R27.stepsA ds c ((R27.getR (R27.ofD ds base.Id).Pairs c.Key).1) (decide ((R27.getR (R27.ofD ds base.Id).Pairs c.Key).2 = 0)) alts ([(Change.mk c.Kind c.Id [] c.Record c.Volume)], [], 0)).2.1) : List Change) = (R27.plan ds base alts c).1 := by
         first | (rw [hd]; done) | (rw [hd]; rfl) | exact hd.elim
        have e_all := (congrArg (fun (y0 : List Change) => [Ent.row (.slice A36 y0.length c37) 27 5 y0.length (y0.flatMap Change.enc)]) e_y0)
        exact e_all
    ·have h19w := h19
     have h19 := of_decide_eq_false h19
     refine J_skip (JX_then (J_seq (J_seq (J_region ?_))))
     refine jr_ (vI 6) ?_
     refine jr_ (vB true) ?_
     refine jr_ (vB true) ?_
     refine jg_ rfl (vI 6) (rfl) ?_
     refine jg_ rfl (vB false) (rfl) ?_
     refine jg_ rfl (vB false) (rfl) ?_
     refine jg_ rfl (Value.pointer (some ⟨b4, 0, none⟩)) (x_fieldAddr Ty.fi27_0 rfl rfl) ?_
     refine JO_read (vI c.Kind) rfl ⟨_, rfl, rfl⟩ (x_load 4 rfl rfl Ty.sc3 rfl) ?_
     refine jg_ rfl (vB (decide (c.Kind = 1))) (x_eql_i rfl rfl) ?_
     refine jg_ rfl (vB (decide (c.Kind = 1))) (rfl) ?_
     refine jr_ (vB (decide (c.Kind = 1))) ?_
     refine JO_nil (JX_then ?_)
     refine J_cond (decide (c.Kind = 1)) rfl rfl (fun h38 => ?_) (fun h38 => ?_)
     ·have h38w := h38
      have h38 := of_decide_eq_true h38
      refine J_seq (J_region ?_)
      refine jr_ (vI 6) ?_
      refine jr_ (Value.slice none 0 0) ?_
      refine jr_ (vI 6) ?_
      refine JO_nil (JX_then (J_ret (JX_then_ret ?_)))
      first
       | have hd : False := by omega
       | have hd := R27.pl_bad (ds := ds) (by assumption)
       | have hd := R27.pl_empty (ds := ds) (by assumption) (by assumption)
       | have hd := R27.pl_get (ds := ds) (by assumption) (by assumption) (by assumption) (by assumption)
       | have hd := R27.pl_errA (ds := ds) (by assumption) (by assumption) (by assumption) (by assumption) (by assumption)
       | have hd := R27.pl_okA (ds := ds) (by assumption) (by assumption) (by assumption) (by assumption) (by assumption)
       | have hd := R27.pl_errB (ds := ds) (by assumption) (by assumption) (by assumption)
       | have hd := R27.pl_okB (ds := ds) (by assumption) (by assumption) (by assumption)
      refine JX_rets [Value.slice none 0 0, vI 6] (Value.tuple #[Value.slice none 0 0, vI 6]) Try.results10 (fun w h => ⟨rfl, rfl, trivial⟩) rfl [Ent.row (.slice none ([] : List Change).length 0) 27 5 ([] : List Change).length (([] : List Change).flatMap Change.enc)] (fun _ h => (h.nilrow 27 5).keep [true, false, false, false, false, false, false, false, false] rfl) ⟨none, 0, ?_, ?_⟩
      ·have e_x0 : (0 : Nat) = ((R27.plan ds base alts c).1.length) := by first | (rw [hd]; done) | (rw [hd]; rfl) | exact hd.elim
       have e_x1 : (6 : Int) = ((R27.plan ds base alts c).2) := by first | (rw [hd]; done) | (rw [hd]; rfl) | exact hd.elim
       have e_all := (congr (congrArg (fun (x0 : Nat) (x1 : Int) => Value.tuple #[Value.slice none x0 0, vI x1]) e_x0) e_x1)
       exact e_all
      ·have e_y0 : (([] : List Change) : List Change) = (R27.plan ds base alts c).1 := by
        first | (rw [hd]; done) | (rw [hd]; rfl) | exact hd.elim
       have e_all := (congrArg (fun (y0 : List Change) => [Ent.row (.slice none y0.length 0) 27 5 y0.length (y0.flatMap Change.enc)]) e_y0)
       exact e_all
     ·have h38w := h38
      have h38 := of_decide_eq_false h38
      refine J_skip (JX_then (J_seq (J_region ?_)))
      refine jr_ (vI 6) ?_
      refine jr_ (vB false) ?_
      refine JO_op rfl trivial (O_alloc Ty.ze4 rfl fun b39 => ?_)
      refine JO_op rfl trivial (O_store 0 [vB false] [Ent.blk b39 4 [vB false], Ent.blk b18 9 [vS []], Ent.blk b14 31 [Value.slice (some ⟨b13, 0, none⟩) 1 1], Ent.blk b13 27 [vI c.Kind, vI c.Id, vS [], vS c.Record, vS c.Volume], Ent.blk b11 27 [vI c.Kind, vI c.Id, vS [], vS c.Record, vS c.Volume], Ent.blk b4 27 (Change.enc c), Ent.blk b3 25 [Value.slice altsA alts.length altsC], Ent.blk b2 24 (DataSet.enc base), Ent.blk b1 70 [Value.iface 34 (Value.agg #[Value.slice dsA ds.length dsC, Value.pointer none])]] rfl rfl rfl Ty.sz4 rfl (Nat.le_of_ble_eq_true rfl) rfl rfl rfl ?_)
      refine JO_nil (JX_then (J_seq (J_region ?_)))
      refine JO_op rfl trivial (O_alloc Ty.ze31 rfl fun b40 => ?_)
      refine JO_nil (JX_then (J_seq (J_region ?_)))
      refine jr_ (Value.func (.func 25) #[] #[Value.pointer (some ⟨b3, 0, none⟩)]) ?_
      refine js_ (Value.func (.func 27) #[] #[Value.pointer (some ⟨b18, 0, none⟩), Value.pointer (some ⟨b39, 0, none⟩), Value.pointer (some ⟨b4, 0, none⟩), Value.pointer (some ⟨b14, 0, none⟩), Value.pointer (some ⟨b40, 0, none⟩), Value.pointer (some ⟨b1, 0, none⟩)]) (x_makeFunc rfl rfl) ?_
      refine JO_call (Lown [Ent.blk b3 25 [Value.slice altsA alts.length altsC], Ent.blk b18 9 [vS []], Ent.blk b39 4 [vB false], Ent.blk b4 27 (Change.enc c), Ent.blk b14 31 [Value.slice (some ⟨b13, 0, none⟩) 1 1], Ent.blk b40 31 [Value.slice none 0 0], Ent.blk b1 70 [Value.iface 34 (Value.agg #[Value.slice dsA ds.length dsC, Value.pointer none])], Ent.row (.slice (some ⟨b13, 0, none⟩) 1 1) 27 5 1 ([(Change.mk c.Kind c.Id [] c.Record c.Volume)].flatMap Change.enc), Ent.row (.slice none 0 0) 27 5 0 ([].flatMap Change.enc)]) [Ent.blk b3 25 [Value.slice altsA alts.length altsC], Ent.blk b18 9 [vS []], Ent.blk b39 4 [vB false], Ent.blk b4 27 (Change.enc c), Ent.blk b14 31 [Value.slice (some ⟨b13, 0, none⟩) 1 1], Ent.blk b40 31 [Value.slice none 0 0], Ent.blk b1 70 [Value.iface 34 (Value.agg #[Value.slice dsA ds.length dsC, Value.pointer none])], Ent.row (.slice (some ⟨b13, 0, none⟩) 1 1) 27 5 1 ([(Change.mk c.Kind c.Id [] c.Record c.Volume)].flatMap Change.enc), Ent.row (.slice none 0 0) 27 5 0 ([].flatMap Change.enc)] [Ent.blk b11 27 [vI c.Kind, vI c.Id, vS [], vS c.Record, vS c.Volume], Ent.blk b2 24 (DataSet.enc base)] rfl trivial (fun _ => x_callv (first := []) (caps := [Value.pointer (some ⟨b3, 0, none⟩)]) rfl Ty.ca25 rfl) (fun _ h => ((((((((St.torow (cs := [vI c.Kind, vI c.Id, vS [], vS c.Record, vS c.Volume]) ((((h.front 8 _ rfl).front 6 _ rfl).nilrow 27 5).front 7 _ rfl) 5 1 rfl (by decide)).front 10 _ rfl).front 5 _ rfl).front 8 _ rfl).front 9 _ rfl).front 8 _ rfl).front 9 _ rfl).front 10 _ rfl).keep [true, true, true, true, true, true, true, true, true, true, true] rfl) lown_mem (fun w hS => f25_okB ds dsA dsC alts altsA altsC b3 b18 b39 b4 b14 b40 b1 [(Change.mk c.Kind c.Id [] c.Record c.Volume)] (some ⟨b13, 0, none⟩) 1 1 [] none 0 0 [] false c w (dsR.on hS lown_mem) (fun i => (dsN i).on hS lown_mem) (altsR.on hS lown_mem) hy_ hy_ hy_ hy_ hy_ hy_ hy_ hy_ hy_ hy_ (hS.give lown_in)) ?_
      rintro _ _ ⟨e41, e42, e43, e44, rfl, rfl⟩
      have ha45 := R27.stepsA_len2 ds c [] false alts [(Change.mk c.Kind c.Id [] c.Record c.Volume)] []
      try simp only [List.length_cons, List.length_nil, Nat.zero_add, Nat.reduceAdd, Nat.reduceMul] at ha45
      refine jr_ (vI ((R27.stepsA ds c [] false alts ([(Change.mk c.Kind c.Id [] c.Record c.Volume)], [], 0)).2.2)) ?_
      refine JO_nil (JX_then (J_seq (J_seq (J_region ?_))))
      refine jr_ (vI ((R27.stepsA ds c [] false alts ([(Change.mk c.Kind c.Id [] c.Record c.Volume)], [], 0)).2.2)) ?_
      refine js_ (vB (decide ((R27.stepsA ds c [] false alts ([(Change.mk c.Kind c.Id [] c.Record c.Volume)], [], 0)).2.2 ≠ 0))) (x_neq_i rfl rfl) ?_
      refine JO_nil (JX_then ?_)
      refine J_cond (decide ((R27.stepsA ds c [] false alts ([(Change.mk c.Kind c.Id [] c.Record c.Volume)], [], 0)).2.2 ≠ 0)) rfl rfl (fun h46 => ?_) (fun h46 => ?_)
      ·have h46w := h46
       have h46 := of_decide_eq_true h46
       refine J_seq (J_region ?_)
       refine jr_ (vI ((R27.stepsA ds c [] false alts ([(Change.mk c.Kind c.Id [] c.Record c.Volume)], [], 0)).2.2)) ?_
       refine jr_ (Value.slice none 0 0) ?_
       refine jr_ (vI ((R27.stepsA ds c [] false alts ([(Change.mk c.Kind c.Id [] c.Record c.Volume)], [], 0)).2.2)) ?_
       refine JO_nil (JX_then (J_ret (JX_then_ret ?_)))
       first
        | have hd : False := by omega
        | have hd := R27.pl_bad (ds := ds) (by assumption)
        | have hd := R27.pl_empty (ds := ds) (by assumption) (by assumption)
        | have hd := R27.pl_get (ds := ds) (by assumption) (by assumption) (by assumption) (by assumption)
        | have hd := R27.pl_errA (ds := ds) (by assumption) (by assumption) (by assumption) (by assumption) (by assumption)
        | have hd := R27.pl_okA (ds := ds) (by assumption) (by assumption) (by assumption) (by assumption) (by assumption)
        | have hd := R27.pl_errB (ds := ds) (by assumption) (by assumption) (by assumption)
        | have hd := R27.pl_okB (ds := ds) (by assumption) (by assumption) (by assumption)
       refine JX_rets [Value.slice none 0 0, vI ((R27.stepsA ds c [] false alts ([(Change.mk c.Kind c.Id [] c.Record c.Volume)], [], 0)).2.2)] (Value.tuple #[Value.slice none 0 0, vI ((R27.stepsA ds c [] false alts ([(Change.mk c.Kind c.Id [] c.Record c.Volume)], [], 0)).2.2)]) Try.results10 (fun w h => ⟨rfl, rfl, trivial⟩) rfl [Ent.row (.slice none ([] : List Change).length 0) 27 5 ([] : List Change).length (([] : List Change).flatMap Change.enc)] (fun _ h => (h.nilrow 27 5).keep [true, false, false, false, false, false, false, false, false, false, false, false] rfl) ⟨none, 0, ?_, ?_⟩
       ·have e_x0 : (0 : Nat) = ((R27.plan ds base alts c).1.length) := by first | (rw [hd]; done) | (rw [hd]; rfl) | exact hd.elim
        have e_x1 : ((R27.stepsA ds c [] false alts ([(Change.mk c.Kind c.Id [] c.Record c.Volume)], [], 0)).2.2 : Int) = ((R27.plan ds base alts c).2) := by first | (rw [hd]; done) | (rw [hd]; rfl) | exact hd.elim
        have e_all := (congr (congrArg (fun (x0 : Nat) (x1 : Int) => Value.tuple #[Value.slice none x0 0, vI x1]) e_x0) e_x1)
        exact e_all
       ·have e_y0 : (([] : List Change) : List Change) = (R27.plan ds base alts c).1 := by
         first | (rw [hd]; done) | (rw [hd]; rfl) | exact hd.elim
        have e_all := (congrArg (fun (y0 : List Change) => [Ent.row (.slice none y0.length 0) 27 5 y0.length (y0.flatMap Change.enc)]) e_y0)
        exact e_all
      ·have h46w := h46
       have h46 := of_decide_eq_false h46
       refine J_skip (JX_then (J_seq (J_region ?_)))
       refine JO_read (Value.slice e41 ((R27.stepsA ds c [] false alts ([(Change.mk c.Kind c.Id [] c.Record c.Volume)], [], 0)).1.length) e42) rfl trivial (x_load 4 rfl rfl Ty.sc31 rfl) ?_
       refine JO_read (Value.slice e43 ((R27.stepsA ds c [] false alts ([(Change.mk c.Kind c.Id [] c.Record c.Volume)], [], 0)).2.1.length) e44) rfl trivial (x_load 5 rfl rfl Ty.sc31 rfl) ?_
       refine JO_op rfl trivial (O_append_f 7 Change.enc 5 ((R27.stepsA ds c [] false alts ([(Change.mk c.Kind c.Id [] c.Record c.Volume)], [], 0)).1) ((R27.stepsA ds c [] false alts ([(Change.mk c.Kind c.Id [] c.Record c.Volume)], [], 0)).2.1) Try.underlying31 Ty.sz27 Ty.by27 Ty.ze27 rfl (by decide) rfl rfl rfl rfl Change.enc_len Change.enc_one (cells_row 8 rfl) lt_ lt_ fun A47 c48 => ?_)
       refine jr_ (Value.slice A47 ((((R27.stepsA ds c [] false alts ([(Change.mk c.Kind c.Id [] c.Record c.Volume)], [], 0)).1) ++ ((R27.stepsA ds c [] false alts ([(Change.mk c.Kind c.Id [] c.Record c.Volume)], [], 0)).2.1)).length) c48) ?_
       refine jr_ (vI 0) ?_
       refine JO_nil (JX_then (J_ret ?_))
       first
        | have hd : False := by omega
        | have hd := R27.pl_bad (ds := ds) (by assumption)
        | have hd := R27.pl_empty (ds := ds) (by assumption) (by assumption)
        | have hd := R27.pl_get (ds := ds) (by assumption) (by assumption) (by assumption) (by assumption)
        | have hd := R27.pl_errA (ds := ds) (by assumption) (by assumption) (by assumption) (by assumption) (by assumption)
        | have hd := R27.pl_okA (ds := ds) (by assumption) (by assumption) (by assumption) (by assumption) (by assumption)
        | have hd := R27.pl_errB (ds := ds) (by assumption) (by assumption) (by assumption)
        | have hd := R27.pl_okB (ds := ds) (by assumption) (by assumption) (by assumption)
       refine JX_rets [Value.slice A47 ((((R27.stepsA ds c [] false alts ([(Change.mk c.Kind c.Id [] c.Record c.Volume)], [], 0)).1) ++ ((R27.stepsA ds c [] false alts ([(Change.mk c.Kind c.Id [] c.Record c.Volume)], [], 0)).2.1)).length) c48, vI 0] (Value.tuple #[Value.slice A47 ((((R27.stepsA ds c [] false alts ([(Change.mk c.Kind c.Id [] c.Record c.Volume)], [], 0)).1) ++ ((R27.stepsA ds c [] false alts ([(Change.mk c.Kind c.Id [] c.Record c.Volume)], [], 0)).2.1)).length) c48, vI 0]) Try.results10 (fun w h => ⟨rfl, rfl, trivial⟩) rfl [Ent.row (.slice A47 (((R27.stepsA ds c [] false alts ([(Change.mk c.Kind c.Id [] c.Record c.Volume)], [], 0)).1) ++ ((R27.stepsA ds c [] false alts ([(Change.mk c.Kind c.Id [] c.Record c.Volume)], [], 0)).2.1)).length c48) 27 5 (((R27.stepsA ds c [] false alts ([(Change.mk c.Kind c.Id [] c.Record c.Volume)], [], 0)).1) ++ ((R27.stepsA ds c [] false alts ([(Change.mk c.Kind c.Id [] c.Record c.Volume)], [], 0)).2.1)).length ((((R27.stepsA ds c [] false alts ([(Change.mk c.Kind c.Id [] c.Record c.Volume)], [], 0)).1) ++ ((R27.stepsA ds c [] false alts ([(Change.mk c.Kind c.Id [] c.Record c.Volume)], [], 0)).2.1)).flatMap Change.enc)] (fun _ h => h.keep [false, false, false, false, false, false, false, true, false, false, false] rfl) ⟨A47, c48, ?_, ?_⟩
       ·have e_x0 : ((((R27.stepsA ds c [] false alts ([(Change.mk c.Kind c.Id [] c.Record c.Volume)], [], 0)).1) ++ ((R27.stepsA ds c [] false alts ([(Change.mk c.Kind c.Id [] c.Record c.Volume)], [], 0)).2.1)).length : Nat) = ((R27.plan ds base alts c).1.length) := by first | (rw [hd]; done) | (rw [hd]; rfl) | exact hd.elim
        have e_x1 : (0 : Int) = ((R27.plan ds base alts c).2) := by first | (rw [hd]; done) | (rw [hd]; rfl) | exact hd.elim
        have e_all := (congr (congrArg (fun (x0 : Nat) (x1 : Int) => Value.tuple #[Value.slice A47 x0 c48, vI x1]) e_x0) e_x1)
        exact e_all
       ·have e_y0 : (((R27.stepsA ds c [] false alts ([(Change.mk c.Kind c.Id [] c.Record c.Volume)], [], 0)).1) ++ ((R27.stepsA ds c [] false alts ([(Change.mk c.Kind c.Id [] c.Record c.Volume)], [], 0)).2.1) : List Change) = (R27.plan ds base alts c).1 := by
         first | (rw [hd]; done) | (rw [hd]; rfl) | exact hd.elim
        have e_all := (congrArg (fun (y0 : List Change) => [Ent.row (.slice A47 y0.length c48) 27 5 y0.length (y0.flatMap Change.enc)]) e_y0)
        exact e_all
  ·have h12w := h12
   have h12 := of_decide_eq_false h12
   refine J_skip (JX_then (J_seq (J_region ?_)))
   refine JO_read (Value.agg ((Change.enc c)).toArray) rfl trivial (x_loadN 0 (Change.enc c) rfl rfl Ty.ag27 Ty.sz27 rfl) ?_
   refine JO_op rfl trivial (O_buildSlice (cs := (Change.enc c)) Try.underlying31 Ty.sz27 Ty.ze27 (by decide) (by decide) (by kernel_rfl) fun b49 => ?_)
   refine JO_op rfl trivial (O_alloc Ty.ze31 rfl fun b50 => ?_)
   refine JO_op rfl trivial (O_store 0 [Value.slice (some ⟨b49, 0, none⟩) 1 1] [Ent.blk b50 31 [Value.slice (some ⟨b49, 0, none⟩) 1 1], Ent.blk b49 27 (Change.enc c), Ent.blk b11 27 (Change.enc c), Ent.blk b4 27 (Change.enc c), Ent.blk b3 25 [Value.slice altsA alts.length altsC], Ent.blk b2 24 (DataSet.enc base), Ent.blk b1 70 [Value.iface 34 (Value.agg #[Value.slice dsA ds.length dsC, Value.pointer none])]] rfl rfl rfl Ty.sz31 rfl (Nat.le_of_ble_eq_true rfl) rfl rfl rfl ?_)
   refine JO_nil (JX_then (J_seq (J_region ?_)))
   refine js_ (Value.func (.func 25) #[] #[Value.pointer (some ⟨b3, 0, none⟩)]) (x_makeFunc rfl rfl) ?_
   refine jr_ (Value.func (.func 25) #[] #[Value.pointer (some ⟨b3, 0, none⟩)]) ?_
   refine JO_nil (JX_then (J_seq (J_seq (J_region ?_))))
   refine js_ (Value.pointer (some ⟨b4, 0, none⟩)) (x_fieldAddr Ty.fi27_0 rfl rfl) ?_
   refine JO_read (vI c.Kind) rfl trivial (x_load 3 rfl rfl Ty.sc3 rfl) ?_
   refine js_ (vB (decide (c.Kind = 3))) (x_eql_i rfl rfl) ?_
   refine JO_nil (JX_then ?_)
   refine J_cond (decide (c.Kind = 3)) rfl rfl (fun h51 => ?_) (fun h51 => ?_)
   ·have h51w := h51
    have h51 := of_decide_eq_true h51
    refine J_seq (J_region ?_)
    refine jr_ (Value.func (.func 25) #[] #[Value.pointer (some ⟨b3, 0, none⟩)]) ?_
    refine js_ (Value.func (.func 26) #[] #[Value.pointer (some ⟨b50, 0, none⟩)]) (x_makeFunc rfl rfl) ?_
    refine JO_call (Lown [Ent.blk b3 25 [Value.slice altsA alts.length altsC], Ent.blk b50 31 [Value.slice (some ⟨b49, 0, none⟩) 1 1], Ent.row (.slice (some ⟨b49, 0, none⟩) 1 1) 27 5 1 ([c].flatMap Change.enc)]) [Ent.blk b3 25 [Value.slice altsA alts.length altsC], Ent.blk b50 31 [Value.slice (some ⟨b49, 0, none⟩) 1 1], Ent.row (.slice (some ⟨b49, 0, none⟩) 1 1) 27 5 1 ([c].flatMap Change.enc)] [Ent.blk b11 27 (Change.enc c), Ent.blk b4 27 (Change.enc c), Ent.blk b2 24 (DataSet.enc base), Ent.blk b1 70 [Value.iface 34 (Value.agg #[Value.slice dsA ds.length dsC, Value.pointer none])]] rfl trivial (fun _ => x_callv (first := []) (caps := [Value.pointer (some ⟨b3, 0, none⟩)]) rfl Ty.ca25 rfl) (fun _ h => (((St.torow (cs := [vI c.Kind, vI c.Id, vS c.Key, vS c.Record, vS c.Volume]) (((((h.front 6 _ rfl).front 6 _ rfl).front 5 _ rfl).front 5 _ rfl).front 5 _ rfl) 5 1 rfl (by decide)).front 5 _ rfl).front 6 _ rfl).keep [true, true, true, true, true, true, true] rfl) lown_mem (fun w hS => f25_okA alts altsA altsC b3 b50 [c] (some ⟨b49, 0, none⟩) 1 1 w (altsR.on hS lown_mem) hy_ hy_ hy_ (hS.give lown_in)) ?_
    rintro _ _ ⟨e52, e53, rfl, rfl⟩
    refine JO_nil (JX_then (J_seq (J_region ?_)))
    refine JO_read (Value.slice e52 (([c] ++ (alts.map fun a => Change.mk 3 a.Id [] [] [])).length) e53) rfl trivial (x_load 1 rfl rfl Ty.sc31 rfl) ?_
    refine jr_ (Value.slice e52 (([c] ++ (alts.map fun a => Change.mk 3 a.Id [] [] [])).length) e53) ?_
    refine jr_ (vI 0) ?_
    refine JO_nil (JX_then (J_ret (JX_then_ret ?_)))
    first
     | have hd : False := by omega
     | have hd := R27.pl_bad (ds := ds) (by assumption)
     | have hd := R27.pl_empty (ds := ds) (by assumption) (by assumption)
     | have hd := R27.pl_get (ds := ds) (by assumption) (by assumption) (by assumption) (by assumption)
     | have hd := R27.pl_errA (ds := ds) (by assumption) (by assumption) (by assumption) (by assumption) (by assumption)
     | have hd := R27.pl_okA (ds := ds) (by assumption) (by assumption) (by assumption) (by assumption) (by assumption)
     | have hd := R27.pl_errB (ds := ds) (by assumption) (by assumption) (by assumption)
     | have hd := R27.pl_okB (ds := ds) (by assumption) (by assumption) (by assumption)
    refine JX_rets [Value.slice e52 (([c] ++ (alts.map fun a => Change.mk 3 a.Id [] [] [])).length) e53, vI 0] (Value.tuple #[Value.slice e52 (([c] ++ (alts.map fun a => Change.mk 3 a.Id [] [] [])).length) e53, vI 0]) Try.results10 (fun w h => ⟨rfl, rfl, trivial⟩) rfl [Ent.row (.slice e52 ([c] ++ (alts.map fun a => Change.mk 3 a.Id [] [] [])).length e53) 27 5 ([c] ++ (alts.map fun a => Change.mk 3 a.Id [] [] [])).length (([c] ++ (alts.map fun a => Change.mk 3 a.Id [] [] [])).flatMap Change.enc)] (fun _ h => h.keep [false, false, true, false, false, false, false] rfl) ⟨e52, e53, ?_, ?_⟩
    ·have e_x0 : (([c] ++ (alts.map fun a => Change.mk 3 a.Id [] [] [])).length : Nat) = ((R27.plan ds base alts c).1.length) := by first | (rw [hd]; done) | (rw [hd]; rfl) | exact hd.elim
     have e_x1 : (0 : Int) = ((R27.plan ds base alts c).2) := by first | (rw [hd]; done) | (rw [hd]; rfl) | exact hd.elim
     have e_all := (congr (congrArg (fun (x0 : Nat) (x1 : Int) => Value.tuple #[Value.slice e52 x0 e53, vI x1]) e_x0) e_x1)
     exact e_all
    ·have e_y0 : (([c] ++ (alts.map fun a => Change.mk 3 a.Id [] [] [])) : List Change) = (R27.plan ds base alts c).1 := by
      first | (rw [hd]; done) | (rw [hd]; rfl) | exact hd.elim
     have e_all := (congrArg (fun (y0 : List Change) => [Ent.row (.slice e52 y0.length e53) 27 5 y0.length (y0.flatMap Change.enc)]) e_y0)
     exact e_all
   ·have h51w := h51
    have h51 := of_decide_eq_false h51
    refine J_skip (JX_then (J_seq (J_region ?_)))
    refine JO_op rfl trivial (O_alloc Ty.ze9 rfl fun b54 => ?_)
    refine JO_op rfl trivial (O_store 0 [vS []] [Ent.blk b54 9 [vS []], Ent.blk b50 31 [Value.slice (some ⟨b49, 0, none⟩) 1 1], Ent.blk b49 27 (Change.enc c), Ent.blk b11 27 (Change.enc c), Ent.blk b4 27 (Change.enc c), Ent.blk b3 25 [Value.slice altsA alts.length altsC], Ent.blk b2 24 (DataSet.enc base), Ent.blk b1 70 [Value.iface 34 (Value.agg #[Value.slice dsA ds.length dsC, Value.pointer none])]] rfl rfl rfl Ty.sz9 rfl (Nat.le_of_ble_eq_true rfl) rfl rfl rfl ?_)
    refine jr_ (vI 6) ?_
    refine JO_nil (JX_then (J_seq (J_seq (J_region ?_))))
    refine js_ (Value.pointer (some ⟨b4, 0, none⟩)) (x_fieldAddr Ty.fi27_0 rfl rfl) ?_
    refine JO_read (vI c.Kind) rfl trivial (x_load 4 rfl rfl Ty.sc3 rfl) ?_
    refine js_ (vB (decide (c.Kind ≠ 2))) (x_neq_i rfl rfl) ?_
    refine JO_nil (JX_then ?_)
    refine J_cond (decide (c.Kind ≠ 2)) rfl rfl (fun h55 => ?_) (fun h55 => ?_)
    ·have h55w := h55
     have h55 := of_decide_eq_true h55
     refine J_region ?_
     refine JO_read (Value.iface 34 (Value.agg #[Value.slice dsA ds.length dsC, Value.pointer none])) rfl trivial (x_load 7 rfl rfl Ty.sc70 rfl) ?_
     refine js_ (Value.pointer (some ⟨b2, 0, none⟩)) (x_fieldAddr Ty.fi24_0 rfl rfl) ?_
     refine JO_read (vI base.Id) rfl trivial (x_load 6 rfl rfl Ty.sc3 rfl) ?_
     refine js_ (Value.pointer (some ⟨b4, 2, none⟩)) (x_fieldAddr Ty.fi27_2 rfl rfl) ?_
     refine JO_read (vS c.Key) rfl trivial (x_load 4 rfl rfl Ty.sc9 rfl) ?_
     refine JO_call [] [] [Ent.blk b54 9 [vS []], Ent.blk b50 31 [Value.slice (some ⟨b49, 0, none⟩) 1 1], Ent.blk b49 27 (Change.enc c), Ent.blk b11 27 (Change.enc c), Ent.blk b4 27 (Change.enc c), Ent.blk b3 25 [Value.slice altsA alts.length altsC], Ent.blk b2 24 (DataSet.enc base), Ent.blk b1 70 [Value.iface 34 (Value.agg #[Value.slice dsA ds.length dsC, Value.pointer none])]] rfl trivial (fun _ => x_invoke rfl Ty.mt32 Ty.ca32 Ty.mtd rfl) (fun _ h => h) (fun _ h => by cases h) (fun w hS => f32_ok ds dsA dsC base.Id c.Key w (dsR.on hS (fun _ h => by cases h)) (fun i => (dsN i).on hS (fun _ h => by cases h)) hy_ hy_) ?_
     rintro _ _ ⟨rfl, rfl⟩
     have ha56 := R27.getR_err (R27.ofD ds base.Id).Pairs c.Key
     have ha57 := R27.getR_len (by assumption) base.Id c.Key
     refine jr_ (Value.tuple #[vS ((R27.getR (R27.ofD ds base.Id).Pairs c.Key).1), vI ((R27.getR (R27.ofD ds base.Id).Pairs c.Key).2)]) ?_
     refine jr_ (vS ((R27.getR (R27.ofD ds base.Id).Pairs c.Key).1)) ?_
     refine jr_ (vI ((R27.getR (R27.ofD ds base.Id).Pairs c.Key).2)) ?_
     refine JO_op rfl trivial (O_store 0 [vS ((R27.getR (R27.ofD ds base.Id).Pairs c.Key).1)] [Ent.blk b54 9 [vS ((R27.getR (R27.ofD ds base.Id).Pairs c.Key).1)], Ent.blk b50 31 [Value.slice (some ⟨b49, 0, none⟩) 1 1], Ent.blk b49 27 (Change.enc c), Ent.blk b11 27 (Change.enc c), Ent.blk b4 27 (Change.enc c), Ent.blk b3 25 [Value.slice altsA alts.length altsC], Ent.blk b2 24 (DataSet.enc base), Ent.blk b1 70 [Value.iface 34 (Value.agg #[Value.slice dsA ds.length dsC, Value.pointer none])]] rfl rfl rfl Ty.sz9 rfl (Nat.le_of_ble_eq_true rfl) rfl rfl rfl ?_)
     refine jr_ (vI ((R27.getR (R27.ofD ds base.Id).Pairs c.Key).2)) ?_
     refine JO_nil (JX_then (J_seq (J_seq (J_region ?_))))
     refine jr_ (vI ((R27.getR (R27.ofD ds base.Id).Pairs c.Key).2)) ?_
     refine js_ (vB (decide ((R27.getR (R27.ofD ds base.Id).Pairs c.Key).2 ≠ 0))) (x_neq_i rfl rfl) ?_
     refine jr_ (vB (decide ((R27.getR (R27.ofD ds base.Id).Pairs c.Key).2 ≠ 0))) ?_
     refine JO_cut 8 (fun z => z = ((decide ((R27.getR (R27.ofD ds base.Id).Pairs c.Key).2 ≠ 0)) && ((decide ((R27.getR (R27.ofD ds base.Id).Pairs c.Key).2 ≠ 6)) || (decide (c.Kind = 1))))) (fun z => [(4, Value.pointer (some ⟨b1, 0, none⟩)), (7, Value.pointer (some ⟨b4, 0, none⟩)), (8, Value.slice none 0 0), (9, vI 0), (11, Value.pointer (some ⟨b50, 0, none⟩)), (12, Value.func (.func 25) #[] #[Value.pointer (some ⟨b3, 0, none⟩)]), (13, Value.pointer (some ⟨b54, 0, none⟩)), (14, vI ((R27.getR (R27.ofD ds base.Id).Pairs c.Key).2)), (64, vB z)]) (fun _ => [Ent.blk b54 9 [vS ((R27.getR (R27.ofD ds base.Id).Pairs c.Key).1)], Ent.blk b50 31 [Value.slice (some ⟨b49, 0, none⟩) 1 1], Ent.blk b49 27 (Change.enc c), Ent.blk b11 27 (Change.enc c), Ent.blk b4 27 (Change.enc c), Ent.blk b3 25 [Value.slice altsA alts.length altsC], Ent.blk b2 24 (DataSet.enc base), Ent.blk b1 70 [Value.iface 34 (Value.agg #[Value.slice dsA ds.length dsC, Value.pointer none])]]) ?_ ?_
     ·rcases Bool.eq_false_or_eq_true (decide ((R27.getR (R27.ofD ds base.Id).Pairs c.Key).2 ≠ 0)) with g59 | g59
      ·have g59r := g59
       have g59r := of_decide_eq_true g59r
       refine jg_ g59 (vI ((R27.getR (R27.ofD ds base.Id).Pairs c.Key).2)) (rfl) ?_
       refine jg_ g59 (vB (decide ((R27.getR (R27.ofD ds base.Id).Pairs c.Key).2 ≠ 6))) (x_neq_i rfl rfl) ?_
       refine jg_ g59 (vB (decide ((R27.getR (R27.ofD ds base.Id).Pairs c.Key).2 ≠ 6))) (rfl) ?_
       refine JO_cut 4 (fun z => z = ((decide ((R27.getR (R27.ofD ds base.Id).Pairs c.Key).2 ≠ 6)) || (decide (c.Kind = 1)))) (fun z => [(4, Value.pointer (some ⟨b1, 0, none⟩)), (7, Value.pointer (some ⟨b4, 0, none⟩)), (8, Value.slice none 0 0), (9, vI 0), (11, Value.pointer (some ⟨b50, 0, none⟩)), (12, Value.func (.func 25) #[] #[Value.pointer (some ⟨b3, 0, none⟩)]), (13, Value.pointer (some ⟨b54, 0, none⟩)), (14, vI ((R27.getR (R27.ofD ds base.Id).Pairs c.Key).2)), (56, vB (decide ((R27.getR (R27.ofD ds base.Id).Pairs c.Key).2 ≠ 0))), (63, vB z)]) (fun _ => [Ent.blk b54 9 [vS ((R27.getR (R27.ofD ds base.Id).Pairs c.Key).1)], Ent.blk b50 31 [Value.slice (some ⟨b49, 0, none⟩) 1 1], Ent.blk b49 27 (Change.enc c), Ent.blk b11 27 (Change.enc c), Ent.blk b4 27 (Change.enc c), Ent.blk b3 25 [Value.slice altsA alts.length altsC], Ent.blk b2 24 (DataSet.enc base), Ent.blk b1 70 [Value.iface 34 (Value.agg #[Value.slice dsA ds.length dsC, Value.pointer none])]]) ?_ ?_
       ·rcases Bool.eq_false_or_eq_true (decide ((R27.getR (R27.ofD ds base.Id).Pairs c.Key).2 ≠ 6)) with g61 | g61
        ·have g61r := g61
         have g61r := of_decide_eq_true g61r
         refine sh_ g61 ?_
         refine sh_ g61 ?_
         refine sh_ g61 ?_
         refine jg_ g59 (vB true) (x_pick_t rfl g61 rfl) ?_
         refine JO_nil (JX_cut (true) (by rw [g61]; simp) ⟨rfl, rfl, rfl, rfl, rfl, rfl, rfl, rfl, rfl, rfl, trivial⟩ (fun _ h => h))
        ·have g61r := g61
         have g61r := of_decide_eq_false g61r
         refine jg_ g61 (Value.pointer (some ⟨b4, 0, none⟩)) (x_fieldAddr Ty.fi27_0 rfl rfl) ?_
         refine JO_read (vI c.Kind) rfl ⟨_, rfl, g61⟩ (x_load 4 rfl rfl Ty.sc3 rfl) ?_
         refine jg_ g61 (vB (decide (c.Kind = 1))) (x_eql_i rfl rfl) ?_
         refine jg_ g59 (vB (decide (c.Kind = 1))) (x_pick_f rfl g61 rfl) ?_
         refine JO_nil (JX_cut (decide (c.Kind = 1)) (by rw [g61]; simp) ⟨rfl, rfl, rfl, rfl, rfl, rfl, rfl, rfl, rfl, rfl, trivial⟩ (fun _ h => h))
       rintro z60 rfl
       refine js_ (vB ((decide ((R27.getR (R27.ofD ds base.Id).Pairs c.Key).2 ≠ 6)) || (decide (c.Kind = 1)))) (x_pick_t rfl g59 rfl) ?_
       refine JO_nil (JX_cut ((decide ((R27.getR (R27.ofD ds base.Id).Pairs c.Key).2 ≠ 6)) || (decide (c.Kind = 1))) (by rw [g59]; simp) ⟨rfl, rfl, rfl, rfl, rfl, rfl, rfl, rfl, rfl, trivial⟩ (fun _ h => h))
      ·have g59r := g59
       have g59r := of_decide_eq_false g59r
       refine sh_ g59 ?_
       refine sh_ g59 ?_
       refine sh_ g59 ?_
       refine JO_shunU rfl ⟨_, rfl, rfl⟩ ?_
       refine JO_shunU rfl ⟨_, rfl, rfl⟩ ?_
       refine JO_shunU rfl ⟨_, rfl, rfl⟩ ?_
       refine sh_ g59 ?_
       refine js_ (vB false) (x_pick_f rfl g59 rfl) ?_
       refine JO_nil (JX_cut (false) (by rw [g59]; simp) ⟨rfl, rfl, rfl, rfl, rfl, rfl, rfl, rfl, rfl, trivial⟩ (fun _ h => h))
     rintro z58 rfl
     refine JO_nil (JX_then ?_)
     refine J_cond ((decide ((R27.getR (R27.ofD ds base.Id).Pairs c.Key).2 ≠ 0)) && ((decide ((R27.getR (R27.ofD ds base.Id).Pairs c.Key).2 ≠ 6)) || (decide (c.Kind = 1)))) rfl rfl (fun h62 => ?_) (fun h62 => ?_)
     ·have h62w := h62
      have ⟨h62, h63⟩ := band_true h62
      have h62 := of_decide_eq_true h62
      simp only [Bool.and_eq_true, Bool.or_eq_true, Bool.and_eq_false_iff, Bool.or_eq_false_iff, Bool.not_eq_true', Bool.not_eq_false', decide_eq_true_eq, decide_eq_false_iff_not] at h63
      refine J_seq (J_region ?_)
      refine jr_ (vI ((R27.getR (R27.ofD ds base.Id).Pairs c.Key).2)) ?_
      refine jr_ (Value.slice none 0 0) ?_
      refine jr_ (vI ((R27.getR (R27.ofD ds base.Id).Pairs c.Key).2)) ?_
      refine JO_nil (JX_then (J_ret (JX_then_ret ?_)))
      first
       | have hd : False := by omega
       | have hd := R27.pl_bad (ds := ds) (by assumption)
       | have hd := R27.pl_empty (ds := ds) (by assumption) (by assumption)
       | have hd := R27.pl_get (ds := ds) (by assumption) (by assumption) (by assumption) (by assumption)
       | have hd := R27.pl_errA (ds := ds) (by assumption) (by assumption) (by assumption) (by assumption) (by assumption)
       | have hd := R27.pl_okA (ds := ds) (by assumption) (by assumption) (by assumption) (by assumption) (by assumption)
       | have hd := R27.pl_errB (ds := ds) (by assumption) (by assumption) (by assumption)
       | have hd := R27.pl_okB (ds := ds) (by assumption) (by assumption) (by assumption)
      refine JX_rets [Value.slice none 0 0, vI ((R27.getR (R27.ofD ds base.Id).Pairs c.Key).2)] (Value.tuple #[Value.slice none 0 0, vI ((R27.getR (R27.ofD ds base.Id).Pairs c.Key).2)]) Try.results10 (fun w h => ⟨rfl, rfl, trivial⟩) rfl [Ent.row (.slice none ([] : List Change).length 0) 27 5 ([] : List Change).length (([] : List Change).flatMap Change.enc)] (fun _ h => (h.nilrow 27 5).keep [true, false, false, false, false, false, false, false, false] rfl) ⟨none, 0, ?_, ?_⟩
      ·have e_x0 : (0 : Nat) = ((R27.plan ds base alts c).1.length) := by first | (rw [hd]; done) | (rw [hd]; rfl) | exact hd.elim
       have e_x1 : ((R27.getR (R27.ofD ds base.Id).Pairs c.Key).2 : Int) = ((R27.plan ds base alts c).2) := by first | (rw [hd]; done) | (rw [hd]; rfl) | exact hd.elim
       have e_all := (congr (congrArg (fun (x0 : Nat) (x1 : Int) => Value.tuple #[Value.slice none x0 0, vI x1]) e_x0) e_x1)
       exact e_all
      ·have e_y0 : (([] : List Change) : List Change) = (R27.plan ds base alts c).1 := by
        first | (rw [hd]; done) | (rw [hd]; rfl) | exact hd.elim
       have e_all := (congrArg (fun (y0 : List Change) => [Ent.row (.slice none y0.length 0) 27 5 y0.length (y0.flatMap Change.enc)]) e_y0)
       exact e_all
     ·have h62w := h62
      simp only [Bool.and_eq_true, Bool.or_eq_true, Bool.and_eq_false_iff, Bool.or_eq_false_iff, Bool.not_eq_true', Bool.not_eq_false', decide_eq_true_eq, decide_eq_false_iff_not] at h62
      refine J_skip (JX_then (J_seq (J_region ?_)))
      refine jr_ (vI ((R27.getR (R27.ofD ds base.Id).Pairs c.Key).2)) ?_
      refine js_ (vB (decide ((R27.getR (R27.ofD ds base.Id).Pairs c.Key).2 = 0))) (x_eql_i rfl rfl) ?_
      refine JO_op rfl trivial (O_alloc Ty.ze4 rfl fun b64 => ?_)
      refine JO_op rfl trivial (O_store 0 [vB (decide ((R27.getR (R27.ofD ds base.Id).Pairs c.Key).2 = 0))] [Ent.blk b64 4 [vB (decide ((R27.getR (R27.ofD ds base.Id).Pairs c.Key).2 = 0))], Ent.blk b54 9 [vS ((R27.getR (R27.ofD ds base.Id).Pairs c.Key).1)], Ent.blk b50 31 [Value.slice (some ⟨b49, 0, none⟩) 1 1], Ent.blk b49 27 (Change.enc c), Ent.blk b11 27 (Change.enc c), Ent.blk b4 27 (Change.enc c), Ent.blk b3 25 [Value.slice altsA alts.length altsC], Ent.blk b2 24 (DataSet.enc base), Ent.blk b1 70 [Value.iface 34 (Value.agg #[Value.slice dsA ds.length dsC, Value.pointer none])]] rfl rfl rfl Ty.sz4 rfl (Nat.le_of_ble_eq_true rfl) rfl rfl rfl ?_)
      refine JO_nil (JX_then (J_seq (J_region ?_)))
      refine JO_op rfl trivial (O_alloc Ty.ze31 rfl fun b65 => ?_)
      refine JO_nil (JX_then (J_seq (J_region ?_)))
      refine jr_ (Value.func (.func 25) #[] #[Value.pointer (some ⟨b3, 0, none⟩)]) ?_
      refine js_ (Value.func (.func 27) #[] #[Value.pointer (some ⟨b54, 0, none⟩), Value.pointer (some ⟨b64, 0, none⟩), Value.pointer (some ⟨b4, 0, none⟩), Value.pointer (some ⟨b50, 0, none⟩), Value.pointer (some ⟨b65, 0, none⟩), Value.pointer (some ⟨b1, 0, none⟩)]) (x_makeFunc rfl rfl) ?_
      refine JO_call (Lown [Ent.blk b3 25 [Value.slice altsA alts.length altsC], Ent.blk b54 9 [vS ((R27.getR (R27.ofD ds base.Id).Pairs c.Key).1)], Ent.blk b64 4 [vB (decide ((R27.getR (R27.ofD ds base.Id).Pairs c.Key).2 = 0))], Ent.blk b4 27 (Change.enc c), Ent.blk b50 31 [Value.slice (some ⟨b49, 0, none⟩) 1 1], Ent.blk b65 31 [Value.slice none 0 0], Ent.blk b1 70 [Value.iface 34 (Value.agg #[Value.slice dsA ds.length dsC, Value.pointer none])], Ent.row (.slice (some ⟨b49, 0, none⟩) 1 1) 27 5 1 ([c].flatMap Change.enc), Ent.row (.slice none 0 0) 27 5 0 ([].flatMap Change.enc)]) [Ent.blk b3 25 [Value.slice altsA alts.length altsC], Ent.blk b54 9 [vS ((R27.getR (R27.ofD ds base.Id).Pairs c.Key).1)], Ent.blk b64 4 [vB (decide ((R27.getR (R27.ofD ds base.Id).Pairs c.Key).2 = 0))], Ent.blk b4 27 (Change.enc c), Ent.blk b50 31 [Value.slice (some ⟨b49, 0, none⟩) 1 1], Ent.blk b65 31 [Value.slice none 0 0], Ent.blk b1 70 [Value.iface 34 (Value.agg #[Value.slice dsA ds.length dsC, Value.pointer none])], Ent.row (.slice (some ⟨b49, 0, none⟩) 1 1) 27 5 1 ([c].flatMap Change.enc), Ent.row (.slice none 0 0) 27 5 0 ([].flatMap Change.enc)] [Ent.blk b11 27 (Change.enc c), Ent.blk b2 24 (DataSet.enc base)] rfl trivial (fun _ => x_callv (first := []) (caps := [Value.pointer (some ⟨b3, 0, none⟩)]) rfl Ty.ca25 rfl) (fun _ h => ((((((((St.torow (cs := [vI c.Kind, vI c.Id, vS c.Key, vS c.Record, vS c.Volume]) ((((h.front 8 _ rfl).front 6 _ rfl).nilrow 27 5).front 7 _ rfl) 5 1 rfl (by decide)).front 10 _ rfl).front 5 _ rfl).front 8 _ rfl).front 9 _ rfl).front 8 _ rfl).front 9 _ rfl).front 10 _ rfl).keep [true, true, true, true, true, true, true, true, true, true, true] rfl) lown_mem (fun w hS => f25_okB ds dsA dsC alts altsA altsC b3 b54 b64 b4 b50 b65 b1 [c] (some ⟨b49, 0, none⟩) 1 1 [] none 0 0 ((R27.getR (R27.ofD ds base.Id).Pairs c.Key).1) (decide ((R27.getR (R27.ofD ds base.Id).Pairs c.Key).2 = 0)) c w (dsR.on hS lown_mem) (fun i => (dsN i).on hS lown_mem) (altsR.on hS lown_mem) hy_ hy_ hy_ hy_ hy_ hy_ hy_ hy_ hy_ hy_ (hS.give lown_in)) ?_
      rintro _ _ ⟨e66, e67, e68, e69, rfl, rfl⟩
      have ha70 := R27.stepsA_len2 ds c ((R27.getR (R27.ofD ds base.Id).Pairs c.Key).1) (decide ((R27.getR (R27.ofD ds base.Id).Pairs c.Key).2 = 0)) alts [c] []
      try simp only [List.length_cons, List.length_nil, Nat.zero_add, Nat.reduceAdd, Nat.reduceMul] at ha70
      refine jr_ (vI ((R27.stepsA ds c ((R27.getR (R27.ofD ds base.Id).Pairs c.Key).1) (decide ((R27.getR (R27.ofD ds base.Id).Pairs c.Key).2 = 0)) alts ([c], [], 0)).2.2)) ?_
      refine JO_nil (JX_then (J_seq (J_seq (J_region ?_))))
      refine jr_ (vI ((R27.stepsA ds c ((R27.getR (R27.ofD ds base.Id).Pairs c.Key).1) (decide ((R27.getR (R27.ofD ds base.Id).Pairs c.Key).2 = 0)) alts ([c], [], 0)).2.2)) ?_
      refine js_ (vB (decide ((R27.stepsA ds c ((R27.getR (R27.ofD ds base.Id).Pairs c.Key).1) (decide ((R27.getR (R27.ofD ds base.Id).Pairs c.Key).2 = 0)) alts ([c], [], 0)).2.2 ≠ 0))) (x_neq_i rfl rfl) ?_
      refine JO_nil (JX_then ?_)
      refine J_cond (decide ((R27.stepsA ds c ((R27.getR (R27.ofD ds base.Id).Pairs c.Key).1) (decide ((R27.getR (R27.ofD ds base.Id).Pairs c.Key).2 = 0)) alts ([c], [], 0)).2.2 ≠ 0)) rfl rfl (fun h71 => ?_) (fun h71 => ?_)
      ·have h71w := h71
       have h71 := of_decide_eq_true h71
       refine J_seq (J_region ?_)
       refine jr_ (vI ((R27.stepsA ds c ((R27.getR (R27.ofD ds base.Id).Pairs c.Key).1) (decide ((R27.getR (R27.ofD ds base.Id).Pairs c.Key).2 = 0)) alts ([c], [], 0)).2.2)) ?_
       refine jr_ (Value.slice none 0 0) ?_
       refine jr_ (vI ((R27.stepsA ds c ((R27.getR (R27.ofD ds base.Id).Pairs c.Key).1) (decide ((R27.getR (R27.ofD ds base.Id).Pairs c.Key).2 = 0)) alts ([c], [], 0)).2.2)) ?_
       refine JO_nil (JX_then (J_ret (JX_then_ret ?_)))
       first
        | have hd : False := by omega
        | have hd := R27.pl_bad (ds := ds) (by assumption)
        | have hd := R27.pl_empty (ds := ds) (by assumption) (by assumption)
        | have hd := R27.pl_get (ds := ds) (by assumption) (by assumption) (by assumption) (by assumption)
        | have hd := R27.pl_errA (ds := ds) (by assumption) (by assumption) (by assumption) (by assumption) (by assumption)
        | have hd := R27.pl_okA (ds := ds) (by assumption) (by assumption) (by assumption) (by assumption) (by assumption)
        | have hd := R27.pl_errB (ds := ds) (by assumption) (by assumption) (by assumption)
        | have hd := R27.pl_okB (ds := ds) (by assumption) (by assumption) (by assumption)
       refine JX_rets [Value.slice none 0 0, vI ((R27.stepsA ds c ((R27.getR (R27.ofD ds base.Id).Pairs c.Key).1) (decide ((R27.getR (R27.ofD ds base.Id).Pairs c.Key).2 = 0)) alts ([c], [], 0)).2.2)] (Value.tuple #[Value.slice none 0 0, vI ((R27.stepsA ds c ((R27.getR (R27.ofD ds base.Id).Pairs c.Key).1) (decide ((R27.getR (R27.ofD ds base.Id).Pairs c.Key).2 = 0)) alts ([c], [], 0)).2.2)]) Try.results10 (fun w h => ⟨rfl, rfl, trivial⟩) rfl [Ent.row (.slice none ([] : List Change).length 0) 27 5 ([] : List Change).length (([] : List Change).flatMap Change.enc)] (fun _ h => (h.nilrow 27 5).keep [true, false, false, false, false, false, false, false, false, false, false, false] rfl) ⟨none, 0, ?_, ?_⟩
       ·have e_x0 : (0 : Nat) = ((R27.plan ds base alts c).1.length) := by first | (rw [hd]; done) | (rw [hd]; rfl) | exact hd.elim
        have e_x1 : ((R27.stepsA ds c ((R27.getR (R27.ofD ds base.Id).Pairs c.Key).1) (decide ((R27.getR (R27.ofD ds base.Id).Pairs c.Key).2 = 0)) alts ([c], [], 0)).2.2 : Int) = ((R27.plan ds base alts c).2) := by first | (rw [hd]; done) | (rw [hd]; rfl) | exact hd.elim
        have e_all := (congr (congrArg (fun (x0 : Nat) (x1 : Int) => Value.tuple #[Value.slice none x0 0, vI x1]) e_x0) e_x1)
        exact e_all
       ·have e_y0 : (([] : List Change) : List Change) = (R27.plan ds base alts c).1 := by
         first | (rw [hd]; done) | (rw [hd]; rfl) | exact hd.elim
        have e_all := (congrArg (fun (y0 : List Change) => [Ent.row (.slice none y0.length 0) 27 5 y0.length (y0.flatMap Change.enc)]) e_y0)
        exact e_all
      ·have h71w := h71
       have h71 := of_decide_eq_false h71
       refine J_skip (JX_then (J_seq (J_region ?_)))
       refine JO_read (Value.slice e66 ((R27.stepsA ds c ((R27.getR (R27.ofD ds base.Id).Pairs c.Key).1) (decide ((R27.getR (R27.ofD ds base.Id).Pairs c.Key).2 = 0)) alts ([c], [], 0)).1.length) e67) rfl trivial (x_load 4 rfl rfl Ty.sc31 rfl) ?_
       refine JO_read (Value.slice e68 ((R27.stepsA ds c ((R27.getR (R27.ofD ds base.Id).Pairs c.Key).1) (decide ((R27.getR (R27.ofD ds base.Id).Pairs c.Key).2 = 0)) alts ([c], [], 0)).2.1.length) e69) rfl trivial (x_load 5 rfl rfl Ty.sc31 rfl) ?_
       refine JO_op rfl trivial (O_append_f 7 Change.enc 5 ((R27.stepsA ds c ((R27.getR (R27.ofD ds base.Id).Pairs c.Key).1) (decide ((R27.getR (R27.ofD ds base.Id).Pairs c.Key).2 = 0)) alts ([c], [], 0)).1) ((R27.stepsA ds c ((R27.getR (R27.ofD ds base.Id).Pairs c.Key).1) (decide ((R27.getR (R27.ofD ds base.Id).Pairs c.Key).2 = 0)) alts ([c], [], 0)).2.1) Try.underlying31 Ty.sz27 Ty.by27 Ty.ze27 rfl (by decide) rfl rfl rfl rfl Change.enc_len Change.enc_one (cells_row 8 rfl) lt_ lt_ fun A72 c73 => ?_)
       refine jr_ (Value.slice A72 ((((R27.stepsA ds c ((R27.getR (R27.ofD ds base.Id).Pairs c.Key).1) (decide ((R27.getR (R27.ofD ds base.Id).Pairs c.Key).2 = 0)) alts ([c], [], 0)).1) ++ ((R27.stepsA ds c ((R27.getR (R27.ofD ds base.Id).Pairs c.Key).1) (decide ((R27.getR (R27.ofD ds base.Id).Pairs c.Key).2 = 0)) alts ([c], [], 0)).2.1)).length) c73) ?_
       refine jr_ (vI 0) ?_
       refine JO_nil (JX_then (J_ret ?_))
       first
        | have hd : False := by omega
        | have hd := R27.pl_bad (ds := ds) (by assumption)
        | have hd := R27.pl_empty (ds := ds) (by assumption) (by assumption)
        | have hd := R27.pl_get (ds := ds) (by assumption) (by assumption) (by assumption) (by assumption)
        | have hd := R27.pl_errA (ds := ds) (by assumption) (by assumption) (by assumption) (by assumption) (by assumption)
        | have hd := R27.pl_okA (ds := ds) (by assumption) (by assumption) (by assumption) (by assumption) (by assumption)
        | have hd := R27.pl_errB (ds := ds) (by assumption) (by assumption) (by assumption)
        | have hd := R27.pl_okB (ds := ds) (by assumption) (by assumption) (by assumption)
       refine JX_rets [Value.slice A72 ((((R27.stepsA ds c ((R27.getR (R27.ofD ds base.Id).Pairs c.Key).1) (decide ((R27.getR (R27.ofD ds base.Id).Pairs c.Key).2 = 0)) alts ([c], [], 0)).1) ++ ((R27.stepsA ds c ((R27.getR (R27.ofD ds base.Id).Pairs c.Key).1) (decide ((R27.getR (R27.ofD ds base.Id).Pairs c.Key).2 = 0)) alts ([c], [], 0)).2.1)).length) c73, vI 0] (Value.tuple #[Value.slice A72 ((((R27.stepsA ds c ((R27.getR (R27.ofD ds base.Id).Pairs c.Key).1) (decide ((R27.getR (R27.ofD ds base.Id).Pairs c.Key).2 = 0)) alts ([c], [], 0)).1) ++ ((R27.stepsA ds c ((R27.getR (R27.ofD ds base.Id).Pairs c.Key).1) (decide ((R27.getR (R27.ofD ds base.Id).Pairs c.Key).2 = 0)) alts ([c], [], 0)).2.1)).length) c73, vI 0]) Try.results10 (fun w h => ⟨rfl, rfl, trivial⟩) rfl [Ent.row (.slice A72 (((R27.stepsA ds c ((R27.getR (R27.ofD ds base.Id).Pairs c.Key).1) (decide ((R27.getR (R27.ofD ds base.Id).Pairs c.Key).2 = 0)) alts ([c], [], 0)).1) ++ ((R27.stepsA ds c ((R27.getR (R27.ofD ds base.Id).Pairs c.Key).1) (decide ((R27.getR (R27.ofD ds base.Id).Pairs c.Key).2 = 0)) alts ([c], [], 0)).2.1)).length c73) 27 5 (((R27.stepsA ds c ((R27.getR (R27.ofD ds base.Id).Pairs c.Key).1) (decide ((R27.getR (R27.ofD ds base.Id).Pairs c.Key).2 = 0)) alts ([c], [], 0)).1) ++ ((R27.stepsA ds c ((R27.getR (R27.ofD ds base.Id).Pairs c.Key).1) (decide ((R27.getR (R27.ofD ds base.Id).Pairs c.Key).2 = 0)) alts ([c], [], 0)).2.1)).length ((((R27.stepsA ds c ((R27.getR (R27.ofD ds base.Id).Pairs c.Key).1) (decide ((R27.getR (R27.ofD ds base.Id).Pairs c.Key).2 = 0)) alts ([c], [], 0)).1) ++ ((R27.stepsA ds c ((R27.getR (R27.ofD ds base.Id).Pairs c.Key).1) (decide ((R27.getR (R27.ofD ds base.Id).Pairs c.Key).2 = 0)) alts ([c], [], 0)).2.1)).flatMap Change.enc)] (fun _ h => h.keep [false, false, false, false, false, false, false, true, false, false, false] rfl) ⟨A72, c73, ?_, ?_⟩
       ·have e_x0 : ((((R27.stepsA ds c ((R27.getR (R27.ofD ds base.Id).Pairs c.Key).1) (decide ((R27.getR (R27.ofD ds base.Id).Pairs c.Key).2 = 0)) alts ([c], [], 0)).1) ++ ((R27.stepsA ds c ((R27.getR (R27.ofD ds base.Id).Pairs c.Key).1) (decide ((R27.getR (R27.ofD ds base.Id).Pairs c.Key).2 = 0)) alts ([c], [], 0)).2.1)).length : Nat) = ((R27.plan ds base alts c).1.length) := by first | (rw [hd]; done) | (rw [hd]; rfl) | exact hd.elim
        have e_x1 : (0 : Int) = ((R27.plan ds base alts c).2) := by first | (rw [hd]; done) | (rw [hd]; rfl) | exact hd.elim
        have e_all := (congr (congrArg (fun (x0 : Nat) (x1 : Int) => Value.tuple #[Value.slice A72 x0 c73, vI x1]) e_x0) e_x1)
        exact e_all
       ·have e_y0 : (((R27.stepsA ds c ((R27.getR (R27.ofD ds base.Id).Pairs c.Key).1) (decide ((R27.getR (R27.ofD ds base.Id).Pairs c.Key).2 = 0)) alts ([c], [], 0)).1) ++ ((R27.stepsA ds c ((R27.getR (R27.ofD ds base.Id).Pairs c.Key).1) (decide ((R27.getR (R27.ofD ds base.Id).Pairs c.Key).2 = 0)) alts ([c], [], 0)).2.1) : List Change) = (R27.plan ds base alts c).1 := by
         first | (rw [hd]; done) | (rw [hd]; rfl) | exact hd.elim
        have e_all := (congrArg (fun (y0 : List Change) => [Ent.row (.slice A72 y0.length c73) 27 5 y0.length (y0.flatMap Change.enc)]) e_y0)
        exact e_all
    ·have h55w := h55
     have h55 := of_decide_eq_false h55
     refine J_skip (JX_then (J_seq (J_seq (J_region ?_))))
     refine jr_ (vI 6) ?_
     refine jr_ (vB true) ?_
     refine jr_ (vB true) ?_
     refine jg_ rfl (vI 6) (rfl) ?_
     refine jg_ rfl (vB false) (rfl) ?_
     refine jg_ rfl (vB false) (rfl) ?_
     refine jg_ rfl (Value.pointer (some ⟨b4, 0, none⟩)) (x_fieldAddr Ty.fi27_0 rfl rfl) ?_
     refine JO_read (vI c.Kind) rfl ⟨_, rfl, rfl⟩ (x_load 4 rfl rfl Ty.sc3 rfl) ?_
     refine jg_ rfl (vB (decide (c.Kind = 1))) (x_eql_i rfl rfl) ?_
     refine jg_ rfl (vB (decide (c.Kind = 1))) (rfl) ?_
     refine jr_ (vB (decide (c.Kind = 1))) ?_
     refine JO_nil (JX_then ?_)
     refine J_cond (decide (c.Kind = 1)) rfl rfl (fun h74 => ?_) (fun h74 => ?_)
     ·have h74w := h74
      have h74 := of_decide_eq_true h74
      refine J_seq (J_region ?_)
      refine jr_ (vI 6) ?_
      refine jr_ (Value.slice none 0 0) ?_
      refine jr_ (vI 6) ?_
      refine JO_nil (JX_then (J_ret (JX_then_ret ?_)))
      first
       | have hd : False := by omega
       | have hd := R27.pl_bad (ds := ds) (by assumption)
       | have hd := R27.pl_empty (ds := ds) (by assumption) (by assumption)
       | have hd := R27.pl_get (ds := ds) (by assumption) (by assumption) (by assumption) (by assumption)
       | have hd := R27.pl_errA (ds := ds) (by assumption) (by assumption) (by assumption) (by assumption) (by assumption)
       | have hd := R27.pl_okA (ds := ds) (by assumption) (by assumption) (by assumption) (by assumption) (by assumption)
       | have hd := R27.pl_errB (ds := ds) (by assumption) (by assumption) (by assumption)
       | have hd := R27.pl_okB (ds := ds) (by assumption) (by assumption) (by assumption)
      refine JX_rets [Value.slice none 0 0, vI 6] (Value.tuple #[Value.slice none 0 0, vI 6]) Try.results10 (fun w h => ⟨rfl, rfl, trivial⟩) rfl [Ent.row (.slice none ([] : List Change).length 0) 27 5 ([] : List Change).length (([] : List Change).flatMap Change.enc)] (fun _ h => (h.nilrow 27 5).keep [true, false, false, false, false, false, false, false, false] rfl) ⟨none, 0, ?_, ?_⟩
      ·have e_x0 : (0 : Nat) = ((R27.plan ds base alts c).1.length) := by first | (rw [hd]; done) | (rw [hd]; rfl) | exact hd.elim
       have e_x1 : (6 : Int) = ((R27.plan ds base alts c).2) := by first | (rw [hd]; done) | (rw [hd]; rfl) | exact hd.elim
       have e_all := (congr (congrArg (fun (x0 : Nat) (x1 : Int) => Value.tuple #[Value.slice none x0 0, vI x1]) e_x0) e_x1)
       exact e_all
      ·have e_y0 : (([] : List Change) : List Change) = (R27.plan ds base alts c).1 := by
        first | (rw [hd]; done) | (rw [hd]; rfl) | exact hd.elim
       have e_all := (congrArg (fun (y0 : List Change) => [Ent.row (.slice none y0.length 0) 27 5 y0.length (y0.flatMap Change.enc)]) e_y0)
       exact e_all
     ·have h74w := h74
      have h74 := of_decide_eq_false h74
      refine J_skip (JX_then (J_seq (J_region ?_)))
      refine jr_ (vI 6) ?_
      refine jr_ (vB false) ?_
      refine JO_op rfl trivial (O_alloc Ty.ze4 rfl fun b75 => ?_)
      refine JO_op rfl trivial (O_store 0 [vB false] [Ent.blk b75 4 [vB false], Ent.blk b54 9 [vS []], Ent.blk b50 31 [Value.slice (some ⟨b49, 0, none⟩) 1 1], Ent.blk b49 27 (Change.enc c), Ent.blk b11 27 (Change.enc c), Ent.blk b4 27 (Change.enc c), Ent.blk b3 25 [Value.slice altsA alts.length altsC], Ent.blk b2 24 (DataSet.enc base), Ent.blk b1 70 [Value.iface 34 (Value.agg #[Value.slice dsA ds.length dsC, Value.pointer none])]] rfl rfl rfl Ty.sz4 rfl (Nat.le_of_ble_eq_true rfl) rfl rfl rfl ?_)
      refine JO_nil (JX_then (J_seq (J_region ?_)))
      refine JO_op rfl trivial (O_alloc Ty.ze31 rfl fun b76 => ?_)
      refine JO_nil (JX_then (J_seq (J_region ?_)))
      refine jr_ (Value.func (.func 25) #[] #[Value.pointer (some ⟨b3, 0, none⟩)]) ?_
      refine js_ (Value.func (.func 27) #[] #[Value.pointer (some ⟨b54, 0, none⟩), Value.pointer (some ⟨b75, 0, none⟩), Value.pointer (some ⟨b4, 0, none⟩), Value.pointer (some ⟨b50, 0, none⟩), Value.pointer (some ⟨b76, 0, none⟩), Value.pointer (some ⟨b1, 0, none⟩)]) (x_makeFunc rfl rfl) ?_
      refine JO_call (Lown [Ent.blk b3 25 [Value.slice altsA alts.length altsC], Ent.blk b54 9 [vS []], Ent.blk b75 4 [vB false], Ent.blk b4 27 (Change.enc c), Ent.blk b50 31 [Value.slice (some ⟨b49, 0, none⟩) 1 1], Ent.blk b76 31 [Value.slice none 0 0], Ent.blk b1 70 [Value.iface 34 (Value.agg #[Value.slice dsA ds.length dsC, Value.pointer none])], Ent.row (.slice (some ⟨b49, 0, none⟩) 1 1) 27 5 1 ([c].flatMap Change.enc), Ent.row (.slice none 0 0) 27 5 0 ([].flatMap Change.enc)]) [Ent.blk b3 25 [Value.slice altsA alts.length altsC], Ent.blk b54 9 [vS []], Ent.blk b75 4 [vB false], Ent.blk b4 27 (Change.enc c), Ent.blk b50 31 [Value.slice (some ⟨b49, 0, none⟩) 1 1], Ent.blk b76 31 [Value.slice none 0 0], Ent.blk b1 70 [Value.iface 34 (Value.agg #[Value.slice dsA ds.length dsC, Value.pointer none])], Ent.row (.slice (some ⟨b49, 0, none⟩) 1 1) 27 5 1 ([c].flatMap Change.enc), Ent.row (.slice none 0 0) 27 5 0 ([].flatMap Change.enc)] [Ent.blk b11 27 (Change.enc c), Ent.blk b2 24 (DataSet.enc base)] rfl trivial (fun _ => x_callv (first := []) (caps := [Value.pointer (some ⟨b3, 0, none⟩)]) rfl Ty.ca25 rfl) (fun _ h => ((((((((St.torow (cs := [vI c.Kind, vI c.Id, vS c.Key, vS c.Record, vS c.Volume]) ((((h.front 8 _ rfl).front 6 _ rfl).nilrow 27 5).front 7 _ rfl) 5 1 rfl (by decide)).front 10 _ rfl).front 5 _ rfl).front 8 _ rfl).front 9 _ rfl).front 8 _ rfl).front 9 _ rfl).front 10 _ rfl).keep [true, true, true, true, true, true, true, true, true, true, true] rfl) lown_mem (fun w hS => f25_okB ds dsA dsC alts altsA altsC b3 b54 b75 b4 b50 b76 b1 [c] (some ⟨b49, 0, none⟩) 1 1 [] none 0 0 [] false c w (dsR.on hS lown_mem) (fun i => (dsN i).on hS lown_mem) (altsR.on hS lown_mem) hy_ hy_ hy_ hy_ hy_ hy_ hy_ hy_ hy_ hy_ (hS.give lown_in)) ?_
      rintro _ _ ⟨e77, e78, e79, e80, rfl, rfl⟩
      have ha81 := R27.stepsA_len2 ds c [] false alts [c] []
      try simp only [List.length_cons, List.length_nil, Nat.zero_add, Nat.reduceAdd, Nat.reduceMul] at ha81
      refine jr_ (vI ((R27.stepsA ds c [] false alts ([c], [], 0)).2.2)) ?_
      refine JO_nil (JX_then (J_seq (J_seq (J_region ?_))))
      refine jr_ (vI ((R27.stepsA ds c [] false alts ([c], [], 0)).2.2)) ?_
      refine js_ (vB (decide ((R27.stepsA ds c [] false alts ([c], [], 0)).2.2 ≠ 0))) (x_neq_i rfl rfl) ?_
      refine JO_nil (JX_then ?_)
      refine J_cond (decide ((R27.stepsA ds c [] false alts ([c], [], 0)).2.2 ≠ 0)) rfl rfl (fun h82 => ?_) (fun h82 => ?_)
      ·have h82w := h82
       have h82 := of_decide_eq_true h82
       refine J_seq (J_region ?_)
       refine jr_ (vI ((R27.stepsA ds c [] false alts ([c], [], 0)).2.2)) ?_
       refine jr_ (Value.slice none 0 0) ?_
       refine jr_ (vI ((R27.stepsA ds c [] false alts ([c], [], 0)).2.2)) ?_
       refine JO_nil (JX_then (J_ret (JX_then_ret ?_)))
       first
        | have hd : False := by omega
        | have hd := R27.pl_bad (ds := ds) (by assumption)
        | have hd := R27.pl_empty (ds := ds) (by assumption) (by assumption)
        | have hd := R27.pl_get (ds := ds) (by assumption) (by assumption) (by assumption) (by assumption)
        | have hd := R27.pl_errA (ds := ds) (by assumption) (by assumption) (by assumption) (by assumption) (by assumption)
        | have hd := R27.pl_okA (ds := ds) (by assumption) (by assumption) (by assumption) (by assumption) (by assumption)
        | have hd := R27.pl_errB (ds := ds) (by assumption) (by assumption) (by assumption)
        | have hd := R27.pl_okB (ds := ds) (by assumption) (by assumption) (by assumption)
       refine JX_rets [Value.slice none 0 0, vI ((R27.stepsA ds c [] false alts ([c], [], 0)).2.2)] (Value.tuple #[Value.slice none 0 0, vI ((R27.stepsA ds c [] false alts ([c], [], 0)).2.2)]) Try.results10 (fun w h => ⟨rfl, rfl, trivial⟩) rfl [Ent.row (.slice none ([] : List Change).length 0) 27 5 ([] : List Change).length (([] : List Change).flatMap Change.enc)] (fun _ h => (h.nilrow 27 5).keep [true, false, false, false, false, false, false, false, false, false, false, false] rfl) ⟨none, 0, ?_, ?_⟩
       ·have e_x0 : (0 : Nat) = ((R27.plan ds base alts c).1.length) := by first | (rw [hd]; done) | (rw [hd]; rfl) | exact hd.elim
        have e_x1 : ((R27.stepsA ds c [] false alts ([c], [], 0)).2.2 : Int) = ((R27.plan ds base alts c).2) := by first | (rw [hd]; done) | (rw [hd]; rfl) | exact hd.elim
        have e_all := (congr (congrArg (fun (x0 : Nat) (x1 : Int) => Value.tuple #[Value.slice none x0 0, vI x1]) e_x0) e_x1)
        exact e_all
       ·have e_y0 : (([] : List Change) : List Change) = (R27.plan ds base alts c).1 := by
         first | (rw [hd]; done) | (rw [hd]; rfl) | exact hd.elim
        have e_all := (congrArg (fun (y0 : List Change) => [Ent.row (.slice none y0.length 0) 27 5 y0.length (y0.flatMap Change.enc)]) e_y0)
        exact e_all
      ·have h82w := h82
       have h82 := of_decide_eq_false h82
       refine J_skip (JX_then (J_seq (J_region ?_)))
       refine JO_read (Value.slice e77 ((R27.stepsA ds c [] false alts ([c], [], 0)).1.length) e78) rfl trivial (x_load 4 rfl rfl Ty.sc31 rfl) ?_
       refine JO_read (Value.slice e79 ((R27.stepsA ds c [] false alts ([c], [], 0)).2.1.length) e80) rfl trivial (x_load 5 rfl rfl Ty.sc31 rfl) ?_
       refine JO_op rfl trivial (O_append_f 7 Change.enc 5 ((R27.stepsA ds c [] false alts ([c], [], 0)).1) ((R27.stepsA ds c [] false alts ([c], [], 0)).2.1) Try.underlying31 Ty.sz27 Ty.by27 Ty.ze27 rfl (by decide) rfl rfl rfl rfl Change.enc_len Change.enc_one (cells_row 8 rfl) lt_ lt_ fun A83 c84 => ?_)
       refine jr_ (Value.slice A83 ((((R27.stepsA ds c [] false alts ([c], [], 0)).1) ++ ((R27.stepsA ds c [] false alts ([c], [], 0)).2.1)).length) c84) ?_
       refine jr_ (vI 0) ?_
       refine JO_nil (JX_then (J_ret ?_))
       first
        | have hd : False := by omega
        | have hd := R27.pl_bad (ds := ds) (by assumption)
        | have hd := R27.pl_empty (ds := ds) (by assumption) (by assumption)
        | have hd := R27.pl_get (ds := ds) (by assumption) (by assumption) (by assumption) (by assumption)
        | have hd := R27.pl_errA (ds := ds) (by assumption) (by assumption) (by assumption) (by assumption) (by assumption)
        | have hd := R27.pl_okA (ds := ds) (by assumption) (by assumption) (by assumption) (by assumption) (by assumption)
        | have hd := R27.pl_errB (ds := ds) (by assumption) (by assumption) (by assumption)
        | have hd := R27.pl_okB (ds := ds) (by assumption) (by assumption) (by assumption)
       refine JX_rets [Value.slice A83 ((((R27.stepsA ds c [] false alts ([c], [], 0)).1) ++ ((R27.stepsA ds c [] false alts ([c], [], 0)).2.1)).length) c84, vI 0] (Value.tuple #[Value.slice A83 ((((R27.stepsA ds c [] false alts ([c], [], 0)).1) ++ ((R27.stepsA ds c [] false alts ([c], [], 0)).2.1)).length) c84, vI 0]) Try.results10 (fun w h => ⟨rfl, rfl, trivial⟩) rfl [Ent.row (.slice A83 (((R27.stepsA ds c [] false alts ([c], [], 0)).1) ++ ((R27.stepsA ds c [] false alts ([c], [], 0)).2.1)).length c84) 27 5 (((R27.stepsA ds c [] false alts ([c], [], 0)).1) ++ ((R27.stepsA ds c [] false alts ([c], [], 0)).2.1)).length ((((R27.stepsA ds c [] false alts ([c], [], 0)).1) ++ ((R27.stepsA ds c [] false alts ([c], [], 0)).2.1)).flatMap Change.enc)] (fun _ h => h.keep [false, false, false, false, false, false, false, true, false, false, false] rfl) ⟨A83, c84, ?_, ?_⟩
       ·have e_x0 : ((((R27.stepsA ds c [] false alts ([c], [], 0)).1) ++ ((R27.stepsA ds c [] false alts ([c], [], 0)).2.1)).length : Nat) = ((R27.plan ds base alts c).1.length) := by first | (rw [hd]; done) | (rw [hd]; rfl) | exact hd.elim
        have e_x1 : (0 : Int) = ((R27.plan ds base alts c).2) := by first | (rw [hd]; done) | (rw [hd]; rfl) | exact hd.elim
        have e_all := (congr (congrArg (fun (x0 : Nat) (x1 : Int) => Value.tuple #[Value.slice A83 x0 c84, vI x1]) e_x0) e_x1)
        exact e_all
       ·have e_y0 : (((R27.stepsA ds c [] false alts ([c], [], 0)).1) ++ ((R27.stepsA ds c [] false alts ([c], [], 0)).2.1) : List Change) = (R27.plan ds base alts c).1 := by
         first | (rw [hd]; done) | (rw [hd]; rfl) | exact hd.elim
        have e_all := (congrArg (fun (y0 : List Change) => [Ent.row (.slice A83 y0.length c84) 27 5 y0.length (y0.flatMap Change.enc)]) e_y0)
        exact e_all
end Go.Proofs.Ytmbinhhlfbgiaaa
