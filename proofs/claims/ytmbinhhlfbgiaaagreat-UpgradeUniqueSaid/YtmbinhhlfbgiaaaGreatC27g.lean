/- contracts C27g -/
import Derived.Test.YtmbinhhlfbgiaaaGreatC27f
namespace Go.Proofs.YtmbinhhlfbgiaaaGreat
open Go.GV
set_option linter.unusedVariables false
set_option linter.unusedSimpArgs false
theorem Tf8_ok_ {p : Prop} (h : p := by first | (have hd : False := (by omega); first | (rw [hd]; done) | (rw [hd]; rfl) | exact hd.elim) | (have hd := R27.pl_bad (ds := ds) (by assumption); first | (rw [hd]; done) | (rw [hd]; rfl) | exact hd.elim) | (have hd := R27.pl_empty (ds := ds) (by assumption) (by assumption); first | (rw [hd]; done) | (rw [hd]; rfl) | exact hd.elim) | (have hd := R27.pl_get (ds := ds) (by assumption) (by assumption) (by assumption) (by assumption); first | (rw [hd]; done) | (rw [hd]; rfl) | exact hd.elim) | (have hd := R27.pl_errA (ds := ds) (by assumption) (by assumption) (by assumption) (by assumption) (by assumption); first | (rw [hd]; done) | (rw [hd]; rfl) | exact hd.elim) | (have hd := R27.pl_okA (ds := ds) (by assumption) (by assumption) (by assumption) (by assumption) (by assumption); first | (rw [hd]; done) | (rw [hd]; rfl) | exact hd.elim) | (have hd := R27.pl_errB (ds := ds) (by assumption) (by assumption) (by assumption); first | (rw [hd]; done) | (rw [hd]; rfl) | exact hd.elim) | (have hd := R27.pl_okB (ds := ds) (by assumption) (by assumption) (by assumption); first | (rw [hd]; done) | (rw [hd]; rfl) | exact hd.elim)) : p := h
set_option maxHeartbeats 2000000 in
set_option maxRecDepth 20000 in
theorem f8_ok (ds : List Data) (dsA : Option Addr) (dsC : Nat) (base : DataSet) (alts : List DataSet) (altsA : Option Addr) (altsC : Nat) (c : Change) (w : World) (dsR : RO [] w dsA (ds.flatMap Data.enc)) (dsN : ∀ i : Nat, RO [] w (ds.getD i default).PairsA (((ds.getD i default).Pairs).flatMap Pair.enc)) (altsR : RO [] w altsA (alts.flatMap DataSet.enc)) (q0 : ds.length ≤ 1000) (q1 : ∀ i, (ds.getD i default).Pairs.length ≤ 1000) (q2 : alts.length ≤ 50) (q3 : c.Key.length ≤ 1000) (q4 : c.Record.length ≤ 1000) (q5 : R27.Shorts ds) : Calls Tryz.prog 8 #[Value.iface 33 (vG [vL dsA ds.length dsC, Value.pointer none]), vG (DataSet.enc base), vL altsA alts.length altsC, vG (Change.enc c)] w (Gives [] w fun v L => ∃ A : Option Addr, ∃ cc : Nat, v = Value.tuple #[vL A ((R27.plan ds base alts c).1.length) cc, vI ((R27.plan ds base alts c).2)] ∧ L = [Ent.row (.slice A ((R27.plan ds base alts c).1).length cc) 27 5 ((R27.plan ds base alts c).1).length (((R27.plan ds base alts c).1).flatMap Change.enc)]) := by
 refine calls_J [] 77 Tryz.func8 rfl Tryz.ntmps8 [(0, _), (1, _), (2, _), (3, _)] rfl rfl (Give.nil w) ?_
 refine q_ (g_ (o_ (bx1 fun b1 => ?_)))
 refine o_ (bxG fun b2 => ?_)
 refine o_ (bx1 fun b3 => ?_)
 refine o_ (bxG fun b4 => ?_)
 refine s_ av_ (s_ av_ (z_ (n_ (q_ (q_ (g_ (r_ (ldN 2 (DataSet.enc base) Ty.ag23 Ty.sz23) (r_ (ld_ 1 Ty.sc24) (c0 (cl_ Ty.ca24) (fun w hS => f24_ok base alts _ _ w (rno altsR hS) hy_) (s_ (x_not rfl) (s_ mv_ ?_)))))))))))
 refine or_ 4 (!(R27.isChange base c)) (fun g5 => ?_) ?_
 ·have g5r := g5
  have g5r : (R27.isSphere base alts) = true := bnot_false g5r
  have hi6 := R27.isSphere_valid g5r
  refine rg_ g5 (ldN 2 (DataSet.enc base) Ty.ag23 Ty.sz23) (rg_ g5 (ldN 0 (Change.enc c) Ty.ag27 Ty.sz27) (c0g g5 (cl_ Ty.ca25) (fun w hS => f25_ok base c w hy_ hy_ hy_) (sg_ g5 (x_not rfl) ?_)))
  exact cr_
 refine z_ (n_ ?_)
 refine if_ (fun h7 => ?_) (fun h7 => ?_)
 ·have h7w := h7
  simp only [Bool.and_eq_true, Bool.or_eq_true, Bool.and_eq_false_iff, Bool.or_eq_false_iff, Bool.not_eq_true', Bool.not_eq_false', decide_eq_true_eq, decide_eq_false_iff_not] at h7
  refine q_ (g_ (s_ av_ (s_ av_ (z_ (n_ (rt_ (nr_ ?_)))))))
  refine JX_rets [_, _] (Value.tuple #[_, _]) Tryz.results8 (fun w h => ⟨rfl, rfl, trivial⟩) rfl [Ent.row (.slice none ([] : List Change).length 0) 27 5 ([] : List Change).length (([] : List Change).flatMap Change.enc)] (fun _ h => (h.nilrow 27 5).keep [true, false, false, false, false] rfl) ⟨none, 0, ?_, ?_⟩
  ·have e_x0 : (0 : Nat) = ((R27.plan ds base alts c).1.length) := Tf8_ok_
   have e_x1 : (1 : Int) = ((R27.plan ds base alts c).2) := Tf8_ok_
   have e_all := (congr (congrArg (fun (x0 : Nat) (x1 : Int) => Value.tuple #[vL none x0 0, vI x1]) e_x0) e_x1)
   exact e_all
  ·have e_y0 : (([] : List Change) : List Change) = (R27.plan ds base alts c).1 := by
    exact Tf8_ok_
   have e_all := (congrArg (fun (y0 : List Change) => [Ent.row (.slice none y0.length 0) 27 5 y0.length (y0.flatMap Change.enc)]) e_y0)
   exact e_all
 ·have h7w := h7
  have ⟨h7, h8⟩ := bor_false h7
  have h7 : (R27.isSphere base alts) = true := bnot_false h7
  have hi9 := R27.isSphere_valid h7
  have h8 : (R27.isChange base c) = true := bnot_false h8
  refine sk_ (n_ (q_ (g_ (r_ (ldN 0 (Change.enc c) Ty.ag27 Ty.sz27) (o_ (al_ Ty.ze27 fun b10 => ?_))))))
  refine o_ (stG 0 Ty.sz27 ?_)
  refine z_ (n_ (q_ (q_ (g_ (s_ (fA 0 Ty.fi27_0) (r_ (ld_ 1 Ty.sc3) (s_ (x_eql_i rfl rfl) (z_ (xk_ [4, 5, 6, 7, 8, 9, 10, 30] ?_)))))))))
  refine n_ ?_
  refine ifd (fun h11w h11 => ?_) (fun h11w h11 => ?_)
  ·refine g_ (s_ (fA 2 Ty.fi27_2) (o_ (st1 0 Ty.sz9 ?_)))
   refine z_ (n_ (q_ (g_ (r_ (ldN 0 [vI c.Kind, vI c.Id, vS [], vS c.Record, vS c.Volume] Ty.ag27 Ty.sz27) (o_ (O_buildSlice (cs := [vI c.Kind, vI c.Id, vS [], vS c.Record, vS c.Volume]) Tryz.underlying25 Ty.sz27 Ty.ze27 (by decide) (by decide) (by kernel_rfl) fun b12 => ?_))))))
   refine o_ (al_ Ty.ze25 fun b13 => ?_)
   refine o_ (st1 0 Ty.sz25 ?_)
   refine z_ (n_ (q_ (g_ (js_ (Value.func (.func 26) #[] #[pB b3 0]) (x_makeFunc rfl rfl) (s_ av_ (z_ (n_ (q_ (q_ (g_ (s_ (fA 0 Ty.fi27_0) (r_ (ld_ 3 Ty.sc3) (s_ (x_eql_i rfl rfl) (z_ (n_ ?_)))))))))))))))
   refine ifd (fun h14w h14 => ?_) (fun h14w h14 => ?_)
   ·refine q_ (g_ (s_ mv_ (js_ (Value.func (.func 27) #[] #[pB b13 0]) (x_makeFunc rfl rfl) ?_)))
    refine JO_call (Lown [Ent.blk b3 24 [vL altsA alts.length altsC], Ent.blk b13 25 [vL (some ⟨b12, 0, none⟩) 1 1], Ent.row (.slice (some ⟨b12, 0, none⟩) 1 1) 27 5 1 ([(Change.mk c.Kind c.Id [] c.Record c.Volume)].flatMap Change.enc)]) [Ent.blk b3 24 [vL altsA alts.length altsC], Ent.blk b13 25 [vL (some ⟨b12, 0, none⟩) 1 1], Ent.row (.slice (some ⟨b12, 0, none⟩) 1 1) 27 5 1 ([(Change.mk c.Kind c.Id [] c.Record c.Volume)].flatMap Change.enc)] [Ent.blk b10 27 [vI c.Kind, vI c.Id, vS [], vS c.Record, vS c.Volume], Ent.blk b4 27 (Change.enc c), Ent.blk b2 23 (DataSet.enc base), Ent.blk b1 64 [Value.iface 33 (vG [vL dsA ds.length dsC, Value.pointer none])]] rfl trivial (fun _ => x_callv (first := []) (caps := [pB b3 0]) rfl Ty.ca26 rfl) (fun _ h => (((St.torow (cs := [vI c.Kind, vI c.Id, vS [], vS c.Record, vS c.Volume]) (((((h.front 6 _ rfl).front 6 _ rfl).front 5 _ rfl).front 5 _ rfl).front 5 _ rfl) 5 1 rfl (by decide)).front 5 _ rfl).front 6 _ rfl).keep [true, true, true, true, true, true, true] rfl) lown_mem (fun w hS => f25_okA alts altsA altsC b3 b13 [(Change.mk c.Kind c.Id [] c.Record c.Volume)] (some ⟨b12, 0, none⟩) 1 1 w (altsR.on hS lown_mem) hy_ hy_ hy_ (hS.give lown_in)) ?_
    rintro _ _ ⟨e15, e16, rfl, rfl⟩
    refine z_ (n_ (q_ (g_ (r_ (ld_ 1 Ty.sc25) (s_ av_ (s_ av_ (z_ (xk_ [4, 5, 7, 8, 9, 11, 12] ?_))))))))
    refine n_ (rt_ (nr_ ?_))
    refine JX_rets [_, _] (Value.tuple #[_, _]) Tryz.results8 (fun w h => ⟨rfl, rfl, trivial⟩) rfl _ (fun _ h => h.keep [false, false, true, false, false, false, false] rfl) ⟨e15, e16, ?_, ?_⟩
    ·have e_x0 : (([(Change.mk c.Kind c.Id [] c.Record c.Volume)] ++ (alts.map fun a => Change.mk 3 a.Id [] [] [])).length : Nat) = ((R27.plan ds base alts c).1.length) := Tf8_ok_
     have e_x1 : (0 : Int) = ((R27.plan ds base alts c).2) := Tf8_ok_
     have e_all := (congr (congrArg (fun (x0 : Nat) (x1 : Int) => Value.tuple #[vL e15 x0 e16, vI x1]) e_x0) e_x1)
     exact e_all
    ·have e_y0 : (([(Change.mk c.Kind c.Id [] c.Record c.Volume)] ++ (alts.map fun a => Change.mk 3 a.Id [] [] [])) : List Change) = (R27.plan ds base alts c).1 := by
      exact Tf8_ok_
     have e_all := (congrArg (fun (y0 : List Change) => [Ent.row (.slice e15 y0.length e16) 27 5 y0.length (y0.flatMap Change.enc)]) e_y0)
     exact e_all
   ·refine sk_ (n_ (q_ (g_ (o_ (al_ Ty.ze9 fun b17 => ?_)))))
    refine o_ (st1 0 Ty.sz9 ?_)
    refine s_ av_ (z_ (n_ (q_ (q_ (g_ (s_ (fA 0 Ty.fi27_0) (r_ (ld_ 4 Ty.sc3) (s_ (x_neq_i rfl rfl) (z_ (xk_ [4, 5, 7, 8, 9, 11, 12, 13, 14, 44] ?_))))))))))
    refine n_ ?_
    refine ifd (fun h18w h18 => ?_) (fun h18w h18 => ?_)
    ·refine g_ (r_ (ld_ 7 Ty.sc64) (s_ (fA 0 Ty.fi23_0) (r_ (ld_ 6 Ty.sc3) (s_ (fA 2 Ty.fi27_2) (r_ (ld_ 4 Ty.sc9) (c0 (x_invoke rfl Ty.mt128 Ty.ca128 Ty.mtd rfl) (fun w hS => f128_ok ds dsA dsC _ _ w (rno dsR hS) (fun i => (dsN i).on hS (fun _ h => by cases h)) hy_ hy_) ?_))))))
     have ha19 := R27.getR_err (R27.ofD ds base.Id).Pairs c.Key
     have ha20 := R27.getR_len (by assumption) base.Id c.Key
     refine s_ mv_ (s_ (ex_ 0) (s_ (ex_ 1) (o_ (st1 0 Ty.sz9 ?_))))
     refine s_ av_ (z_ (n_ (q_ (q_ (g_ (s_ mv_ (s_ (x_neq_i rfl rfl) (s_ mv_ ?_))))))))
     refine and_ 7 ((decide ((R27.getR (R27.ofD ds base.Id).Pairs c.Key).2 ≠ 6)) || (decide (c.Kind = 1))) (fun g21 => ?_) ?_
     ·have g21r := g21
      have g21r := of_decide_eq_true g21r
      refine sg_ g21 mv_ (sg_ g21 (x_neq_i rfl rfl) (sg_ g21 mv_ ?_))
      refine or_ 3 (decide (c.Kind = 1)) (fun g22 => ?_) ?_ (hw := by exact ⟨_, rfl, g21⟩)
      ·have g22r := g22
       have g22r := of_decide_eq_false g22r
       refine sg_ g22 (fA 0 Ty.fi27_0) (rg_ g22 (ld_ 4 Ty.sc3) (sg_ g22 (x_eql_i rfl rfl) ?_))
       exact cr_
      exact cr_
     refine z_ (xk_ [4, 7, 8, 9, 11, 12, 13, 14, 64] ?_)
     refine n_ ?_
     refine if_ (fun h23 => ?_) (fun h23 => ?_)
     ·have h23w := h23
      have ⟨h23, h24⟩ := band_true h23
      have h23 := of_decide_eq_true h23
      simp only [Bool.and_eq_true, Bool.or_eq_true, Bool.and_eq_false_iff, Bool.or_eq_false_iff, Bool.not_eq_true', Bool.not_eq_false', decide_eq_true_eq, decide_eq_false_iff_not] at h24
      refine q_ (g_ (s_ mv_ (s_ av_ (s_ av_ (z_ (n_ (rt_ (nr_ ?_))))))))
      refine JX_rets [_, _] (Value.tuple #[_, _]) Tryz.results8 (fun w h => ⟨rfl, rfl, trivial⟩) rfl [Ent.row (.slice none ([] : List Change).length 0) 27 5 ([] : List Change).length (([] : List Change).flatMap Change.enc)] (fun _ h => (h.nilrow 27 5).keep [true, false, false, false, false, false, false, false, false] rfl) ⟨none, 0, ?_, ?_⟩
      ·have e_x0 : (0 : Nat) = ((R27.plan ds base alts c).1.length) := Tf8_ok_
       have e_x1 : ((R27.getR (R27.ofD ds base.Id).Pairs c.Key).2 : Int) = ((R27.plan ds base alts c).2) := Tf8_ok_
       have e_all := (congr (congrArg (fun (x0 : Nat) (x1 : Int) => Value.tuple #[vL none x0 0, vI x1]) e_x0) e_x1)
       exact e_all
      ·have e_y0 : (([] : List Change) : List Change) = (R27.plan ds base alts c).1 := by
        exact Tf8_ok_
       have e_all := (congrArg (fun (y0 : List Change) => [Ent.row (.slice none y0.length 0) 27 5 y0.length (y0.flatMap Change.enc)]) e_y0)
       exact e_all
     ·have h23w := h23
      simp only [Bool.and_eq_true, Bool.or_eq_true, Bool.and_eq_false_iff, Bool.or_eq_false_iff, Bool.not_eq_true', Bool.not_eq_false', decide_eq_true_eq, decide_eq_false_iff_not] at h23
      refine sk_ (n_ (q_ (g_ (s_ mv_ (s_ (x_eql_i rfl rfl) (o_ (al_ Ty.ze4 fun b25 => ?_)))))))
      refine o_ (st1 0 Ty.sz4 ?_)
      refine z_ (n_ (q_ (g_ (o_ (al_ Ty.ze25 fun b26 => ?_)))))
      refine z_ (n_ (q_ (g_ (s_ mv_ (js_ (Value.func (.func 28) #[] #[pB b17 0, pB b25 0, pB b4 0, pB b13 0, pB b26 0, pB b1 0]) (x_makeFunc rfl rfl) ?_)))))
      refine JO_call (Lown [Ent.blk b3 24 [vL altsA alts.length altsC], Ent.blk b17 9 [vS ((R27.getR (R27.ofD ds base.Id).Pairs c.Key).1)], Ent.blk b25 4 [vB (decide ((R27.getR (R27.ofD ds base.Id).Pairs c.Key).2 = 0))], Ent.blk b4 27 (Change.enc c), Ent.blk b13 25 [vL (some ⟨b12, 0, none⟩) 1 1], Ent.blk b26 25 [vL none 0 0], Ent.blk b1 64 [Value.iface 33 (vG [vL dsA ds.length dsC, Value.pointer none])], Ent.row (.slice (some ⟨b12, 0, none⟩) 1 1) 27 5 1 ([(Change.mk c.Kind c.Id [] c.Record c.Volume)].flatMap Change.enc), Ent.row (.slice none 0 0) 27 5 0 ([].flatMap Change.enc)]) [Ent.blk b3 24 [vL altsA alts.length altsC], Ent.blk b17 9 [vS ((R27.getR (R27.ofD ds base.Id).Pairs c.Key).1)], Ent.blk b25 4 [vB (decide ((R27.getR (R27.ofD ds base.Id).Pairs c.Key).2 = 0))], Ent.blk b4 27 (Change.enc c), Ent.blk b13 25 [vL (some ⟨b12, 0, none⟩) 1 1], Ent.blk b26 25 [vL none 0 0], Ent.blk b1 64 [Value.iface 33 (vG [vL dsA ds.length dsC, Value.pointer none])], Ent.row (.slice (some ⟨b12, 0, none⟩) 1 1) 27 5 1 ([(Change.mk c.Kind c.Id [] c.Record c.Volume)].flatMap Change.enc), Ent.row (.slice none 0 0) 27 5 0 ([].flatMap Change.enc)] [Ent.blk b10 27 [vI c.Kind, vI c.Id, vS [], vS c.Record, vS c.Volume], Ent.blk b2 23 (DataSet.enc base)] rfl trivial (fun _ => x_callv (first := []) (caps := [pB b3 0]) rfl Ty.ca26 rfl) (fun _ h => ((((((((St.torow (cs := [vI c.Kind, vI c.Id, vS [], vS c.Record, vS c.Volume]) ((((h.front 8 _ rfl).front 6 _ rfl).nilrow 27 5).front 7 _ rfl) 5 1 rfl (by decide)).front 10 _ rfl).front 5 _ rfl).front 8 _ rfl).front 9 _ rfl).front 8 _ rfl).front 9 _ rfl).front 10 _ rfl).keep [true, true, true, true, true, true, true, true, true, true, true] rfl) lown_mem (fun w hS => f25_okB ds dsA dsC alts altsA altsC b3 b17 b25 b4 b13 b26 b1 [(Change.mk c.Kind c.Id [] c.Record c.Volume)] (some ⟨b12, 0, none⟩) 1 1 [] none 0 0 ((R27.getR (R27.ofD ds base.Id).Pairs c.Key).1) (decide ((R27.getR (R27.ofD ds base.Id).Pairs c.Key).2 = 0)) c w (dsR.on hS lown_mem) (fun i => (dsN i).on hS lown_mem) (altsR.on hS lown_mem) hy_ hy_ hy_ hy_ hy_ hy_ hy_ hy_ hy_ hy_ (hS.give lown_in)) ?_
      rintro _ _ ⟨e27, e28, e29, e30, rfl, rfl⟩
      have ha31 := R27.stepsA_len2 ds c ((R27.getR (R27.ofD ds base.Id).Pairs c.Key).1) (decide ((R27.getR (R27.ofD ds base.Id).Pairs c.Key).2 = 0)) alts [(Change.mk c.Kind c.Id [] c.Record c.Volume)] []
      try simp only [List.length_cons, List.length_nil, Nat.zero_add, Nat.reduceAdd, Nat.reduceMul] at ha31
      refine s_ av_ (z_ (n_ (q_ (q_ (g_ (s_ mv_ (s_ (x_neq_i rfl rfl) (z_ (n_ ?_)))))))))
      refine ifd (fun h32w h32 => ?_) (fun h32w h32 => ?_)
      ·refine q_ (g_ (s_ mv_ (s_ av_ (s_ av_ (z_ (n_ (rt_ (nr_ ?_))))))))
       refine JX_rets [_, _] (Value.tuple #[_, _]) Tryz.results8 (fun w h => ⟨rfl, rfl, trivial⟩) rfl [Ent.row (.slice none ([] : List Change).length 0) 27 5 ([] : List Change).length (([] : List Change).flatMap Change.enc)] (fun _ h => (h.nilrow 27 5).keep [true, false, false, false, false, false, false, false, false, false, false, false] rfl) ⟨none, 0, ?_, ?_⟩
       ·have e_x0 : (0 : Nat) = ((R27.plan ds base alts c).1.length) := Tf8_ok_
        have e_x1 : ((R27.stepsA ds c ((R27.getR (R27.ofD ds base.Id).Pairs c.Key).1) (decide ((R27.getR (R27.ofD ds base.Id).Pairs c.Key).2 = 0)) alts ([(Change.mk c.Kind c.Id [] c.Record c.Volume)], [], 0)).2.2 : Int) = ((R27.plan ds base alts c).2) := Tf8_ok_
        have e_all := (congr (congrArg (fun (x0 : Nat) (x1 : Int) => Value.tuple #[vL none x0 0, vI x1]) e_x0) e_x1)
        exact e_all
       ·have e_y0 : (([] : List Change) : List Change) = (R27.plan ds base alts c).1 := by
         exact Tf8_ok_
        have e_all := (congrArg (fun (y0 : List Change) => [Ent.row (.slice none y0.length 0) 27 5 y0.length (y0.flatMap Change.enc)]) e_y0)
        exact e_all
      ·refine sk_ (n_ (q_ (g_ (r_ (ld_ 4 Ty.sc25) (r_ (ld_ 5 Ty.sc25) (o_ (O_append_f 7 Change.enc 5 ((R27.stepsA ds c ((R27.getR (R27.ofD ds base.Id).Pairs c.Key).1) (decide ((R27.getR (R27.ofD ds base.Id).Pairs c.Key).2 = 0)) alts ([(Change.mk c.Kind c.Id [] c.Record c.Volume)], [], 0)).1) ((R27.stepsA ds c ((R27.getR (R27.ofD ds base.Id).Pairs c.Key).1) (decide ((R27.getR (R27.ofD ds base.Id).Pairs c.Key).2 = 0)) alts ([(Change.mk c.Kind c.Id [] c.Record c.Volume)], [], 0)).2.1) Tryz.underlying25 Ty.sz27 Ty.by27 Ty.ze27 rfl (by decide) rfl rfl rfl rfl Change.enc_len Change.enc_one (cells_row 8 rfl) lt_ lt_ fun A33 c34 => ?_)))))))
       refine s_ av_ (s_ av_ (z_ (xk_ [8, 9] ?_)))
       refine n_ (rt_ ?_)
       refine JX_rets [_, _] (Value.tuple #[_, _]) Tryz.results8 (fun w h => ⟨rfl, rfl, trivial⟩) rfl _ (fun _ h => h.keep [false, false, false, false, false, false, false, true, false, false, false] rfl) ⟨A33, c34, ?_, ?_⟩
       ·have e_x0 : ((((R27.stepsA ds c ((R27.getR (R27.ofD ds base.Id).Pairs c.Key).1) (decide ((R27.getR (R27.ofD ds base.Id).Pairs c.Key).2 = 0)) alts ([(Change.mk c.Kind c.Id [] c.Record c.Volume)], [], 0)).1) ++ ((R27.stepsA ds c ((R27.getR (R27.ofD ds base.Id).Pairs c.Key).1) (decide ((R27.getR (R27.ofD ds base.Id).Pairs c.Key).2 = 0)) alts ([(Change.mk c.Kind c.Id [] c.Record c.Volume)], [], 0)).2.1)).length : Nat) = ((R27.plan ds base alts c).1.length) := Tf8_ok_
        have e_x1 : (0 : Int) = ((R27.plan ds base alts c).2) := Tf8_ok_
        have e_all := (congr (congrArg (fun (x0 : Nat) (x1 : Int) => Value.tuple #[vL A33 x0 c34, vI x1]) e_x0) e_x1)
        exact e_all
       ·have e_y0 : (((R27.stepsA ds c ((R27.getR (R27.ofD ds base.Id).Pairs c.Key).1) (decide ((R27.getR (R27.ofD ds base.Id).Pairs c.Key).2 = 0)) alts ([(Change.mk c.Kind c.Id [] c.Record c.Volume)], [], 0)).1) ++ ((R27.stepsA ds c ((R27.getR (R27.ofD ds base.Id).Pairs c.Key).1) (decide ((R27.getR (R27.ofD ds base.Id).Pairs c.Key).2 = 0)) alts ([(Change.mk c.Kind c.Id [] c.Record c.Volume)], [], 0)).2.1) : List Change) = (R27.plan ds base alts c).1 := by
         exact Tf8_ok_
        have e_all := (congrArg (fun (y0 : List Change) => [Ent.row (.slice A33 y0.length c34) 27 5 y0.length (y0.flatMap Change.enc)]) e_y0)
        exact e_all
    ·refine sk_ (n_ (q_ (q_ (g_ (s_ mv_ (jr_ (vB true) (s_ mv_ (sg_ rfl mv_ (jg_ rfl (vB false) (rfl) (sg_ rfl mv_ (sg_ rfl (fA 0 Ty.fi27_0) (rg_ rfl (ld_ 4 Ty.sc3) (sg_ rfl (x_eql_i rfl rfl) ?_)))))))))))))
     refine jg_ rfl (vB (decide (c.Kind = 1))) (rfl) (jr_ (vB (decide (c.Kind = 1))) (z_ (xk_ [4, 7, 8, 9, 11, 12, 13, 14, 64] ?_)))
     refine n_ ?_
     refine ifd (fun h35w h35 => ?_) (fun h35w h35 => ?_)
     ·refine q_ (g_ (s_ mv_ (s_ av_ (s_ av_ (z_ (n_ (rt_ (nr_ ?_))))))))
      refine JX_rets [_, _] (Value.tuple #[_, _]) Tryz.results8 (fun w h => ⟨rfl, rfl, trivial⟩) rfl [Ent.row (.slice none ([] : List Change).length 0) 27 5 ([] : List Change).length (([] : List Change).flatMap Change.enc)] (fun _ h => (h.nilrow 27 5).keep [true, false, false, false, false, false, false, false, false] rfl) ⟨none, 0, ?_, ?_⟩
      ·have e_x0 : (0 : Nat) = ((R27.plan ds base alts c).1.length) := Tf8_ok_
       have e_x1 : (6 : Int) = ((R27.plan ds base alts c).2) := Tf8_ok_
       have e_all := (congr (congrArg (fun (x0 : Nat) (x1 : Int) => Value.tuple #[vL none x0 0, vI x1]) e_x0) e_x1)
       exact e_all
      ·have e_y0 : (([] : List Change) : List Change) = (R27.plan ds base alts c).1 := by
        exact Tf8_ok_
       have e_all := (congrArg (fun (y0 : List Change) => [Ent.row (.slice none y0.length 0) 27 5 y0.length (y0.flatMap Change.enc)]) e_y0)
       exact e_all
     ·refine sk_ (n_ (q_ (g_ (s_ mv_ (jr_ (vB false) (o_ (al_ Ty.ze4 fun b36 => ?_)))))))
      refine o_ (st1 0 Ty.sz4 ?_)
      refine z_ (n_ (q_ (g_ (o_ (al_ Ty.ze25 fun b37 => ?_)))))
      refine z_ (n_ (q_ (g_ (s_ mv_ (js_ (Value.func (.func 28) #[] #[pB b17 0, pB b36 0, pB b4 0, pB b13 0, pB b37 0, pB b1 0]) (x_makeFunc rfl rfl) ?_)))))
      refine JO_call (Lown [Ent.blk b3 24 [vL altsA alts.length altsC], Ent.blk b17 9 [vS []], Ent.blk b36 4 [vB false], Ent.blk b4 27 (Change.enc c), Ent.blk b13 25 [vL (some ⟨b12, 0, none⟩) 1 1], Ent.blk b37 25 [vL none 0 0], Ent.blk b1 64 [Value.iface 33 (vG [vL dsA ds.length dsC, Value.pointer none])], Ent.row (.slice (some ⟨b12, 0, none⟩) 1 1) 27 5 1 ([(Change.mk c.Kind c.Id [] c.Record c.Volume)].flatMap Change.enc), Ent.row (.slice none 0 0) 27 5 0 ([].flatMap Change.enc)]) [Ent.blk b3 24 [vL altsA alts.length altsC], Ent.blk b17 9 [vS []], Ent.blk b36 4 [vB false], Ent.blk b4 27 (Change.enc c), Ent.blk b13 25 [vL (some ⟨b12, 0, none⟩) 1 1], Ent.blk b37 25 [vL none 0 0], Ent.blk b1 64 [Value.iface 33 (vG [vL dsA ds.length dsC, Value.pointer none])], Ent.row (.slice (some ⟨b12, 0, none⟩) 1 1) 27 5 1 ([(Change.mk c.Kind c.Id [] c.Record c.Volume)].flatMap Change.enc), Ent.row (.slice none 0 0) 27 5 0 ([].flatMap Change.enc)] [Ent.blk b10 27 [vI c.Kind, vI c.Id, vS [], vS c.Record, vS c.Volume], Ent.blk b2 23 (DataSet.enc base)] rfl trivial (fun _ => x_callv (first := []) (caps := [pB b3 0]) rfl Ty.ca26 rfl) (fun _ h => ((((((((St.torow (cs := [vI c.Kind, vI c.Id, vS [], vS c.Record, vS c.Volume]) ((((h.front 8 _ rfl).front 6 _ rfl).nilrow 27 5).front 7 _ rfl) 5 1 rfl (by decide)).front 10 _ rfl).front 5 _ rfl).front 8 _ rfl).front 9 _ rfl).front 8 _ rfl).front 9 _ rfl).front 10 _ rfl).keep [true, true, true, true, true, true, true, true, true, true, true] rfl) lown_mem (fun w hS => f25_okB ds dsA dsC alts altsA altsC b3 b17 b36 b4 b13 b37 b1 [(Change.mk c.Kind c.Id [] c.Record c.Volume)] (some ⟨b12, 0, none⟩) 1 1 [] none 0 0 [] false c w (dsR.on hS lown_mem) (fun i => (dsN i).on hS lown_mem) (altsR.on hS lown_mem) hy_ hy_ hy_ hy_ hy_ hy_ hy_ hy_ hy_ hy_ (hS.give lown_in)) ?_
      rintro _ _ ⟨e38, e39, e40, e41, rfl, rfl⟩
      have ha42 := R27.stepsA_len2 ds c [] false alts [(Change.mk c.Kind c.Id [] c.Record c.Volume)] []
      try simp only [List.length_cons, List.length_nil, Nat.zero_add, Nat.reduceAdd, Nat.reduceMul] at ha42
      refine s_ av_ (z_ (n_ (q_ (q_ (g_ (s_ mv_ (s_ (x_neq_i rfl rfl) (z_ (n_ ?_)))))))))
      refine ifd (fun h43w h43 => ?_) (fun h43w h43 => ?_)
      ·refine q_ (g_ (s_ mv_ (s_ av_ (s_ av_ (z_ (n_ (rt_ (nr_ ?_))))))))
       refine JX_rets [_, _] (Value.tuple #[_, _]) Tryz.results8 (fun w h => ⟨rfl, rfl, trivial⟩) rfl [Ent.row (.slice none ([] : List Change).length 0) 27 5 ([] : List Change).length (([] : List Change).flatMap Change.enc)] (fun _ h => (h.nilrow 27 5).keep [true, false, false, false, false, false, false, false, false, false, false, false] rfl) ⟨none, 0, ?_, ?_⟩
       ·have e_x0 : (0 : Nat) = ((R27.plan ds base alts c).1.length) := Tf8_ok_
        have e_x1 : ((R27.stepsA ds c [] false alts ([(Change.mk c.Kind c.Id [] c.Record c.Volume)], [], 0)).2.2 : Int) = ((R27.plan ds base alts c).2) := Tf8_ok_
        have e_all := (congr (congrArg (fun (x0 : Nat) (x1 : Int) => Value.tuple #[vL none x0 0, vI x1]) e_x0) e_x1)
        exact e_all
       ·have e_y0 : (([] : List Change) : List Change) = (R27.plan ds base alts c).1 := by
         exact Tf8_ok_
        have e_all := (congrArg (fun (y0 : List Change) => [Ent.row (.slice none y0.length 0) 27 5 y0.length (y0.flatMap Change.enc)]) e_y0)
        exact e_all
      ·refine sk_ (n_ (q_ (g_ (r_ (ld_ 4 Ty.sc25) (r_ (ld_ 5 Ty.sc25) (o_ (O_append_f 7 Change.enc 5 ((R27.stepsA ds c [] false alts ([(Change.mk c.Kind c.Id [] c.Record c.Volume)], [], 0)).1) ((R27.stepsA ds c [] false alts ([(Change.mk c.Kind c.Id [] c.Record c.Volume)], [], 0)).2.1) Tryz.underlying25 Ty.sz27 Ty.by27 Ty.ze27 rfl (by decide) rfl rfl rfl rfl Change.enc_len Change.enc_one (cells_row 8 rfl) lt_ lt_ fun A44 c45 => ?_)))))))
       refine s_ av_ (s_ av_ (z_ (xk_ [8, 9] ?_)))
       refine n_ (rt_ ?_)
       refine JX_rets [_, _] (Value.tuple #[_, _]) Tryz.results8 (fun w h => ⟨rfl, rfl, trivial⟩) rfl _ (fun _ h => h.keep [false, false, false, false, false, false, false, true, false, false, false] rfl) ⟨A44, c45, ?_, ?_⟩
       ·have e_x0 : ((((R27.stepsA ds c [] false alts ([(Change.mk c.Kind c.Id [] c.Record c.Volume)], [], 0)).1) ++ ((R27.stepsA ds c [] false alts ([(Change.mk c.Kind c.Id [] c.Record c.Volume)], [], 0)).2.1)).length : Nat) = ((R27.plan ds base alts c).1.length) := Tf8_ok_
        have e_x1 : (0 : Int) = ((R27.plan ds base alts c).2) := Tf8_ok_
        have e_all := (congr (congrArg (fun (x0 : Nat) (x1 : Int) => Value.tuple #[vL A44 x0 c45, vI x1]) e_x0) e_x1)
        exact e_all
       ·have e_y0 : (((R27.stepsA ds c [] false alts ([(Change.mk c.Kind c.Id [] c.Record c.Volume)], [], 0)).1) ++ ((R27.stepsA ds c [] false alts ([(Change.mk c.Kind c.Id [] c.Record c.Volume)], [], 0)).2.1) : List Change) = (R27.plan ds base alts c).1 := by
         exact Tf8_ok_
        have e_all := (congrArg (fun (y0 : List Change) => [Ent.row (.slice A44 y0.length c45) 27 5 y0.length (y0.flatMap Change.enc)]) e_y0)
        exact e_all
  ·refine sk_ (n_ (q_ (g_ (r_ (ldN 0 (Change.enc c) Ty.ag27 Ty.sz27) (o_ (O_buildSlice (cs := (Change.enc c)) Tryz.underlying25 Ty.sz27 Ty.ze27 (by decide) (by decide) (by kernel_rfl) fun b46 => ?_))))))
   refine o_ (al_ Ty.ze25 fun b47 => ?_)
   refine o_ (st1 0 Ty.sz25 ?_)
   refine z_ (n_ (q_ (g_ (js_ (Value.func (.func 26) #[] #[pB b3 0]) (x_makeFunc rfl rfl) (s_ av_ (z_ (n_ (q_ (q_ (g_ (s_ (fA 0 Ty.fi27_0) (r_ (ld_ 3 Ty.sc3) (s_ (x_eql_i rfl rfl) (z_ (n_ ?_)))))))))))))))
   refine ifd (fun h48w h48 => ?_) (fun h48w h48 => ?_)
   ·refine q_ (g_ (s_ mv_ (js_ (Value.func (.func 27) #[] #[pB b47 0]) (x_makeFunc rfl rfl) ?_)))
    refine JO_call (Lown [Ent.blk b3 24 [vL altsA alts.length altsC], Ent.blk b47 25 [vL (some ⟨b46, 0, none⟩) 1 1], Ent.row (.slice (some ⟨b46, 0, none⟩) 1 1) 27 5 1 ([c].flatMap Change.enc)]) [Ent.blk b3 24 [vL altsA alts.length altsC], Ent.blk b47 25 [vL (some ⟨b46, 0, none⟩) 1 1], Ent.row (.slice (some ⟨b46, 0, none⟩) 1 1) 27 5 1 ([c].flatMap Change.enc)] [Ent.blk b10 27 (Change.enc c), Ent.blk b4 27 (Change.enc c), Ent.blk b2 23 (DataSet.enc base), Ent.blk b1 64 [Value.iface 33 (vG [vL dsA ds.length dsC, Value.pointer none])]] rfl trivial (fun _ => x_callv (first := []) (caps := [pB b3 0]) rfl Ty.ca26 rfl) (fun _ h => (((St.torow (cs := [vI c.Kind, vI c.Id, vS c.Key, vS c.Record, vS c.Volume]) (((((h.front 6 _ rfl).front 6 _ rfl).front 5 _ rfl).front 5 _ rfl).front 5 _ rfl) 5 1 rfl (by decide)).front 5 _ rfl).front 6 _ rfl).keep [true, true, true, true, true, true, true] rfl) lown_mem (fun w hS => f25_okA alts altsA altsC b3 b47 [c] (some ⟨b46, 0, none⟩) 1 1 w (altsR.on hS lown_mem) hy_ hy_ hy_ (hS.give lown_in)) ?_
    rintro _ _ ⟨e49, e50, rfl, rfl⟩
    refine z_ (n_ (q_ (g_ (r_ (ld_ 1 Ty.sc25) (s_ av_ (s_ av_ (z_ (n_ (rt_ (nr_ ?_))))))))))
    refine JX_rets [_, _] (Value.tuple #[_, _]) Tryz.results8 (fun w h => ⟨rfl, rfl, trivial⟩) rfl _ (fun _ h => h.keep [false, false, true, false, false, false, false] rfl) ⟨e49, e50, ?_, ?_⟩
    ·have e_x0 : (([c] ++ (alts.map fun a => Change.mk 3 a.Id [] [] [])).length : Nat) = ((R27.plan ds base alts c).1.length) := Tf8_ok_
     have e_x1 : (0 : Int) = ((R27.plan ds base alts c).2) := Tf8_ok_
     have e_all := (congr (congrArg (fun (x0 : Nat) (x1 : Int) => Value.tuple #[vL e49 x0 e50, vI x1]) e_x0) e_x1)
     exact e_all
    ·have e_y0 : (([c] ++ (alts.map fun a => Change.mk 3 a.Id [] [] [])) : List Change) = (R27.plan ds base alts c).1 := by
      exact Tf8_ok_
     have e_all := (congrArg (fun (y0 : List Change) => [Ent.row (.slice e49 y0.length e50) 27 5 y0.length (y0.flatMap Change.enc)]) e_y0)
     exact e_all
   ·refine sk_ (n_ (q_ (g_ (o_ (al_ Ty.ze9 fun b51 => ?_)))))
    refine o_ (st1 0 Ty.sz9 ?_)
    refine s_ av_ (z_ (n_ (q_ (q_ (g_ (s_ (fA 0 Ty.fi27_0) (r_ (ld_ 4 Ty.sc3) (s_ (x_neq_i rfl rfl) (z_ (xk_ [4, 5, 7, 8, 9, 11, 12, 13, 14, 44] ?_))))))))))
    refine n_ ?_
    refine ifd (fun h52w h52 => ?_) (fun h52w h52 => ?_)
    ·refine g_ (r_ (ld_ 7 Ty.sc64) (s_ (fA 0 Ty.fi23_0) (r_ (ld_ 6 Ty.sc3) (s_ (fA 2 Ty.fi27_2) (r_ (ld_ 4 Ty.sc9) (c0 (x_invoke rfl Ty.mt128 Ty.ca128 Ty.mtd rfl) (fun w hS => f128_ok ds dsA dsC _ _ w (rno dsR hS) (fun i => (dsN i).on hS (fun _ h => by cases h)) hy_ hy_) ?_))))))
     have ha53 := R27.getR_err (R27.ofD ds base.Id).Pairs c.Key
     have ha54 := R27.getR_len (by assumption) base.Id c.Key
     refine s_ mv_ (s_ (ex_ 0) (s_ (ex_ 1) (o_ (st1 0 Ty.sz9 ?_))))
     refine s_ av_ (z_ (n_ (q_ (q_ (g_ (s_ mv_ (s_ (x_neq_i rfl rfl) (s_ mv_ ?_))))))))
     refine and_ 7 ((decide ((R27.getR (R27.ofD ds base.Id).Pairs c.Key).2 ≠ 6)) || (decide (c.Kind = 1))) (fun g55 => ?_) ?_
     ·have g55r := g55
      have g55r := of_decide_eq_true g55r
      refine sg_ g55 mv_ (sg_ g55 (x_neq_i rfl rfl) (sg_ g55 mv_ ?_))
      refine or_ 3 (decide (c.Kind = 1)) (fun g56 => ?_) ?_ (hw := by exact ⟨_, rfl, g55⟩)
      ·have g56r := g56
       have g56r := of_decide_eq_false g56r
       refine sg_ g56 (fA 0 Ty.fi27_0) (rg_ g56 (ld_ 4 Ty.sc3) (sg_ g56 (x_eql_i rfl rfl) ?_))
       exact cr_
      exact cr_
     refine z_ (xk_ [4, 7, 8, 9, 11, 12, 13, 14, 64] ?_)
     refine n_ ?_
     refine if_ (fun h57 => ?_) (fun h57 => ?_)
     ·have h57w := h57
      have ⟨h57, h58⟩ := band_true h57
      have h57 := of_decide_eq_true h57
      simp only [Bool.and_eq_true, Bool.or_eq_true, Bool.and_eq_false_iff, Bool.or_eq_false_iff, Bool.not_eq_true', Bool.not_eq_false', decide_eq_true_eq, decide_eq_false_iff_not] at h58
      refine q_ (g_ (s_ mv_ (s_ av_ (s_ av_ (z_ (n_ (rt_ (nr_ ?_))))))))
      refine JX_rets [_, _] (Value.tuple #[_, _]) Tryz.results8 (fun w h => ⟨rfl, rfl, trivial⟩) rfl [Ent.row (.slice none ([] : List Change).length 0) 27 5 ([] : List Change).length (([] : List Change).flatMap Change.enc)] (fun _ h => (h.nilrow 27 5).keep [true, false, false, false, false, false, false, false, false] rfl) ⟨none, 0, ?_, ?_⟩
      ·have e_x0 : (0 : Nat) = ((R27.plan ds base alts c).1.length) := Tf8_ok_
       have e_x1 : ((R27.getR (R27.ofD ds base.Id).Pairs c.Key).2 : Int) = ((R27.plan ds base alts c).2) := Tf8_ok_
       have e_all := (congr (congrArg (fun (x0 : Nat) (x1 : Int) => Value.tuple #[vL none x0 0, vI x1]) e_x0) e_x1)
       exact e_all
      ·have e_y0 : (([] : List Change) : List Change) = (R27.plan ds base alts c).1 := by
        exact Tf8_ok_
       have e_all := (congrArg (fun (y0 : List Change) => [Ent.row (.slice none y0.length 0) 27 5 y0.length (y0.flatMap Change.enc)]) e_y0)
       exact e_all
     ·have h57w := h57
      simp only [Bool.and_eq_true, Bool.or_eq_true, Bool.and_eq_false_iff, Bool.or_eq_false_iff, Bool.not_eq_true', Bool.not_eq_false', decide_eq_true_eq, decide_eq_false_iff_not] at h57
      refine sk_ (n_ (q_ (g_ (s_ mv_ (s_ (x_eql_i rfl rfl) (o_ (al_ Ty.ze4 fun b59 => ?_)))))))
      refine o_ (st1 0 Ty.sz4 ?_)
      refine z_ (n_ (q_ (g_ (o_ (al_ Ty.ze25 fun b60 => ?_)))))
      refine z_ (n_ (q_ (g_ (s_ mv_ (js_ (Value.func (.func 28) #[] #[pB b51 0, pB b59 0, pB b4 0, pB b47 0, pB b60 0, pB b1 0]) (x_makeFunc rfl rfl) ?_)))))
      refine JO_call (Lown [Ent.blk b3 24 [vL altsA alts.length altsC], Ent.blk b51 9 [vS ((R27.getR (R27.ofD ds base.Id).Pairs c.Key).1)], Ent.blk b59 4 [vB (decide ((R27.getR (R27.ofD ds base.Id).Pairs c.Key).2 = 0))], Ent.blk b4 27 (Change.enc c), Ent.blk b47 25 [vL (some ⟨b46, 0, none⟩) 1 1], Ent.blk b60 25 [vL none 0 0], Ent.blk b1 64 [Value.iface 33 (vG [vL dsA ds.length dsC, Value.pointer none])], Ent.row (.slice (some ⟨b46, 0, none⟩) 1 1) 27 5 1 ([c].flatMap Change.enc), Ent.row (.slice none 0 0) 27 5 0 ([].flatMap Change.enc)]) [Ent.blk b3 24 [vL altsA alts.length altsC], Ent.blk b51 9 [vS ((R27.getR (R27.ofD ds base.Id).Pairs c.Key).1)], Ent.blk b59 4 [vB (decide ((R27.getR (R27.ofD ds base.Id).Pairs c.Key).2 = 0))], Ent.blk b4 27 (Change.enc c), Ent.blk b47 25 [vL (some ⟨b46, 0, none⟩) 1 1], Ent.blk b60 25 [vL none 0 0], Ent.blk b1 64 [Value.iface 33 (vG [vL dsA ds.length dsC, Value.pointer none])], Ent.row (.slice (some ⟨b46, 0, none⟩) 1 1) 27 5 1 ([c].flatMap Change.enc), Ent.row (.slice none 0 0) 27 5 0 ([].flatMap Change.enc)] [Ent.blk b10 27 (Change.enc c), Ent.blk b2 23 (DataSet.enc base)] rfl trivial (fun _ => x_callv (first := []) (caps := [pB b3 0]) rfl Ty.ca26 rfl) (fun _ h => ((((((((St.torow (cs := [vI c.Kind, vI c.Id, vS c.Key, vS c.Record, vS c.Volume]) ((((h.front 8 _ rfl).front 6 _ rfl).nilrow 27 5).front 7 _ rfl) 5 1 rfl (by decide)).front 10 _ rfl).front 5 _ rfl).front 8 _ rfl).front 9 _ rfl).front 8 _ rfl).front 9 _ rfl).front 10 _ rfl).keep [true, true, true, true, true, true, true, true, true, true, true] rfl) lown_mem (fun w hS => f25_okB ds dsA dsC alts altsA altsC b3 b51 b59 b4 b47 b60 b1 [c] (some ⟨b46, 0, none⟩) 1 1 [] none 0 0 ((R27.getR (R27.ofD ds base.Id).Pairs c.Key).1) (decide ((R27.getR (R27.ofD ds base.Id).Pairs c.Key).2 = 0)) c w (dsR.on hS lown_mem) (fun i => (dsN i).on hS lown_mem) (altsR.on hS lown_mem) hy_ hy_ hy_ hy_ hy_ hy_ hy_ hy_ hy_ hy_ (hS.give lown_in)) ?_
      rintro _ _ ⟨e61, e62, e63, e64, rfl, rfl⟩
      have ha65 := R27.stepsA_len2 ds c ((R27.getR (R27.ofD ds base.Id).Pairs c.Key).1) (decide ((R27.getR (R27.ofD ds base.Id).Pairs c.Key).2 = 0)) alts [c] []
      try simp only [List.length_cons, List.length_nil, Nat.zero_add, Nat.reduceAdd, Nat.reduceMul] at ha65
      refine s_ av_ (z_ (n_ (q_ (q_ (g_ (s_ mv_ (s_ (x_neq_i rfl rfl) (z_ (n_ ?_)))))))))
      refine ifd (fun h66w h66 => ?_) (fun h66w h66 => ?_)
      ·refine q_ (g_ (s_ mv_ (s_ av_ (s_ av_ (z_ (n_ (rt_ (nr_ ?_))))))))
       refine JX_rets [_, _] (Value.tuple #[_, _]) Tryz.results8 (fun w h => ⟨rfl, rfl, trivial⟩) rfl [Ent.row (.slice none ([] : List Change).length 0) 27 5 ([] : List Change).length (([] : List Change).flatMap Change.enc)] (fun _ h => (h.nilrow 27 5).keep [true, false, false, false, false, false, false, false, false, false, false, false] rfl) ⟨none, 0, ?_, ?_⟩
       ·have e_x0 : (0 : Nat) = ((R27.plan ds base alts c).1.length) := Tf8_ok_
        have e_x1 : ((R27.stepsA ds c ((R27.getR (R27.ofD ds base.Id).Pairs c.Key).1) (decide ((R27.getR (R27.ofD ds base.Id).Pairs c.Key).2 = 0)) alts ([c], [], 0)).2.2 : Int) = ((R27.plan ds base alts c).2) := Tf8_ok_
        have e_all := (congr (congrArg (fun (x0 : Nat) (x1 : Int) => Value.tuple #[vL none x0 0, vI x1]) e_x0) e_x1)
        exact e_all
       ·have e_y0 : (([] : List Change) : List Change) = (R27.plan ds base alts c).1 := by
         exact Tf8_ok_
        have e_all := (congrArg (fun (y0 : List Change) => [Ent.row (.slice none y0.length 0) 27 5 y0.length (y0.flatMap Change.enc)]) e_y0)
        exact e_all
      ·refine sk_ (n_ (q_ (g_ (r_ (ld_ 4 Ty.sc25) (r_ (ld_ 5 Ty.sc25) (o_ (O_append_f 7 Change.enc 5 ((R27.stepsA ds c ((R27.getR (R27.ofD ds base.Id).Pairs c.Key).1) (decide ((R27.getR (R27.ofD ds base.Id).Pairs c.Key).2 = 0)) alts ([c], [], 0)).1) ((R27.stepsA ds c ((R27.getR (R27.ofD ds base.Id).Pairs c.Key).1) (decide ((R27.getR (R27.ofD ds base.Id).Pairs c.Key).2 = 0)) alts ([c], [], 0)).2.1) Tryz.underlying25 Ty.sz27 Ty.by27 Ty.ze27 rfl (by decide) rfl rfl rfl rfl Change.enc_len Change.enc_one (cells_row 8 rfl) lt_ lt_ fun A67 c68 => ?_)))))))
       refine s_ av_ (s_ av_ (z_ (xk_ [8, 9] ?_)))
       refine n_ (rt_ ?_)
       refine JX_rets [_, _] (Value.tuple #[_, _]) Tryz.results8 (fun w h => ⟨rfl, rfl, trivial⟩) rfl _ (fun _ h => h.keep [false, false, false, false, false, false, false, true, false, false, false] rfl) ⟨A67, c68, ?_, ?_⟩
       ·have e_x0 : ((((R27.stepsA ds c ((R27.getR (R27.ofD ds base.Id).Pairs c.Key).1) (decide ((R27.getR (R27.ofD ds base.Id).Pairs c.Key).2 = 0)) alts ([c], [], 0)).1) ++ ((R27.stepsA ds c ((R27.getR (R27.ofD ds base.Id).Pairs c.Key).1) (decide ((R27.getR (R27.ofD ds base.Id).Pairs c.Key).2 = 0)) alts ([c], [], 0)).2.1)).length : Nat) = ((R27.plan ds base alts c).1.length) := Tf8_ok_
        have e_x1 : (0 : Int) = ((R27.plan ds base alts c).2) := Tf8_ok_
        have e_all := (congr (congrArg (fun (x0 : Nat) (x1 : Int) => Value.tuple #[vL A67 x0 c68, vI x1]) e_x0) e_x1)
        exact e_all
       ·have e_y0 : (((R27.stepsA ds c ((R27.getR (R27.ofD ds base.Id).Pairs c.Key).1) (decide ((R27.getR (R27.ofD ds base.Id).Pairs c.Key).2 = 0)) alts ([c], [], 0)).1) ++ ((R27.stepsA ds c ((R27.getR (R27.ofD ds base.Id).Pairs c.Key).1) (decide ((R27.getR (R27.ofD ds base.Id).Pairs c.Key).2 = 0)) alts ([c], [], 0)).2.1) : List Change) = (R27.plan ds base alts c).1 := by
         exact Tf8_ok_
        have e_all := (congrArg (fun (y0 : List Change) => [Ent.row (.slice A67 y0.length c68) 27 5 y0.length (y0.flatMap Change.enc)]) e_y0)
        exact e_all
    ·refine sk_ (n_ (q_ (q_ (g_ (s_ mv_ (jr_ (vB true) (s_ mv_ (sg_ rfl mv_ (jg_ rfl (vB false) (rfl) (sg_ rfl mv_ (sg_ rfl (fA 0 Ty.fi27_0) (rg_ rfl (ld_ 4 Ty.sc3) (sg_ rfl (x_eql_i rfl rfl) ?_)))))))))))))
     refine jg_ rfl (vB (decide (c.Kind = 1))) (rfl) (jr_ (vB (decide (c.Kind = 1))) (z_ (xk_ [4, 7, 8, 9, 11, 12, 13, 14, 64] ?_)))
     refine n_ ?_
     refine ifd (fun h69w h69 => ?_) (fun h69w h69 => ?_)
     ·refine q_ (g_ (s_ mv_ (s_ av_ (s_ av_ (z_ (n_ (rt_ (nr_ ?_))))))))
      refine JX_rets [_, _] (Value.tuple #[_, _]) Tryz.results8 (fun w h => ⟨rfl, rfl, trivial⟩) rfl [Ent.row (.slice none ([] : List Change).length 0) 27 5 ([] : List Change).length (([] : List Change).flatMap Change.enc)] (fun _ h => (h.nilrow 27 5).keep [true, false, false, false, false, false, false, false, false] rfl) ⟨none, 0, ?_, ?_⟩
      ·have e_x0 : (0 : Nat) = ((R27.plan ds base alts c).1.length) := Tf8_ok_
       have e_x1 : (6 : Int) = ((R27.plan ds base alts c).2) := Tf8_ok_
       have e_all := (congr (congrArg (fun (x0 : Nat) (x1 : Int) => Value.tuple #[vL none x0 0, vI x1]) e_x0) e_x1)
       exact e_all
      ·have e_y0 : (([] : List Change) : List Change) = (R27.plan ds base alts c).1 := by
        exact Tf8_ok_
       have e_all := (congrArg (fun (y0 : List Change) => [Ent.row (.slice none y0.length 0) 27 5 y0.length (y0.flatMap Change.enc)]) e_y0)
       exact e_all
     ·refine sk_ (n_ (q_ (g_ (s_ mv_ (jr_ (vB false) (o_ (al_ Ty.ze4 fun b70 => ?_)))))))
      refine o_ (st1 0 Ty.sz4 ?_)
      refine z_ (n_ (q_ (g_ (o_ (al_ Ty.ze25 fun b71 => ?_)))))
      refine z_ (n_ (q_ (g_ (s_ mv_ (js_ (Value.func (.func 28) #[] #[pB b51 0, pB b70 0, pB b4 0, pB b47 0, pB b71 0, pB b1 0]) (x_makeFunc rfl rfl) ?_)))))
      refine JO_call (Lown [Ent.blk b3 24 [vL altsA alts.length altsC], Ent.blk b51 9 [vS []], Ent.blk b70 4 [vB false], Ent.blk b4 27 (Change.enc c), Ent.blk b47 25 [vL (some ⟨b46, 0, none⟩) 1 1], Ent.blk b71 25 [vL none 0 0], Ent.blk b1 64 [Value.iface 33 (vG [vL dsA ds.length dsC, Value.pointer none])], Ent.row (.slice (some ⟨b46, 0, none⟩) 1 1) 27 5 1 ([c].flatMap Change.enc), Ent.row (.slice none 0 0) 27 5 0 ([].flatMap Change.enc)]) [Ent.blk b3 24 [vL altsA alts.length altsC], Ent.blk b51 9 [vS []], Ent.blk b70 4 [vB false], Ent.blk b4 27 (Change.enc c), Ent.blk b47 25 [vL (some ⟨b46, 0, none⟩) 1 1], Ent.blk b71 25 [vL none 0 0], Ent.blk b1 64 [Value.iface 33 (vG [vL dsA ds.length dsC, Value.pointer none])], Ent.row (.slice (some ⟨b46, 0, none⟩) 1 1) 27 5 1 ([c].flatMap Change.enc), Ent.row (.slice none 0 0) 27 5 0 ([].flatMap Change.enc)] [Ent.blk b10 27 (Change.enc c), Ent.blk b2 23 (DataSet.enc base)] rfl trivial (fun _ => x_callv (first := []) (caps := [pB b3 0]) rfl Ty.ca26 rfl) (fun _ h => ((((((((St.torow (cs := [vI c.Kind, vI c.Id, vS c.Key, vS c.Record, vS c.Volume]) ((((h.front 8 _ rfl).front 6 _ rfl).nilrow 27 5).front 7 _ rfl) 5 1 rfl (by decide)).front 10 _ rfl).front 5 _ rfl).front 8 _ rfl).front 9 _ rfl).front 8 _ rfl).front 9 _ rfl).front 10 _ rfl).keep [true, true, true, true, true, true, true, true, true, true, true] rfl) lown_mem (fun w hS => f25_okB ds dsA dsC alts altsA altsC b3 b51 b70 b4 b47 b71 b1 [c] (some ⟨b46, 0, none⟩) 1 1 [] none 0 0 [] false c w (dsR.on hS lown_mem) (fun i => (dsN i).on hS lown_mem) (altsR.on hS lown_mem) hy_ hy_ hy_ hy_ hy_ hy_ hy_ hy_ hy_ hy_ (hS.give lown_in)) ?_
      rintro _ _ ⟨e72, e73, e74, e75, rfl, rfl⟩
      have ha76 := R27.stepsA_len2 ds c [] false alts [c] []
      try simp only [List.length_cons, List.length_nil, Nat.zero_add, Nat.reduceAdd, Nat.reduceMul] at ha76
      refine s_ av_ (z_ (n_ (q_ (q_ (g_ (s_ mv_ (s_ (x_neq_i rfl rfl) (z_ (n_ ?_)))))))))
      refine ifd (fun h77w h77 => ?_) (fun h77w h77 => ?_)
      ·refine q_ (g_ (s_ mv_ (s_ av_ (s_ av_ (z_ (n_ (rt_ (nr_ ?_))))))))
       refine JX_rets [_, _] (Value.tuple #[_, _]) Tryz.results8 (fun w h => ⟨rfl, rfl, trivial⟩) rfl [Ent.row (.slice none ([] : List Change).length 0) 27 5 ([] : List Change).length (([] : List Change).flatMap Change.enc)] (fun _ h => (h.nilrow 27 5).keep [true, false, false, false, false, false, false, false, false, false, false, false] rfl) ⟨none, 0, ?_, ?_⟩
       ·have e_x0 : (0 : Nat) = ((R27.plan ds base alts c).1.length) := Tf8_ok_
        have e_x1 : ((R27.stepsA ds c [] false alts ([c], [], 0)).2.2 : Int) = ((R27.plan ds base alts c).2) := Tf8_ok_
        have e_all := (congr (congrArg (fun (x0 : Nat) (x1 : Int) => Value.tuple #[vL none x0 0, vI x1]) e_x0) e_x1)
        exact e_all
       ·have e_y0 : (([] : List Change) : List Change) = (R27.plan ds base alts c).1 := by
         exact Tf8_ok_
        have e_all := (congrArg (fun (y0 : List Change) => [Ent.row (.slice none y0.length 0) 27 5 y0.length (y0.flatMap Change.enc)]) e_y0)
        exact e_all
      ·refine sk_ (n_ (q_ (g_ (r_ (ld_ 4 Ty.sc25) (r_ (ld_ 5 Ty.sc25) (o_ (O_append_f 7 Change.enc 5 ((R27.stepsA ds c [] false alts ([c], [], 0)).1) ((R27.stepsA ds c [] false alts ([c], [], 0)).2.1) Tryz.underlying25 Ty.sz27 Ty.by27 Ty.ze27 rfl (by decide) rfl rfl rfl rfl Change.enc_len Change.enc_one (cells_row 8 rfl) lt_ lt_ fun A78 c79 => ?_)))))))
       refine s_ av_ (s_ av_ (z_ (xk_ [8, 9] ?_)))
       refine n_ (rt_ ?_)
       refine JX_rets [_, _] (Value.tuple #[_, _]) Tryz.results8 (fun w h => ⟨rfl, rfl, trivial⟩) rfl _ (fun _ h => h.keep [false, false, false, false, false, false, false, true, false, false, false] rfl) ⟨A78, c79, ?_, ?_⟩
       ·have e_x0 : ((((R27.stepsA ds c [] false alts ([c], [], 0)).1) ++ ((R27.stepsA ds c [] false alts ([c], [], 0)).2.1)).length : Nat) = ((R27.plan ds base alts c).1.length) := Tf8_ok_
        have e_x1 : (0 : Int) = ((R27.plan ds base alts c).2) := Tf8_ok_
        have e_all := (congr (congrArg (fun (x0 : Nat) (x1 : Int) => Value.tuple #[vL A78 x0 c79, vI x1]) e_x0) e_x1)
        exact e_all
       ·have e_y0 : (((R27.stepsA ds c [] false alts ([c], [], 0)).1) ++ ((R27.stepsA ds c [] false alts ([c], [], 0)).2.1) : List Change) = (R27.plan ds base alts c).1 := by
         exact Tf8_ok_
        have e_all := (congrArg (fun (y0 : List Change) => [Ent.row (.slice A78 y0.length c79) 27 5 y0.length (y0.flatMap Change.enc)]) e_y0)
        exact e_all
end Go.Proofs.YtmbinhhlfbgiaaaGreat
