/- L27f, GvX in one text. -/
import Derived.Test.YtmbinhhlfbgiaaaGreatUpgradeUnique20
import Derived.Test.YtmbinhhlfbgiaaaGreatUpgradeUnique3
import Derived.SizedLaws
namespace Go.Proofs.YtmbinhhlfbgiaaaGreat
open Go.GV
set_option linter.unusedVariables false
set_option linter.unusedSimpArgs false
theorem l27f0_ {p : Prop} (h : p := by first | exact R27.tw_t (by omega) i1_1 (by assumption) | exact R27.tw_f (by omega) i1_1 (by assumption) (R27.u_no (by assumption)) | exact R27.tw_f (by omega) i1_1 (by assumption) (R27.u_yes (by assumption) no_such_condition)) : p := h
theorem l27f1_ {p : Prop} (h : p := by exact JA_done (by kernel_rfl) (gl_ rfl (fun _ h => h.keep [false, false, true, true] rfl)) (JX_weaken (E' := [(1, vL altsA alts.length altsC), (2, vL lA l.length lC), (4, pB b1 0), (7, pB b2 0), (8, vB false), (28, vB (!(((R27.isSphere base alts) && (R27.short ((([] : List Change) ++ l) ++ [c]) 41)) && (R27.rising [] ((([] : List Change) ++ l) ++ [c])))))]) (L' := [Ent.blk b2 27 (Change.enc c), Ent.blk b1 23 (DataSet.enc base)]) ⟨rfl, rfl, rfl, rfl, rfl, rfl, trivial⟩ (fun _ h => h.keep [false, false, true, true] rfl) key3)) : p := h
theorem l27f2_ {p : Prop} (h : p := by exact JA_done (by kernel_rfl) (gl_ rfl (fun _ h => h.keep [false, false, true, true] rfl)) (JX_weaken (E' := [(1, vL altsA alts.length altsC), (2, vL lA l.length lC), (4, pB b126 0), (7, pB b127 0), (8, vB false), (28, vB (!(((R27.isSphere base alts) && (R27.short ((([] : List Change) ++ l) ++ [c]) 41)) && (R27.rising [] ((([] : List Change) ++ l) ++ [c])))))]) (L' := [Ent.blk b127 27 (Change.enc c), Ent.blk b126 23 (DataSet.enc base)]) ⟨rfl, rfl, rfl, rfl, rfl, rfl, trivial⟩ (fun _ h => h.keep [false, false, true, true] rfl) key128)) : p := h
set_option maxHeartbeats 4000000 in
set_option maxRecDepth 20000 in
theorem f3_ok (base : DataSet) (alts : List DataSet) (altsA : Option Addr) (altsC : Nat) (l : List Change) (lA : Option Addr) (lC : Nat) (c : Change) (w : World) (altsR : RO [] w altsA (alts.flatMap DataSet.enc)) (lR : RO [] w lA (l.flatMap Change.enc)) (q0 : alts.length ≤ 9223372036854775807) (q1 : l.length * 64 ≤ 140737488351232) : Calls Tryz.prog 3 #[vG (DataSet.enc base), vL altsA alts.length altsC, vL lA l.length lC, vG (Change.enc c)] w (Gives [] w fun v L => v = vB true ∧ L = []) := by
 refine calls_J [] 100 Tryz.func3 rfl Tryz.ntmps3 [(0, _), (1, _), (2, _), (3, _)] rfl rfl (Give.nil w) ?_
 rcases (Decidable.em (0 ≤ c.Kind ∧ c.Kind ≤ 3)) with hc | hc
 ·refine q_ (g_ (o_ (bxG fun b1 => ?_)))
  refine o_ (bxG fun b2 => ?_)
  refine s_ av_ (z_ (n_ (q_ (q_ (g_ (c0 (cl_ Ty.ca5) (fun w hS => f5_ok w) (jr_ (vB false) (z_ (n_ (iff_ (sk_ (n_ (q_ (q_ ?_))))))))))))))
  refine drB [4, 7] 10 Ty.mixed ?_
  refine jq_ 0 rfl (ldN 1 (DataSet.enc base) Ty.ag23 Ty.sz23) (jp_ 1 rfl mv_ (jp_ 3 rfl mv_ (jq_ 5 rfl (ldN 0 (Change.enc c) Ty.ag27 Ty.sz27) ?_)))
  refine JA_fin [(1, vL altsA alts.length altsC), (2, vL lA l.length lC), (4, pB b1 0), (7, pB b2 0), (8, vB false), (28, vB (!(((R27.isSphere base alts) && (R27.short ((([] : List Change) ++ l) ++ [c]) 41)) && (R27.rising [] ((([] : List Change) ++ l) ++ [c])))))] [Ent.blk b2 27 (Change.enc c), Ent.blk b1 23 (DataSet.enc base)] ?_ (fun key3 => ?_)
  ·refine n_ ?_
   refine if_ (fun h4 => ?_) (fun h4 => ?_)
   ·have h4w := h4
    try have hi5 := R27.busy_1 h4w
    try have hi6 := R27.busy_2 h4w
    try have hi7 := R27.busy_3 h4w
    try have hi8 := (R27.busy_4 h4w).1
    try have hi9 := (R27.busy_4 h4w).2
    try have hi10 := R27.busy_5 h4w
    have h4 : (((R27.isSphere base alts) && (R27.short ((([] : List Change) ++ l) ++ [c]) 41)) && (R27.rising [] ((([] : List Change) ++ l) ++ [c]))) = false := bnot_true h4
    simp only [Bool.and_eq_true, Bool.or_eq_true, Bool.and_eq_false_iff, Bool.or_eq_false_iff, Bool.not_eq_true', Bool.not_eq_false', decide_eq_true_eq, decide_eq_false_iff_not] at h4
    refine q_ (g_ (s_ av_ (z_ (n_ (rt_ (nr_ ?_))))))
    exact p1 Tryz.results3 rfl ⟨rfl, rfl⟩
   ·have h4w := h4
    try have hi11 := R27.busy_1 h4w
    try have hi12 := R27.busy_2 h4w
    try have hi13 := R27.busy_3 h4w
    try have hi14 := (R27.busy_4 h4w).1
    try have hi15 := (R27.busy_4 h4w).2
    try have hi16 := R27.busy_5 h4w
    have h4 : (((R27.isSphere base alts) && (R27.short ((([] : List Change) ++ l) ++ [c]) 41)) && (R27.rising [] ((([] : List Change) ++ l) ++ [c]))) = true := bnot_false h4
    have ⟨h4, h17⟩ := band_true h4
    have ⟨h4, h18⟩ := band_true h4
    have hi19 := R27.isSphere_valid h4
    have hi20 := R27.short_len2 h18
    refine sk_ (n_ (q_ (g_ (r_ (ldN 1 (DataSet.enc base) Ty.ag23 Ty.sz23) (s_ mv_ (s_ mv_ ?_))))))
    refine JO_callB [] [] [Ent.blk b2 27 (Change.enc c), Ent.blk b1 23 (DataSet.enc base)] rfl trivial (fun _ => x_call Ty.ca7 rfl) (fun _ h => h) (fun _ h => by cases h) (fun w hS => f_runU base alts altsA altsC l lA lC w (altsR.on hS (fun _ h => by cases h)) (lR.on hS (fun _ h => by cases h)) hy_ hy_ hy_) ?_
    rintro wc _ _ wbhB22 ⟨rds, rdsA, rdsC, rfl, rfl, rdsR, rdsN, hf21⟩ hc0 hB22
    have altsR := altsR.again hB22
    have lR := lR.again hB22
    have rdsR := rdsR.mono (lown_range hc0)
    have rdsN := fun i => (rdsN i).mono (lown_range hc0)
    have ha23 := R27.reach_s1 (hf21).1 (by omega)
    have ha24 := R27.reach_s2 (hf21).1 (by omega)
    have ha25 := R27.reach_s3 (hf21).1
    have ha26 := R27.shorts_of (R27.reach_s3 (hf21).1) base.Id
    have ha27 := R27.ofD_len (R27.reach_s2 (hf21).1 (by omega)) base.Id
    refine s_ mv_ (s_ (ex_ 0) (s_ (ex_ 1) (o_ (al_ Ty.ze33 fun b28 => ?_))))
    refine o_ (stG 0 Ty.sz33 ?_)
    refine s_ av_ (z_ (n_ (q_ (g_ (r_ (ldN 0 [vL rdsA rds.length rdsC, Value.pointer none] Ty.ag33 Ty.sz33) (js_ (Value.iface 33 (vG [vL rdsA rds.length rdsC, Value.pointer none])) (x_iface rfl (by kernel_rfl)) (r_ (ldN 2 (DataSet.enc base) Ty.ag23 Ty.sz23) (s_ mv_ (r_ (ldN 1 (Change.enc c) Ty.ag27 Ty.sz27) ?_)))))))))
    refine c1 (cl_ Ty.ca8) (fun w hS => f8_ok rds rdsA rdsC base alts _ _ c w (rno rdsR hS) (fun i => (rdsN i).on hS (fun _ h => by cases h)) (rno altsR hS) hy_ (by first | assumption | exact R27.pl_of_all rfl) hy_ hy_ hy_ (by first | assumption | exact R27.sh_of_all rfl)) ?_
    rintro _ _ ⟨A29, cc30, rfl, rfl⟩
    have ha31 := R27.plan_len rds base alts c
    refine s_ mv_ (s_ (ex_ 0) (s_ (ex_ 1) (s_ av_ (s_ av_ (z_ (xk_ [1, 4, 7, 8, 9, 10, 12] ?_))))))
    refine n_ (q_ (g_ (s_ av_ (z_ (n_ (q_ (g_ (r_ (ldN 1 [vL rdsA rds.length rdsC, Value.pointer none] Ty.ag33 Ty.sz33) (r_ (ldN 2 (Change.enc c) Ty.ag27 Ty.sz27) (s_ (fA 2 Ty.fi27_2) (r_ (ld_ 2 Ty.sc9) ?_)))))))))))
    refine c1 (cl_ Ty.ca9) (fun w hS => f9_ok rds rdsA rdsC c _ w (rno rdsR hS) (fun i => (rdsN i).on hS (fun _ h => by cases h)) hy_ (by first | assumption | exact fun i => Nat.le_trans (R27.small_get i2_1.2 i) (by omega)) hy_) ?_
    rintro _ _ ⟨A32, cc33, e34, e35, rfl, rfl⟩
    refine o_ (al_ Ty.ze33 fun b36 => ?_)
    refine o_ (stG 0 Ty.sz33 ?_)
    refine z_ (n_ (q_ (q_ (g_ (s_ mv_ (s_ (lnS Tryz.underlying24) (s_ mv_ (z_ (n_ (k_ ?_))))))))))
    refine J_loop (X := Nat × Bool) (fun (⟨i, t⟩ : Nat × Bool) => (i ≤ alts.length) ∧ (R27.Tw alts (R27.ofD (R27.doD rds c c.Key e34 e35) base.Id).Pairs i t)) (fun (⟨i, t⟩ : Nat × Bool) => [(4, pB b1 0), (7, pB b2 0), (9, pB b28 0), (10, vB true), (12, vI ((R27.plan rds base alts c).2)), (13, vB t), (14, pB b36 0), (50, vL altsA alts.length altsC), (51, vI ((alts.length : Nat) : Int)), (52, vI ((i : Nat) : Int))]) (fun (⟨i, t⟩ : Nat × Bool) => [Ent.blk b36 33 [vL A32 ((R27.doD rds c c.Key e34 e35).length) cc33, Value.pointer none], Ent.row (.slice A32 (R27.doD rds c c.Key e34 e35).length cc33) 56 2 (R27.doD rds c c.Key e34 e35).length ((R27.doD rds c c.Key e34 e35).flatMap Data.enc), Ent.row (.slice e34 (R27.chg (R27.ofP rds c.Id) c c.Key).length e35) 54 2 (R27.chg (R27.ofP rds c.Id) c c.Key).length ((R27.chg (R27.ofP rds c.Id) c c.Key).flatMap Pair.enc), Ent.blk b28 33 [vL rdsA rds.length rdsC, Value.pointer none], Ent.blk b2 27 (Change.enc c), Ent.blk b1 23 (DataSet.enc base)]) (fun (⟨i, t⟩ : Nat × Bool) => alts.length - i) ((0, false) : Nat × Bool) ?_ ⟨rfl, rfl, rfl, rfl, rfl, rfl, rfl, rfl, rfl, rfl, trivial⟩ (fun _ h => h.keep [true, true, true, false, true, true, true] rfl) ?_
    ·try dsimp only
     refine ⟨?_, ?_⟩
     ·first | rfl | omega | (simp_all; done) | (simp_all; omega)
     ·exact R27.tw_start
    rintro ⟨i, t⟩ hI1
    obtain ⟨i1_0, i1_1⟩ := hI1
    try dsimp only at i1_0
    try dsimp only at i1_1
    have hru := hf21
    have hr := hru.1
    have hsm : R27.Small (R27.doD rds c c.Key e34 e35) 370 := R27.small_do (R27.small_mono hr.2 (show 9 * l.length ≤ 369 by omega)) (by assumption) (by omega) e34 e35
    have hd1 := R27.sm1 hsm
    have hd2 := R27.sm2 hsm
    have hd3 := R27.sm3 hsm base.Id
    have hd4 := R27.shorts_of hsm.2.2 base.Id
    have hs1 : R27.isSphere base alts = true := by assumption
    have haf := fun (h : i < alts.length) => R27.isAlt_of hs1 (R27.alt_at h)
    try dsimp only
    refine q_ (g_ (s_ (x_lss_i rfl rfl) (z_ (n_ (q_ ?_)))))
    refine ifd (fun h37w h37 => ?_) (fun h37w h37 => ?_)
    ·try have hi38 := R27.busy_1 h37w
     try have hi39 := R27.busy_2 h37w
     try have hi40 := R27.busy_3 h37w
     try have hi41 := (R27.busy_4 h37w).1
     try have hi42 := (R27.busy_4 h37w).2
     try have hi43 := R27.busy_5 h37w
     refine sk_ (n_ (q_ (k_ (q_ (g_ (r_ (ixF DataSet.enc_len (cells_ro altsR) Tryz.underlying24 Ty.sz23) (r_ (ldFN DataSet.enc_len (cells_ro altsR) Ty.ag23 Ty.sz23) (o_ (al_ Ty.ze23 fun b44 => ?_)))))))))
     refine o_ (stG 0 Ty.sz23 ?_)
     refine z_ (n_ (q_ (q_ ?_)))
     refine drB [] 12 Ty.mixed ?_
     refine jp_ 0 rfl (fA 14 Ty.fi23_14) (jq_ 1 rfl (ld_ 0 Ty.sc4) (jp_ 2 rfl mv_ ?_))
     refine jb_ 58 (fun h45 => ?_) (fun h45 => ?_)
     ·refine jq_ 3 rfl (ldN 0 (DataSet.enc (alts.getD i default)) Ty.ag23 Ty.sz23) (jq_ 4 rfl (ldN 4 [vL rdsA rds.length rdsC, Value.pointer none] Ty.ag33 Ty.sz33) (jp_ 5 rfl (fA 0 Ty.fi23_0) (jq_ 6 rfl (ld_ 6 Ty.sc3) (j1_ 7 (jc0_ rfl (cl_ Ty.ca11) (fun w hS => f11_ok rds rdsA rdsC _ w (rno rdsR hS) (fun i => (rdsN i).on hS (fun _ h => by cases h)) hy_ hy_) ?_ (hw := ⟨_, rfl, rfl⟩)) gm_) (hw := ⟨_, rfl, rfl⟩)) (hw := ⟨_, rfl, rfl⟩)) (hw := ⟨_, rfl, rfl⟩)) (hw := ⟨_, rfl, rfl⟩)
      have ha46 := R27.ofD_len (by assumption) base.Id
      refine j1_ 8 ?_ gm_
      refine jc1_ rfl (cl_ Ty.ca10) (fun w hS => f10_ok _ _ _ _ w ((R27.ofD_ro rdsN base.Id).on hS (fun _ h => by cases h)) hy_ hy_) ?_ (hw := ⟨_, rfl, rfl⟩)
      rintro _ _ ⟨A47, cc48, out49, rfl, rfl, hf50⟩
      refine jp_ 9 rfl (lnS Tryz.underlying40) (jp_ 10 rfl (x_gtr_i rfl rfl) ?_ (hw := ⟨_, rfl, rfl⟩)) (hw := ⟨_, rfl, rfl⟩)
      refine jt_ 11 (vB (decide ((0 : Int) < ((out49.length : Nat) : Int)))) rfl (fun _ _ => rfl) ?_
      refine JA_done (by kernel_rfl) (fun _ h => ⟨h.keep [false, true, true, true, true, true, true, true] rfl, fun _ => h.keep [false, true, true, true, true, true, true, true] rfl⟩) ?_
      refine n_ ?_
      refine ifd (fun h51w h51 => ?_) (fun h51w h51 => ?_)
      ·try have hi52 := R27.busy_1 h51w
       try have hi53 := R27.busy_2 h51w
       try have hi54 := R27.busy_3 h51w
       try have hi55 := (R27.busy_4 h51w).1
       try have hi56 := (R27.busy_4 h51w).2
       try have hi57 := R27.busy_5 h51w
       refine q_ (g_ (s_ av_ (z_ (xk_ [4, 7, 9, 10, 12, 13, 14, 50, 51, 52, 16, 8] ?_))))
       refine n_ (rt_ (nr_ (kq_ (nr_ (rr_ (kq_ (nr_ ?_)))))))
       exact False.elim (by exact R27.uni_bad hru.2 (R27.alt_at (i := i) (by omega)) (by assumption) hf50 (by assumption))
      ·try have hi58 := R27.busy_1 h51w
       try have hi59 := R27.busy_2 h51w
       try have hi60 := R27.busy_3 h51w
       try have hi61 := (R27.busy_4 h51w).1
       try have hi62 := (R27.busy_4 h51w).2
       try have hi63 := R27.busy_5 h51w
       refine sk_ (n_ ?_)
       refine drB [] 16 Ty.mixed ?_
       refine jp_ 0 rfl mv_ (jp_ 1 rfl mv_ ?_)
       refine jb_ 69 (fun h64 => ?_) (fun h64 => ?_)
       ·refine js2_ 2 rfl (js2_ 3 rfl (js2_ 4 rfl (ju_ 5 rfl (ju_ 6 rfl (ju_ 7 rfl (ju_ 8 rfl (ju_ 9 rfl (ju_ 10 rfl (ju_ 11 rfl ?_)))))))))
        refine ju_ 12 rfl (js2_ 13 rfl ?_)
        refine jt_ 14 (vB true) rfl (fun _ _ => rfl) ?_
        refine jp_ 15 rfl av_ ?_
        refine JA_done (by kernel_rfl) gm_ ?_
        refine kx_ (n_ (g_ (s_ (x_add_n (a := i) (b := 1) rfl rfl (by omega)) (s_ mv_ (z_ ?_)))))
        refine JX_round ((i + 1, true) : Nat × Bool) ?_ ?_ ⟨rfl, rfl, rfl, rfl, rfl, rfl, rfl, rfl, rfl, rfl, trivial⟩ (fun _ h => h.keep [false, false, true, true, true, true, true, true] rfl)
        ·try dsimp only
         refine ⟨?_, ?_⟩
         ·first | rfl | omega | (simp_all; done) | (simp_all; omega)
         ·exact l27f0_
        ·try dsimp only
         first | omega | (simp; omega) | (simp_all; omega)
       ·refine jp_ 2 rfl (fA 14 Ty.fi23_14) (jq_ 3 rfl (ld_ 1 Ty.sc4) (jp_ 4 rfl mv_ ?_ (hw := ⟨_, rfl, rfl⟩)) (hw := ⟨_, rfl, rfl⟩)) (hw := ⟨_, rfl, rfl⟩)
        refine jb_ 72 (fun h65 => ?_) (fun h65 => ?_)
        ·refine jq_ 5 rfl (ldN 1 (DataSet.enc (alts.getD i default)) Ty.ag23 Ty.sz23) (jq_ 6 rfl (ldN 2 [vL A32 ((R27.doD rds c c.Key e34 e35).length) cc33, Value.pointer none] Ty.ag33 Ty.sz33) (jp_ 7 rfl (fA 0 Ty.fi23_0) (jq_ 8 rfl (ld_ 7 Ty.sc3) (j1_ 9 (jc0_ rfl (cl_ Ty.ca11) (fun w hS => f11_ok _ A32 cc33 _ w (RO.of_row hS 3 rfl) (R27.doD_ro (fun i => (rdsN i).on hS (fun _ h => by cases h)) (RO.of_row hS 4 rfl)) hy_ hy_) ?_ (hw := ⟨_, rfl, rfl⟩)) gm_) (hw := ⟨_, rfl, rfl⟩)) (hw := ⟨_, rfl, rfl⟩)) (hw := ⟨_, rfl, rfl⟩)) (hw := ⟨_, rfl, rfl⟩)
         have ha66 := R27.ofD_len (by assumption) base.Id
         refine j1_ 10 ?_ gm_
         refine jc1_ rfl (cl_ Ty.ca12) (fun w hS => f12_ok _ _ _ _ w (R27.ofD_ro (R27.doD_ro (fun i => (rdsN i).on hS (fun _ h => by cases h)) (RO.of_row hS 4 rfl)) base.Id) hy_ hy_ (by exact (haf (by omega)).1) (by exact (haf (by omega)).2.1) (by exact (haf (by omega)).2.2)) ?_ (hw := ⟨_, rfl, rfl⟩)
         rintro _ _ ⟨A67, cc68, out69, rfl, rfl, hf70⟩
         refine jp_ 11 rfl (lnS Tryz.underlying40) (jp_ 12 rfl (x_gtr_i rfl rfl) ?_ (hw := ⟨_, rfl, rfl⟩)) (hw := ⟨_, rfl, rfl⟩)
         refine JA_take 13 (vB (decide ((0 : Int) < ((out69.length : Nat) : Int)))) rfl (by kernel_rfl) (by kernel_rfl) (by kernel_rfl) rfl (fun _ _ _ h => h) rfl ⟨_, rfl, rfl⟩ (fun _ _ => rfl) ?_
         refine jt_ 14 (vB (decide ((0 : Int) < ((out69.length : Nat) : Int)))) rfl (fun _ _ => rfl) ?_
         refine jp_ 15 rfl av_ ?_
         refine JA_done (by kernel_rfl) (fun _ h => ⟨h.keep [false, true, true, true, true, true, true, true, true] rfl, fun _ => h.keep [false, true, true, true, true, true, true, true, true] rfl⟩) ?_
         refine kx_ (n_ (g_ (s_ (x_add_n (a := i) (b := 1) rfl rfl (by omega)) (s_ mv_ (z_ ?_)))))
         refine JX_round ((i + 1, decide ((0 : Int) < ((out69.length : Nat) : Int))) : Nat × Bool) ?_ ?_ ⟨rfl, rfl, rfl, rfl, rfl, rfl, rfl, rfl, rfl, rfl, trivial⟩ (fun _ h => h.keep [false, false, false, true, true, true, true, true, true] rfl)
         ·try dsimp only
          refine ⟨?_, ?_⟩
          ·first | rfl | omega | (simp_all; done) | (simp_all; omega)
          ·first | exact R27.tw_t (by omega) i1_1 (by assumption) | exact R27.tw_f (by omega) i1_1 (by assumption) (R27.u_no (by assumption)) | exact R27.tw_f (by omega) i1_1 (by assumption) (R27.u_yes (by assumption) hf70)
         ·try dsimp only
          first | omega | (simp; omega) | (simp_all; omega)
        ·refine js2_ 5 rfl (js2_ 6 rfl (js2_ 7 rfl (js2_ 8 rfl (js2_ 9 rfl (js2_ 10 rfl (js2_ 11 rfl (js2_ 12 rfl ?_)))))))
         refine JA_take 13 (vB false) rfl (by kernel_rfl) (by kernel_rfl) (by kernel_rfl) rfl (fun _ _ _ h => h) rfl ⟨_, rfl, rfl⟩ (fun _ _ => rfl) ?_
         refine jt_ 14 (vB false) rfl (fun _ _ => rfl) ?_
         refine jp_ 15 rfl av_ ?_
         refine JA_done (by kernel_rfl) gm_ ?_
         refine kx_ (n_ (g_ (s_ (x_add_n (a := i) (b := 1) rfl rfl (by omega)) (s_ mv_ (z_ ?_)))))
         refine JX_round ((i + 1, false) : Nat × Bool) ?_ ?_ ⟨rfl, rfl, rfl, rfl, rfl, rfl, rfl, rfl, rfl, rfl, trivial⟩ (fun _ h => h.keep [false, false, true, true, true, true, true, true] rfl)
         ·try dsimp only
          refine ⟨?_, ?_⟩
          ·first | rfl | omega | (simp_all; done) | (simp_all; omega)
          ·exact l27f0_
         ·try dsimp only
          first | omega | (simp; omega) | (simp_all; omega)
     ·refine js2_ 3 rfl (js2_ 4 rfl (js2_ 5 rfl (js2_ 6 rfl (js2_ 7 rfl (js2_ 8 rfl (js2_ 9 rfl (js2_ 10 rfl ?_)))))))
      refine jt_ 11 (vB false) rfl (fun _ _ => rfl) ?_
      refine JA_done (by kernel_rfl) gm_ ?_
      refine n_ (iff_ (sk_ (n_ ?_)))
      refine drB [] 16 Ty.mixed ?_
      refine jp_ 0 rfl mv_ (jp_ 1 rfl mv_ ?_)
      refine jb_ 69 (fun h71 => ?_) (fun h71 => ?_)
      ·refine js2_ 2 rfl (js2_ 3 rfl (js2_ 4 rfl (ju_ 5 rfl (ju_ 6 rfl (ju_ 7 rfl (ju_ 8 rfl (ju_ 9 rfl (ju_ 10 rfl (ju_ 11 rfl ?_)))))))))
       refine ju_ 12 rfl (js2_ 13 rfl ?_)
       refine jt_ 14 (vB true) rfl (fun _ _ => rfl) ?_
       refine jp_ 15 rfl av_ ?_
       refine JA_done (by kernel_rfl) gm_ ?_
       refine kx_ (n_ (g_ (s_ (x_add_n (a := i) (b := 1) rfl rfl (by omega)) (s_ mv_ (z_ ?_)))))
       refine JX_round ((i + 1, true) : Nat × Bool) ?_ ?_ ⟨rfl, rfl, rfl, rfl, rfl, rfl, rfl, rfl, rfl, rfl, trivial⟩ (fun _ h => h.keep [false, true, true, true, true, true, true] rfl)
       ·try dsimp only
        refine ⟨?_, ?_⟩
        ·first | rfl | omega | (simp_all; done) | (simp_all; omega)
        ·exact l27f0_
       ·try dsimp only
        first | omega | (simp; omega) | (simp_all; omega)
      ·refine jp_ 2 rfl (fA 14 Ty.fi23_14) (jq_ 3 rfl (ld_ 0 Ty.sc4) (jp_ 4 rfl mv_ ?_ (hw := ⟨_, rfl, rfl⟩)) (hw := ⟨_, rfl, rfl⟩)) (hw := ⟨_, rfl, rfl⟩)
       refine jb_ 72 (fun h72 => ?_) (fun h72 => ?_)
       ·refine jq_ 5 rfl (ldN 0 (DataSet.enc (alts.getD i default)) Ty.ag23 Ty.sz23) (jq_ 6 rfl (ldN 1 [vL A32 ((R27.doD rds c c.Key e34 e35).length) cc33, Value.pointer none] Ty.ag33 Ty.sz33) (jp_ 7 rfl (fA 0 Ty.fi23_0) (jq_ 8 rfl (ld_ 6 Ty.sc3) (j1_ 9 (jc0_ rfl (cl_ Ty.ca11) (fun w hS => f11_ok _ A32 cc33 _ w (RO.of_row hS 2 rfl) (R27.doD_ro (fun i => (rdsN i).on hS (fun _ h => by cases h)) (RO.of_row hS 3 rfl)) hy_ hy_) ?_ (hw := ⟨_, rfl, rfl⟩)) gm_) (hw := ⟨_, rfl, rfl⟩)) (hw := ⟨_, rfl, rfl⟩)) (hw := ⟨_, rfl, rfl⟩)) (hw := ⟨_, rfl, rfl⟩)
        have ha73 := R27.ofD_len (by assumption) base.Id
        refine j1_ 10 ?_ gm_
        refine jc1_ rfl (cl_ Ty.ca12) (fun w hS => f12_ok _ _ _ _ w (R27.ofD_ro (R27.doD_ro (fun i => (rdsN i).on hS (fun _ h => by cases h)) (RO.of_row hS 3 rfl)) base.Id) hy_ hy_ (by exact (haf (by omega)).1) (by exact (haf (by omega)).2.1) (by exact (haf (by omega)).2.2)) ?_ (hw := ⟨_, rfl, rfl⟩)
        rintro _ _ ⟨A74, cc75, out76, rfl, rfl, hf77⟩
        refine jp_ 11 rfl (lnS Tryz.underlying40) (jp_ 12 rfl (x_gtr_i rfl rfl) ?_ (hw := ⟨_, rfl, rfl⟩)) (hw := ⟨_, rfl, rfl⟩)
        refine JA_take 13 (vB (decide ((0 : Int) < ((out76.length : Nat) : Int)))) rfl (by kernel_rfl) (by kernel_rfl) (by kernel_rfl) rfl (fun _ _ _ h => h) rfl ⟨_, rfl, rfl⟩ (fun _ _ => rfl) ?_
        refine jt_ 14 (vB (decide ((0 : Int) < ((out76.length : Nat) : Int)))) rfl (fun _ _ => rfl) ?_
        refine jp_ 15 rfl av_ ?_
        refine JA_done (by kernel_rfl) (fun _ h => ⟨h.keep [false, true, true, true, true, true, true, true] rfl, fun _ => h.keep [false, true, true, true, true, true, true, true] rfl⟩) ?_
        refine kx_ (n_ (g_ (s_ (x_add_n (a := i) (b := 1) rfl rfl (by omega)) (s_ mv_ (z_ ?_)))))
        refine JX_round ((i + 1, decide ((0 : Int) < ((out76.length : Nat) : Int))) : Nat × Bool) ?_ ?_ ⟨rfl, rfl, rfl, rfl, rfl, rfl, rfl, rfl, rfl, rfl, trivial⟩ (fun _ h => h.keep [false, false, true, true, true, true, true, true] rfl)
        ·try dsimp only
         refine ⟨?_, ?_⟩
         ·first | rfl | omega | (simp_all; done) | (simp_all; omega)
         ·first | exact R27.tw_t (by omega) i1_1 (by assumption) | exact R27.tw_f (by omega) i1_1 (by assumption) (R27.u_no (by assumption)) | exact R27.tw_f (by omega) i1_1 (by assumption) (R27.u_yes (by assumption) hf77)
        ·try dsimp only
         first | omega | (simp; omega) | (simp_all; omega)
       ·refine js2_ 5 rfl (js2_ 6 rfl (js2_ 7 rfl (js2_ 8 rfl (js2_ 9 rfl (js2_ 10 rfl (js2_ 11 rfl (js2_ 12 rfl ?_)))))))
        refine JA_take 13 (vB false) rfl (by kernel_rfl) (by kernel_rfl) (by kernel_rfl) rfl (fun _ _ _ h => h) rfl ⟨_, rfl, rfl⟩ (fun _ _ => rfl) ?_
        refine jt_ 14 (vB false) rfl (fun _ _ => rfl) ?_
        refine jp_ 15 rfl av_ ?_
        refine JA_done (by kernel_rfl) gm_ ?_
        refine kx_ (n_ (g_ (s_ (x_add_n (a := i) (b := 1) rfl rfl (by omega)) (s_ mv_ (z_ ?_)))))
        refine JX_round ((i + 1, false) : Nat × Bool) ?_ ?_ ⟨rfl, rfl, rfl, rfl, rfl, rfl, rfl, rfl, rfl, rfl, trivial⟩ (fun _ h => h.keep [false, true, true, true, true, true, true] rfl)
        ·try dsimp only
         refine ⟨?_, ?_⟩
         ·first | rfl | omega | (simp_all; done) | (simp_all; omega)
         ·exact l27f0_
        ·try dsimp only
         first | omega | (simp; omega) | (simp_all; omega)
    ·try have hi78 := R27.busy_1 h37w
     try have hi79 := R27.busy_2 h37w
     try have hi80 := R27.busy_3 h37w
     try have hi81 := (R27.busy_4 h37w).1
     try have hi82 := (R27.busy_4 h37w).2
     try have hi83 := R27.busy_5 h37w
     refine J_exit (ne_ (re_ (kh_ (n_ (q_ ?_)))))
     refine q_ (g_ (r_ (ldN 5 (DataSet.enc base) Ty.ag23 Ty.sz23) (r_ (ldN 4 (Change.enc c) Ty.ag27 Ty.sz27) (c0 (cl_ Ty.ca13) (fun w hS => f13_ok base c w hy_ hy_ hy_) (s_ (x_not rfl) (z_ (n_ ?_)))))))
     refine if_ (fun h84 => ?_) (fun h84 => ?_)
     ·have h84w := h84
      try have hi85 := R27.busy_1 h84w
      try have hi86 := R27.busy_2 h84w
      try have hi87 := R27.busy_3 h84w
      try have hi88 := (R27.busy_4 h84w).1
      try have hi89 := (R27.busy_4 h84w).2
      try have hi90 := R27.busy_5 h84w
      have h84 : (R27.isChange base c) = false := bnot_true h84
      refine q_ (g_ (s_ mv_ (s_ mv_ (sg_ rfl mv_ (sg_ rfl (x_eql_i rfl rfl) (jr_ (vB (decide ((R27.plan rds base alts c).2 = 1))) (s_ av_ (z_ (xk_ [10, 12, 13, 8] ?_)))))))))
      refine n_ (rt_ (nr_ ?_))
      refine JX_retsC [_] _ Tryz.results3 (fun w h => ⟨rfl, trivial⟩) rfl _ (fun _ h => h.keep [false, false, false, false, false, false] rfl) (fun _ _ h => (hB22.back _ _ h)) ⟨?_, ?_⟩
      ·have e_x0 : (decide ((R27.plan rds base alts c).2 = 1) : Bool) = true := by first | exact decide_eq_true (R27.uni_arg (by assumption)) | exact decide_eq_true (R27.uni_19 (by assumption) (by assumption) hf21 (by assumption) (R27.aft_base (by assumption)) i1_1 (by omega)) | exact R27.kno (by assumption) (by assumption)
       exact congrArg (fun (x0 : Bool) => vB x0) e_x0
      ·rfl
     ·have h84w := h84
      try have hi91 := R27.busy_1 h84w
      try have hi92 := R27.busy_2 h84w
      try have hi93 := R27.busy_3 h84w
      try have hi94 := (R27.busy_4 h84w).1
      try have hi95 := (R27.busy_4 h84w).2
      try have hi96 := R27.busy_5 h84w
      have h84 : (R27.isChange base c) = true := bnot_false h84
      refine sk_ (n_ (q_ (g_ (s_ mv_ (s_ mv_ (sg_ rfl mv_ (sg_ rfl (x_eql_i rfl rfl) (sg_ rfl mv_ (sg_ rfl (x_eql_b Tryz.underlying4 rfl rfl) (jr_ (vB (decide ((decide ((R27.plan rds base alts c).2 = 19)) = (t)))) (s_ av_ (z_ ?_))))))))))))
      refine xk_ [8] ?_
      refine n_ (rt_ ?_)
      refine JX_retsC [_] _ Tryz.results3 (fun w h => ⟨rfl, trivial⟩) rfl _ (fun _ h => h.keep [false, false, false, false, false, false] rfl) (fun _ _ h => (hB22.back _ _ h)) ⟨?_, ?_⟩
      ·have e_x0 : (decide ((decide ((R27.plan rds base alts c).2 = 19)) = (t)) : Bool) = true := by first | exact decide_eq_true (R27.uni_arg (by assumption)) | exact decide_eq_true (R27.uni_19 (by assumption) (by assumption) hf21 (by assumption) (R27.aft_base (by assumption)) i1_1 (by omega)) | exact R27.kno (by assumption) (by assumption)
       exact congrArg (fun (x0 : Bool) => vB x0) e_x0
      ·rfl
  ·refine JA_ready (rs := [2, 6]) (by kernel_rfl) (by decide) gm_ (List.forall_mem_cons.2 ⟨?_, (List.forall_mem_cons.2 ⟨?_, all_nil⟩)⟩)
   ·refine jio_ rfl (O_buildSlice0 Tryz.underlying25 Ty.sz27 fun b97 => ?_)
    refine JA_weaken (E' := [(0, vG (DataSet.enc base)), (1, vL altsA alts.length altsC), (2, vL lA l.length lC), (3, vG (Change.enc c)), (4, pB b1 0), (7, pB b2 0), (8, vB false), (17, vB true), (18, vB false), (19, vG (DataSet.enc base)), (20, vL altsA alts.length altsC), (22, vL lA l.length lC), (24, vG (Change.enc c)), (21, vL (some ⟨b97, 0, none⟩) ((([] : List Change)).length) 0)]) (L' := [Ent.row (.slice (some ⟨b97, 0, none⟩) ([] : List Change).length 0) 27 5 ([] : List Change).length (([] : List Change).flatMap Change.enc), Ent.blk b2 27 (Change.enc c), Ent.blk b1 23 (DataSet.enc base)]) ⟨rfl, rfl, rfl, rfl, rfl, rfl, rfl, rfl, rfl, rfl, rfl, rfl, rfl, rfl, trivial⟩ (fun _ h => (St.torow (cs := []) (((h.front 2 _ rfl).front 2 _ rfl).front 2 _ rfl) 5 0 rfl (by decide)).keep [true, true, true] rfl) ?_
    refine JA_ready (rs := [4, 6]) (by kernel_rfl) (by decide) (fun _ h => ⟨h.keep [false, true, true] rfl, fun _ => h.keep [false, true, true] rfl⟩) (List.forall_mem_cons.2 ⟨?_, (List.forall_mem_cons.2 ⟨?_, all_nil⟩)⟩)
    ·refine jio_ rfl (O_append_f 0 Change.enc 5 ([] : List Change) l Tryz.underlying25 Ty.sz27 Ty.by27 Ty.ze27 rfl (by decide) rfl rfl rfl rfl Change.enc_len Change.enc_one (cells_ro lR) lt_ lt_ fun A98 c99 => ?_)
     refine j1_ 6 (jio_ rfl (O_buildSlice (cs := (Change.enc c)) Tryz.underlying25 Ty.sz27 Ty.ze27 (by decide) (by decide) (by kernel_rfl) fun b101 => ?_)) (gl_ rfl (fun _ h => h.keep [false, true, true] rfl))
     refine j1_ 7 (jio_ rfl (O_append_f 1 Change.enc 5 (([] : List Change) ++ l) [c] Tryz.underlying25 Ty.sz27 Ty.by27 Ty.ze27 rfl (by decide) rfl rfl rfl rfl Change.enc_len Change.enc_one (cells_blk 0 (off := 0) (m := 5) rfl rfl) lt_ lt_ fun A104 c105 => ?_)) (gl_ rfl (fun _ h => h.keep [false, false, true, true] rfl))
     refine j1_ 8 (jc0_ rfl (cl_ Ty.ca6) (fun w hS => f6_ok base alts _ _ _ A104 c105 w (rno altsR hS) (RO.of_row hS 1 rfl) hy_ hy_) (jp_ 9 rfl (x_not rfl) ?_)) (gl_ rfl (fun _ h => h.keep [false, false, true, true] rfl))
     exact l27f1_
    ·refine jio_ rfl (O_buildSlice (cs := (Change.enc c)) Tryz.underlying25 Ty.sz27 Ty.ze27 (by decide) (by decide) (by kernel_rfl) fun b106 => ?_)
     refine j1_ 4 (jio_ rfl (O_append_f 1 Change.enc 5 ([] : List Change) l Tryz.underlying25 Ty.sz27 Ty.by27 Ty.ze27 rfl (by decide) rfl rfl rfl rfl Change.enc_len Change.enc_one (cells_ro lR) lt_ lt_ fun A109 c110 => ?_)) (fun _ h => ⟨h.keep [false, false, true, true] rfl, fun _ => h.keep [false, false, true, true] rfl⟩)
     refine j1_ 7 (jio_ rfl (O_append_f 1 Change.enc 5 (([] : List Change) ++ l) [c] Tryz.underlying25 Ty.sz27 Ty.by27 Ty.ze27 rfl (by decide) rfl rfl rfl rfl Change.enc_len Change.enc_one (cells_blk 0 (off := 0) (m := 5) rfl rfl) lt_ lt_ fun A113 c114 => ?_)) (gl_ rfl (fun _ h => h.keep [false, false, true, true] rfl))
     refine j1_ 8 (jc0_ rfl (cl_ Ty.ca6) (fun w hS => f6_ok base alts _ _ _ A113 c114 w (rno altsR hS) (RO.of_row hS 1 rfl) hy_ hy_) (jp_ 9 rfl (x_not rfl) ?_)) (gl_ rfl (fun _ h => h.keep [false, false, true, true] rfl))
     exact l27f1_
   ·refine jio_ rfl (O_buildSlice (cs := (Change.enc c)) Tryz.underlying25 Ty.sz27 Ty.ze27 (by decide) (by decide) (by kernel_rfl) fun b115 => ?_)
    refine j1_ 2 (jio_ rfl (O_buildSlice0 Tryz.underlying25 Ty.sz27 fun b117 => ?_)) (fun _ h => ⟨h.keep [false, true, true] rfl, fun _ => h.keep [false, true, true] rfl⟩)
    refine JA_weaken (E' := [(0, vG (DataSet.enc base)), (1, vL altsA alts.length altsC), (2, vL lA l.length lC), (3, vG (Change.enc c)), (4, pB b1 0), (7, pB b2 0), (8, vB false), (17, vB true), (18, vB false), (19, vG (DataSet.enc base)), (20, vL altsA alts.length altsC), (22, vL lA l.length lC), (24, vG (Change.enc c)), (25, vL (some ⟨b115, 0, none⟩) 1 1), (21, vL (some ⟨b117, 0, none⟩) ((([] : List Change)).length) 0)]) (L' := [Ent.row (.slice (some ⟨b117, 0, none⟩) ([] : List Change).length 0) 27 5 ([] : List Change).length (([] : List Change).flatMap Change.enc), Ent.blk b115 27 (Change.enc c), Ent.blk b2 27 (Change.enc c), Ent.blk b1 23 (DataSet.enc base)]) ⟨rfl, rfl, rfl, rfl, rfl, rfl, rfl, rfl, rfl, rfl, rfl, rfl, rfl, rfl, rfl, trivial⟩ (fun _ h => (St.torow (cs := []) ((((h.front 3 _ rfl).front 3 _ rfl).front 3 _ rfl).front 3 _ rfl) 5 0 rfl (by decide)).keep [true, true, true, true] rfl) ?_
    refine j1_ 4 (jio_ rfl (O_append_f 0 Change.enc 5 ([] : List Change) l Tryz.underlying25 Ty.sz27 Ty.by27 Ty.ze27 rfl (by decide) rfl rfl rfl rfl Change.enc_len Change.enc_one (cells_ro lR) lt_ lt_ fun A120 c121 => ?_)) (fun _ h => ⟨h.keep [false, false, true, true] rfl, fun _ => h.keep [false, false, true, true] rfl⟩)
    refine j1_ 7 (jio_ rfl (O_append_f 0 Change.enc 5 (([] : List Change) ++ l) [c] Tryz.underlying25 Ty.sz27 Ty.by27 Ty.ze27 rfl (by decide) rfl rfl rfl rfl Change.enc_len Change.enc_one (cells_blk 1 (off := 0) (m := 5) rfl rfl) lt_ lt_ fun A124 c125 => ?_)) (gl_ rfl (fun _ h => h.keep [false, false, true, true] rfl))
    refine j1_ 8 (jc0_ rfl (cl_ Ty.ca6) (fun w hS => f6_ok base alts _ _ _ A124 c125 w (rno altsR hS) (RO.of_row hS 0 rfl) hy_ hy_) (jp_ 9 rfl (x_not rfl) ?_)) (gl_ rfl (fun _ h => h.keep [false, false, true, true] rfl))
    exact l27f1_
 ·refine q_ (g_ (o_ (bxG fun b126 => ?_)))
  refine o_ (bxG fun b127 => ?_)
  refine s_ av_ (z_ (n_ (q_ (q_ (g_ (c0 (cl_ Ty.ca5) (fun w hS => f5_ok w) (jr_ (vB false) (z_ (n_ (iff_ (sk_ (n_ (q_ (q_ ?_))))))))))))))
  refine drB [4, 7] 10 Ty.mixed ?_
  refine jq_ 0 rfl (ldN 1 (DataSet.enc base) Ty.ag23 Ty.sz23) (jp_ 1 rfl mv_ (jp_ 3 rfl mv_ (jq_ 5 rfl (ldN 0 (Change.enc c) Ty.ag27 Ty.sz27) ?_)))
  refine JA_fin [(1, vL altsA alts.length altsC), (2, vL lA l.length lC), (4, pB b126 0), (7, pB b127 0), (8, vB false), (28, vB (!(((R27.isSphere base alts) && (R27.short ((([] : List Change) ++ l) ++ [c]) 41)) && (R27.rising [] ((([] : List Change) ++ l) ++ [c])))))] [Ent.blk b127 27 (Change.enc c), Ent.blk b126 23 (DataSet.enc base)] ?_ (fun key128 => ?_)
  ·refine n_ ?_
   refine if_ (fun h129 => ?_) (fun h129 => ?_)
   ·have h129w := h129
    try have hi130 := R27.busy_1 h129w
    try have hi131 := R27.busy_2 h129w
    try have hi132 := R27.busy_3 h129w
    try have hi133 := (R27.busy_4 h129w).1
    try have hi134 := (R27.busy_4 h129w).2
    try have hi135 := R27.busy_5 h129w
    have h129 : (((R27.isSphere base alts) && (R27.short ((([] : List Change) ++ l) ++ [c]) 41)) && (R27.rising [] ((([] : List Change) ++ l) ++ [c]))) = false := bnot_true h129
    simp only [Bool.and_eq_true, Bool.or_eq_true, Bool.and_eq_false_iff, Bool.or_eq_false_iff, Bool.not_eq_true', Bool.not_eq_false', decide_eq_true_eq, decide_eq_false_iff_not] at h129
    refine q_ (g_ (s_ av_ (z_ (n_ (rt_ (nr_ ?_))))))
    exact p1 Tryz.results3 rfl ⟨rfl, rfl⟩
   ·have h129w := h129
    try have hi136 := R27.busy_1 h129w
    try have hi137 := R27.busy_2 h129w
    try have hi138 := R27.busy_3 h129w
    try have hi139 := (R27.busy_4 h129w).1
    try have hi140 := (R27.busy_4 h129w).2
    try have hi141 := R27.busy_5 h129w
    have h129 : (((R27.isSphere base alts) && (R27.short ((([] : List Change) ++ l) ++ [c]) 41)) && (R27.rising [] ((([] : List Change) ++ l) ++ [c]))) = true := bnot_false h129
    have ⟨h129, h142⟩ := band_true h129
    have ⟨h129, h143⟩ := band_true h129
    have hi144 := R27.isSphere_valid h129
    have hi145 := R27.short_len2 h143
    refine sk_ (n_ (q_ (g_ (r_ (ldN 1 (DataSet.enc base) Ty.ag23 Ty.sz23) (s_ mv_ (s_ mv_ ?_))))))
    refine JO_callB [] [] [Ent.blk b127 27 (Change.enc c), Ent.blk b126 23 (DataSet.enc base)] rfl trivial (fun _ => x_call Ty.ca7 rfl) (fun _ h => h) (fun _ h => by cases h) (fun w hS => f_runU base alts altsA altsC l lA lC w (altsR.on hS (fun _ h => by cases h)) (lR.on hS (fun _ h => by cases h)) hy_ hy_ hy_) ?_
    rintro wc _ _ wbhB147 ⟨rds, rdsA, rdsC, rfl, rfl, rdsR, rdsN, hf146⟩ hc0 hB147
    have altsR := altsR.again hB147
    have lR := lR.again hB147
    have rdsR := rdsR.mono (lown_range hc0)
    have rdsN := fun i => (rdsN i).mono (lown_range hc0)
    have ha148 := R27.reach_s1 (hf146).1 (by omega)
    have ha149 := R27.reach_s2 (hf146).1 (by omega)
    have ha150 := R27.reach_s3 (hf146).1
    have ha151 := R27.shorts_of (R27.reach_s3 (hf146).1) base.Id
    have ha152 := R27.ofD_len (R27.reach_s2 (hf146).1 (by omega)) base.Id
    refine s_ mv_ (s_ (ex_ 0) (s_ (ex_ 1) (o_ (al_ Ty.ze33 fun b153 => ?_))))
    refine o_ (stG 0 Ty.sz33 ?_)
    refine s_ av_ (z_ (n_ (q_ (g_ (r_ (ldN 0 [vL rdsA rds.length rdsC, Value.pointer none] Ty.ag33 Ty.sz33) (js_ (Value.iface 33 (vG [vL rdsA rds.length rdsC, Value.pointer none])) (x_iface rfl (by kernel_rfl)) (r_ (ldN 2 (DataSet.enc base) Ty.ag23 Ty.sz23) (s_ mv_ (r_ (ldN 1 (Change.enc c) Ty.ag27 Ty.sz27) ?_)))))))))
    refine c1 (cl_ Ty.ca8) (fun w hS => f8_ok rds rdsA rdsC base alts _ _ c w (rno rdsR hS) (fun i => (rdsN i).on hS (fun _ h => by cases h)) (rno altsR hS) hy_ (by first | assumption | exact R27.pl_of_all rfl) hy_ hy_ hy_ (by first | assumption | exact R27.sh_of_all rfl)) ?_
    rintro _ _ ⟨A154, cc155, rfl, rfl⟩
    have ha156 := R27.plan_len rds base alts c
    refine s_ mv_ (s_ (ex_ 0) (s_ (ex_ 1) (s_ av_ (s_ av_ (z_ (xk_ [1, 4, 7, 8, 9, 10, 12] ?_))))))
    refine n_ (q_ (g_ (s_ av_ (z_ (n_ (q_ (g_ (r_ (ldN 1 [vL rdsA rds.length rdsC, Value.pointer none] Ty.ag33 Ty.sz33) (r_ (ldN 2 (Change.enc c) Ty.ag27 Ty.sz27) (s_ (fA 2 Ty.fi27_2) (r_ (ld_ 2 Ty.sc9) ?_)))))))))))
    refine c1 (cl_ Ty.ca9) (fun w hS => f_doN rds rdsA rdsC c _ w (rno rdsR hS) (fun i => (rdsN i).on hS (fun _ h => by cases h)) hy_ hy_ hy_) ?_
    rintro _ _ ⟨A157, cc158, rfl, rfl⟩
    refine o_ (al_ Ty.ze33 fun b159 => ?_)
    refine o_ (stG 0 Ty.sz33 ?_)
    refine z_ (n_ (q_ (q_ (g_ (s_ mv_ (s_ (lnS Tryz.underlying24) (s_ mv_ (z_ (n_ (k_ ?_))))))))))
    refine J_loop (X := Nat × Bool) (fun (⟨i, t⟩ : Nat × Bool) => (i ≤ alts.length) ∧ (R27.Tw alts (R27.ofD (R27.doN rds c) base.Id).Pairs i t)) (fun (⟨i, t⟩ : Nat × Bool) => [(4, pB b126 0), (7, pB b127 0), (9, pB b153 0), (10, vB true), (12, vI ((R27.plan rds base alts c).2)), (13, vB t), (14, pB b159 0), (50, vL altsA alts.length altsC), (51, vI ((alts.length : Nat) : Int)), (52, vI ((i : Nat) : Int))]) (fun (⟨i, t⟩ : Nat × Bool) => [Ent.blk b159 33 [vL A157 ((R27.doN rds c).length) cc158, Value.pointer none], Ent.row (.slice A157 (R27.doN rds c).length cc158) 56 2 (R27.doN rds c).length ((R27.doN rds c).flatMap Data.enc), Ent.blk b153 33 [vL rdsA rds.length rdsC, Value.pointer none], Ent.blk b127 27 (Change.enc c), Ent.blk b126 23 (DataSet.enc base)]) (fun (⟨i, t⟩ : Nat × Bool) => alts.length - i) ((0, false) : Nat × Bool) ?_ ⟨rfl, rfl, rfl, rfl, rfl, rfl, rfl, rfl, rfl, rfl, trivial⟩ (fun _ h => h.keep [true, true, false, true, true, true] rfl) ?_
    ·try dsimp only
     refine ⟨?_, ?_⟩
     ·first | rfl | omega | (simp_all; done) | (simp_all; omega)
     ·exact R27.tw_start
    rintro ⟨i, t⟩ hI1
    obtain ⟨i1_0, i1_1⟩ := hI1
    try dsimp only at i1_0
    try dsimp only at i1_1
    have hru := hf146
    have hr := hru.1
    have hsm : R27.Small (R27.doN rds c) 370 := R27.small_don (R27.small_mono hr.2 (show 9 * l.length ≤ 369 by omega))
    have hd1 := R27.sm1 hsm
    have hd2 := R27.sm2 hsm
    have hd3 := R27.sm3 hsm base.Id
    have hd4 := R27.shorts_of hsm.2.2 base.Id
    have hs1 : R27.isSphere base alts = true := by assumption
    have haf := fun (h : i < alts.length) => R27.isAlt_of hs1 (R27.alt_at h)
    try dsimp only
    refine q_ (g_ (s_ (x_lss_i rfl rfl) (z_ (n_ (q_ ?_)))))
    refine ifd (fun h160w h160 => ?_) (fun h160w h160 => ?_)
    ·try have hi161 := R27.busy_1 h160w
     try have hi162 := R27.busy_2 h160w
     try have hi163 := R27.busy_3 h160w
     try have hi164 := (R27.busy_4 h160w).1
     try have hi165 := (R27.busy_4 h160w).2
     try have hi166 := R27.busy_5 h160w
     refine sk_ (n_ (q_ (k_ (q_ (g_ (r_ (ixF DataSet.enc_len (cells_ro altsR) Tryz.underlying24 Ty.sz23) (r_ (ldFN DataSet.enc_len (cells_ro altsR) Ty.ag23 Ty.sz23) (o_ (al_ Ty.ze23 fun b167 => ?_)))))))))
     refine o_ (stG 0 Ty.sz23 ?_)
     refine z_ (n_ (q_ (q_ ?_)))
     refine drB [] 12 Ty.mixed ?_
     refine jp_ 0 rfl (fA 14 Ty.fi23_14) (jq_ 1 rfl (ld_ 0 Ty.sc4) (jp_ 2 rfl mv_ ?_))
     refine jb_ 58 (fun h168 => ?_) (fun h168 => ?_)
     ·refine jq_ 3 rfl (ldN 0 (DataSet.enc (alts.getD i default)) Ty.ag23 Ty.sz23) (jq_ 4 rfl (ldN 3 [vL rdsA rds.length rdsC, Value.pointer none] Ty.ag33 Ty.sz33) (jp_ 5 rfl (fA 0 Ty.fi23_0) (jq_ 6 rfl (ld_ 5 Ty.sc3) (j1_ 7 (jc0_ rfl (cl_ Ty.ca11) (fun w hS => f11_ok rds rdsA rdsC _ w (rno rdsR hS) (fun i => (rdsN i).on hS (fun _ h => by cases h)) hy_ hy_) ?_ (hw := ⟨_, rfl, rfl⟩)) gm_) (hw := ⟨_, rfl, rfl⟩)) (hw := ⟨_, rfl, rfl⟩)) (hw := ⟨_, rfl, rfl⟩)) (hw := ⟨_, rfl, rfl⟩)
      have ha169 := R27.ofD_len (by assumption) base.Id
      refine j1_ 8 ?_ gm_
      refine jc1_ rfl (cl_ Ty.ca10) (fun w hS => f10_ok _ _ _ _ w ((R27.ofD_ro rdsN base.Id).on hS (fun _ h => by cases h)) hy_ hy_) ?_ (hw := ⟨_, rfl, rfl⟩)
      rintro _ _ ⟨A170, cc171, out172, rfl, rfl, hf173⟩
      refine jp_ 9 rfl (lnS Tryz.underlying40) (jp_ 10 rfl (x_gtr_i rfl rfl) ?_ (hw := ⟨_, rfl, rfl⟩)) (hw := ⟨_, rfl, rfl⟩)
      refine jt_ 11 (vB (decide ((0 : Int) < ((out172.length : Nat) : Int)))) rfl (fun _ _ => rfl) ?_
      refine JA_done (by kernel_rfl) (fun _ h => ⟨h.keep [false, true, true, true, true, true, true] rfl, fun _ => h.keep [false, true, true, true, true, true, true] rfl⟩) ?_
      refine n_ ?_
      refine ifd (fun h174w h174 => ?_) (fun h174w h174 => ?_)
      ·try have hi175 := R27.busy_1 h174w
       try have hi176 := R27.busy_2 h174w
       try have hi177 := R27.busy_3 h174w
       try have hi178 := (R27.busy_4 h174w).1
       try have hi179 := (R27.busy_4 h174w).2
       try have hi180 := R27.busy_5 h174w
       refine q_ (g_ (s_ av_ (z_ (xk_ [4, 7, 9, 10, 12, 13, 14, 50, 51, 52, 16, 8] ?_))))
       refine n_ (rt_ (nr_ (kq_ (nr_ (rr_ (kq_ (nr_ ?_)))))))
       exact False.elim (by exact R27.uni_bad hru.2 (R27.alt_at (i := i) (by omega)) (by assumption) hf173 (by assumption))
      ·try have hi181 := R27.busy_1 h174w
       try have hi182 := R27.busy_2 h174w
       try have hi183 := R27.busy_3 h174w
       try have hi184 := (R27.busy_4 h174w).1
       try have hi185 := (R27.busy_4 h174w).2
       try have hi186 := R27.busy_5 h174w
       refine sk_ (n_ ?_)
       refine drB [] 16 Ty.mixed ?_
       refine jp_ 0 rfl mv_ (jp_ 1 rfl mv_ ?_)
       refine jb_ 69 (fun h187 => ?_) (fun h187 => ?_)
       ·refine js2_ 2 rfl (js2_ 3 rfl (js2_ 4 rfl (ju_ 5 rfl (ju_ 6 rfl (ju_ 7 rfl (ju_ 8 rfl (ju_ 9 rfl (ju_ 10 rfl (ju_ 11 rfl ?_)))))))))
        refine ju_ 12 rfl (js2_ 13 rfl ?_)
        refine jt_ 14 (vB true) rfl (fun _ _ => rfl) ?_
        refine jp_ 15 rfl av_ ?_
        refine JA_done (by kernel_rfl) gm_ ?_
        refine kx_ (n_ (g_ (s_ (x_add_n (a := i) (b := 1) rfl rfl (by omega)) (s_ mv_ (z_ ?_)))))
        refine JX_round ((i + 1, true) : Nat × Bool) ?_ ?_ ⟨rfl, rfl, rfl, rfl, rfl, rfl, rfl, rfl, rfl, rfl, trivial⟩ (fun _ h => h.keep [false, false, true, true, true, true, true] rfl)
        ·try dsimp only
         refine ⟨?_, ?_⟩
         ·first | rfl | omega | (simp_all; done) | (simp_all; omega)
         ·exact l27f0_
        ·try dsimp only
         first | omega | (simp; omega) | (simp_all; omega)
       ·refine jp_ 2 rfl (fA 14 Ty.fi23_14) (jq_ 3 rfl (ld_ 1 Ty.sc4) (jp_ 4 rfl mv_ ?_ (hw := ⟨_, rfl, rfl⟩)) (hw := ⟨_, rfl, rfl⟩)) (hw := ⟨_, rfl, rfl⟩)
        refine jb_ 72 (fun h188 => ?_) (fun h188 => ?_)
        ·refine jq_ 5 rfl (ldN 1 (DataSet.enc (alts.getD i default)) Ty.ag23 Ty.sz23) (jq_ 6 rfl (ldN 2 [vL A157 ((R27.doN rds c).length) cc158, Value.pointer none] Ty.ag33 Ty.sz33) (jp_ 7 rfl (fA 0 Ty.fi23_0) (jq_ 8 rfl (ld_ 6 Ty.sc3) (j1_ 9 (jc0_ rfl (cl_ Ty.ca11) (fun w hS => f11_ok _ A157 _ _ w (RO.of_row hS 3 rfl) (R27.doN_ro (fun i => (rdsN i).on hS (fun _ h => by cases h))) hy_ hy_) ?_ (hw := ⟨_, rfl, rfl⟩)) gm_) (hw := ⟨_, rfl, rfl⟩)) (hw := ⟨_, rfl, rfl⟩)) (hw := ⟨_, rfl, rfl⟩)) (hw := ⟨_, rfl, rfl⟩)
         have ha189 := R27.ofD_len (by assumption) base.Id
         refine j1_ 10 ?_ gm_
         refine jc1_ rfl (cl_ Ty.ca12) (fun w hS => f12_ok _ _ _ _ w (R27.ofD_ro (R27.doN_ro (fun i => (rdsN i).on hS (fun _ h => by cases h))) base.Id) hy_ hy_ (by exact (haf (by omega)).1) (by exact (haf (by omega)).2.1) (by exact (haf (by omega)).2.2)) ?_ (hw := ⟨_, rfl, rfl⟩)
         rintro _ _ ⟨A190, cc191, out192, rfl, rfl, hf193⟩
         refine jp_ 11 rfl (lnS Tryz.underlying40) (jp_ 12 rfl (x_gtr_i rfl rfl) ?_ (hw := ⟨_, rfl, rfl⟩)) (hw := ⟨_, rfl, rfl⟩)
         refine JA_take 13 (vB (decide ((0 : Int) < ((out192.length : Nat) : Int)))) rfl (by kernel_rfl) (by kernel_rfl) (by kernel_rfl) rfl (fun _ _ _ h => h) rfl ⟨_, rfl, rfl⟩ (fun _ _ => rfl) ?_
         refine jt_ 14 (vB (decide ((0 : Int) < ((out192.length : Nat) : Int)))) rfl (fun _ _ => rfl) ?_
         refine jp_ 15 rfl av_ ?_
         refine JA_done (by kernel_rfl) (fun _ h => ⟨h.keep [false, true, true, true, true, true, true, true] rfl, fun _ => h.keep [false, true, true, true, true, true, true, true] rfl⟩) ?_
         refine kx_ (n_ (g_ (s_ (x_add_n (a := i) (b := 1) rfl rfl (by omega)) (s_ mv_ (z_ ?_)))))
         refine JX_round ((i + 1, decide ((0 : Int) < ((out192.length : Nat) : Int))) : Nat × Bool) ?_ ?_ ⟨rfl, rfl, rfl, rfl, rfl, rfl, rfl, rfl, rfl, rfl, trivial⟩ (fun _ h => h.keep [false, false, false, true, true, true, true, true] rfl)
         ·try dsimp only
          refine ⟨?_, ?_⟩
          ·first | rfl | omega | (simp_all; done) | (simp_all; omega)
          ·first | exact R27.tw_t (by omega) i1_1 (by assumption) | exact R27.tw_f (by omega) i1_1 (by assumption) (R27.u_no (by assumption)) | exact R27.tw_f (by omega) i1_1 (by assumption) (R27.u_yes (by assumption) hf193)
         ·try dsimp only
          first | omega | (simp; omega) | (simp_all; omega)
        ·refine js2_ 5 rfl (js2_ 6 rfl (js2_ 7 rfl (js2_ 8 rfl (js2_ 9 rfl (js2_ 10 rfl (js2_ 11 rfl (js2_ 12 rfl ?_)))))))
         refine JA_take 13 (vB false) rfl (by kernel_rfl) (by kernel_rfl) (by kernel_rfl) rfl (fun _ _ _ h => h) rfl ⟨_, rfl, rfl⟩ (fun _ _ => rfl) ?_
         refine jt_ 14 (vB false) rfl (fun _ _ => rfl) ?_
         refine jp_ 15 rfl av_ ?_
         refine JA_done (by kernel_rfl) gm_ ?_
         refine kx_ (n_ (g_ (s_ (x_add_n (a := i) (b := 1) rfl rfl (by omega)) (s_ mv_ (z_ ?_)))))
         refine JX_round ((i + 1, false) : Nat × Bool) ?_ ?_ ⟨rfl, rfl, rfl, rfl, rfl, rfl, rfl, rfl, rfl, rfl, trivial⟩ (fun _ h => h.keep [false, false, true, true, true, true, true] rfl)
         ·try dsimp only
          refine ⟨?_, ?_⟩
          ·first | rfl | omega | (simp_all; done) | (simp_all; omega)
          ·exact l27f0_
         ·try dsimp only
          first | omega | (simp; omega) | (simp_all; omega)
     ·refine js2_ 3 rfl (js2_ 4 rfl (js2_ 5 rfl (js2_ 6 rfl (js2_ 7 rfl (js2_ 8 rfl (js2_ 9 rfl (js2_ 10 rfl ?_)))))))
      refine jt_ 11 (vB false) rfl (fun _ _ => rfl) ?_
      refine JA_done (by kernel_rfl) gm_ ?_
      refine n_ (iff_ (sk_ (n_ ?_)))
      refine drB [] 16 Ty.mixed ?_
      refine jp_ 0 rfl mv_ (jp_ 1 rfl mv_ ?_)
      refine jb_ 69 (fun h194 => ?_) (fun h194 => ?_)
      ·refine js2_ 2 rfl (js2_ 3 rfl (js2_ 4 rfl (ju_ 5 rfl (ju_ 6 rfl (ju_ 7 rfl (ju_ 8 rfl (ju_ 9 rfl (ju_ 10 rfl (ju_ 11 rfl ?_)))))))))
       refine ju_ 12 rfl (js2_ 13 rfl ?_)
       refine jt_ 14 (vB true) rfl (fun _ _ => rfl) ?_
       refine jp_ 15 rfl av_ ?_
       refine JA_done (by kernel_rfl) gm_ ?_
       refine kx_ (n_ (g_ (s_ (x_add_n (a := i) (b := 1) rfl rfl (by omega)) (s_ mv_ (z_ ?_)))))
       refine JX_round ((i + 1, true) : Nat × Bool) ?_ ?_ ⟨rfl, rfl, rfl, rfl, rfl, rfl, rfl, rfl, rfl, rfl, trivial⟩ (fun _ h => h.keep [false, true, true, true, true, true] rfl)
       ·try dsimp only
        refine ⟨?_, ?_⟩
        ·first | rfl | omega | (simp_all; done) | (simp_all; omega)
        ·exact l27f0_
       ·try dsimp only
        first | omega | (simp; omega) | (simp_all; omega)
      ·refine jp_ 2 rfl (fA 14 Ty.fi23_14) (jq_ 3 rfl (ld_ 0 Ty.sc4) (jp_ 4 rfl mv_ ?_ (hw := ⟨_, rfl, rfl⟩)) (hw := ⟨_, rfl, rfl⟩)) (hw := ⟨_, rfl, rfl⟩)
       refine jb_ 72 (fun h195 => ?_) (fun h195 => ?_)
       ·refine jq_ 5 rfl (ldN 0 (DataSet.enc (alts.getD i default)) Ty.ag23 Ty.sz23) (jq_ 6 rfl (ldN 1 [vL A157 ((R27.doN rds c).length) cc158, Value.pointer none] Ty.ag33 Ty.sz33) (jp_ 7 rfl (fA 0 Ty.fi23_0) (jq_ 8 rfl (ld_ 5 Ty.sc3) (j1_ 9 (jc0_ rfl (cl_ Ty.ca11) (fun w hS => f11_ok _ A157 _ _ w (RO.of_row hS 2 rfl) (R27.doN_ro (fun i => (rdsN i).on hS (fun _ h => by cases h))) hy_ hy_) ?_ (hw := ⟨_, rfl, rfl⟩)) gm_) (hw := ⟨_, rfl, rfl⟩)) (hw := ⟨_, rfl, rfl⟩)) (hw := ⟨_, rfl, rfl⟩)) (hw := ⟨_, rfl, rfl⟩)
        have ha196 := R27.ofD_len (by assumption) base.Id
        refine j1_ 10 ?_ gm_
        refine jc1_ rfl (cl_ Ty.ca12) (fun w hS => f12_ok _ _ _ _ w (R27.ofD_ro (R27.doN_ro (fun i => (rdsN i).on hS (fun _ h => by cases h))) base.Id) hy_ hy_ (by exact (haf (by omega)).1) (by exact (haf (by omega)).2.1) (by exact (haf (by omega)).2.2)) ?_ (hw := ⟨_, rfl, rfl⟩)
        rintro _ _ ⟨A197, cc198, out199, rfl, rfl, hf200⟩
        refine jp_ 11 rfl (lnS Tryz.underlying40) (jp_ 12 rfl (x_gtr_i rfl rfl) ?_ (hw := ⟨_, rfl, rfl⟩)) (hw := ⟨_, rfl, rfl⟩)
        refine JA_take 13 (vB (decide ((0 : Int) < ((out199.length : Nat) : Int)))) rfl (by kernel_rfl) (by kernel_rfl) (by kernel_rfl) rfl (fun _ _ _ h => h) rfl ⟨_, rfl, rfl⟩ (fun _ _ => rfl) ?_
        refine jt_ 14 (vB (decide ((0 : Int) < ((out199.length : Nat) : Int)))) rfl (fun _ _ => rfl) ?_
        refine jp_ 15 rfl av_ ?_
        refine JA_done (by kernel_rfl) (fun _ h => ⟨h.keep [false, true, true, true, true, true, true] rfl, fun _ => h.keep [false, true, true, true, true, true, true] rfl⟩) ?_
        refine kx_ (n_ (g_ (s_ (x_add_n (a := i) (b := 1) rfl rfl (by omega)) (s_ mv_ (z_ ?_)))))
        refine JX_round ((i + 1, decide ((0 : Int) < ((out199.length : Nat) : Int))) : Nat × Bool) ?_ ?_ ⟨rfl, rfl, rfl, rfl, rfl, rfl, rfl, rfl, rfl, rfl, trivial⟩ (fun _ h => h.keep [false, false, true, true, true, true, true] rfl)
        ·try dsimp only
         refine ⟨?_, ?_⟩
         ·first | rfl | omega | (simp_all; done) | (simp_all; omega)
         ·first | exact R27.tw_t (by omega) i1_1 (by assumption) | exact R27.tw_f (by omega) i1_1 (by assumption) (R27.u_no (by assumption)) | exact R27.tw_f (by omega) i1_1 (by assumption) (R27.u_yes (by assumption) hf200)
        ·try dsimp only
         first | omega | (simp; omega) | (simp_all; omega)
       ·refine js2_ 5 rfl (js2_ 6 rfl (js2_ 7 rfl (js2_ 8 rfl (js2_ 9 rfl (js2_ 10 rfl (js2_ 11 rfl (js2_ 12 rfl ?_)))))))
        refine JA_take 13 (vB false) rfl (by kernel_rfl) (by kernel_rfl) (by kernel_rfl) rfl (fun _ _ _ h => h) rfl ⟨_, rfl, rfl⟩ (fun _ _ => rfl) ?_
        refine jt_ 14 (vB false) rfl (fun _ _ => rfl) ?_
        refine jp_ 15 rfl av_ ?_
        refine JA_done (by kernel_rfl) gm_ ?_
        refine kx_ (n_ (g_ (s_ (x_add_n (a := i) (b := 1) rfl rfl (by omega)) (s_ mv_ (z_ ?_)))))
        refine JX_round ((i + 1, false) : Nat × Bool) ?_ ?_ ⟨rfl, rfl, rfl, rfl, rfl, rfl, rfl, rfl, rfl, rfl, trivial⟩ (fun _ h => h.keep [false, true, true, true, true, true] rfl)
        ·try dsimp only
         refine ⟨?_, ?_⟩
         ·first | rfl | omega | (simp_all; done) | (simp_all; omega)
         ·exact l27f0_
        ·try dsimp only
         first | omega | (simp; omega) | (simp_all; omega)
    ·try have hi201 := R27.busy_1 h160w
     try have hi202 := R27.busy_2 h160w
     try have hi203 := R27.busy_3 h160w
     try have hi204 := (R27.busy_4 h160w).1
     try have hi205 := (R27.busy_4 h160w).2
     try have hi206 := R27.busy_5 h160w
     refine J_exit (ne_ (re_ (kh_ (n_ (q_ ?_)))))
     refine q_ (g_ (r_ (ldN 4 (DataSet.enc base) Ty.ag23 Ty.sz23) (r_ (ldN 3 (Change.enc c) Ty.ag27 Ty.sz27) (c0 (cl_ Ty.ca13) (fun w hS => f13_ok base c w hy_ hy_ hy_) (s_ (x_not rfl) (z_ (n_ ?_)))))))
     refine if_ (fun h207 => ?_) (fun h207 => ?_)
     ·have h207w := h207
      try have hi208 := R27.busy_1 h207w
      try have hi209 := R27.busy_2 h207w
      try have hi210 := R27.busy_3 h207w
      try have hi211 := (R27.busy_4 h207w).1
      try have hi212 := (R27.busy_4 h207w).2
      try have hi213 := R27.busy_5 h207w
      have h207 : (R27.isChange base c) = false := bnot_true h207
      refine q_ (g_ (s_ mv_ (s_ mv_ (sg_ rfl mv_ (sg_ rfl (x_eql_i rfl rfl) (jr_ (vB (decide ((R27.plan rds base alts c).2 = 1))) (s_ av_ (z_ (xk_ [10, 12, 13, 8] ?_)))))))))
      refine n_ (rt_ (nr_ ?_))
      refine JX_retsC [_] _ Tryz.results3 (fun w h => ⟨rfl, trivial⟩) rfl _ (fun _ h => h.keep [false, false, false, false, false] rfl) (fun _ _ h => (hB147.back _ _ h)) ⟨?_, ?_⟩
      ·have e_x0 : (decide ((R27.plan rds base alts c).2 = 1) : Bool) = true := by first | exact decide_eq_true (R27.uni_arg (by assumption)) | exact decide_eq_true (R27.uni_19 (by assumption) (by assumption) hf146 (by assumption) (R27.aft_base (by assumption)) i1_1 (by omega)) | exact R27.kno (by assumption) (by assumption)
       exact congrArg (fun (x0 : Bool) => vB x0) e_x0
      ·rfl
     ·have h207w := h207
      try have hi214 := R27.busy_1 h207w
      try have hi215 := R27.busy_2 h207w
      try have hi216 := R27.busy_3 h207w
      try have hi217 := (R27.busy_4 h207w).1
      try have hi218 := (R27.busy_4 h207w).2
      try have hi219 := R27.busy_5 h207w
      have h207 : (R27.isChange base c) = true := bnot_false h207
      refine sk_ (n_ (q_ (g_ (s_ mv_ (s_ mv_ (sg_ rfl mv_ (sg_ rfl (x_eql_i rfl rfl) (sg_ rfl mv_ (sg_ rfl (x_eql_b Tryz.underlying4 rfl rfl) (jr_ (vB (decide ((decide ((R27.plan rds base alts c).2 = 19)) = (t)))) (s_ av_ (z_ ?_))))))))))))
      refine xk_ [8] ?_
      refine n_ (rt_ ?_)
      refine JX_retsC [_] _ Tryz.results3 (fun w h => ⟨rfl, trivial⟩) rfl _ (fun _ h => h.keep [false, false, false, false, false] rfl) (fun _ _ h => (hB147.back _ _ h)) ⟨?_, ?_⟩
      ·have e_x0 : (decide ((decide ((R27.plan rds base alts c).2 = 19)) = (t)) : Bool) = true := by first | exact decide_eq_true (R27.uni_arg (by assumption)) | exact decide_eq_true (R27.uni_19 (by assumption) (by assumption) hf146 (by assumption) (R27.aft_base (by assumption)) i1_1 (by omega)) | exact R27.kno (by assumption) (by assumption)
       exact congrArg (fun (x0 : Bool) => vB x0) e_x0
      ·rfl
  ·refine JA_ready (rs := [2, 6]) (by kernel_rfl) (by decide) gm_ (List.forall_mem_cons.2 ⟨?_, (List.forall_mem_cons.2 ⟨?_, all_nil⟩)⟩)
   ·refine jio_ rfl (O_buildSlice0 Tryz.underlying25 Ty.sz27 fun b220 => ?_)
    refine JA_weaken (E' := [(0, vG (DataSet.enc base)), (1, vL altsA alts.length altsC), (2, vL lA l.length lC), (3, vG (Change.enc c)), (4, pB b126 0), (7, pB b127 0), (8, vB false), (17, vB true), (18, vB false), (19, vG (DataSet.enc base)), (20, vL altsA alts.length altsC), (22, vL lA l.length lC), (24, vG (Change.enc c)), (21, vL (some ⟨b220, 0, none⟩) ((([] : List Change)).length) 0)]) (L' := [Ent.row (.slice (some ⟨b220, 0, none⟩) ([] : List Change).length 0) 27 5 ([] : List Change).length (([] : List Change).flatMap Change.enc), Ent.blk b127 27 (Change.enc c), Ent.blk b126 23 (DataSet.enc base)]) ⟨rfl, rfl, rfl, rfl, rfl, rfl, rfl, rfl, rfl, rfl, rfl, rfl, rfl, rfl, trivial⟩ (fun _ h => (St.torow (cs := []) (((h.front 2 _ rfl).front 2 _ rfl).front 2 _ rfl) 5 0 rfl (by decide)).keep [true, true, true] rfl) ?_
    refine JA_ready (rs := [4, 6]) (by kernel_rfl) (by decide) (fun _ h => ⟨h.keep [false, true, true] rfl, fun _ => h.keep [false, true, true] rfl⟩) (List.forall_mem_cons.2 ⟨?_, (List.forall_mem_cons.2 ⟨?_, all_nil⟩)⟩)
    ·refine jio_ rfl (O_append_f 0 Change.enc 5 ([] : List Change) l Tryz.underlying25 Ty.sz27 Ty.by27 Ty.ze27 rfl (by decide) rfl rfl rfl rfl Change.enc_len Change.enc_one (cells_ro lR) lt_ lt_ fun A221 c222 => ?_)
     refine j1_ 6 (jio_ rfl (O_buildSlice (cs := (Change.enc c)) Tryz.underlying25 Ty.sz27 Ty.ze27 (by decide) (by decide) (by kernel_rfl) fun b224 => ?_)) (gl_ rfl (fun _ h => h.keep [false, true, true] rfl))
     refine j1_ 7 (jio_ rfl (O_append_f 1 Change.enc 5 (([] : List Change) ++ l) [c] Tryz.underlying25 Ty.sz27 Ty.by27 Ty.ze27 rfl (by decide) rfl rfl rfl rfl Change.enc_len Change.enc_one (cells_blk 0 (off := 0) (m := 5) rfl rfl) lt_ lt_ fun A227 c228 => ?_)) (gl_ rfl (fun _ h => h.keep [false, false, true, true] rfl))
     refine j1_ 8 (jc0_ rfl (cl_ Ty.ca6) (fun w hS => f6_ok base alts _ _ _ A227 c228 w (rno altsR hS) (RO.of_row hS 1 rfl) hy_ hy_) (jp_ 9 rfl (x_not rfl) ?_)) (gl_ rfl (fun _ h => h.keep [false, false, true, true] rfl))
     exact l27f2_
    ·refine jio_ rfl (O_buildSlice (cs := (Change.enc c)) Tryz.underlying25 Ty.sz27 Ty.ze27 (by decide) (by decide) (by kernel_rfl) fun b229 => ?_)
     refine j1_ 4 (jio_ rfl (O_append_f 1 Change.enc 5 ([] : List Change) l Tryz.underlying25 Ty.sz27 Ty.by27 Ty.ze27 rfl (by decide) rfl rfl rfl rfl Change.enc_len Change.enc_one (cells_ro lR) lt_ lt_ fun A232 c233 => ?_)) (fun _ h => ⟨h.keep [false, false, true, true] rfl, fun _ => h.keep [false, false, true, true] rfl⟩)
     refine j1_ 7 (jio_ rfl (O_append_f 1 Change.enc 5 (([] : List Change) ++ l) [c] Tryz.underlying25 Ty.sz27 Ty.by27 Ty.ze27 rfl (by decide) rfl rfl rfl rfl Change.enc_len Change.enc_one (cells_blk 0 (off := 0) (m := 5) rfl rfl) lt_ lt_ fun A236 c237 => ?_)) (gl_ rfl (fun _ h => h.keep [false, false, true, true] rfl))
     refine j1_ 8 (jc0_ rfl (cl_ Ty.ca6) (fun w hS => f6_ok base alts _ _ _ A236 c237 w (rno altsR hS) (RO.of_row hS 1 rfl) hy_ hy_) (jp_ 9 rfl (x_not rfl) ?_)) (gl_ rfl (fun _ h => h.keep [false, false, true, true] rfl))
     exact l27f2_
   ·refine jio_ rfl (O_buildSlice (cs := (Change.enc c)) Tryz.underlying25 Ty.sz27 Ty.ze27 (by decide) (by decide) (by kernel_rfl) fun b238 => ?_)
    refine j1_ 2 (jio_ rfl (O_buildSlice0 Tryz.underlying25 Ty.sz27 fun b240 => ?_)) (fun _ h => ⟨h.keep [false, true, true] rfl, fun _ => h.keep [false, true, true] rfl⟩)
    refine JA_weaken (E' := [(0, vG (DataSet.enc base)), (1, vL altsA alts.length altsC), (2, vL lA l.length lC), (3, vG (Change.enc c)), (4, pB b126 0), (7, pB b127 0), (8, vB false), (17, vB true), (18, vB false), (19, vG (DataSet.enc base)), (20, vL altsA alts.length altsC), (22, vL lA l.length lC), (24, vG (Change.enc c)), (25, vL (some ⟨b238, 0, none⟩) 1 1), (21, vL (some ⟨b240, 0, none⟩) ((([] : List Change)).length) 0)]) (L' := [Ent.row (.slice (some ⟨b240, 0, none⟩) ([] : List Change).length 0) 27 5 ([] : List Change).length (([] : List Change).flatMap Change.enc), Ent.blk b238 27 (Change.enc c), Ent.blk b127 27 (Change.enc c), Ent.blk b126 23 (DataSet.enc base)]) ⟨rfl, rfl, rfl, rfl, rfl, rfl, rfl, rfl, rfl, rfl, rfl, rfl, rfl, rfl, rfl, trivial⟩ (fun _ h => (St.torow (cs := []) ((((h.front 3 _ rfl).front 3 _ rfl).front 3 _ rfl).front 3 _ rfl) 5 0 rfl (by decide)).keep [true, true, true, true] rfl) ?_
    refine j1_ 4 (jio_ rfl (O_append_f 0 Change.enc 5 ([] : List Change) l Tryz.underlying25 Ty.sz27 Ty.by27 Ty.ze27 rfl (by decide) rfl rfl rfl rfl Change.enc_len Change.enc_one (cells_ro lR) lt_ lt_ fun A243 c244 => ?_)) (fun _ h => ⟨h.keep [false, false, true, true] rfl, fun _ => h.keep [false, false, true, true] rfl⟩)
    refine j1_ 7 (jio_ rfl (O_append_f 0 Change.enc 5 (([] : List Change) ++ l) [c] Tryz.underlying25 Ty.sz27 Ty.by27 Ty.ze27 rfl (by decide) rfl rfl rfl rfl Change.enc_len Change.enc_one (cells_blk 1 (off := 0) (m := 5) rfl rfl) lt_ lt_ fun A247 c248 => ?_)) (gl_ rfl (fun _ h => h.keep [false, false, true, true] rfl))
    refine j1_ 8 (jc0_ rfl (cl_ Ty.ca6) (fun w hS => f6_ok base alts _ _ _ A247 c248 w (rno altsR hS) (RO.of_row hS 0 rfl) hy_ hy_) (jp_ 9 rfl (x_not rfl) ?_)) (gl_ rfl (fun _ h => h.keep [false, false, true, true] rfl))
    exact l27f2_
end Go.Proofs.YtmbinhhlfbgiaaaGreat

namespace Go.GV
open Go.RowKit
theorem reach_slice {H : Type} {enc : TypeId × Value → H} {P : Program} {w : World} {base : Nat} {spare : Nat → Bool} {held : Bool} {ts : List TypeId} {ds : List (DataW H)} (hs : (DataW.weightsEach P ts ds).all (· ≤ reachBytes) = true) {j : Nat} {t e : TypeId} {d : DataW H} {pl : List MemPlace} (hj : ts[j]? = some t) (hd : ds[j]? = some d)
    (ht : P.underlying t = some (.slice e)) {b : Nat} (hb : P.bytesOf e = b) {A : Option Addr} {n c : Nat} (hx : ∃ m, DataW.trod enc P w base spare held m t [Value.slice A n c] = some (d, pl)) : n * b ≤ 140737488351232 := by
  obtain ⟨m, hx⟩ := hx
  rcases Deep.open_slice ht hx with ⟨h, _⟩ | ⟨a, len, cap, q, k, D, Pl, h, _, _, _, _, hx, _⟩
  · simp at h; obtain ⟨_, rfl, _⟩ := h; simp
  · simp at h; obtain ⟨rfl, rfl, rfl⟩ := h
    simp only [Prod.mk.injEq] at hx
    obtain ⟨rfl, _⟩ := hx
    have := sized_slice hs hj hd ht
    rw [hb] at this
    simp only [List.length_map, List.length_range, reachBytes] at this
    have h2 : n * b ≤ (n + (q - n)) * b := Nat.mul_le_mul_right _ (by omega)
    omega
end Go.GV
