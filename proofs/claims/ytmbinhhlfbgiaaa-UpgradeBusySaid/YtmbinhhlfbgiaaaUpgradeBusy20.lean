/- L27d, GvX in one text. -/
import Derived.Test.YtmbinhhlfbgiaaaC27n
import Derived.Test.YtmbinhhlfbgiaaaUpgradeBusy19
import Derived.Test.YtmbinhhlfbgiaaaUpgradeBusy3
import Derived.SizedLaws
namespace Go.Proofs.Ytmbinhhlfbgiaaa
open Go.GV
set_option linter.unusedVariables false
set_option linter.unusedSimpArgs false
theorem l27d0_ {p : Prop} (h : p := by exact JA_done (by kernel_rfl) (gl_ rfl (fun _ h => h.keep [false, false, true, true] rfl)) (JX_weaken (E' := [(1, vL altsA alts.length altsC), (2, vL lA l.length lC), (4, vU8 n), (5, pB b1 0), (8, pB b2 0), (10, vB false), (28, vB (!(((R27.isSphere base alts) && (R27.short ((([] : List Change) ++ l) ++ [c]) 41)) && (R27.rising [] ((([] : List Change) ++ l) ++ [c])))))]) (L' := [Ent.blk b2 27 (Change.enc c), Ent.blk b1 24 (DataSet.enc base)]) ⟨rfl, rfl, rfl, rfl, rfl, rfl, rfl, trivial⟩ (fun _ h => h.keep [false, false, true, true] rfl) key3)) : p := h
set_option maxHeartbeats 2000000 in
set_option maxRecDepth 20000 in
theorem f4_ok (base : DataSet) (alts : List DataSet) (altsA : Option Addr) (altsC : Nat) (l : List Change) (lA : Option Addr) (lC : Nat) (c : Change) (n : UInt8) (w : World) (altsR : RO [] w altsA (alts.flatMap DataSet.enc)) (lR : RO [] w lA (l.flatMap Change.enc)) (q0 : alts.length ≤ 9223372036854775807) (q1 : l.length * 64 ≤ 140737488351232) : Calls Try.prog 4 #[vG (DataSet.enc base), vL altsA alts.length altsC, vL lA l.length lC, vG (Change.enc c), vU8 n] w (Gives [] w fun v L => v = vB true ∧ L = []) := by
 have hwh := UInt8.toNat_lt (n % 6)
 refine calls_J [] 94 Try.func4 rfl Try.ntmps4 [(0, _), (1, _), (2, _), (3, _), (4, _)] rfl rfl (Give.nil w) ?_
 refine q_ (g_ (o_ (bxG fun b1 => ?_)))
 refine o_ (bxG fun b2 => ?_)
 refine s_ av_ (z_ (n_ (q_ (q_ (g_ (c0 (cl_ Ty.ca7) (fun w hS => f7_ok w) (jr_ (vB false) (z_ (n_ (iff_ (sk_ (n_ (q_ (q_ ?_))))))))))))))
 refine drB [4, 7] 10 Ty.mixed ?_
 refine jq_ 0 rfl (ldN 1 (DataSet.enc base) Ty.ag24 Ty.sz24) (jp_ 1 rfl mv_ (jp_ 3 rfl mv_ (jq_ 5 rfl (ldN 0 (Change.enc c) Ty.ag27 Ty.sz27) ?_)))
 refine JA_fin [(1, vL altsA alts.length altsC), (2, vL lA l.length lC), (4, vU8 n), (5, pB b1 0), (8, pB b2 0), (10, vB false), (28, vB (!(((R27.isSphere base alts) && (R27.short ((([] : List Change) ++ l) ++ [c]) 41)) && (R27.rising [] ((([] : List Change) ++ l) ++ [c])))))] [Ent.blk b2 27 (Change.enc c), Ent.blk b1 24 (DataSet.enc base)] ?_ (fun key3 => ?_)
 ·refine n_ ?_
  refine if_ (fun h4 => ?_) (fun h4 => ?_)
  ·have h4w := h4
   try have hi5 := R27.busy_1 h4w
   try have hi6 := R27.busy_2 h4w
   try have hi7 := R27.busy_3 h4w
   try have hi8 := (R27.busy_4 h4w).1
   try have hi9 := (R27.busy_4 h4w).2
   have h4 : (((R27.isSphere base alts) && (R27.short ((([] : List Change) ++ l) ++ [c]) 41)) && (R27.rising [] ((([] : List Change) ++ l) ++ [c]))) = false := bnot_true h4
   simp only [Bool.and_eq_true, Bool.or_eq_true, Bool.and_eq_false_iff, Bool.or_eq_false_iff, Bool.not_eq_true', Bool.not_eq_false', decide_eq_true_eq, decide_eq_false_iff_not] at h4
   refine q_ (g_ (s_ av_ (z_ (n_ (rt_ (nr_ ?_))))))
   exact p1 Try.results4 rfl ⟨rfl, rfl⟩
  ·have h4w := h4
   try have hi10 := R27.busy_1 h4w
   try have hi11 := R27.busy_2 h4w
   try have hi12 := R27.busy_3 h4w
   try have hi13 := (R27.busy_4 h4w).1
   try have hi14 := (R27.busy_4 h4w).2
   have h4 : (((R27.isSphere base alts) && (R27.short ((([] : List Change) ++ l) ++ [c]) 41)) && (R27.rising [] ((([] : List Change) ++ l) ++ [c]))) = true := bnot_false h4
   have ⟨h4, h15⟩ := band_true h4
   have ⟨h4, h16⟩ := band_true h4
   have hi17 := R27.isSphere_valid h4
   have hi18 := R27.short_len2 h16
   refine sk_ (n_ (q_ (g_ (r_ (ldN 1 (DataSet.enc base) Ty.ag24 Ty.sz24) (s_ mv_ (s_ mv_ ?_))))))
   refine JO_callB [] [] [Ent.blk b2 27 (Change.enc c), Ent.blk b1 24 (DataSet.enc base)] rfl trivial (fun _ => x_call Ty.ca14 rfl) (fun _ h => h) (fun _ h => by cases h) (fun w hS => f14_ok base alts altsA altsC l lA lC w (altsR.on hS (fun _ h => by cases h)) (lR.on hS (fun _ h => by cases h)) hy_ hy_ hy_) ?_
   rintro wc _ _ wbhB20 ⟨rds, rdsA, rdsC, rfl, rfl, rdsR, rdsN, hf19⟩ hc0 hB20
   have altsR := altsR.again hB20
   have lR := lR.again hB20
   have rdsR := rdsR.mono (lown_range hc0)
   have rdsN := fun i => (rdsN i).mono (lown_range hc0)
   have ha21 := R27.reach_s1 hf19 (by omega)
   have ha22 := R27.reach_s2 hf19 (by omega)
   have ha23 := R27.reach_s3 hf19
   refine s_ mv_ (s_ (ex_ 0) (s_ (ex_ 1) (o_ (al_ Ty.ze34 fun b24 => ?_))))
   refine o_ (stG 0 Ty.sz34 ?_)
   refine s_ av_ (z_ (n_ (q_ (g_ (r_ (ldN 0 [vL rdsA rds.length rdsC, Value.pointer none] Ty.ag34 Ty.sz34) (js_ (Value.iface 34 (vG [vL rdsA rds.length rdsC, Value.pointer none])) (x_iface rfl (by kernel_rfl)) (r_ (ldN 2 (DataSet.enc base) Ty.ag24 Ty.sz24) (s_ mv_ (r_ (ldN 1 (Change.enc c) Ty.ag27 Ty.sz27) ?_)))))))))
   refine c1 (cl_ Ty.ca10) (fun w hS => f10_ok rds rdsA rdsC base alts _ _ c w (rno rdsR hS) (fun i => (rdsN i).on hS (fun _ h => by cases h)) (rno altsR hS) hy_ (by first | assumption | exact R27.pl_of_all rfl) hy_ hy_ hy_ (by first | assumption | exact R27.sh_of_all rfl)) ?_
   rintro _ _ ⟨A25, cc26, rfl, rfl⟩
   have ha27 := R27.plan_len rds base alts c
   refine s_ mv_ (s_ (ex_ 0) (s_ (ex_ 1) (s_ av_ (s_ av_ (z_ (xk_ [1, 4, 5, 8, 10, 11, 12, 13, 14] ?_))))))
   refine n_ (q_ (g_ (s_ mv_ (js_ (vU8 (n % 6)) (x_rem_u8 rfl rfl (by decide)) (s_ (x_conv_u8_i64 rfl Try.underlying5 Try.underlying3) (s_ (x_add_n (a := 1) (b := (n % 6).toNat) rfl rfl (by omega)) (js_ (vG [vI ((1 + ((n % 6).toNat) : Nat) : Int)]) (x_build (by kernel_rfl)) (o_ (bxG fun b28 => ?_)))))))))
   refine s_ (fA 1 Ty.fi34_1) (o_ (st1 2 Ty.sz32 ?_))
   refine z_ (n_ (q_ (g_ (r_ (ldN 2 [vL rdsA rds.length rdsC, pB b28 0] Ty.ag34 Ty.sz34) (js_ (Value.iface 34 (vG [vL rdsA rds.length rdsC, pB b28 0])) (x_iface rfl (by kernel_rfl)) (r_ (ldN 4 (DataSet.enc base) Ty.ag24 Ty.sz24) (s_ mv_ (r_ (ldN 3 (Change.enc c) Ty.ag27 Ty.sz27) ?_))))))))
   refine JO_call [b28] [Ent.blk b28 45 [vI ((1 + ((n % 6).toNat) : Nat) : Int)]] [Ent.row (.slice A25 ((R27.plan rds base alts c).1).length cc26) 27 5 ((R27.plan rds base alts c).1).length (((R27.plan rds base alts c).1).flatMap Change.enc), Ent.blk b24 34 [vL rdsA rds.length rdsC, pB b28 0], Ent.blk b2 27 (Change.enc c), Ent.blk b1 24 (DataSet.enc base)] rfl trivial (fun _ => x_call Ty.ca10 rfl) (fun _ h => h) (own_mem rfl) (fun w hS => f10_okB rds rdsA rdsC base alts altsA altsC c b28 ((1 + ((n % 6).toNat) : Nat) : Int) w (rdsR.on hS (own_mem rfl)) (fun i => (rdsN i).on hS (own_mem rfl)) (altsR.on hS (own_mem rfl)) hy_ hy_ hy_ hy_ hy_ hy_ hy_ (hS.give (own_in rfl))) ?_
   rintro _ _ ⟨A29, cc30, out31, e32, e33, rfl, rfl, hf34, hf35, hf36⟩
   refine s_ mv_ (s_ (ex_ 0) (s_ (ex_ 1) (s_ av_ (s_ av_ (z_ (xk_ [1, 5, 8, 10, 11, 12, 13, 14, 15, 16] ?_))))))
   refine n_ (q_ (q_ (g_ (s_ mv_ (s_ (x_eql_i rfl rfl) (z_ (n_ ?_)))))))
   refine ifd (fun h37w h37 => ?_) (fun h37w h37 => ?_)
   ·try have hi38 := R27.busy_1 h37w
    try have hi39 := R27.busy_2 h37w
    try have hi40 := R27.busy_3 h37w
    try have hi41 := (R27.busy_4 h37w).1
    try have hi42 := (R27.busy_4 h37w).2
    refine q_ (q_ (g_ (s_ mv_ (s_ (lnS Try.underlying31) (s_ (x_gtr_i rfl rfl) (s_ mv_ ?_))))))
    refine or_ 6 (decide (e33 ≠ 0)) (fun g43 => ?_) ?_
    ·have g43r := g43
     have g43r := of_decide_eq_false g43r
     refine sg_ g43 (fA 1 Ty.fi34_1) (rg_ g43 (ld_ 3 Ty.sc32) (sg_ g43 (x_nilCheck rfl) (sg_ g43 (fA 0 Ty.fi45_0) (rg_ g43 (ld_ 0 Ty.sc3) (sg_ g43 (x_neq_i rfl rfl) ?_)))))
     exact cr_
    refine z_ (n_ ?_)
    refine if_ (fun h44 => ?_) (fun h44 => ?_)
    ·have h44w := h44
     try have hi45 := R27.busy_1 h44w
     try have hi46 := R27.busy_2 h44w
     try have hi47 := R27.busy_3 h44w
     try have hi48 := (R27.busy_4 h44w).1
     try have hi49 := (R27.busy_4 h44w).2
     simp only [Bool.and_eq_true, Bool.or_eq_true, Bool.and_eq_false_iff, Bool.or_eq_false_iff, Bool.not_eq_true', Bool.not_eq_false', decide_eq_true_eq, decide_eq_false_iff_not] at h44
     refine q_ (g_ (s_ av_ (z_ (n_ (rt_ (nr_ (nr_ ?_)))))))
     exact False.elim (by exact R27.bz_bad hf34 (by assumption) (by assumption))
    ·have h44w := h44
     try have hi50 := R27.busy_1 h44w
     try have hi51 := R27.busy_2 h44w
     try have hi52 := R27.busy_3 h44w
     try have hi53 := (R27.busy_4 h44w).1
     try have hi54 := (R27.busy_4 h44w).2
     have ⟨h44, h55⟩ := bor_false h44
     have h44 := of_decide_eq_false h44
     have h55 := of_decide_eq_false h55
     refine sk_ (n_ (g_ (r_ (ldN 3 [vL rdsA rds.length rdsC, pB b28 0] Ty.ag34 Ty.sz34) (js_ (Value.iface 34 (vG [vL rdsA rds.length rdsC, pB b28 0])) (x_iface rfl (by kernel_rfl)) (r_ (ldN 5 (DataSet.enc base) Ty.ag24 Ty.sz24) (s_ mv_ (r_ (ldN 4 (Change.enc c) Ty.ag27 Ty.sz27) ?_)))))))
     refine JO_call [b28] [Ent.blk b28 45 [vI e33]] [Ent.row (.slice A29 out31.length cc30) 27 5 out31.length (out31.flatMap Change.enc), Ent.row (.slice A25 ((R27.plan rds base alts c).1).length cc26) 27 5 ((R27.plan rds base alts c).1).length (((R27.plan rds base alts c).1).flatMap Change.enc), Ent.blk b24 34 [vL rdsA rds.length rdsC, pB b28 0], Ent.blk b2 27 (Change.enc c), Ent.blk b1 24 (DataSet.enc base)] rfl trivial (fun _ => x_call Ty.ca10 rfl) (fun _ h => h) (own_mem rfl) (fun w hS => f10_okB rds rdsA rdsC base alts altsA altsC c b28 e33 w (rdsR.on hS (own_mem rfl)) (fun i => (rdsN i).on hS (own_mem rfl)) (altsR.on hS (own_mem rfl)) hy_ hy_ hy_ hy_ hy_ hy_ hy_ (hS.give (own_in rfl))) ?_
     rintro _ _ ⟨A56, cc57, out58, e59, e60, rfl, rfl, hf61, hf62, hf63⟩
     refine s_ mv_ (s_ (ex_ 0) (s_ (ex_ 1) (s_ av_ (s_ av_ (z_ (xk_ [10, 12, 13, 14, 15, 16] ?_))))))
     refine n_ (q_ (g_ (s_ mv_ (s_ mv_ (sg_ rfl mv_ (sg_ rfl mv_ (sg_ rfl (x_eql_i rfl rfl) (jr_ (vB (decide ((R27.plan rds base alts c).2 = e59))) (s_ mv_ ?_)))))))))
     refine and_ 3 (decide (((R27.plan rds base alts c).1) = out58)) (fun g64 => ?_) ?_
     ·have g64r := g64
      have g64r := of_decide_eq_true g64r
      refine sg_ g64 mv_ (sg_ g64 mv_ (c0g g64 (cl_ Ty.ca12) (fun w hS => f12_ok _ A25 cc26 _ A56 cc57 w (RO.of_row hS 3 rfl) (RO.of_row hS 1 rfl) hy_) ?_))
      exact cr_
     refine s_ av_ (z_ (n_ (rt_ ?_)))
     refine JX_retsC [_] _ Try.results4 (fun w h => ⟨rfl, trivial⟩) rfl _ (fun _ h => h.keep [false, false, false, false, false, false, false] rfl) (fun _ _ h => (hB20.back _ _ h)) ⟨?_, ?_⟩
     ·have e_x0 : ((decide ((R27.plan rds base alts c).2 = e59)) && (decide (((R27.plan rds base alts c).1) = out58)) : Bool) = true := by first | (have hd := R27.bz_plain hf61 (by assumption); rw [hd]; simp; done) | (have hd := R27.bz_zero hf61 (by omega); rw [hd]; simp; done)
      exact congrArg (fun (x0 : Bool) => vB x0) e_x0
     ·rfl
   ·try have hi65 := R27.busy_1 h37w
    try have hi66 := R27.busy_2 h37w
    try have hi67 := R27.busy_3 h37w
    try have hi68 := (R27.busy_4 h37w).1
    try have hi69 := (R27.busy_4 h37w).2
    refine sk_ (n_ (q_ (g_ (s_ mv_ (s_ mv_ (sg_ rfl mv_ (sg_ rfl mv_ (sg_ rfl (x_eql_i rfl rfl) (jr_ (vB (decide ((R27.plan rds base alts c).2 = e32))) (s_ mv_ ?_))))))))))
    refine and_ 3 (decide (((R27.plan rds base alts c).1) = out31)) (fun g70 => ?_) ?_
    ·have g70r := g70
     have g70r := of_decide_eq_true g70r
     refine sg_ g70 mv_ (sg_ g70 mv_ (c0g g70 (cl_ Ty.ca12) (fun w hS => f12_ok _ A25 cc26 _ A29 cc30 w (RO.of_row hS 2 rfl) (RO.of_row hS 1 rfl) hy_) ?_))
     exact cr_
    refine s_ av_ (z_ (n_ (rt_ ?_)))
    refine JX_retsC [_] _ Try.results4 (fun w h => ⟨rfl, trivial⟩) rfl _ (fun _ h => h.keep [false, false, false, false, false, false] rfl) (fun _ _ h => (hB20.back _ _ h)) ⟨?_, ?_⟩
    ·have e_x0 : ((decide ((R27.plan rds base alts c).2 = e32)) && (decide (((R27.plan rds base alts c).1) = out31)) : Bool) = true := by first | (have hd := R27.bz_plain hf34 (by assumption); rw [hd]; simp; done) | (have hd := R27.bz_zero hf34 (by omega); rw [hd]; simp; done)
     exact congrArg (fun (x0 : Bool) => vB x0) e_x0
    ·rfl
 ·refine JA_ready (rs := [2, 6]) (by kernel_rfl) (by decide) gm_ (List.forall_mem_cons.2 ⟨?_, (List.forall_mem_cons.2 ⟨?_, all_nil⟩)⟩)
  ·refine jio_ rfl (O_buildSlice0 Try.underlying31 Ty.sz27 fun b71 => ?_)
   refine JA_weaken (E' := [(0, vG (DataSet.enc base)), (1, vL altsA alts.length altsC), (2, vL lA l.length lC), (3, vG (Change.enc c)), (4, vU8 n), (5, pB b1 0), (8, pB b2 0), (10, vB false), (17, vB true), (18, vB false), (19, vG (DataSet.enc base)), (20, vL altsA alts.length altsC), (22, vL lA l.length lC), (24, vG (Change.enc c)), (21, vL (some ⟨b71, 0, none⟩) ((([] : List Change)).length) 0)]) (L' := [Ent.row (.slice (some ⟨b71, 0, none⟩) ([] : List Change).length 0) 27 5 ([] : List Change).length (([] : List Change).flatMap Change.enc), Ent.blk b2 27 (Change.enc c), Ent.blk b1 24 (DataSet.enc base)]) ⟨rfl, rfl, rfl, rfl, rfl, rfl, rfl, rfl, rfl, rfl, rfl, rfl, rfl, rfl, rfl, trivial⟩ (fun _ h => (St.torow (cs := []) (((h.front 2 _ rfl).front 2 _ rfl).front 2 _ rfl) 5 0 rfl (by decide)).keep [true, true, true] rfl) ?_
   refine JA_ready (rs := [4, 6]) (by kernel_rfl) (by decide) (fun _ h => ⟨h.keep [false, true, true] rfl, fun _ => h.keep [false, true, true] rfl⟩) (List.forall_mem_cons.2 ⟨?_, (List.forall_mem_cons.2 ⟨?_, all_nil⟩)⟩)
   ·refine jio_ rfl (O_append_f 0 Change.enc 5 ([] : List Change) l Try.underlying31 Ty.sz27 Ty.by27 Ty.ze27 rfl (by decide) rfl rfl rfl rfl Change.enc_len Change.enc_one (cells_ro lR) lt_ lt_ fun A72 c73 => ?_)
    refine j1_ 6 (jio_ rfl (O_buildSlice (cs := (Change.enc c)) Try.underlying31 Ty.sz27 Ty.ze27 (by decide) (by decide) (by kernel_rfl) fun b75 => ?_)) (gl_ rfl (fun _ h => h.keep [false, true, true] rfl))
    refine j1_ 7 (jio_ rfl (O_append_f 1 Change.enc 5 (([] : List Change) ++ l) [c] Try.underlying31 Ty.sz27 Ty.by27 Ty.ze27 rfl (by decide) rfl rfl rfl rfl Change.enc_len Change.enc_one (cells_blk 0 (off := 0) (m := 5) rfl rfl) lt_ lt_ fun A78 c79 => ?_)) (gl_ rfl (fun _ h => h.keep [false, false, true, true] rfl))
    refine j1_ 8 (jc0_ rfl (cl_ Ty.ca13) (fun w hS => f13_ok base alts _ _ _ A78 c79 w (rno altsR hS) (RO.of_row hS 1 rfl) hy_ hy_) (jp_ 9 rfl (x_not rfl) ?_)) (gl_ rfl (fun _ h => h.keep [false, false, true, true] rfl))
    exact l27d0_
   ·refine jio_ rfl (O_buildSlice (cs := (Change.enc c)) Try.underlying31 Ty.sz27 Ty.ze27 (by decide) (by decide) (by kernel_rfl) fun b80 => ?_)
    refine j1_ 4 (jio_ rfl (O_append_f 1 Change.enc 5 ([] : List Change) l Try.underlying31 Ty.sz27 Ty.by27 Ty.ze27 rfl (by decide) rfl rfl rfl rfl Change.enc_len Change.enc_one (cells_ro lR) lt_ lt_ fun A83 c84 => ?_)) (fun _ h => ⟨h.keep [false, false, true, true] rfl, fun _ => h.keep [false, false, true, true] rfl⟩)
    refine j1_ 7 (jio_ rfl (O_append_f 1 Change.enc 5 (([] : List Change) ++ l) [c] Try.underlying31 Ty.sz27 Ty.by27 Ty.ze27 rfl (by decide) rfl rfl rfl rfl Change.enc_len Change.enc_one (cells_blk 0 (off := 0) (m := 5) rfl rfl) lt_ lt_ fun A87 c88 => ?_)) (gl_ rfl (fun _ h => h.keep [false, false, true, true] rfl))
    refine j1_ 8 (jc0_ rfl (cl_ Ty.ca13) (fun w hS => f13_ok base alts _ _ _ A87 c88 w (rno altsR hS) (RO.of_row hS 1 rfl) hy_ hy_) (jp_ 9 rfl (x_not rfl) ?_)) (gl_ rfl (fun _ h => h.keep [false, false, true, true] rfl))
    exact l27d0_
  ·refine jio_ rfl (O_buildSlice (cs := (Change.enc c)) Try.underlying31 Ty.sz27 Ty.ze27 (by decide) (by decide) (by kernel_rfl) fun b89 => ?_)
   refine j1_ 2 (jio_ rfl (O_buildSlice0 Try.underlying31 Ty.sz27 fun b91 => ?_)) (fun _ h => ⟨h.keep [false, true, true] rfl, fun _ => h.keep [false, true, true] rfl⟩)
   refine JA_weaken (E' := [(0, vG (DataSet.enc base)), (1, vL altsA alts.length altsC), (2, vL lA l.length lC), (3, vG (Change.enc c)), (4, vU8 n), (5, pB b1 0), (8, pB b2 0), (10, vB false), (17, vB true), (18, vB false), (19, vG (DataSet.enc base)), (20, vL altsA alts.length altsC), (22, vL lA l.length lC), (24, vG (Change.enc c)), (25, vL (some ⟨b89, 0, none⟩) 1 1), (21, vL (some ⟨b91, 0, none⟩) ((([] : List Change)).length) 0)]) (L' := [Ent.row (.slice (some ⟨b91, 0, none⟩) ([] : List Change).length 0) 27 5 ([] : List Change).length (([] : List Change).flatMap Change.enc), Ent.blk b89 27 (Change.enc c), Ent.blk b2 27 (Change.enc c), Ent.blk b1 24 (DataSet.enc base)]) ⟨rfl, rfl, rfl, rfl, rfl, rfl, rfl, rfl, rfl, rfl, rfl, rfl, rfl, rfl, rfl, rfl, trivial⟩ (fun _ h => (St.torow (cs := []) ((((h.front 3 _ rfl).front 3 _ rfl).front 3 _ rfl).front 3 _ rfl) 5 0 rfl (by decide)).keep [true, true, true, true] rfl) ?_
   refine j1_ 4 (jio_ rfl (O_append_f 0 Change.enc 5 ([] : List Change) l Try.underlying31 Ty.sz27 Ty.by27 Ty.ze27 rfl (by decide) rfl rfl rfl rfl Change.enc_len Change.enc_one (cells_ro lR) lt_ lt_ fun A94 c95 => ?_)) (fun _ h => ⟨h.keep [false, false, true, true] rfl, fun _ => h.keep [false, false, true, true] rfl⟩)
   refine j1_ 7 (jio_ rfl (O_append_f 0 Change.enc 5 (([] : List Change) ++ l) [c] Try.underlying31 Ty.sz27 Ty.by27 Ty.ze27 rfl (by decide) rfl rfl rfl rfl Change.enc_len Change.enc_one (cells_blk 1 (off := 0) (m := 5) rfl rfl) lt_ lt_ fun A98 c99 => ?_)) (gl_ rfl (fun _ h => h.keep [false, false, true, true] rfl))
   refine j1_ 8 (jc0_ rfl (cl_ Ty.ca13) (fun w hS => f13_ok base alts _ _ _ A98 c99 w (rno altsR hS) (RO.of_row hS 0 rfl) hy_ hy_) (jp_ 9 rfl (x_not rfl) ?_)) (gl_ rfl (fun _ h => h.keep [false, false, true, true] rfl))
   exact l27d0_
end Go.Proofs.Ytmbinhhlfbgiaaa

namespace Go.GV
open Go.RowKit
theorem reach_slice {H : Type} {enc : TypeId × Value → H} {P : Program} {w : World} {base : Nat} {spare : Nat → Bool} {held : Bool} {ts : List TypeId} {ds : List (DataW H)} (hs : (DataW.weightsEach P ts ds).all (· ≤ reachBytes) = true) {j : Nat} {t e : TypeId} {d : DataW H} {pl : List MemPlace} (hj : ts[j]? = some t) (hd : ds[j]? = some d)
    (ht : P.underlying t = some (.slice e)) {b : Nat} (hb : P.bytesOf e = b) {A : Option Addr} {n c : Nat} (hx : ∃ m, DataW.trod enc P w base spare held m t [Value.slice A n c] = some (d, pl)) : n * b ≤ 140737488351232 := by
  obtain ⟨m, hx⟩ := hx
  rcases Deep.open_slice ht hx with ⟨h, _⟩ | ⟨a, len, cap, q, k, D, Pl, h, _, _, _, _, hx, _⟩
  · simp at h; obtain ⟨_, rfl, _⟩ := h; simp
  · simp at h; obtain ⟨rfl, rfl, rfl⟩ := h
    simp only [Prod.mk.injEq] at hx
    obtain ⟨rfl, _⟩ := hx
    have := sized_slice hs hj hd ht
    rw [hb] at this
    simp only [List.length_map, List.length_range, reachBytes] at this
    have h2 : n * b ≤ (n + (q - n)) * b := Nat.mul_le_mul_right _ (by omega)
    omega
end Go.GV
