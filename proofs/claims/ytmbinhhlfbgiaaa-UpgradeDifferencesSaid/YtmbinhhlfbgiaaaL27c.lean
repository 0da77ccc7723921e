/- contracts L27c -/
import Derived.Test.YtmbinhhlfbgiaaaUpgradeDifferences18
import Derived.Test.YtmbinhhlfbgiaaaC27l
namespace Go.Proofs.Ytmbinhhlfbgiaaa
open Go.GV
set_option linter.unusedVariables false
set_option linter.unusedSimpArgs false
theorem l27c0_ {p : Prop} (h : p := by first | exact R27.diff_b1 (hr.1.alt _ (R27.alt_at (i := i) (by omega))) (hmod (by omega)) (by assumption) | exact R27.diff_b2 (hr.1.alt _ (R27.alt_at (i := i) (by omega))) (hmod (by omega)) (by assumption) | exact R27.diff_b3 (hr.1.alt _ (R27.alt_at (i := i) (by omega))) i2_1 (show (R27.keysOf (R27.ofD rds (alts.getD i default).Id).Pairs).length ≤ j by omega) (by assumption) | (simp_all; done)) : p := h
set_option maxRecDepth 20000 in
theorem f6_ok (base : DataSet) (alts : List DataSet) (altsA : Option Addr) (altsC : Nat) (l : List Change) (lA : Option Addr) (lC : Nat) (which : UInt8) (more : Bytes) (w : World) (altsR : RO [] w altsA (alts.flatMap DataSet.enc)) (lR : RO [] w lA (l.flatMap Change.enc)) (q0 : alts.length ≤ 9223372036854775807) (q1 : l.length ≤ 9223372036854775807) : Calls Try.prog 6 #[vG (DataSet.enc base), vL altsA alts.length altsC, vL lA l.length lC, vU8 which, vS more] w (Gives [] w fun v L => v = vB true ∧ L = []) := by
 have hwh := UInt8.toNat_lt which
 refine calls_J [] 130 Try.func6 rfl Try.ntmps6 [(0, _), (1, _), (2, _), (3, _), (4, _)] rfl rfl (Give.nil w) ?_
 refine q_ (g_ (o_ (bxG fun b1 => ?_)))
 refine s_ av_ (z_ (n_ (q_ (q_ (g_ (c0 (cl_ Ty.ca7) (fun w hS => f7_ok w) (jr_ (vB false) (z_ (n_ (iff_ (sk_ (n_ (q_ (q_ (g_ (r_ (ldN 0 (DataSet.enc base) Ty.ag24 Ty.sz24) (s_ mv_ (s_ mv_ (c0 (cl_ Ty.ca13) (fun w hS => f13_ok base alts _ _ l lA lC w (rno altsR hS) (rno lR hS) hy_ hy_) ?_)))))))))))))))))))
 refine s_ (x_not rfl) (s_ mv_ ?_)
 refine or_ 3 (decide ((100 : Int) < ((more.length : Nat) : Int))) (fun g2 => ?_) ?_
 ·have g2r := g2
  have g2r : (((R27.isSphere base alts) && (R27.short l 41)) && (R27.rising [] l)) = true := bnot_false g2r
  have ⟨g2r, h3⟩ := band_true g2r
  have ⟨g2r, h4⟩ := band_true g2r
  have hi5 := R27.isSphere_valid g2r
  have hi6 := R27.short_len2 h4
  refine sg_ g2 mv_ (sg_ g2 (x_len_s rfl Try.underlying9) (sg_ g2 (x_gtr_i rfl rfl) ?_))
  exact cr_
 refine z_ (n_ ?_)
 refine if_ (fun h7 => ?_) (fun h7 => ?_)
 ·have h7w := h7
  simp only [Bool.and_eq_true, Bool.or_eq_true, Bool.and_eq_false_iff, Bool.or_eq_false_iff, Bool.not_eq_true', Bool.not_eq_false', decide_eq_true_eq, decide_eq_false_iff_not] at h7
  refine q_ (g_ (s_ av_ (z_ (n_ (rt_ (nr_ ?_))))))
  exact p1 Try.results6 rfl ⟨rfl, rfl⟩
 ·have h7w := h7
  have ⟨h7, h8⟩ := bor_false h7
  have h7 : (((R27.isSphere base alts) && (R27.short l 41)) && (R27.rising [] l)) = true := bnot_false h7
  have ⟨h7, h9⟩ := band_true h7
  have ⟨h7, h10⟩ := band_true h7
  have hi11 := R27.isSphere_valid h7
  have hi12 := R27.short_len2 h10
  have h8 := of_decide_eq_false h8
  refine sk_ (n_ (q_ (g_ (r_ (ldN 0 (DataSet.enc base) Ty.ag24 Ty.sz24) (s_ mv_ (s_ mv_ ?_))))))
  refine JO_callB [] [] [Ent.blk b1 24 (DataSet.enc base)] rfl trivial (fun _ => x_call Ty.ca14 rfl) (fun _ h => h) (fun _ h => by cases h) (fun w hS => f14_ok base alts altsA altsC l lA lC w (altsR.on hS (fun _ h => by cases h)) (lR.on hS (fun _ h => by cases h)) hy_ hy_ hy_) ?_
  rintro wc _ _ wbhB14 ⟨rds, rdsA, rdsC, rfl, rfl, rdsR, rdsN, hf13⟩ hc0 hB14
  have altsR := altsR.again hB14
  have lR := lR.again hB14
  have rdsR := rdsR.mono (lown_range hc0)
  have rdsN := fun i => (rdsN i).mono (lown_range hc0)
  have ha15 := R27.reach_s1 hf13 (by omega)
  have ha16 := R27.reach_s2 hf13 (by omega)
  have ha17 := R27.reach_s3 hf13
  have ha18 := R27.shorts_of (R27.reach_s3 hf13) base.Id
  have ha19 := R27.ofD_len (R27.reach_s2 hf13 (by omega)) base.Id
  refine s_ mv_ (s_ (ex_ 0) (s_ (ex_ 1) (o_ (al_ Ty.ze34 fun b20 => ?_))))
  refine o_ (stG 0 Ty.sz34 ?_)
  refine s_ av_ (z_ (xk_ [1, 3, 4, 5, 10, 11, 12] ?_))
  refine n_ (q_ (g_ (r_ (ldN 0 [vL rdsA rds.length rdsC, Value.pointer none] Ty.ag34 Ty.sz34) (s_ (fA 0 Ty.fi24_0) (r_ (ld_ 1 Ty.sc3) (c0 (cl_ Ty.ca16) (fun w hS => f16_ok rds rdsA rdsC _ w (rno rdsR hS) (fun i => (rdsN i).on hS (fun _ h => by cases h)) hy_ hy_) ?_))))))
  have ha21 := R27.ofD_len (by assumption) base.Id
  refine s_ av_ (z_ (n_ (q_ (q_ (g_ (s_ mv_ (s_ (lnS Try.underlying25) (s_ mv_ (z_ (n_ (k_ ?_)))))))))))
  refine J_loop (X := Nat) (fun (i : Nat) => (i ≤ alts.length)) (fun (i : Nat) => [(3, vU8 which), (4, vS more), (11, pB b20 0), (12, vB true), (13, vL ((R27.ofD rds base.Id).PairsA) ((R27.ofD rds base.Id).Pairs.length) ((R27.ofD rds base.Id).PairsC)), (46, vL altsA alts.length altsC), (47, vI ((alts.length : Nat) : Int)), (48, vI ((i : Nat) : Int))]) (fun (i : Nat) => [Ent.blk b20 34 [vL rdsA rds.length rdsC, Value.pointer none]]) (fun (i : Nat) => alts.length - i) (0 : Nat) ?_ ⟨rfl, rfl, rfl, rfl, rfl, rfl, rfl, rfl, trivial⟩ (fun _ h => h.keep [true, false] rfl) ?_
  ·try dsimp only
   first | rfl | omega | (simp_all; done) | (simp_all; omega)
  intro i hI1
  have i1_0 := hI1
  try dsimp only at i1_0
  have hr := hf13
  have hol := R27.reach_len hr (by omega) (alts.getD i default).Id
  have hkl := R27.keys_len (R27.ofD rds (alts.getD i default).Id).Pairs
  have hmod : 0 < (R27.keysOf (R27.ofD rds (alts.getD i default).Id).Pairs).length → which.toNat % (R27.keysOf (R27.ofD rds (alts.getD i default).Id).Pairs).length < (R27.keysOf (R27.ofD rds (alts.getD i default).Id).Pairs).length := fun h => Nat.mod_lt _ h
  try dsimp only
  refine q_ (g_ (s_ (x_lss_i rfl rfl) (z_ (n_ (q_ ?_)))))
  refine ifd (fun h22w h22 => ?_) (fun h22w h22 => ?_)
  ·refine sk_ (n_ (q_ (k_ (q_ (g_ (r_ (ixF DataSet.enc_len (cells_ro altsR) Try.underlying25 Ty.sz24) (r_ (ldFN DataSet.enc_len (cells_ro altsR) Ty.ag24 Ty.sz24) (o_ (al_ Ty.ze24 fun b23 => ?_)))))))))
   refine o_ (stG 0 Ty.sz24 ?_)
   refine z_ (n_ (q_ (g_ (r_ (ldN 1 [vL rdsA rds.length rdsC, Value.pointer none] Ty.ag34 Ty.sz34) (s_ (fA 0 Ty.fi24_0) (r_ (ld_ 0 Ty.sc3) ?_))))))
   refine c1 (cl_ Ty.ca19) (fun w hS => f19_ok rds rdsA rdsC _ w (rno rdsR hS) (fun i => (rdsN i).on hS (fun _ h => by cases h)) hy_ hy_) ?_
   rintro _ _ ⟨A24, cc25, rfl, rfl⟩
   refine s_ av_ (z_ (n_ (q_ (q_ (g_ (s_ mv_ (s_ (lnS Try.underlying47) (s_ (x_gtr_i rfl rfl) (z_ (n_ ?_))))))))))
   refine ifd (fun h26w h26 => ?_) (fun h26w h26 => ?_)
   ·refine q_ (g_ (s_ mv_ (s_ (x_conv_u8_i64 rfl Try.underlying5 Try.underlying3) (s_ mv_ (s_ (lnS Try.underlying47) (s_ (x_rem_n (a := which.toNat) (b := (R27.keysOf (R27.ofD rds ((alts.getD i default).Id)).Pairs).length) rfl rfl (by omega) (by omega)) (s_ av_ (z_ (xk_ [3, 4, 11, 12, 13, 46, 47, 48, 15, 16, 17] ?_)))))))))
    refine n_ (q_ ?_)
    refine drB [7, 11] 14 Ty.mixed ?_
    refine jq_ 0 rfl (ldN 1 (DataSet.enc (alts.getD i default)) Ty.ag24 Ty.sz24) (jp_ 1 rfl mv_ (jp_ 3 rfl mv_ (jp_ 4 rfl mv_ (jp_ 5 rfl (x_add_n (a := which.toNat % ((R27.keysOf (R27.ofD rds ((alts.getD i default).Id)).Pairs).length)) (b := 1) rfl rfl (by omega)) (jq_ 6 rfl (x_subrow_row 0 (lo := (which.toNat % ((R27.keysOf (R27.ofD rds ((alts.getD i default).Id)).Pairs).length)) + 1) (hi := (R27.keysOf (R27.ofD rds ((alts.getD i default).Id)).Pairs).length) rfl rfl Try.underlying47 Ty.sz9 (.inl rfl) (.inr ⟨rfl, rfl⟩) lt_ lt_) (jp_ 8 rfl mv_ (jp_ 9 rfl mv_ (jq_ 10 rfl (x_subrow_row 0 (lo := 0) (hi := which.toNat % ((R27.keysOf (R27.ofD rds ((alts.getD i default).Id)).Pairs).length)) rfl rfl Try.underlying47 Ty.sz9 (.inr ⟨rfl, rfl⟩) (.inl rfl) lt_ lt_) (j1_ 2 ?_ gm_)))))))))
    refine jio_ rfl (O_buildSlice0 Try.underlying47 Ty.sz9 fun b28 => ?_)
    refine JA_weaken (E' := [(3, vU8 which), (4, vS more), (11, pB b20 0), (12, vB true), (13, vL ((R27.ofD rds base.Id).PairsA) ((R27.ofD rds base.Id).Pairs.length) ((R27.ofD rds base.Id).PairsC)), (46, vL altsA alts.length altsC), (47, vI ((alts.length : Nat) : Int)), (48, vI ((i : Nat) : Int)), (15, pB b23 0), (16, vL A24 ((R27.keysOf (R27.ofD rds ((alts.getD i default).Id)).Pairs).length) cc25), (17, vI ((which.toNat % ((R27.keysOf (R27.ofD rds ((alts.getD i default).Id)).Pairs).length) : Nat) : Int)), (64, vG (DataSet.enc (alts.getD i default))), (65, vL ((R27.ofD rds base.Id).PairsA) ((R27.ofD rds base.Id).Pairs.length) ((R27.ofD rds base.Id).PairsC)), (67, vL A24 ((R27.keysOf (R27.ofD rds ((alts.getD i default).Id)).Pairs).length) cc25), (68, vI ((which.toNat % ((R27.keysOf (R27.ofD rds ((alts.getD i default).Id)).Pairs).length) : Nat) : Int)), (69, vI (((which.toNat % ((R27.keysOf (R27.ofD rds ((alts.getD i default).Id)).Pairs).length)) + 1 : Nat) : Int)), (70, vL (subA A24 cc25 ((which.toNat % ((R27.keysOf (R27.ofD rds ((alts.getD i default).Id)).Pairs).length)) + 1) 1) (((R27.keysOf (R27.ofD rds ((alts.getD i default).Id)).Pairs).length) - ((which.toNat % ((R27.keysOf (R27.ofD rds ((alts.getD i default).Id)).Pairs).length)) + 1)) (cc25 - ((which.toNat % ((R27.keysOf (R27.ofD rds ((alts.getD i default).Id)).Pairs).length)) + 1))), (72, vL A24 ((R27.keysOf (R27.ofD rds ((alts.getD i default).Id)).Pairs).length) cc25), (73, vI ((which.toNat % ((R27.keysOf (R27.ofD rds ((alts.getD i default).Id)).Pairs).length) : Nat) : Int)), (74, vL (subA A24 cc25 0 1) (which.toNat % ((R27.keysOf (R27.ofD rds ((alts.getD i default).Id)).Pairs).length)) cc25), (66, vL (some ⟨b28, 0, none⟩) ((([] : List Bytes)).length) 0)]) (L' := [Ent.row (.slice (some ⟨b28, 0, none⟩) ([] : List Bytes).length 0) 9 1 ([] : List Bytes).length (([] : List Bytes).map vS), Ent.row (.slice A24 (R27.keysOf (R27.ofD rds ((alts.getD i default).Id)).Pairs).length cc25) 9 1 (R27.keysOf (R27.ofD rds ((alts.getD i default).Id)).Pairs).length ((R27.keysOf (R27.ofD rds ((alts.getD i default).Id)).Pairs).map vS), Ent.blk b23 24 (DataSet.enc (alts.getD i default)), Ent.blk b20 34 [vL rdsA rds.length rdsC, Value.pointer none]]) ⟨rfl, rfl, rfl, rfl, rfl, rfl, rfl, rfl, rfl, rfl, rfl, rfl, rfl, rfl, rfl, rfl, rfl, rfl, rfl, rfl, rfl, trivial⟩ (fun _ h => (St.torow (cs := []) ((((h.front 3 _ rfl).front 3 _ rfl).front 3 _ rfl).front 3 _ rfl) 1 0 rfl (by decide)).keep [true, true, true, true] rfl) ?_
    refine j1_ 7 (jio_ rfl (O_append_m 0 vS ([] : List Bytes) (((R27.keysOf (R27.ofD rds ((alts.getD i default).Id)).Pairs).drop ((which.toNat % ((R27.keysOf (R27.ofD rds ((alts.getD i default).Id)).Pairs).length)) + 1)).take ((R27.keysOf (R27.ofD rds ((alts.getD i default).Id)).Pairs).length - ((which.toNat % ((R27.keysOf (R27.ofD rds ((alts.getD i default).Id)).Pairs).length)) + 1))) Try.underlying47 Ty.sz9 Ty.by9 Ty.ze9 rfl rfl rfl rfl (by simp only [List.length_take, List.length_drop]; omega) (fun _ => rfl) (cells_sub_row 1 vS ((which.toNat % ((R27.keysOf (R27.ofD rds ((alts.getD i default).Id)).Pairs).length)) + 1) ((R27.keysOf (R27.ofD rds ((alts.getD i default).Id)).Pairs).length) rfl lt_ lt_) lt_ lt_ fun A31 c32 => ?_)) (fun _ h => ⟨h.keep [false, true, true, true] rfl, fun _ => h.keep [false, true, true, true] rfl⟩)
    refine j1_ 11 (jio_ rfl (O_append_m 0 vS (([] : List Bytes) ++ (((R27.keysOf (R27.ofD rds ((alts.getD i default).Id)).Pairs).drop ((which.toNat % ((R27.keysOf (R27.ofD rds ((alts.getD i default).Id)).Pairs).length)) + 1)).take ((R27.keysOf (R27.ofD rds ((alts.getD i default).Id)).Pairs).length - ((which.toNat % ((R27.keysOf (R27.ofD rds ((alts.getD i default).Id)).Pairs).length)) + 1)))) (((R27.keysOf (R27.ofD rds ((alts.getD i default).Id)).Pairs).drop 0).take (which.toNat % ((R27.keysOf (R27.ofD rds ((alts.getD i default).Id)).Pairs).length) - 0)) Try.underlying47 Ty.sz9 Ty.by9 Ty.ze9 rfl rfl rfl rfl (by simp only [List.length_take, List.length_drop]; omega) (fun _ => rfl) (cells_sub_row 1 vS 0 (which.toNat % ((R27.keysOf (R27.ofD rds ((alts.getD i default).Id)).Pairs).length)) rfl lt_ lt_) lt_ lt_ fun A35 c36 => ?_)) (gl_ rfl (fun _ h => h.keep [false, true, true, true] rfl))
    refine j1_ 12 ?_ (gl_ rfl (fun _ h => h.keep [false, true, true, true] rfl))
    refine jc1_ rfl (cl_ Ty.ca20) (fun w hS => f20_ok _ _ _ _ _ A35 c36 w ((R27.ofD_ro rdsN base.Id).on hS (fun _ h => by cases h)) (RO.of_row hS 0 rfl) hy_ hy_ hy_) ?_
    rintro _ _ ⟨A37, cc38, rfl, rfl⟩
    refine jp_ 13 rfl av_ ?_
    refine JA_done (by kernel_rfl) (gl_ rfl (fun _ h => h.keep [false, false, true, true, true] rfl)) ?_
    refine n_ (q_ ?_)
    refine drB [] 14 Ty.mixed ?_
    refine jp_ 0 rfl mv_ (jp_ 1 rfl (lnS Try.underlying59) (jp_ 2 rfl (x_neq_i rfl rfl) (jp_ 3 rfl mv_ ?_)))
    refine jb_ 80 (fun h39 => ?_) (fun h39 => ?_)
    ·have h39 := of_decide_eq_true h39
     refine js2_ 4 rfl (js2_ 5 rfl (js2_ 6 rfl (js2_ 7 rfl (js2_ 8 rfl (js2_ 9 rfl (js2_ 10 rfl (js2_ 11 rfl (js2_ 12 rfl ?_))))))))
     refine jt_ 13 (vB true) rfl (fun _ _ => rfl) ?_
     refine JA_done (by kernel_rfl) gm_ ?_
     refine n_ (ift (q_ (g_ (s_ av_ (z_ (xk_ [3, 4, 11, 12, 13, 46, 47, 48, 15, 16, 10] ?_))))))
     refine n_ (rt_ (nr_ (kq_ (nr_ (rr_ (kq_ (nr_ ?_)))))))
     exact False.elim l27c0_
    ·have h39 := of_decide_eq_false h39
     refine jp_ 4 rfl mv_ (jq_ 5 rfl (ixF (k := 0) Flaw.enc_len (cells_row 0 rfl) Try.underlying59 Ty.sz62) (jq_ 6 rfl (ldFN (k := 0) Flaw.enc_len (cells_row 0 rfl) Ty.ag62 Ty.sz62) (jp_ 7 rfl mv_ (jp_ 8 rfl mv_ (jq_ 9 rfl (ixM (cells_row 2 rfl) Try.underlying47 Ty.sz9) (jq_ 10 rfl (ldM vS [] (cells_row 2 rfl) Ty.sc9) ?_ (hw := ⟨_, rfl, rfl⟩)) (hw := ⟨_, rfl, rfl⟩)) (hw := ⟨_, rfl, rfl⟩)) (hw := ⟨_, rfl, rfl⟩)) (hw := ⟨_, rfl, rfl⟩)) (hw := ⟨_, rfl, rfl⟩)) (hw := ⟨_, rfl, rfl⟩)
     refine JA_take 11 (vG [vI 6, vI 0, vS ((R27.keysOf (R27.ofD rds ((alts.getD i default).Id)).Pairs).getD (which.toNat % ((R27.keysOf (R27.ofD rds ((alts.getD i default).Id)).Pairs).length)) [])]) rfl (by kernel_rfl) (by kernel_rfl) (by kernel_rfl) rfl (fun _ _ _ h => h) rfl ⟨_, rfl, rfl⟩ (fun _ _ => x_build (by kernel_rfl)) ?_
     refine jp_ 12 rfl (x_neq_agg rfl rfl Ty.eg62 (Ty.eq62 9998 ((R27.flaws (R27.dif (R26.recs (alts.getD i default) ((R27.ofD rds base.Id).Pairs)) ((([] : List Bytes) ++ (((R27.keysOf (R27.ofD rds ((alts.getD i default).Id)).Pairs).drop ((which.toNat % ((R27.keysOf (R27.ofD rds ((alts.getD i default).Id)).Pairs).length)) + 1)).take ((R27.keysOf (R27.ofD rds ((alts.getD i default).Id)).Pairs).length - ((which.toNat % ((R27.keysOf (R27.ofD rds ((alts.getD i default).Id)).Pairs).length)) + 1)))) ++ (((R27.keysOf (R27.ofD rds ((alts.getD i default).Id)).Pairs).drop 0).take (which.toNat % ((R27.keysOf (R27.ofD rds ((alts.getD i default).Id)).Pairs).length) - 0))))).getD 0 default) (Flaw.mk 6 0 ((R27.keysOf (R27.ofD rds ((alts.getD i default).Id)).Pairs).getD (which.toNat % ((R27.keysOf (R27.ofD rds ((alts.getD i default).Id)).Pairs).length)) [])))) ?_ (hw := ⟨_, rfl, rfl⟩)
     refine jt_ 13 (vB (!(decide ((((R27.flaws (R27.dif (R26.recs (alts.getD i default) ((R27.ofD rds base.Id).Pairs)) ((([] : List Bytes) ++ (((R27.keysOf (R27.ofD rds ((alts.getD i default).Id)).Pairs).drop ((which.toNat % ((R27.keysOf (R27.ofD rds ((alts.getD i default).Id)).Pairs).length)) + 1)).take ((R27.keysOf (R27.ofD rds ((alts.getD i default).Id)).Pairs).length - ((which.toNat % ((R27.keysOf (R27.ofD rds ((alts.getD i default).Id)).Pairs).length)) + 1)))) ++ (((R27.keysOf (R27.ofD rds ((alts.getD i default).Id)).Pairs).drop 0).take (which.toNat % ((R27.keysOf (R27.ofD rds ((alts.getD i default).Id)).Pairs).length) - 0))))).getD 0 default) : Flaw) = (Flaw.mk 6 0 ((R27.keysOf (R27.ofD rds ((alts.getD i default).Id)).Pairs).getD (which.toNat % ((R27.keysOf (R27.ofD rds ((alts.getD i default).Id)).Pairs).length)) [])))))) rfl (fun _ _ => rfl) ?_
     refine JA_done (by kernel_rfl) gm_ ?_
     refine n_ ?_
     refine if_ (fun h40 => ?_) (fun h40 => ?_)
     ·have h40w := h40
      have h40 : (decide ((((R27.flaws (R27.dif (R26.recs (alts.getD i default) ((R27.ofD rds base.Id).Pairs)) ((([] : List Bytes) ++ (((R27.keysOf (R27.ofD rds ((alts.getD i default).Id)).Pairs).drop ((which.toNat % ((R27.keysOf (R27.ofD rds ((alts.getD i default).Id)).Pairs).length)) + 1)).take ((R27.keysOf (R27.ofD rds ((alts.getD i default).Id)).Pairs).length - ((which.toNat % ((R27.keysOf (R27.ofD rds ((alts.getD i default).Id)).Pairs).length)) + 1)))) ++ (((R27.keysOf (R27.ofD rds ((alts.getD i default).Id)).Pairs).drop 0).take (which.toNat % ((R27.keysOf (R27.ofD rds ((alts.getD i default).Id)).Pairs).length) - 0))))).getD 0 default) : Flaw) = (Flaw.mk 6 0 ((R27.keysOf (R27.ofD rds ((alts.getD i default).Id)).Pairs).getD (which.toNat % ((R27.keysOf (R27.ofD rds ((alts.getD i default).Id)).Pairs).length)) [])))) = false := bnot_true h40
      have h40 := of_decide_eq_false h40
      refine q_ (g_ (s_ av_ (z_ (xk_ [3, 4, 11, 12, 13, 46, 47, 48, 15, 16, 10] ?_))))
      refine n_ (rt_ (nr_ (kq_ (nr_ (rr_ (kq_ (nr_ ?_)))))))
      exact False.elim l27c0_
     ·have h40w := h40
      have h40 : (decide ((((R27.flaws (R27.dif (R26.recs (alts.getD i default) ((R27.ofD rds base.Id).Pairs)) ((([] : List Bytes) ++ (((R27.keysOf (R27.ofD rds ((alts.getD i default).Id)).Pairs).drop ((which.toNat % ((R27.keysOf (R27.ofD rds ((alts.getD i default).Id)).Pairs).length)) + 1)).take ((R27.keysOf (R27.ofD rds ((alts.getD i default).Id)).Pairs).length - ((which.toNat % ((R27.keysOf (R27.ofD rds ((alts.getD i default).Id)).Pairs).length)) + 1)))) ++ (((R27.keysOf (R27.ofD rds ((alts.getD i default).Id)).Pairs).drop 0).take (which.toNat % ((R27.keysOf (R27.ofD rds ((alts.getD i default).Id)).Pairs).length) - 0))))).getD 0 default) : Flaw) = (Flaw.mk 6 0 ((R27.keysOf (R27.ofD rds ((alts.getD i default).Id)).Pairs).getD (which.toNat % ((R27.keysOf (R27.ofD rds ((alts.getD i default).Id)).Pairs).length)) [])))) = true := bnot_false h40
      have h40 := of_decide_eq_true h40
      refine sk_ (n_ (q_ (g_ (s_ av_ (z_ (xk_ [3, 4, 11, 12, 13, 46, 47, 48, 15, 16, 19] ?_))))))
      refine n_ (q_ (q_ (g_ (s_ mv_ (s_ (lnS Try.underlying47) (s_ mv_ (z_ (n_ (k_ ?_)))))))))
      refine J_loop (X := Nat × Bool) (fun (⟨j, t⟩ : Nat × Bool) => (j ≤ (R27.keysOf (R27.ofD rds (alts.getD i default).Id).Pairs).length) ∧ (t = R27.hasS ((R27.keysOf (R27.ofD rds (alts.getD i default).Id).Pairs).take j) more)) (fun (⟨j, t⟩ : Nat × Bool) => [(3, vU8 which), (4, vS more), (11, pB b20 0), (12, vB true), (13, vL ((R27.ofD rds base.Id).PairsA) ((R27.ofD rds base.Id).Pairs.length) ((R27.ofD rds base.Id).PairsC)), (46, vL altsA alts.length altsC), (47, vI ((alts.length : Nat) : Int)), (48, vI ((i : Nat) : Int)), (15, pB b23 0), (16, vL A24 ((R27.keysOf (R27.ofD rds ((alts.getD i default).Id)).Pairs).length) cc25), (19, vB t), (91, vL A24 ((R27.keysOf (R27.ofD rds ((alts.getD i default).Id)).Pairs).length) cc25), (92, vI (((R27.keysOf (R27.ofD rds ((alts.getD i default).Id)).Pairs).length : Nat) : Int)), (93, vI ((j : Nat) : Int))]) (fun (⟨j, t⟩ : Nat × Bool) => [Ent.row (.slice A24 (R27.keysOf (R27.ofD rds ((alts.getD i default).Id)).Pairs).length cc25) 9 1 (R27.keysOf (R27.ofD rds ((alts.getD i default).Id)).Pairs).length ((R27.keysOf (R27.ofD rds ((alts.getD i default).Id)).Pairs).map vS), Ent.blk b23 24 (DataSet.enc (alts.getD i default)), Ent.blk b20 34 [vL rdsA rds.length rdsC, Value.pointer none]]) (fun (⟨j, t⟩ : Nat × Bool) => (R27.keysOf (R27.ofD rds (alts.getD i default).Id).Pairs).length - j) ((0, false) : Nat × Bool) ?_ ⟨rfl, rfl, rfl, rfl, rfl, rfl, rfl, rfl, rfl, rfl, rfl, rfl, rfl, rfl, trivial⟩ (fun _ h => h.keep [false, false, true, true, true] rfl) ?_
      ·try dsimp only
       refine ⟨?_, ?_⟩
       ·first | rfl | omega | (simp_all; done) | (simp_all; omega)
       ·rfl
      rintro ⟨j, t⟩ hI2
      obtain ⟨i2_0, i2_1⟩ := hI2
      try dsimp only at i2_0
      try dsimp only at i2_1
      try dsimp only
      refine q_ (g_ (s_ (x_lss_i rfl rfl) (z_ (n_ (q_ ?_)))))
      refine ifd (fun h41w h41 => ?_) (fun h41w h41 => ?_)
      ·refine sk_ (n_ (q_ (k_ (q_ (g_ (r_ (ixM (cells_row 0 rfl) Try.underlying47 Ty.sz9) (r_ (ldM vS [] (cells_row 0 rfl) Ty.sc9) (s_ av_ (z_ (n_ (g_ (s_ mv_ (s_ mv_ ?_)))))))))))))
       refine or_ 3 (decide (((R27.keysOf (R27.ofD rds ((alts.getD i default).Id)).Pairs).getD j []) = more)) (fun g42 => ?_) ?_
       ·have g42r := g42
        refine sg_ g42 mv_ (sg_ g42 mv_ (sg_ g42 (x_eql_s rfl rfl) ?_))
        exact cr_
       refine s_ av_ (z_ (kx_ (n_ (g_ (s_ (x_add_n (a := j) (b := 1) rfl rfl (by omega)) (s_ mv_ (z_ ?_)))))))
       refine JX_round ((j + 1, t || (decide (((R27.keysOf (R27.ofD rds ((alts.getD i default).Id)).Pairs).getD j []) = more))) : Nat × Bool) ?_ ?_ ⟨rfl, rfl, rfl, rfl, rfl, rfl, rfl, rfl, rfl, rfl, rfl, rfl, rfl, rfl, trivial⟩ (fun _ h => h)
       ·try dsimp only
        refine ⟨?_, ?_⟩
        ·first | rfl | omega | (simp_all; done) | (simp_all; omega)
        ·exact R27.hasS_step (by omega) i2_1
       ·try dsimp only
        first | omega | (simp; omega) | (simp_all; omega)
      ·refine J_exit (ne_ (re_ (kh_ (n_ (q_ ?_)))))
       refine drB [5] 8 Ty.mixed ?_
       refine jq_ 0 rfl (ldN 1 (DataSet.enc (alts.getD i default)) Ty.ag24 Ty.sz24) (jp_ 1 rfl mv_ (jp_ 2 rfl mv_ (jp_ 4 rfl mv_ (j1_ 3 (jio_ rfl (O_buildSlice (cs := [vS more]) Try.underlying47 Ty.sz9 Ty.ze9 (by decide) (by decide) (by kernel_rfl) fun b44 => ?_)) gm_))))
       refine JA_weaken (E' := [(3, vU8 which), (4, vS more), (11, pB b20 0), (12, vB true), (13, vL ((R27.ofD rds base.Id).PairsA) ((R27.ofD rds base.Id).Pairs.length) ((R27.ofD rds base.Id).PairsC)), (46, vL altsA alts.length altsC), (47, vI ((alts.length : Nat) : Int)), (48, vI ((i : Nat) : Int)), (15, pB b23 0), (16, vL A24 ((R27.keysOf (R27.ofD rds ((alts.getD i default).Id)).Pairs).length) cc25), (19, vB t), (91, vL A24 ((R27.keysOf (R27.ofD rds ((alts.getD i default).Id)).Pairs).length) cc25), (92, vI (((R27.keysOf (R27.ofD rds ((alts.getD i default).Id)).Pairs).length : Nat) : Int)), (93, vI ((j : Nat) : Int)), (94, vB (decide (((j : Nat) : Int) < (((R27.keysOf (R27.ofD rds ((alts.getD i default).Id)).Pairs).length : Nat) : Int)))), (104, vG (DataSet.enc (alts.getD i default))), (105, vL ((R27.ofD rds base.Id).PairsA) ((R27.ofD rds base.Id).Pairs.length) ((R27.ofD rds base.Id).PairsC)), (106, vS more), (108, vL A24 ((R27.keysOf (R27.ofD rds ((alts.getD i default).Id)).Pairs).length) cc25), (107, vL (some ⟨b44, 0, none⟩) (([more]).length) 1)]) (L' := [Ent.row (.slice (some ⟨b44, 0, none⟩) [more].length 1) 9 1 [more].length ([more].map vS), Ent.row (.slice A24 (R27.keysOf (R27.ofD rds ((alts.getD i default).Id)).Pairs).length cc25) 9 1 (R27.keysOf (R27.ofD rds ((alts.getD i default).Id)).Pairs).length ((R27.keysOf (R27.ofD rds ((alts.getD i default).Id)).Pairs).map vS), Ent.blk b23 24 (DataSet.enc (alts.getD i default)), Ent.blk b20 34 [vL rdsA rds.length rdsC, Value.pointer none]]) ⟨rfl, rfl, rfl, rfl, rfl, rfl, rfl, rfl, rfl, rfl, rfl, rfl, rfl, rfl, rfl, rfl, rfl, rfl, rfl, rfl, trivial⟩ (fun _ h => (St.torow (cs := [vS more]) ((((h.front 3 _ rfl).front 3 _ rfl).front 3 _ rfl).front 3 _ rfl) 1 1 rfl (by decide)).keep [true, true, true, true] rfl) ?_
       refine j1_ 5 (jio_ rfl (O_append_m 0 vS [more] (R27.keysOf (R27.ofD rds ((alts.getD i default).Id)).Pairs) Try.underlying47 Ty.sz9 Ty.by9 Ty.ze9 rfl rfl rfl rfl rfl (fun _ => rfl) (cells_row 1 rfl) lt_ lt_ fun A47 c48 => ?_)) (fun _ h => ⟨h.keep [false, true, true, true] rfl, fun _ => h.keep [false, true, true, true] rfl⟩)
       refine j1_ 6 ?_ (gl_ rfl (fun _ h => h.keep [false, true, true, true] rfl))
       refine jc1_ rfl (cl_ Ty.ca20) (fun w hS => f20_ok _ _ _ _ ([more] ++ (R27.keysOf (R27.ofD rds ((alts.getD i default).Id)).Pairs)) A47 c48 w ((R27.ofD_ro rdsN base.Id).on hS (fun _ h => by cases h)) (RO.of_row hS 0 rfl) hy_ hy_ hy_) ?_
       rintro _ _ ⟨A49, cc50, rfl, rfl⟩
       refine jp_ 7 rfl av_ ?_
       refine JA_done (by kernel_rfl) (gl_ rfl (fun _ h => h.keep [false, false, true, true, true] rfl)) ?_
       refine n_ (q_ (g_ (s_ mv_ (s_ (lnS Try.underlying59) (s_ (x_eql_i rfl rfl) (s_ mv_ (s_ (x_neq_b Try.underlying4 rfl rfl) (s_ mv_ ?_))))))))
       refine or_ 10 ((!t) && (decide (((R27.flaws (R27.dif (R26.recs (alts.getD i default) ((R27.ofD rds base.Id).Pairs)) ([more] ++ (R27.keysOf (R27.ofD rds ((alts.getD i default).Id)).Pairs)))).getD 0 default).Key ≠ more))) (fun g51 => ?_) ?_
       ·have g51r := g51
        have g51r := of_decide_eq_false g51r
        refine sg_ g51 mv_ (sg_ g51 (x_not rfl) (sg_ g51 mv_ ?_))
        refine and_ 6 (decide (((R27.flaws (R27.dif (R26.recs (alts.getD i default) ((R27.ofD rds base.Id).Pairs)) ([more] ++ (R27.keysOf (R27.ofD rds ((alts.getD i default).Id)).Pairs)))).getD 0 default).Key ≠ more)) (fun g52 => ?_) ?_ (hw := by exact ⟨_, rfl, g51⟩)
        ·have g52r := g52
         have g52r : (t) = false := bnot_true g52r
         have hg53 := R27.more_at g51 g52
         refine sg_ g52 mv_ (rg_ g52 (ixF (k := 0) Flaw.enc_len (cells_row 0 rfl) Try.underlying59 Ty.sz62) (sg_ g52 (x_fieldAddr Ty.fi62_2 rfl (adr_add _ _ _)) (rg_ g52 (ldF (k := 0) 2 Flaw.enc_len (cells_row 0 rfl) Ty.sc9) (sg_ g52 mv_ (sg_ g52 (x_neq_s rfl rfl) ?_)))))
         exact cr_
        exact cr_
       refine z_ (xk_ [3, 4, 11, 12, 13, 46, 47, 48, 127] ?_)
       refine n_ ?_
       refine if_ (fun h54 => ?_) (fun h54 => ?_)
       ·have h54w := h54
        simp only [Bool.and_eq_true, Bool.or_eq_true, Bool.and_eq_false_iff, Bool.or_eq_false_iff, Bool.not_eq_true', Bool.not_eq_false', decide_eq_true_eq, decide_eq_false_iff_not] at h54
        refine q_ (g_ (s_ av_ (z_ (n_ (rt_ (kq_ (nr_ (rr_ (kq_ (nr_ ?_))))))))))
        exact False.elim l27c0_
       ·have h54w := h54
        have ⟨h54, h55⟩ := bor_false h54
        have h54 := of_decide_eq_false h54
        simp only [Bool.and_eq_true, Bool.or_eq_true, Bool.and_eq_false_iff, Bool.or_eq_false_iff, Bool.not_eq_true', Bool.not_eq_false', decide_eq_true_eq, decide_eq_false_iff_not] at h55
        refine sk_ (kx_ (n_ (g_ (s_ (x_add_n (a := i) (b := 1) rfl rfl (by omega)) (s_ mv_ (z_ ?_))))))
        refine JX_round (i + 1 : Nat) ?_ ?_ ⟨rfl, rfl, rfl, rfl, rfl, rfl, rfl, rfl, trivial⟩ (fun _ h => h.keep [false, false, false, false, true] rfl)
        ·try dsimp only
         first | rfl | omega | (simp_all; done) | (simp_all; omega)
        ·try dsimp only
         first | omega | (simp; omega) | (simp_all; omega)
   ·refine sk_ (n_ (q_ (g_ (s_ av_ (z_ (xk_ [3, 4, 11, 12, 13, 46, 47, 48, 15, 16, 19] ?_))))))
    refine n_ (q_ (q_ (g_ (s_ mv_ (s_ (lnS Try.underlying47) (s_ mv_ (z_ (n_ (k_ ?_)))))))))
    refine J_loop (X := Nat × Bool) (fun (⟨j, t⟩ : Nat × Bool) => (j ≤ (R27.keysOf (R27.ofD rds (alts.getD i default).Id).Pairs).length) ∧ (t = R27.hasS ((R27.keysOf (R27.ofD rds (alts.getD i default).Id).Pairs).take j) more)) (fun (⟨j, t⟩ : Nat × Bool) => [(3, vU8 which), (4, vS more), (11, pB b20 0), (12, vB true), (13, vL ((R27.ofD rds base.Id).PairsA) ((R27.ofD rds base.Id).Pairs.length) ((R27.ofD rds base.Id).PairsC)), (46, vL altsA alts.length altsC), (47, vI ((alts.length : Nat) : Int)), (48, vI ((i : Nat) : Int)), (15, pB b23 0), (16, vL A24 ((R27.keysOf (R27.ofD rds ((alts.getD i default).Id)).Pairs).length) cc25), (19, vB t), (91, vL A24 ((R27.keysOf (R27.ofD rds ((alts.getD i default).Id)).Pairs).length) cc25), (92, vI (((R27.keysOf (R27.ofD rds ((alts.getD i default).Id)).Pairs).length : Nat) : Int)), (93, vI ((j : Nat) : Int))]) (fun (⟨j, t⟩ : Nat × Bool) => [Ent.row (.slice A24 (R27.keysOf (R27.ofD rds ((alts.getD i default).Id)).Pairs).length cc25) 9 1 (R27.keysOf (R27.ofD rds ((alts.getD i default).Id)).Pairs).length ((R27.keysOf (R27.ofD rds ((alts.getD i default).Id)).Pairs).map vS), Ent.blk b23 24 (DataSet.enc (alts.getD i default)), Ent.blk b20 34 [vL rdsA rds.length rdsC, Value.pointer none]]) (fun (⟨j, t⟩ : Nat × Bool) => (R27.keysOf (R27.ofD rds (alts.getD i default).Id).Pairs).length - j) ((0, false) : Nat × Bool) ?_ ⟨rfl, rfl, rfl, rfl, rfl, rfl, rfl, rfl, rfl, rfl, rfl, rfl, rfl, rfl, trivial⟩ (fun _ h => h) ?_
    ·try dsimp only
     refine ⟨?_, ?_⟩
     ·first | rfl | omega | (simp_all; done) | (simp_all; omega)
     ·rfl
    rintro ⟨j, t⟩ hI2
    obtain ⟨i2_0, i2_1⟩ := hI2
    try dsimp only at i2_0
    try dsimp only at i2_1
    try dsimp only
    refine q_ (g_ (s_ (x_lss_i rfl rfl) (z_ (n_ (q_ ?_)))))
    refine ifd (fun h56w h56 => ?_) (fun h56w h56 => ?_)
    ·refine sk_ (n_ (q_ (k_ (q_ (g_ (r_ (ixM (cells_row 0 rfl) Try.underlying47 Ty.sz9) (r_ (ldM vS [] (cells_row 0 rfl) Ty.sc9) (s_ av_ (z_ (n_ (g_ (s_ mv_ (s_ mv_ ?_)))))))))))))
     refine or_ 3 (decide (((R27.keysOf (R27.ofD rds ((alts.getD i default).Id)).Pairs).getD j []) = more)) (fun g57 => ?_) ?_
     ·have g57r := g57
      refine sg_ g57 mv_ (sg_ g57 mv_ (sg_ g57 (x_eql_s rfl rfl) ?_))
      exact cr_
     refine s_ av_ (z_ (kx_ (n_ (g_ (s_ (x_add_n (a := j) (b := 1) rfl rfl (by omega)) (s_ mv_ (z_ ?_)))))))
     refine JX_round ((j + 1, t || (decide (((R27.keysOf (R27.ofD rds ((alts.getD i default).Id)).Pairs).getD j []) = more))) : Nat × Bool) ?_ ?_ ⟨rfl, rfl, rfl, rfl, rfl, rfl, rfl, rfl, rfl, rfl, rfl, rfl, rfl, rfl, trivial⟩ (fun _ h => h)
     ·try dsimp only
      refine ⟨?_, ?_⟩
      ·first | rfl | omega | (simp_all; done) | (simp_all; omega)
      ·exact R27.hasS_step (by omega) i2_1
     ·try dsimp only
      first | omega | (simp; omega) | (simp_all; omega)
    ·refine J_exit (ne_ (re_ (kh_ (n_ (q_ ?_)))))
     refine drB [5] 8 Ty.mixed ?_
     refine jq_ 0 rfl (ldN 1 (DataSet.enc (alts.getD i default)) Ty.ag24 Ty.sz24) (jp_ 1 rfl mv_ (jp_ 2 rfl mv_ (jp_ 4 rfl mv_ (j1_ 3 (jio_ rfl (O_buildSlice (cs := [vS more]) Try.underlying47 Ty.sz9 Ty.ze9 (by decide) (by decide) (by kernel_rfl) fun b59 => ?_)) gm_))))
     refine JA_weaken (E' := [(3, vU8 which), (4, vS more), (11, pB b20 0), (12, vB true), (13, vL ((R27.ofD rds base.Id).PairsA) ((R27.ofD rds base.Id).Pairs.length) ((R27.ofD rds base.Id).PairsC)), (46, vL altsA alts.length altsC), (47, vI ((alts.length : Nat) : Int)), (48, vI ((i : Nat) : Int)), (15, pB b23 0), (16, vL A24 ((R27.keysOf (R27.ofD rds ((alts.getD i default).Id)).Pairs).length) cc25), (19, vB t), (91, vL A24 ((R27.keysOf (R27.ofD rds ((alts.getD i default).Id)).Pairs).length) cc25), (92, vI (((R27.keysOf (R27.ofD rds ((alts.getD i default).Id)).Pairs).length : Nat) : Int)), (93, vI ((j : Nat) : Int)), (94, vB (decide (((j : Nat) : Int) < (((R27.keysOf (R27.ofD rds ((alts.getD i default).Id)).Pairs).length : Nat) : Int)))), (104, vG (DataSet.enc (alts.getD i default))), (105, vL ((R27.ofD rds base.Id).PairsA) ((R27.ofD rds base.Id).Pairs.length) ((R27.ofD rds base.Id).PairsC)), (106, vS more), (108, vL A24 ((R27.keysOf (R27.ofD rds ((alts.getD i default).Id)).Pairs).length) cc25), (107, vL (some ⟨b59, 0, none⟩) (([more]).length) 1)]) (L' := [Ent.row (.slice (some ⟨b59, 0, none⟩) [more].length 1) 9 1 [more].length ([more].map vS), Ent.row (.slice A24 (R27.keysOf (R27.ofD rds ((alts.getD i default).Id)).Pairs).length cc25) 9 1 (R27.keysOf (R27.ofD rds ((alts.getD i default).Id)).Pairs).length ((R27.keysOf (R27.ofD rds ((alts.getD i default).Id)).Pairs).map vS), Ent.blk b23 24 (DataSet.enc (alts.getD i default)), Ent.blk b20 34 [vL rdsA rds.length rdsC, Value.pointer none]]) ⟨rfl, rfl, rfl, rfl, rfl, rfl, rfl, rfl, rfl, rfl, rfl, rfl, rfl, rfl, rfl, rfl, rfl, rfl, rfl, rfl, trivial⟩ (fun _ h => (St.torow (cs := [vS more]) ((((h.front 3 _ rfl).front 3 _ rfl).front 3 _ rfl).front 3 _ rfl) 1 1 rfl (by decide)).keep [true, true, true, true] rfl) ?_
     refine j1_ 5 (jio_ rfl (O_append_m 0 vS [more] (R27.keysOf (R27.ofD rds ((alts.getD i default).Id)).Pairs) Try.underlying47 Ty.sz9 Ty.by9 Ty.ze9 rfl rfl rfl rfl rfl (fun _ => rfl) (cells_row 1 rfl) lt_ lt_ fun A62 c63 => ?_)) (fun _ h => ⟨h.keep [false, true, true, true] rfl, fun _ => h.keep [false, true, true, true] rfl⟩)
     refine j1_ 6 ?_ (gl_ rfl (fun _ h => h.keep [false, true, true, true] rfl))
     refine jc1_ rfl (cl_ Ty.ca20) (fun w hS => f20_ok _ _ _ _ ([more] ++ (R27.keysOf (R27.ofD rds ((alts.getD i default).Id)).Pairs)) A62 c63 w ((R27.ofD_ro rdsN base.Id).on hS (fun _ h => by cases h)) (RO.of_row hS 0 rfl) hy_ hy_ hy_) ?_
     rintro _ _ ⟨A64, cc65, rfl, rfl⟩
     refine jp_ 7 rfl av_ ?_
     refine JA_done (by kernel_rfl) (gl_ rfl (fun _ h => h.keep [false, false, true, true, true] rfl)) ?_
     refine n_ (q_ (g_ (s_ mv_ (s_ (lnS Try.underlying59) (s_ (x_eql_i rfl rfl) (s_ mv_ (s_ (x_neq_b Try.underlying4 rfl rfl) (s_ mv_ ?_))))))))
     refine or_ 10 ((!t) && (decide (((R27.flaws (R27.dif (R26.recs (alts.getD i default) ((R27.ofD rds base.Id).Pairs)) ([more] ++ (R27.keysOf (R27.ofD rds ((alts.getD i default).Id)).Pairs)))).getD 0 default).Key ≠ more))) (fun g66 => ?_) ?_
     ·have g66r := g66
      have g66r := of_decide_eq_false g66r
      refine sg_ g66 mv_ (sg_ g66 (x_not rfl) (sg_ g66 mv_ ?_))
      refine and_ 6 (decide (((R27.flaws (R27.dif (R26.recs (alts.getD i default) ((R27.ofD rds base.Id).Pairs)) ([more] ++ (R27.keysOf (R27.ofD rds ((alts.getD i default).Id)).Pairs)))).getD 0 default).Key ≠ more)) (fun g67 => ?_) ?_ (hw := by exact ⟨_, rfl, g66⟩)
      ·have g67r := g67
       have g67r : (t) = false := bnot_true g67r
       have hg68 := R27.more_at g66 g67
       refine sg_ g67 mv_ (rg_ g67 (ixF (k := 0) Flaw.enc_len (cells_row 0 rfl) Try.underlying59 Ty.sz62) (sg_ g67 (x_fieldAddr Ty.fi62_2 rfl (adr_add _ _ _)) (rg_ g67 (ldF (k := 0) 2 Flaw.enc_len (cells_row 0 rfl) Ty.sc9) (sg_ g67 mv_ (sg_ g67 (x_neq_s rfl rfl) ?_)))))
       exact cr_
      exact cr_
     refine z_ (xk_ [3, 4, 11, 12, 13, 46, 47, 48, 127] ?_)
     refine n_ ?_
     refine if_ (fun h69 => ?_) (fun h69 => ?_)
     ·have h69w := h69
      simp only [Bool.and_eq_true, Bool.or_eq_true, Bool.and_eq_false_iff, Bool.or_eq_false_iff, Bool.not_eq_true', Bool.not_eq_false', decide_eq_true_eq, decide_eq_false_iff_not] at h69
      refine q_ (g_ (s_ av_ (z_ (n_ (rt_ (kq_ (nr_ (rr_ (kq_ (nr_ ?_))))))))))
      exact False.elim l27c0_
     ·have h69w := h69
      have ⟨h69, h70⟩ := bor_false h69
      have h69 := of_decide_eq_false h69
      simp only [Bool.and_eq_true, Bool.or_eq_true, Bool.and_eq_false_iff, Bool.or_eq_false_iff, Bool.not_eq_true', Bool.not_eq_false', decide_eq_true_eq, decide_eq_false_iff_not] at h70
      refine sk_ (kx_ (n_ (g_ (s_ (x_add_n (a := i) (b := 1) rfl rfl (by omega)) (s_ mv_ (z_ ?_))))))
      refine JX_round (i + 1 : Nat) ?_ ?_ ⟨rfl, rfl, rfl, rfl, rfl, rfl, rfl, rfl, trivial⟩ (fun _ h => h.keep [false, false, false, false, true] rfl)
      ·try dsimp only
       first | rfl | omega | (simp_all; done) | (simp_all; omega)
      ·try dsimp only
       first | omega | (simp; omega) | (simp_all; omega)
  ·refine J_exit (ne_ (re_ (kh_ (n_ (q_ ?_)))))
   refine g_ (s_ mv_ (s_ av_ (z_ (n_ (rt_ ?_)))))
   refine JX_retsC [_] _ Try.results6 (fun w h => ⟨rfl, trivial⟩) rfl _ (fun _ h => h.keep [false] rfl) (fun _ _ h => (hB14.back _ _ h)) ⟨?_, ?_⟩
   ·rfl
   ·rfl
end Go.Proofs.Ytmbinhhlfbgiaaa
