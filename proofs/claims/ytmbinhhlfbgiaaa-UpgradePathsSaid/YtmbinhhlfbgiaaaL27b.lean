/- contracts L27b -/
import Derived.Test.YtmbinhhlfbgiaaaC27l
import Derived.Test.YtmbinhhlfbgiaaaL27w
namespace Go.Proofs.Ytmbinhhlfbgiaaa
open Go.GV
set_option linter.unusedVariables false
set_option linter.unusedSimpArgs false
set_option maxRecDepth 20000 in
theorem f5_ok (base : DataSet) (alts : List DataSet) (altsA : Option Addr) (altsC : Nat) (l : List Change) (lA : Option Addr) (lC : Nat) (k : Bytes) (w : World) (altsR : RO [] w altsA (alts.flatMap DataSet.enc)) (lR : RO [] w lA (l.flatMap Change.enc)) (q0 : alts.length ≤ 9223372036854775807) (q1 : l.length ≤ 9223372036854775807) : Calls Try.prog 5 #[Value.agg ((DataSet.enc base)).toArray, Value.slice altsA alts.length altsC, Value.slice lA l.length lC, vS k] w (Gives [] w fun v L => v = vB true ∧ L = []) := by
 refine calls_J [] 104 Try.func5 rfl Try.ntmps5 [(0, Value.agg ((DataSet.enc base)).toArray), (1, Value.slice altsA alts.length altsC), (2, Value.slice lA l.length lC), (3, vS k)] rfl rfl (Give.nil w) ?_
 refine J_seq (J_region ?_)
 refine JO_op rfl trivial (O_box rfl rfl fun b1 => ?_)
 refine jr_ (vB false) ?_
 refine JO_nil (JX_then (J_seq (J_seq (J_region ?_))))
 refine JO_call [] [] [Ent.blk b1 24 (DataSet.enc base)] rfl trivial (fun _ => x_call Ty.ca7 rfl) (fun _ h => h) (fun _ h => by cases h) (fun w hS => f7_ok w) ?_
 rintro _ _ ⟨rfl, rfl⟩
 refine jr_ (vB false) ?_
 refine JO_nil (JX_then ?_)
 refine J_cond false rfl rfl (fun h => by cases h) (fun h => ?_)
 refine J_skip (JX_then (J_seq (J_seq (J_region ?_))))
 refine JO_read (Value.agg ((DataSet.enc base)).toArray) rfl trivial (x_loadN 0 (DataSet.enc base) rfl rfl Ty.ag24 Ty.sz24 rfl) ?_
 refine jr_ (Value.slice altsA alts.length altsC) ?_
 refine jr_ (Value.slice lA l.length lC) ?_
 refine JO_call [] [] [Ent.blk b1 24 (DataSet.enc base)] rfl trivial (fun _ => x_call Ty.ca13 rfl) (fun _ h => h) (fun _ h => by cases h) (fun w hS => f13_ok base alts altsA altsC l lA lC w (altsR.on hS (fun _ h => by cases h)) (lR.on hS (fun _ h => by cases h)) hy_ hy_) ?_
 rintro _ _ ⟨rfl, rfl⟩
 refine js_ (vB (!(((R27.isSphere base alts) && (R27.short l 41)) && (R27.rising [] l)))) (x_not rfl) ?_
 refine jr_ (vB (!(((R27.isSphere base alts) && (R27.short l 41)) && (R27.rising [] l)))) ?_
 refine JO_cut 4 (fun z => z = ((!(((R27.isSphere base alts) && (R27.short l 41)) && (R27.rising [] l))) || (decide ((100 : Int) < ((k.length : Nat) : Int))))) (fun z => [(1, Value.slice altsA alts.length altsC), (2, Value.slice lA l.length lC), (3, vS k), (4, Value.pointer (some ⟨b1, 0, none⟩)), (8, vB false), (31, vB z)]) (fun _ => [Ent.blk b1 24 (DataSet.enc base)]) ?_ ?_
 ·rcases Bool.eq_false_or_eq_true (!(((R27.isSphere base alts) && (R27.short l 41)) && (R27.rising [] l))) with g3 | g3
  ·have g3r := g3
   have g3r : (((R27.isSphere base alts) && (R27.short l 41)) && (R27.rising [] l)) = false := bnot_true g3r
   simp only [Bool.and_eq_true, Bool.or_eq_true, Bool.and_eq_false_iff, Bool.or_eq_false_iff, Bool.not_eq_true', Bool.not_eq_false', decide_eq_true_eq, decide_eq_false_iff_not] at g3r
   refine sh_ g3 ?_
   refine sh_ g3 ?_
   refine sh_ g3 ?_
   refine js_ (vB true) (x_pick_t rfl g3 rfl) ?_
   refine JO_nil (JX_cut (true) (by rw [g3]; simp) ⟨rfl, rfl, rfl, rfl, rfl, rfl, trivial⟩ (fun _ h => h))
  ·have g3r := g3
   have g3r : (((R27.isSphere base alts) && (R27.short l 41)) && (R27.rising [] l)) = true := bnot_false g3r
   have ⟨g3r, h4⟩ := band_true g3r
   have ⟨g3r, h5⟩ := band_true g3r
   have hi6 := R27.isSphere_valid g3r
   have hi7 := R27.short_len2 h5
   refine jg_ g3 (vS k) (rfl) ?_
   refine jg_ g3 (vI ((k.length : Nat) : Int)) (x_len_s rfl Try.underlying9) ?_
   refine jg_ g3 (vB (decide ((100 : Int) < ((k.length : Nat) : Int)))) (x_gtr_i rfl rfl) ?_
   refine js_ (vB (decide ((100 : Int) < ((k.length : Nat) : Int)))) (x_pick_f rfl g3 rfl) ?_
   refine JO_nil (JX_cut (decide ((100 : Int) < ((k.length : Nat) : Int))) (by rw [g3]; simp) ⟨rfl, rfl, rfl, rfl, rfl, rfl, trivial⟩ (fun _ h => h))
 rintro z2 rfl
 refine JO_nil (JX_then ?_)
 refine J_cond ((!(((R27.isSphere base alts) && (R27.short l 41)) && (R27.rising [] l))) || (decide ((100 : Int) < ((k.length : Nat) : Int)))) rfl rfl (fun h8 => ?_) (fun h8 => ?_)
 ·have h8w := h8
  simp only [Bool.and_eq_true, Bool.or_eq_true, Bool.and_eq_false_iff, Bool.or_eq_false_iff, Bool.not_eq_true', Bool.not_eq_false', decide_eq_true_eq, decide_eq_false_iff_not] at h8
  refine J_seq (J_region ?_)
  refine jr_ (vB true) ?_
  refine JO_nil (JX_then (J_ret (JX_then_ret ?_)))
  refine JX_rets [vB true] (vB true) Try.results5 (fun w h => ⟨rfl, trivial⟩) rfl [] (fun _ h => h.keep [false] rfl) ⟨?_, ?_⟩
  ·rfl
  ·rfl
 ·have h8w := h8
  have ⟨h8, h9⟩ := bor_false h8
  have h8 : (((R27.isSphere base alts) && (R27.short l 41)) && (R27.rising [] l)) = true := bnot_false h8
  have ⟨h8, h10⟩ := band_true h8
  have ⟨h8, h11⟩ := band_true h8
  have hi12 := R27.isSphere_valid h8
  have hi13 := R27.short_len2 h11
  have h9 := of_decide_eq_false h9
  refine J_skip (JX_then (J_seq (J_region ?_)))
  refine JO_read (Value.agg ((DataSet.enc base)).toArray) rfl trivial (x_loadN 0 (DataSet.enc base) rfl rfl Ty.ag24 Ty.sz24 rfl) ?_
  refine jr_ (Value.slice altsA alts.length altsC) ?_
  refine jr_ (Value.slice lA l.length lC) ?_
  refine JO_callB [] [] [Ent.blk b1 24 (DataSet.enc base)] rfl trivial (fun _ => x_call Ty.ca14 rfl) (fun _ h => h) (fun _ h => by cases h) (fun w hS => f14_ok base alts altsA altsC l lA lC w (altsR.on hS (fun _ h => by cases h)) (lR.on hS (fun _ h => by cases h)) hy_ hy_ hy_) ?_
  rintro wc _ _ wbhB15 ⟨rds, rdsA, rdsC, rfl, rfl, rdsR, rdsN, hf14⟩ hc0 hB15
  have altsR := altsR.again hB15
  have lR := lR.again hB15
  have rdsR := rdsR.mono (lown_range hc0)
  have rdsN := fun i => (rdsN i).mono (lown_range hc0)
  refine jr_ (Value.tuple #[Value.agg #[Value.slice rdsA rds.length rdsC, Value.pointer none], vB true]) ?_
  refine jr_ (Value.agg #[Value.slice rdsA rds.length rdsC, Value.pointer none]) ?_
  refine jr_ (vB true) ?_
  refine JO_op rfl trivial (O_alloc Ty.ze34 rfl fun b16 => ?_)
  refine JO_op rfl trivial (O_store 0 [Value.slice rdsA rds.length rdsC, Value.pointer none] [Ent.blk b16 34 [Value.slice rdsA rds.length rdsC, Value.pointer none], Ent.blk b1 24 (DataSet.enc base)] rfl rfl rfl Ty.sz34 rfl (Nat.le_of_ble_eq_true rfl) rfl rfl rfl ?_)
  refine jr_ (vB true) ?_
  refine JO_nil (JX_then (J_seq (J_seq (J_region ?_))))
  refine jr_ (Value.slice altsA alts.length altsC) ?_
  refine js_ (vI ((alts.length : Nat) : Int)) (x_len_sl Try.underlying25 rfl) ?_
  refine jr_ (vI 0) ?_
  refine JO_nil (JX_then (J_block ?_))
  refine J_loop (X := Nat) (fun (i : Nat) => (i ≤ alts.length)) (fun (i : Nat) => [(3, vS k), (4, Value.pointer (some ⟨b1, 0, none⟩)), (9, Value.pointer (some ⟨b16, 0, none⟩)), (10, vB true), (39, Value.slice altsA alts.length altsC), (40, vI ((alts.length : Nat) : Int)), (41, vI ((i : Nat) : Int))]) (fun (i : Nat) => [Ent.blk b16 34 [Value.slice rdsA rds.length rdsC, Value.pointer none], Ent.blk b1 24 (DataSet.enc base)]) (fun (i : Nat) => alts.length - i) (0 : Nat) ?_ ⟨rfl, rfl, rfl, rfl, rfl, rfl, rfl, trivial⟩ (fun _ h => h) ?_
  ·show (0 ≤ alts.length)
   first | rfl | omega | (simp_all; done) | (simp_all; omega)
  intro i hI1
  have i1_0 : (i ≤ alts.length) := hI1
  have hr := hf14
  have hm := hr.2.1
  have hm1 : ∀ i, (rds.getD i default).Pairs.length ≤ 1000 := fun i => Nat.le_trans (R27.small_get hr.2 i) (by omega)
  have hm2 := hr.2.2.2
  refine J_weaken (E' := [(3, vS k), (4, Value.pointer (some ⟨b1, 0, none⟩)), (9, Value.pointer (some ⟨b16, 0, none⟩)), (10, vB true), (39, Value.slice altsA alts.length altsC), (40, vI ((alts.length : Nat) : Int)), (41, vI ((i : Nat) : Int))]) (L' := [Ent.blk b16 34 [Value.slice rdsA rds.length rdsC, Value.pointer none], Ent.blk b1 24 (DataSet.enc base)]) ⟨rfl, rfl, rfl, rfl, rfl, rfl, rfl, trivial⟩ (fun _ h => h) ?_
  refine J_seq (J_region ?_)
  refine js_ (vB (decide (((i : Nat) : Int) < ((alts.length : Nat) : Int)))) (x_lss_i rfl rfl) ?_
  refine JO_nil (JX_then (J_seq ?_))
  refine J_cond (decide (((i : Nat) : Int) < ((alts.length : Nat) : Int))) rfl rfl (fun h17 => ?_) (fun h17 => ?_)
  ·have h17w := h17
   have h17 := of_decide_eq_true h17
   refine J_skip (JX_then (J_seq (J_block (J_seq (J_region ?_)))))
   refine JO_read (Value.pointer (some (adr altsA (i * 21)))) rfl trivial (x_indexAddr_at (k := i) (off := i * 21) (cells_ro altsR) Try.underlying25 Ty.sz24 rfl rfl lt_ (by rw [flat_length DataSet.enc 21 DataSet.enc_len]; first | omega | (simp; omega) | (simp_all; omega) | (simp_all; done)) rfl) ?_
   refine JO_read (Value.agg ((DataSet.enc (alts.getD i default))).toArray) rfl trivial (x_loadN_at (DataSet.enc (alts.getD i default)) (cells_ro altsR) rfl Ty.ag24 Ty.sz24 (flat_drop DataSet.enc 21 DataSet.enc_len alts default i lt_)) ?_
   refine JO_op rfl trivial (O_alloc Ty.ze24 rfl fun b18 => ?_)
   refine JO_op rfl trivial (O_storeS (vs := (DataSet.enc (alts.getD i default))) 0 (DataSet.enc (alts.getD i default)) [Ent.blk b18 24 (DataSet.enc (alts.getD i default)), Ent.blk b16 34 [Value.slice rdsA rds.length rdsC, Value.pointer none], Ent.blk b1 24 (DataSet.enc base)] rfl rfl rfl Ty.sz24 rfl (Nat.le_of_ble_eq_true rfl) rfl (st_all rfl) rfl ?_)
   refine JO_nil (JX_then (J_seq (J_region ?_)))
   refine JO_read (Value.agg #[Value.slice rdsA rds.length rdsC, Value.pointer none]) rfl trivial (x_loadN 1 [Value.slice rdsA rds.length rdsC, Value.pointer none] rfl rfl Ty.ag34 Ty.sz34 rfl) ?_
   refine js_ (Value.iface 34 (Value.agg #[Value.slice rdsA rds.length rdsC, Value.pointer none])) (x_iface rfl (by kernel_rfl)) ?_
   refine JO_read (Value.agg ((DataSet.enc (alts.getD i default))).toArray) rfl trivial (x_loadN 0 (DataSet.enc (alts.getD i default)) rfl rfl Ty.ag24 Ty.sz24 rfl) ?_
   refine jr_ (vS k) ?_
   refine JO_call [] [] [Ent.blk b18 24 (DataSet.enc (alts.getD i default)), Ent.blk b16 34 [Value.slice rdsA rds.length rdsC, Value.pointer none], Ent.blk b1 24 (DataSet.enc base)] rfl trivial (fun _ => x_call Ty.ca15 rfl) (fun _ h => h) (fun _ h => by cases h) (fun w hS => f15_ok rds rdsA rdsC (alts.getD i default) k 1024 w (rdsR.on hS (fun _ h => by cases h)) (fun i => (rdsN i).on hS (fun _ h => by cases h)) hy_ (by first | assumption | exact R27.pl_of_all rfl) hy_ (by first | assumption | exact R27.sh_of_all rfl)) ?_
   rintro _ _ ⟨A19, cc20, rfl, rfl⟩
   have ha21 := R27.find_len rds (alts.getD i default) k 1024
   have ha22 := R27.find_len rds (alts.getD i default) k 1024
   refine jr_ (Value.tuple #[Value.slice A19 ((R27.find rds (alts.getD i default) k 1024).1.length) cc20, vI ((R27.find rds (alts.getD i default) k 1024).2)]) ?_
   refine jr_ (Value.slice A19 ((R27.find rds (alts.getD i default) k 1024).1.length) cc20) ?_
   refine jr_ (vI ((R27.find rds (alts.getD i default) k 1024).2)) ?_
   refine jr_ (Value.slice A19 ((R27.find rds (alts.getD i default) k 1024).1.length) cc20) ?_
   refine jr_ (vI ((R27.find rds (alts.getD i default) k 1024).2)) ?_
   refine JO_nil (JX_then (J_seq (J_seq (J_region ?_))))
   refine jr_ (vS k) ?_
   refine js_ (vI ((k.length : Nat) : Int)) (x_len_s rfl Try.underlying9) ?_
   refine js_ (Value.pointer (some ⟨b18, 13, none⟩)) (x_fieldAddr Ty.fi24_13 rfl rfl) ?_
   refine JO_read (vI ((alts.getD i default).AltLength)) rfl trivial (x_load 1 rfl rfl Ty.sc3 rfl) ?_
   refine js_ (vB (decide (((k.length : Nat) : Int) ≠ (alts.getD i default).AltLength))) (x_neq_i rfl rfl) ?_
   refine JO_nil (JX_then ?_)
   refine J_cond (decide (((k.length : Nat) : Int) ≠ (alts.getD i default).AltLength)) rfl rfl (fun h23 => ?_) (fun h23 => ?_)
   ·have h23w := h23
    have h23 := of_decide_eq_true h23
    refine J_seq (J_seq (J_region ?_))
    refine jr_ (vI ((R27.find rds (alts.getD i default) k 1024).2)) ?_
    refine js_ (vB (decide ((R27.find rds (alts.getD i default) k 1024).2 ≠ 2))) (x_neq_i rfl rfl) ?_
    refine jr_ (vB (decide ((R27.find rds (alts.getD i default) k 1024).2 ≠ 2))) ?_
    refine JO_cut 4 (fun z => z = ((decide ((R27.find rds (alts.getD i default) k 1024).2 ≠ 2)) || (decide ((0 : Int) < (((R27.find rds (alts.getD i default) k 1024).1.length : Nat) : Int))))) (fun z => [(3, vS k), (4, Value.pointer (some ⟨b1, 0, none⟩)), (9, Value.pointer (some ⟨b16, 0, none⟩)), (10, vB true), (39, Value.slice altsA alts.length altsC), (40, vI ((alts.length : Nat) : Int)), (41, vI ((i : Nat) : Int)), (12, Value.pointer (some ⟨b18, 0, none⟩)), (13, Value.slice A19 ((R27.find rds (alts.getD i default) k 1024).1.length) cc20), (14, vI ((R27.find rds (alts.getD i default) k 1024).2)), (64, vB z)]) (fun _ => [Ent.row (.slice A19 ((R27.find rds (alts.getD i default) k 1024).1).length cc20) 9 1 ((R27.find rds (alts.getD i default) k 1024).1).length (((R27.find rds (alts.getD i default) k 1024).1).map vS), Ent.blk b18 24 (DataSet.enc (alts.getD i default)), Ent.blk b16 34 [Value.slice rdsA rds.length rdsC, Value.pointer none], Ent.blk b1 24 (DataSet.enc base)]) ?_ ?_
    ·rcases Bool.eq_false_or_eq_true (decide ((R27.find rds (alts.getD i default) k 1024).2 ≠ 2)) with g25 | g25
     ·have g25r := g25
      have g25r := of_decide_eq_true g25r
      refine sh_ g25 ?_
      refine sh_ g25 ?_
      refine sh_ g25 ?_
      refine js_ (vB true) (x_pick_t rfl g25 rfl) ?_
      refine JO_nil (JX_cut (true) (by rw [g25]; simp) ⟨rfl, rfl, rfl, rfl, rfl, rfl, rfl, rfl, rfl, rfl, rfl, trivial⟩ (fun _ h => h))
     ·have g25r := g25
      have g25r := of_decide_eq_false g25r
      refine jg_ g25 (Value.slice A19 ((R27.find rds (alts.getD i default) k 1024).1.length) cc20) (rfl) ?_
      refine jg_ g25 (vI (((R27.find rds (alts.getD i default) k 1024).1.length : Nat) : Int)) (x_len_sl Try.underlying47 rfl) ?_
      refine jg_ g25 (vB (decide ((0 : Int) < (((R27.find rds (alts.getD i default) k 1024).1.length : Nat) : Int)))) (x_gtr_i rfl rfl) ?_
      refine js_ (vB (decide ((0 : Int) < (((R27.find rds (alts.getD i default) k 1024).1.length : Nat) : Int)))) (x_pick_f rfl g25 rfl) ?_
      refine JO_nil (JX_cut (decide ((0 : Int) < (((R27.find rds (alts.getD i default) k 1024).1.length : Nat) : Int))) (by rw [g25]; simp) ⟨rfl, rfl, rfl, rfl, rfl, rfl, rfl, rfl, rfl, rfl, rfl, trivial⟩ (fun _ h => h))
    rintro z24 rfl
    refine JO_nil (JX_then ?_)
    refine J_cond ((decide ((R27.find rds (alts.getD i default) k 1024).2 ≠ 2)) || (decide ((0 : Int) < (((R27.find rds (alts.getD i default) k 1024).1.length : Nat) : Int)))) rfl rfl (fun h26 => ?_) (fun h26 => ?_)
    ·have h26w := h26
     simp only [Bool.and_eq_true, Bool.or_eq_true, Bool.and_eq_false_iff, Bool.or_eq_false_iff, Bool.not_eq_true', Bool.not_eq_false', decide_eq_true_eq, decide_eq_false_iff_not] at h26
     refine J_seq (J_region ?_)
     refine jr_ (vB false) ?_
     refine JO_nil (JX_then (J_ret (JX_then_ret (JX_then_ret (JX_block_ret ?_)))))
     refine JX_then_ret (JX_round_ret (JX_block_ret (JX_then_ret ?_)))
     exact False.elim (by first | exact R27.paths_b1 (by omega) (by assumption) (by assumption) (by assumption) | exact R27.paths_b2 (by omega) (by assumption) hr (by omega) (by assumption) i2_1 (by omega) (by assumption))
    ·have h26w := h26
     have ⟨h26, h27⟩ := bor_false h26
     have h26 := of_decide_eq_false h26
     have h27 := of_decide_eq_false h27
     refine J_skip (JX_then (J_exit (JX_then_exit (JX_block_hit (JX_then ?_)))))
     refine J_region ?_
     refine js_ (vI ((i + 1 : Nat) : Int)) (x_add_n (a := i) (b := 1) rfl rfl (by omega)) ?_
     refine jr_ (vI ((i + 1 : Nat) : Int)) ?_
     refine JO_nil ?_
     refine JX_round (i + 1 : Nat) ?_ ?_ ⟨rfl, rfl, rfl, rfl, rfl, rfl, rfl, trivial⟩ (fun _ h => h.keep [false, false, true, true] rfl)
     ·show ((i + 1) ≤ alts.length)
      first | rfl | omega | (simp_all; done) | (simp_all; omega)
     ·show alts.length - (i + 1) < alts.length - i
      first | omega | (simp; omega) | (simp_all; omega)
   ·have h23w := h23
    have h23 := of_decide_eq_false h23
    refine J_skip (JX_then (J_seq (J_region ?_)))
    refine JO_op rfl trivial (O_buildSlice0 Try.underlying47 Ty.sz9 fun b28 => ?_)
    refine jr_ (Value.slice (some ⟨b28, 0, none⟩) 0 0) ?_
    refine JO_nil (JX_then (J_seq (J_seq (J_region ?_))))
    refine JO_read (Value.agg #[Value.slice rdsA rds.length rdsC, Value.pointer none]) rfl trivial (x_loadN 3 [Value.slice rdsA rds.length rdsC, Value.pointer none] rfl rfl Ty.ag34 Ty.sz34 rfl) ?_
    refine js_ (Value.pointer (some ⟨b1, 0, none⟩)) (x_fieldAddr Ty.fi24_0 rfl rfl) ?_
    refine JO_read (vI base.Id) rfl trivial (x_load 4 rfl rfl Ty.sc3 rfl) ?_
    refine JO_call [] [] [Ent.blk b28 9 [], Ent.row (.slice A19 ((R27.find rds (alts.getD i default) k 1024).1).length cc20) 9 1 ((R27.find rds (alts.getD i default) k 1024).1).length (((R27.find rds (alts.getD i default) k 1024).1).map vS), Ent.blk b18 24 (DataSet.enc (alts.getD i default)), Ent.blk b16 34 [Value.slice rdsA rds.length rdsC, Value.pointer none], Ent.blk b1 24 (DataSet.enc base)] rfl trivial (fun _ => x_call Ty.ca16 rfl) (fun _ h => h) (fun _ h => by cases h) (fun w hS => f16_ok rds rdsA rdsC base.Id w (rdsR.on hS (fun _ h => by cases h)) (fun i => (rdsN i).on hS (fun _ h => by cases h)) hy_ hy_) ?_
    rintro _ _ ⟨rfl, rfl⟩
    have ha29 := R27.ofD_len (by assumption) base.Id
    refine js_ (vI (((R27.ofD rds base.Id).Pairs.length : Nat) : Int)) (x_len_sl Try.underlying50 rfl) ?_
    refine jr_ (vI 0) ?_
    refine JO_nil (JX_then (J_block ?_))
    refine J_loop (X := Nat × (List Bytes) × (Option Addr) × Nat) (fun (⟨j, want, wantA, wantC⟩ : Nat × (List Bytes) × (Option Addr) × Nat) => (j ≤ (R27.ofD rds base.Id).Pairs.length) ∧ (want = R27.wantK (alts.getD i default) k ((R27.ofD rds base.Id).Pairs.take j)) ∧ (want.length ≤ j)) (fun (⟨j, want, wantA, wantC⟩ : Nat × (List Bytes) × (Option Addr) × Nat) => [(3, vS k), (4, Value.pointer (some ⟨b1, 0, none⟩)), (9, Value.pointer (some ⟨b16, 0, none⟩)), (10, vB true), (39, Value.slice altsA alts.length altsC), (40, vI ((alts.length : Nat) : Int)), (41, vI ((i : Nat) : Int)), (12, Value.pointer (some ⟨b18, 0, none⟩)), (13, Value.slice A19 ((R27.find rds (alts.getD i default) k 1024).1.length) cc20), (14, vI ((R27.find rds (alts.getD i default) k 1024).2)), (15, Value.slice wantA want.length wantC), (69, Value.slice (R27.ofD rds base.Id).PairsA ((R27.ofD rds base.Id).Pairs.length) ((R27.ofD rds base.Id).PairsC)), (70, vI (((R27.ofD rds base.Id).Pairs.length : Nat) : Int)), (71, vI ((j : Nat) : Int))]) (fun (⟨j, want, wantA, wantC⟩ : Nat × (List Bytes) × (Option Addr) × Nat) => [Ent.row (.slice A19 ((R27.find rds (alts.getD i default) k 1024).1).length cc20) 9 1 ((R27.find rds (alts.getD i default) k 1024).1).length (((R27.find rds (alts.getD i default) k 1024).1).map vS), Ent.blk b18 24 (DataSet.enc (alts.getD i default)), Ent.blk b16 34 [Value.slice rdsA rds.length rdsC, Value.pointer none], Ent.blk b1 24 (DataSet.enc base), Ent.row (.slice wantA want.length wantC) 9 1 want.length (want.map vS)]) (fun (⟨j, want, wantA, wantC⟩ : Nat × (List Bytes) × (Option Addr) × Nat) => (R27.ofD rds base.Id).Pairs.length - j) ((0, ([] : List Bytes), (some ⟨b28, 0, none⟩), 0) : Nat × (List Bytes) × (Option Addr) × Nat) ?_ ⟨rfl, rfl, rfl, rfl, rfl, rfl, rfl, rfl, rfl, rfl, rfl, rfl, rfl, rfl, trivial⟩ (fun _ h => (((((St.torow (cs := []) h 1 0 rfl (by decide)).front 4 _ rfl).front 4 _ rfl).front 4 _ rfl).front 4 _ rfl).keep [true, true, true, true, true] rfl) ?_
    ·show (0 ≤ (R27.ofD rds base.Id).Pairs.length) ∧ (([] : List Bytes) = R27.wantK (alts.getD i default) k ((R27.ofD rds base.Id).Pairs.take 0)) ∧ (([] : List Bytes).length ≤ 0)
     refine ⟨?_, ?_, ?_⟩
     ·first | rfl | omega | (simp_all; done) | (simp_all; omega)
     ·rfl
     ·exact Nat.le_refl _
    rintro ⟨j, want, wantA, wantC⟩ hI2
    obtain ⟨i2_0, i2_1, i2_2⟩ : (j ≤ (R27.ofD rds base.Id).Pairs.length) ∧ (want = R27.wantK (alts.getD i default) k ((R27.ofD rds base.Id).Pairs.take j)) ∧ (want.length ≤ j) := hI2
    refine J_weaken (E' := [(3, vS k), (4, Value.pointer (some ⟨b1, 0, none⟩)), (9, Value.pointer (some ⟨b16, 0, none⟩)), (10, vB true), (39, Value.slice altsA alts.length altsC), (40, vI ((alts.length : Nat) : Int)), (41, vI ((i : Nat) : Int)), (12, Value.pointer (some ⟨b18, 0, none⟩)), (13, Value.slice A19 ((R27.find rds (alts.getD i default) k 1024).1.length) cc20), (14, vI ((R27.find rds (alts.getD i default) k 1024).2)), (15, Value.slice wantA want.length wantC), (69, Value.slice (R27.ofD rds base.Id).PairsA ((R27.ofD rds base.Id).Pairs.length) ((R27.ofD rds base.Id).PairsC)), (70, vI (((R27.ofD rds base.Id).Pairs.length : Nat) : Int)), (71, vI ((j : Nat) : Int))]) (L' := [Ent.row (.slice A19 ((R27.find rds (alts.getD i default) k 1024).1).length cc20) 9 1 ((R27.find rds (alts.getD i default) k 1024).1).length (((R27.find rds (alts.getD i default) k 1024).1).map vS), Ent.blk b18 24 (DataSet.enc (alts.getD i default)), Ent.blk b16 34 [Value.slice rdsA rds.length rdsC, Value.pointer none], Ent.blk b1 24 (DataSet.enc base), Ent.row (.slice wantA want.length wantC) 9 1 want.length (want.map vS)]) ⟨rfl, rfl, rfl, rfl, rfl, rfl, rfl, rfl, rfl, rfl, rfl, rfl, rfl, rfl, trivial⟩ (fun _ h => h) ?_
    refine J_seq (J_region ?_)
    refine js_ (vB (decide (((j : Nat) : Int) < (((R27.ofD rds base.Id).Pairs.length : Nat) : Int)))) (x_lss_i rfl rfl) ?_
    refine JO_nil (JX_then (J_seq ?_))
    refine J_cond (decide (((j : Nat) : Int) < (((R27.ofD rds base.Id).Pairs.length : Nat) : Int))) rfl rfl (fun h30 => ?_) (fun h30 => ?_)
    ·have h30w := h30
     have h30 := of_decide_eq_true h30
     refine J_skip (JX_then (J_seq (J_block (J_seq (J_region ?_)))))
     refine JO_read (Value.pointer (some (adr (R27.ofD rds base.Id).PairsA (j * 2)))) rfl trivial (x_indexAddr_at (k := j) (off := j * 2) (cells_ro (R27.ofD_ro rdsN base.Id)) Try.underlying50 Ty.sz53 rfl rfl lt_ (by rw [flat_length Pair.enc 2 Pair.enc_len]; first | omega | (simp; omega) | (simp_all; omega) | (simp_all; done)) rfl) ?_
     refine JO_read (Value.agg #[vS ((((R27.ofD rds base.Id).Pairs).getD j default).key), vS ((((R27.ofD rds base.Id).Pairs).getD j default).record)]) rfl trivial (x_loadN_at [vS ((((R27.ofD rds base.Id).Pairs).getD j default).key), vS ((((R27.ofD rds base.Id).Pairs).getD j default).record)] (cells_ro (R27.ofD_ro rdsN base.Id)) rfl Ty.ag53 Ty.sz53 (flat_drop Pair.enc 2 Pair.enc_len ((R27.ofD rds base.Id).Pairs) default j lt_)) ?_
     refine JO_op rfl trivial (O_alloc Ty.ze53 rfl fun b31 => ?_)
     refine JO_op rfl trivial (O_store 0 [vS ((((R27.ofD rds base.Id).Pairs).getD j default).key), vS ((((R27.ofD rds base.Id).Pairs).getD j default).record)] [Ent.blk b31 53 [vS ((((R27.ofD rds base.Id).Pairs).getD j default).key), vS ((((R27.ofD rds base.Id).Pairs).getD j default).record)], Ent.row (.slice A19 ((R27.find rds (alts.getD i default) k 1024).1).length cc20) 9 1 ((R27.find rds (alts.getD i default) k 1024).1).length (((R27.find rds (alts.getD i default) k 1024).1).map vS), Ent.blk b18 24 (DataSet.enc (alts.getD i default)), Ent.blk b16 34 [Value.slice rdsA rds.length rdsC, Value.pointer none], Ent.blk b1 24 (DataSet.enc base), Ent.row (.slice wantA want.length wantC) 9 1 want.length (want.map vS)] rfl rfl rfl Ty.sz53 rfl (Nat.le_of_ble_eq_true rfl) rfl rfl rfl ?_)
     refine JO_nil (JX_then (J_seq (J_region ?_)))
     refine JO_read (Value.agg ((DataSet.enc (alts.getD i default))).toArray) rfl trivial (x_loadN 2 (DataSet.enc (alts.getD i default)) rfl rfl Ty.ag24 Ty.sz24 rfl) ?_
     refine js_ (Value.pointer (some ⟨b31, 1, none⟩)) (x_fieldAddr Ty.fi53_1 rfl rfl) ?_
     refine JO_read (vS ((((R27.ofD rds base.Id).Pairs).getD j default).record)) rfl trivial (x_load 0 rfl rfl Ty.sc9 rfl) ?_
     refine JO_call [] [] [Ent.blk b31 53 [vS ((((R27.ofD rds base.Id).Pairs).getD j default).key), vS ((((R27.ofD rds base.Id).Pairs).getD j default).record)], Ent.row (.slice A19 ((R27.find rds (alts.getD i default) k 1024).1).length cc20) 9 1 ((R27.find rds (alts.getD i default) k 1024).1).length (((R27.find rds (alts.getD i default) k 1024).1).map vS), Ent.blk b18 24 (DataSet.enc (alts.getD i default)), Ent.blk b16 34 [Value.slice rdsA rds.length rdsC, Value.pointer none], Ent.blk b1 24 (DataSet.enc base), Ent.row (.slice wantA want.length wantC) 9 1 want.length (want.map vS)] rfl trivial (fun _ => x_call Ty.ca17 rfl) (fun _ h => h) (fun _ h => by cases h) (fun w hS => f17_ok (alts.getD i default) ((((R27.ofD rds base.Id).Pairs).getD j default).record) w) ?_
     rintro _ _ ⟨rfl, rfl⟩
     refine jr_ (Value.tuple #[vS ((R26.key (alts.getD i default) ((((R27.ofD rds base.Id).Pairs).getD j default).record)).1), vB ((R26.key (alts.getD i default) ((((R27.ofD rds base.Id).Pairs).getD j default).record)).2)]) ?_
     refine jr_ (vS ((R26.key (alts.getD i default) ((((R27.ofD rds base.Id).Pairs).getD j default).record)).1)) ?_
     refine jr_ (vB ((R26.key (alts.getD i default) ((((R27.ofD rds base.Id).Pairs).getD j default).record)).2)) ?_
     refine jr_ (vS ((R26.key (alts.getD i default) ((((R27.ofD rds base.Id).Pairs).getD j default).record)).1)) ?_
     refine jr_ (vB ((R26.key (alts.getD i default) ((((R27.ofD rds base.Id).Pairs).getD j default).record)).2)) ?_
     refine JO_nil (JX_then (J_seq (J_region ?_)))
     refine jr_ (vB ((R26.key (alts.getD i default) ((((R27.ofD rds base.Id).Pairs).getD j default).record)).2)) ?_
     refine jr_ (vB ((R26.key (alts.getD i default) ((((R27.ofD rds base.Id).Pairs).getD j default).record)).2)) ?_
     refine JO_cut 4 (fun z => z = (((R26.key (alts.getD i default) ((((R27.ofD rds base.Id).Pairs).getD j default).record)).2) && (decide ((R26.key (alts.getD i default) ((((R27.ofD rds base.Id).Pairs).getD j default).record)).1 = k)))) (fun z => [(3, vS k), (4, Value.pointer (some ⟨b1, 0, none⟩)), (9, Value.pointer (some ⟨b16, 0, none⟩)), (10, vB true), (39, Value.slice altsA alts.length altsC), (40, vI ((alts.length : Nat) : Int)), (41, vI ((i : Nat) : Int)), (12, Value.pointer (some ⟨b18, 0, none⟩)), (13, Value.slice A19 ((R27.find rds (alts.getD i default) k 1024).1.length) cc20), (14, vI ((R27.find rds (alts.getD i default) k 1024).2)), (15, Value.slice wantA want.length wantC), (69, Value.slice (R27.ofD rds base.Id).PairsA ((R27.ofD rds base.Id).Pairs.length) ((R27.ofD rds base.Id).PairsC)), (70, vI (((R27.ofD rds base.Id).Pairs.length : Nat) : Int)), (71, vI ((j : Nat) : Int)), (17, Value.pointer (some ⟨b31, 0, none⟩)), (87, vB z)]) (fun _ => [Ent.blk b31 53 [vS ((((R27.ofD rds base.Id).Pairs).getD j default).key), vS ((((R27.ofD rds base.Id).Pairs).getD j default).record)], Ent.row (.slice A19 ((R27.find rds (alts.getD i default) k 1024).1).length cc20) 9 1 ((R27.find rds (alts.getD i default) k 1024).1).length (((R27.find rds (alts.getD i default) k 1024).1).map vS), Ent.blk b18 24 (DataSet.enc (alts.getD i default)), Ent.blk b16 34 [Value.slice rdsA rds.length rdsC, Value.pointer none], Ent.blk b1 24 (DataSet.enc base), Ent.row (.slice wantA want.length wantC) 9 1 want.length (want.map vS)]) ?_ ?_
     ·rcases Bool.eq_false_or_eq_true ((R26.key (alts.getD i default) ((((R27.ofD rds base.Id).Pairs).getD j default).record)).2) with g33 | g33
      ·have g33r := g33
       have hi34 := R26.key_facts g33r
       refine jg_ g33 (vS ((R26.key (alts.getD i default) ((((R27.ofD rds base.Id).Pairs).getD j default).record)).1)) (rfl) ?_
       refine jg_ g33 (vS k) (rfl) ?_
       refine jg_ g33 (vB (decide ((R26.key (alts.getD i default) ((((R27.ofD rds base.Id).Pairs).getD j default).record)).1 = k))) (x_eql_s rfl rfl) ?_
       refine js_ (vB (decide ((R26.key (alts.getD i default) ((((R27.ofD rds base.Id).Pairs).getD j default).record)).1 = k))) (x_pick_t rfl g33 rfl) ?_
       refine JO_nil (JX_cut (decide ((R26.key (alts.getD i default) ((((R27.ofD rds base.Id).Pairs).getD j default).record)).1 = k)) (by rw [g33]; simp) ⟨rfl, rfl, rfl, rfl, rfl, rfl, rfl, rfl, rfl, rfl, rfl, rfl, rfl, rfl, rfl, rfl, trivial⟩ (fun _ h => h))
      ·have g33r := g33
       refine sh_ g33 ?_
       refine sh_ g33 ?_
       refine sh_ g33 ?_
       refine js_ (vB false) (x_pick_f rfl g33 rfl) ?_
       refine JO_nil (JX_cut (false) (by rw [g33]; simp) ⟨rfl, rfl, rfl, rfl, rfl, rfl, rfl, rfl, rfl, rfl, rfl, rfl, rfl, rfl, rfl, rfl, trivial⟩ (fun _ h => h))
     rintro z32 rfl
     refine JO_nil (JX_then ?_)
     refine J_cond (((R26.key (alts.getD i default) ((((R27.ofD rds base.Id).Pairs).getD j default).record)).2) && (decide ((R26.key (alts.getD i default) ((((R27.ofD rds base.Id).Pairs).getD j default).record)).1 = k))) rfl rfl (fun h35 => ?_) (fun h35 => ?_)
     ·have h35w := h35
      have ⟨h35, h36⟩ := band_true h35
      have hi37 := R26.key_facts h35
      have h36 := of_decide_eq_true h36
      refine J_region ?_
      refine jr_ (Value.slice wantA want.length wantC) ?_
      refine js_ (Value.pointer (some ⟨b31, 0, none⟩)) (x_fieldAddr Ty.fi53_0 rfl rfl) ?_
      refine JO_read (vS ((((R27.ofD rds base.Id).Pairs).getD j default).key)) rfl trivial (x_load 0 rfl rfl Ty.sc9 rfl) ?_
      refine JO_op rfl trivial (O_buildSlice (cs := [vS ((((R27.ofD rds base.Id).Pairs).getD j default).key)]) Try.underlying47 Ty.sz9 Ty.ze9 (by decide) (by decide) (by kernel_rfl) fun b38 => ?_)
      refine JO_op rfl trivial (O_append_m 6 vS want [(((R27.ofD rds base.Id).Pairs).getD j default).key] Try.underlying47 Ty.sz9 Ty.by9 Ty.ze9 rfl rfl rfl rfl rfl (fun _ => rfl) (cells_blk 0 (off := 0) (m := 1) rfl rfl) lt_ lt_ fun A39 c40 => ?_)
      refine jr_ (Value.slice A39 ((want ++ [(((R27.ofD rds base.Id).Pairs).getD j default).key]).length) c40) ?_
      refine JO_nil (JX_block (JX_then (J_region ?_)))
      refine js_ (vI ((j + 1 : Nat) : Int)) (x_add_n (a := j) (b := 1) rfl rfl (by omega)) ?_
      refine jr_ (vI ((j + 1 : Nat) : Int)) ?_
      refine JO_nil ?_
      refine JX_round ((j + 1, want ++ [(((R27.ofD rds base.Id).Pairs).getD j default).key], A39, c40) : Nat × (List Bytes) × (Option Addr) × Nat) ?_ ?_ ⟨rfl, rfl, rfl, rfl, rfl, rfl, rfl, rfl, rfl, rfl, rfl, rfl, rfl, rfl, trivial⟩ (fun _ h => h.keep [false, false, true, true, true, true, true] rfl)
      ·show ((j + 1) ≤ (R27.ofD rds base.Id).Pairs.length) ∧ ((want ++ [(((R27.ofD rds base.Id).Pairs).getD j default).key]) = R27.wantK (alts.getD i default) k ((R27.ofD rds base.Id).Pairs.take (j + 1))) ∧ ((want ++ [(((R27.ofD rds base.Id).Pairs).getD j default).key]).length ≤ (j + 1))
       refine ⟨?_, ?_, ?_⟩
       ·first | rfl | omega | (simp_all; done) | (simp_all; omega)
       ·first | exact R27.wantK_yes (by omega) i2_1 (by assumption) | exact R27.wantK_no (by omega) i2_1 (by assumption)
       ·(try simp only [List.length_append, List.length_cons, List.length_nil]); omega
      ·show (R27.ofD rds base.Id).Pairs.length - (j + 1) < (R27.ofD rds base.Id).Pairs.length - j
       first | omega | (simp; omega) | (simp_all; omega)
     ·have h35w := h35
      simp only [Bool.and_eq_true, Bool.or_eq_true, Bool.and_eq_false_iff, Bool.or_eq_false_iff, Bool.not_eq_true', Bool.not_eq_false', decide_eq_true_eq, decide_eq_false_iff_not] at h35
      refine J_skip (JX_block (JX_then (J_region ?_)))
      refine js_ (vI ((j + 1 : Nat) : Int)) (x_add_n (a := j) (b := 1) rfl rfl (by omega)) ?_
      refine jr_ (vI ((j + 1 : Nat) : Int)) ?_
      refine JO_nil ?_
      refine JX_round ((j + 1, want, wantA, wantC) : Nat × (List Bytes) × (Option Addr) × Nat) ?_ ?_ ⟨rfl, rfl, rfl, rfl, rfl, rfl, rfl, rfl, rfl, rfl, rfl, rfl, rfl, rfl, trivial⟩ (fun _ h => h.keep [false, true, true, true, true, true] rfl)
      ·show ((j + 1) ≤ (R27.ofD rds base.Id).Pairs.length) ∧ (want = R27.wantK (alts.getD i default) k ((R27.ofD rds base.Id).Pairs.take (j + 1))) ∧ (want.length ≤ (j + 1))
       refine ⟨?_, ?_, ?_⟩
       ·first | rfl | omega | (simp_all; done) | (simp_all; omega)
       ·first | exact R27.wantK_yes (by omega) i2_1 (by assumption) | exact R27.wantK_no (by omega) i2_1 (by assumption)
       ·(try simp only [List.length_append, List.length_cons, List.length_nil]); omega
      ·show (R27.ofD rds base.Id).Pairs.length - (j + 1) < (R27.ofD rds base.Id).Pairs.length - j
       first | omega | (simp; omega) | (simp_all; omega)
    ·have h30w := h30
     have h30 := of_decide_eq_false h30
     refine J_exit (JX_then_exit (JX_round_exit (JX_block_hit (JX_then (J_seq ?_)))))
     refine J_region ?_
     refine jr_ (vI ((R27.find rds (alts.getD i default) k 1024).2)) ?_
     refine js_ (vB (decide ((R27.find rds (alts.getD i default) k 1024).2 ≠ 0))) (x_neq_i rfl rfl) ?_
     refine jr_ (vB (decide ((R27.find rds (alts.getD i default) k 1024).2 ≠ 0))) ?_
     refine JO_cut 5 (fun z => z = ((decide ((R27.find rds (alts.getD i default) k 1024).2 ≠ 0)) || (!(decide (((R27.find rds (alts.getD i default) k 1024).1) = want))))) (fun z => [(3, vS k), (4, Value.pointer (some ⟨b1, 0, none⟩)), (9, Value.pointer (some ⟨b16, 0, none⟩)), (10, vB true), (39, Value.slice altsA alts.length altsC), (40, vI ((alts.length : Nat) : Int)), (41, vI ((i : Nat) : Int)), (101, vB z)]) (fun _ => [Ent.row (.slice A19 ((R27.find rds (alts.getD i default) k 1024).1).length cc20) 9 1 ((R27.find rds (alts.getD i default) k 1024).1).length (((R27.find rds (alts.getD i default) k 1024).1).map vS), Ent.blk b18 24 (DataSet.enc (alts.getD i default)), Ent.blk b16 34 [Value.slice rdsA rds.length rdsC, Value.pointer none], Ent.blk b1 24 (DataSet.enc base), Ent.row (.slice wantA want.length wantC) 9 1 want.length (want.map vS)]) ?_ ?_
     ·rcases Bool.eq_false_or_eq_true (decide ((R27.find rds (alts.getD i default) k 1024).2 ≠ 0)) with g42 | g42
      ·have g42r := g42
       have g42r := of_decide_eq_true g42r
       refine sh_ g42 ?_
       refine sh_ g42 ?_
       refine sh_ g42 ?_
       refine sh_ g42 ?_
       refine js_ (vB true) (x_pick_t rfl g42 rfl) ?_
       refine JO_nil (JX_cut (true) (by rw [g42]; simp) ⟨rfl, rfl, rfl, rfl, rfl, rfl, rfl, rfl, trivial⟩ (fun _ h => h))
      ·have g42r := g42
       have g42r := of_decide_eq_false g42r
       refine jg_ g42 (Value.slice A19 ((R27.find rds (alts.getD i default) k 1024).1.length) cc20) (rfl) ?_
       refine jg_ g42 (Value.slice wantA want.length wantC) (rfl) ?_
       refine JO_call [] [] [Ent.row (.slice A19 ((R27.find rds (alts.getD i default) k 1024).1).length cc20) 9 1 ((R27.find rds (alts.getD i default) k 1024).1).length (((R27.find rds (alts.getD i default) k 1024).1).map vS), Ent.blk b18 24 (DataSet.enc (alts.getD i default)), Ent.blk b16 34 [Value.slice rdsA rds.length rdsC, Value.pointer none], Ent.blk b1 24 (DataSet.enc base), Ent.row (.slice wantA want.length wantC) 9 1 want.length (want.map vS)] rfl ⟨_, rfl, g42⟩ (fun _ => x_call Ty.ca18 rfl) (fun _ h => h) (fun _ h => by cases h) (fun w hS => f18_ok ((R27.find rds (alts.getD i default) k 1024).1) A19 cc20 want wantA wantC w (RO.of_row hS 0 rfl) (RO.of_row hS 4 rfl) hy_) ?_
       rintro _ _ ⟨rfl, rfl⟩
       refine jg_ g42 (vB (!(decide (((R27.find rds (alts.getD i default) k 1024).1) = want)))) (x_not rfl) ?_
       refine js_ (vB (!(decide (((R27.find rds (alts.getD i default) k 1024).1) = want)))) (x_pick_f rfl g42 rfl) ?_
       refine JO_nil (JX_cut (!(decide (((R27.find rds (alts.getD i default) k 1024).1) = want))) (by rw [g42]; simp) ⟨rfl, rfl, rfl, rfl, rfl, rfl, rfl, rfl, trivial⟩ (fun _ h => h))
     rintro z41 rfl
     refine JO_nil (JX_then ?_)
     refine J_cond ((decide ((R27.find rds (alts.getD i default) k 1024).2 ≠ 0)) || (!(decide (((R27.find rds (alts.getD i default) k 1024).1) = want)))) rfl rfl (fun h43 => ?_) (fun h43 => ?_)
     ·have h43w := h43
      simp only [Bool.and_eq_true, Bool.or_eq_true, Bool.and_eq_false_iff, Bool.or_eq_false_iff, Bool.not_eq_true', Bool.not_eq_false', decide_eq_true_eq, decide_eq_false_iff_not] at h43
      refine J_seq (J_region ?_)
      refine jr_ (vB false) ?_
      refine JO_nil (JX_then (J_ret (JX_block_ret (JX_then_ret (JX_round_ret ?_)))))
      refine JX_block_ret (JX_then_ret ?_)
      exact False.elim (by first | exact R27.paths_b1 (by omega) (by assumption) (by assumption) (by assumption) | exact R27.paths_b2 (by omega) (by assumption) hr (by omega) (by assumption) i2_1 (by omega) (by assumption))
     ·have h43w := h43
      have ⟨h43, h44⟩ := bor_false h43
      have h43 := of_decide_eq_false h43
      have h44 : (decide (((R27.find rds (alts.getD i default) k 1024).1) = want)) = true := bnot_false h44
      refine J_skip (JX_block (JX_then (J_region ?_)))
      refine js_ (vI ((i + 1 : Nat) : Int)) (x_add_n (a := i) (b := 1) rfl rfl (by omega)) ?_
      refine jr_ (vI ((i + 1 : Nat) : Int)) ?_
      refine JO_nil ?_
      refine JX_round (i + 1 : Nat) ?_ ?_ ⟨rfl, rfl, rfl, rfl, rfl, rfl, rfl, trivial⟩ (fun _ h => h.keep [false, false, true, true, false] rfl)
      ·show ((i + 1) ≤ alts.length)
       first | rfl | omega | (simp_all; done) | (simp_all; omega)
      ·show alts.length - (i + 1) < alts.length - i
       first | omega | (simp; omega) | (simp_all; omega)
  ·have h17w := h17
   have h17 := of_decide_eq_false h17
   refine J_exit (JX_then_exit (JX_round_exit (JX_block_hit (JX_then (J_seq ?_)))))
   refine J_region ?_
   refine jr_ (vB true) ?_
   refine jr_ (vB true) ?_
   refine JO_nil (JX_then (J_ret ?_))
   refine JX_retsC [vB true] (vB true) Try.results5 (fun w h => ⟨rfl, trivial⟩) rfl [] (fun _ h => h.keep [false, false] rfl) (fun _ _ h => (hB15.back _ _ h)) ⟨?_, ?_⟩
   ·rfl
   ·rfl
end Go.Proofs.Ytmbinhhlfbgiaaa
