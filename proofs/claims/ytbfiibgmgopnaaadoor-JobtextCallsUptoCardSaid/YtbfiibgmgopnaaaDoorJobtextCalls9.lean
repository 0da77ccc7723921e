/- C39b, Pl39j, C39c in one text. -/
import Derived.Test.YtbfiibgmgopnaaaDoorJobtextCalls8
import Derived.Test.YtbfiibgmgopnaaaDoorJobtextCalls4
set_option linter.unusedVariables false
set_option linter.unusedSimpArgs false
namespace Go.Proofs.YtbfiibgmgopnaaaDoor
open Go.GV
set_option linter.unusedVariables false
set_option linter.unusedSimpArgs false
theorem c39b0_ {p : Prop} (h : p := by first | omega | (simp only [sub, List.length_drop, List.length_take]; omega) | (simp; omega) | (simp_all; omega)) : p := h
theorem c39b1_ {p : Prop} (h : p := by first | exact R39.FirJ.wordK q0 (by assumption) (no_such_condition.neg (by omega)) | exact R39.FirJ.wordK q0 (by assumption) hk9 | exact R39.FirJ.no (i1_0.none_ (by omega)) | exact R39.FirJ.no (i1_0.badB (by omega) (by assumption)) | exact R39.FirJ.yes (i1_0.doneB (by omega) (by assumption) (by assumption))) : p := h
theorem c39b2_ {p : Prop} (h : p := by first | omega | (simp only [List.length_append, List.length_cons, List.length_nil]; omega) | (simp; omega) | (simp_all; omega)) : p := h
theorem c39b3_ {p : Prop} (h : p := by first | exact R39.FirJ.wordK q0 (by assumption) (hf3.neg (by omega)) | exact R39.FirJ.wordK q0 (by assumption) hk9 | exact R39.FirJ.no (i1_0.none_ (by omega)) | exact R39.FirJ.no (i1_0.badB (by omega) (by assumption)) | exact R39.FirJ.yes (i1_0.doneB (by omega) (by assumption) (by assumption))) : p := h
theorem c39b4_ {p : Prop} (h : p := by first | exact i1_0.plainB (by omega) (by assumption) (by assumption) | exact i1_0.twoB (by assumption) (by assumption)) : p := h
theorem c39b5_ {p : Prop} (h : p := by first | exact (R39.scanW_none (i1_0.err (by assumption) hf6 (by assumption))) | exact (R39.scanW_some (i1_0.done (Decidable.not_not.1 (by assumption))))) : p := h
theorem c39b6_ {p : Prop} (h : p := by first | exact (R39.scanW_none (i1_0.err (by assumption) no_such_condition (by assumption))) | exact (R39.scanW_some (i1_0.done (Decidable.not_not.1 (by assumption))))) : p := h
theorem c39b7_ {p : Prop} (h : p := by first | exact Nat.zero_le _ | exact R39.scanW_le (R39.scanW_some (i1_0.done (Decidable.not_not.1 (by assumption))))) : p := h
theorem c39b8_ {p : Prop} (h : p := by first | exact fun _ => Nat.zero_le _ | exact R39.scanW_sh (R39.scanW_some (i1_0.done (Decidable.not_not.1 (by assumption))))) : p := h
theorem c39b9_ {p : Prop} (h : p := by exact p1 Tryd.results15 rfl ⟨(eS (by first | exact R39.quote_yB (by assumption) | exact R39.quote_nB (by assumption))), rfl⟩) : p := h
set_option maxRecDepth 20000 in
theorem f24_ok (line : Bytes) (w : World) (q0 : 0 < line.length) (q1 : line.length ≤ 2000000) : Calls Tryd.prog 24 #[vS line] w (Gives [] w fun v L => ∃ w9 : Bytes, ∃ r9 : Bytes, ∃ o9 : Bool, v = Value.tuple #[vS w9, vS r9, vB o9] ∧ L = [] ∧ (R39.FirJ line w9 r9 o9)) := by
 refine calls_J [] 74 Tryd.func24 rfl Tryd.ntmps24 [(0, _)] rfl rfl (Give.nil w) ?_
 refine q_ (g_ (s_ av_ (s_ av_ (s_ av_ (z_ (n_ (q_ (q_ (g_ (s_ mv_ (s_ (x_idx_s (k := 0) rfl rfl Tryd.underlying9 (by omega)) (js_ (vB (decide (line.getD 0 0 ≠ (39 : UInt8)))) (x_neq_u8 rfl rfl) (z_ (n_ ?_))))))))))))))
 refine ifd (fun h1w h1 => ?_) (fun h1w h1 => ?_)
 ·refine q_ (g_ (s_ mv_ ?_))
  refine c1 (cl_ Ty.ca49) (fun w hS => ixf_ok f50_ok line w) ?_
  rintro _ _ ⟨e2, rfl, rfl, hf3⟩
  have ha4 := R39.tw_len line
  refine s_ av_ (z_ (n_ (q_ (q_ (g_ (s_ mv_ (s_ (x_lss_i rfl rfl) (z_ (n_ ?_)))))))))
  refine ifd (fun h5w h5 => ?_) (fun h5w h5 => ?_)
  ·refine g_ (s_ mv_ (s_ (x_len_s rfl Tryd.underlying9) (s_ av_ (z_ (n_ (q_ ?_))))))
   refine drB [] 11 Ty.mixed ?_
   refine jp_ 0 rfl mv_ (jp_ 1 rfl mv_ (jp_ 2 rfl (x_sub_s (lo := 0) (hi := line.length) rfl Tryd.underlying9 (.inr ⟨rfl, rfl⟩) (.inl rfl) lt_ c39b0_) (jp_ 3 rfl mv_ (jp_ 4 rfl mv_ (jp_ 5 rfl (x_sub_s (lo := line.length) (hi := line.length) rfl Tryd.underlying9 (.inl rfl) (.inr ⟨rfl, rfl⟩) lt_ c39b0_) (jp_ 6 rfl mv_ (jp_ 7 rfl (x_gtr_i rfl rfl) (jp_ 8 rfl av_ (jp_ 9 rfl av_ ?_)))))))))
   refine jp_ 10 rfl av_ ?_
   refine JA_done (by kernel_rfl) gm_ ?_
   refine n_ (rt_ (nr_ ?_))
   refine JX_rets [_, _, _] (Value.tuple #[_, _, _]) Tryd.results24 (fun w h => ⟨rfl, rfl, rfl, trivial⟩) rfl _ (fun _ h => h) ⟨sub line 0 line.length, sub line line.length line.length, (decide ((0 : Int) < ((line.length : Nat) : Int))), ?_, ?_, ?_⟩
   ·rfl
   ·rfl
   ·exact c39b3_
  ·obtain ⟨k9, rfl⟩ : ∃ k9 : Nat, e2 = (k9 : Int) := ⟨e2.toNat, by omega⟩
   have hk9 := R39.IxfJ.pos hf3
   refine sk_ (n_ (q_ ?_))
   refine drB [] 11 Ty.mixed ?_
   refine jp_ 0 rfl mv_ (jp_ 1 rfl mv_ (jp_ 2 rfl (x_sub_s (lo := 0) (hi := k9) rfl Tryd.underlying9 (.inr ⟨rfl, rfl⟩) (.inl rfl) lt_ c39b0_) (jp_ 3 rfl mv_ (jp_ 4 rfl mv_ (jp_ 5 rfl (x_sub_s (lo := k9) (hi := line.length) rfl Tryd.underlying9 (.inl rfl) (.inr ⟨rfl, rfl⟩) lt_ c39b0_) (jp_ 6 rfl mv_ (jp_ 7 rfl (x_gtr_i rfl rfl) (jp_ 8 rfl av_ (jp_ 9 rfl av_ ?_)))))))))
   refine jp_ 10 rfl av_ ?_
   refine JA_done (by kernel_rfl) gm_ ?_
   refine n_ (rt_ (nr_ ?_))
   refine JX_rets [_, _, _] (Value.tuple #[_, _, _]) Tryd.results24 (fun w h => ⟨rfl, rfl, rfl, trivial⟩) rfl _ (fun _ h => h) ⟨sub line 0 k9, sub line k9 line.length, (decide ((0 : Int) < ((k9 : Nat) : Int))), ?_, ?_, ?_⟩
   ·rfl
   ·rfl
   ·exact c39b3_
 ·refine sk_ (n_ (q_ (g_ (s_ av_ (z_ (n_ (q_ (q_ (g_ (s_ av_ (z_ (n_ (k_ ?_)))))))))))))
  refine J_loop (X := Nat × (List UInt8) × (Option Addr) × Nat) (fun (⟨i, word, wordA, wordC⟩ : Nat × (List UInt8) × (Option Addr) × Nat) => (R39.QwJ line word i) ∧ (1 ≤ i) ∧ (i ≤ line.length + 1) ∧ (word.length ≤ i)) (fun (⟨i, word, wordA, wordC⟩ : Nat × (List UInt8) × (Option Addr) × Nat) => [(0, vS line), (6, vL wordA word.length wordC), (7, vI ((i : Nat) : Int))]) (fun (⟨i, word, wordA, wordC⟩ : Nat × (List UInt8) × (Option Addr) × Nat) => [Ent.row (.slice wordA word.length wordC) 5 1 word.length (word.map vU8)]) (fun (⟨i, word, wordA, wordC⟩ : Nat × (List UInt8) × (Option Addr) × Nat) => line.length + 1 - i) ((1, ([] : List UInt8), none, 0) : Nat × (List UInt8) × (Option Addr) × Nat) ?_ ⟨rfl, rfl, rfl, trivial⟩ (fun _ h => (h.nilrow 5 1).keep [true] rfl) ?_
  ·try dsimp only
   refine ⟨?_, ?_, ?_, ?_⟩
   ·exact R39.QwJ.start q0 (Decidable.not_not.1 (by assumption))
   ·first | rfl | omega | (simp_all; done) | (simp_all; omega)
   ·first | rfl | omega | (simp_all; done) | (simp_all; omega)
   ·first | rfl | omega | (simp_all; done) | (simp_all; omega)
  rintro ⟨i, word, wordA, wordC⟩ hI1
  obtain ⟨i1_0, i1_1, i1_2, i1_3⟩ := hI1
  try dsimp only at i1_0
  try dsimp only at i1_1
  try dsimp only at i1_2
  try dsimp only at i1_3
  try dsimp only
  refine q_ (q_ (g_ (s_ mv_ (s_ mv_ (s_ (x_len_s rfl Tryd.underlying9) (s_ (x_lss_i rfl rfl) (z_ (n_ ?_))))))))
  refine ifd (fun h6w h6 => ?_) (fun h6w h6 => ?_)
  ·refine sk_ (n_ (q_ (k_ (q_ (g_ (s_ mv_ (s_ mv_ (s_ (x_idx_s (k := i) rfl rfl Tryd.underlying9 (by omega)) (s_ av_ (z_ (n_ (k_ (q_ (g_ (s_ mv_ (js_ (vB (decide (line.getD i 0 < (32 : UInt8)))) (x_lss_u8 rfl rfl) (s_ mv_ ?_)))))))))))))))))
   refine or_ 2 (decide ((126 : UInt8) < line.getD i 0)) (fun g7 => ?_) ?_
   ·have g7r := g7
    have g7r := of_decide_eq_false g7r
    have g7ru := g7r
    try simp only [UInt8.lt_iff_toNat_lt, UInt8.le_iff_toNat_le, UInt8.reduceToNat, UInt32.lt_iff_toNat_lt, UInt32.le_iff_toNat_le, UInt32.reduceToNat, UInt64.lt_iff_toNat_lt, UInt64.le_iff_toNat_le, UInt64.reduceToNat] at g7ru
    refine sg_ g7 mv_ (jg_ g7 (vB (decide ((126 : UInt8) < line.getD i 0))) (x_gtr_u8 rfl rfl) ?_)
    exact cr_
   refine s_ av_ (z_ (n_ ?_))
   refine if_ (fun h8 => ?_) (fun h8 => ?_)
   ·have h8w := h8
    simp only [Bool.and_eq_true, Bool.or_eq_true, Bool.and_eq_false_iff, Bool.or_eq_false_iff, Bool.not_eq_true', Bool.not_eq_false', decide_eq_true_eq, decide_eq_false_iff_not] at h8
    refine q_ (g_ (s_ av_ (s_ av_ (s_ av_ (z_ (n_ (rt_ (kq_ (kq_ (nr_ (rr_ (kq_ (nr_ ?_)))))))))))))
    refine JX_rets [_, _, _] (Value.tuple #[_, _, _]) Tryd.results24 (fun w h => ⟨rfl, rfl, rfl, trivial⟩) rfl _ (fun _ h => h.keep [false] rfl) ⟨[], [], (false), ?_, ?_, ?_⟩
    ·have e_x0 : (false : Bool) = (false) := by first | rfl | omega | (simp_all; done) | (simp_all; omega)
     exact congrArg (fun (x0 : Bool) => Value.tuple #[vS [], vS [], vB x0]) e_x0
    ·rfl
    ·exact c39b1_
   ·have h8w := h8
    have ⟨h8, h9⟩ := bor_false h8
    have h8 := of_decide_eq_false h8
    have h8u := h8
    try simp only [UInt8.lt_iff_toNat_lt, UInt8.le_iff_toNat_le, UInt8.reduceToNat, UInt32.lt_iff_toNat_lt, UInt32.le_iff_toNat_le, UInt32.reduceToNat, UInt64.lt_iff_toNat_lt, UInt64.le_iff_toNat_le, UInt64.reduceToNat] at h8u
    have h9 := of_decide_eq_false h9
    have h9u := h9
    try simp only [UInt8.lt_iff_toNat_lt, UInt8.le_iff_toNat_le, UInt8.reduceToNat, UInt32.lt_iff_toNat_lt, UInt32.le_iff_toNat_le, UInt32.reduceToNat, UInt64.lt_iff_toNat_lt, UInt64.le_iff_toNat_le, UInt64.reduceToNat] at h9u
    refine q_ (g_ (s_ mv_ (js_ (vB (decide (line.getD i 0 ≠ (39 : UInt8)))) (x_neq_u8 rfl rfl) (s_ av_ (z_ (n_ ?_))))))
    refine ifd (fun h10w h10 => ?_) (fun h10w h10 => ?_)
    ·refine g_ (s_ mv_ (s_ mv_ (o_ (O_buildSlice (cs := [vU8 (line.getD i 0)]) Tryd.underlying52 Ty.sz5 Ty.ze5 (by decide) (by decide) (by kernel_rfl) fun b11 => ?_))))
     refine o_ (O_append_m 1 vU8 word [line.getD i 0] Tryd.underlying52 Ty.sz5 Ty.by5 Ty.ze5 rfl rfl rfl rfl rfl (fun _ => rfl) (cells_blk 0 (off := 0) (m := 1) rfl rfl) lt_ lt_ fun A12 c13 => ?_)
     refine s_ av_ (z_ (kx_ (kx_ (n_ (g_ (s_ mv_ (s_ (x_add_n (a := i) (b := 1) rfl rfl (by omega)) (s_ av_ (z_ ?_)))))))))
     refine JX_round ((i + 1, word ++ [line.getD i 0], A12, c13) : Nat × (List UInt8) × (Option Addr) × Nat) ?_ ?_ ⟨rfl, rfl, rfl, trivial⟩ (fun _ h => h.keep [false, true] rfl)
     ·try dsimp only
      refine ⟨?_, ?_, ?_, ?_⟩
      ·exact c39b4_
      ·first | rfl | omega | (simp_all; done) | (simp_all; omega)
      ·first | rfl | omega | (simp_all; done) | (simp_all; omega)
      ·rw [List.length_append, List.length_singleton]; omega
     ·try dsimp only
      first | omega | (simp; omega) | (simp_all; omega)
    ·refine q_ (g_ (s_ mv_ (s_ (x_add_n (a := i) (b := 1) rfl rfl (by omega)) (s_ mv_ (s_ (x_len_s rfl Tryd.underlying9) (s_ (x_lss_i rfl rfl) (s_ mv_ ?_)))))))
     refine and_ 5 (decide (line.getD (i + 1) 0 = (39 : UInt8))) (fun g14 => ?_) ?_
     ·have g14r := g14
      have g14r := of_decide_eq_true g14r
      refine sg_ g14 mv_ (sg_ g14 mv_ (sg_ g14 (x_add_n (a := i) (b := 1) rfl rfl (by omega)) (sg_ g14 (x_idx_s (k := i + 1) rfl rfl Tryd.underlying9 (by omega)) (jg_ g14 (vB (decide (line.getD (i + 1) 0 = (39 : UInt8)))) (x_eql_u8 rfl rfl) ?_))))
      exact cr_
     refine s_ av_ (z_ (xk_ [0, 6, 7, 8, 55] ?_))
     refine n_ ?_
     refine if_ (fun h15 => ?_) (fun h15 => ?_)
     ·have h15w := h15
      have ⟨h15, h16⟩ := band_true h15
      have h15 := of_decide_eq_true h15
      have h16 := of_decide_eq_true h16
      refine q_ (g_ (s_ mv_ (s_ mv_ (o_ (O_buildSlice (cs := [vU8 (line.getD i 0)]) Tryd.underlying52 Ty.sz5 Ty.ze5 (by decide) (by decide) (by kernel_rfl) fun b17 => ?_)))))
      refine o_ (O_append_m 1 vU8 word [line.getD i 0] Tryd.underlying52 Ty.sz5 Ty.by5 Ty.ze5 rfl rfl rfl rfl rfl (fun _ => rfl) (cells_blk 0 (off := 0) (m := 1) rfl rfl) lt_ lt_ fun A18 c19 => ?_)
      refine s_ av_ (z_ (n_ (g_ (s_ mv_ (s_ (x_add_n (a := i) (b := 1) rfl rfl (by omega)) (s_ av_ (z_ (kx_ (kx_ (n_ (g_ (s_ mv_ (s_ (x_add_n (a := i + 1) (b := 1) rfl rfl (by omega)) (s_ av_ (z_ ?_)))))))))))))))
      refine JX_round (((i + 1) + 1, word ++ [line.getD i 0], A18, c19) : Nat × (List UInt8) × (Option Addr) × Nat) ?_ ?_ ⟨rfl, rfl, rfl, trivial⟩ (fun _ h => h.keep [false, true] rfl)
      ·try dsimp only
       refine ⟨?_, ?_, ?_, ?_⟩
       ·exact c39b4_
       ·first | rfl | omega | (simp_all; done) | (simp_all; omega)
       ·first | rfl | omega | (simp_all; done) | (simp_all; omega)
       ·rw [List.length_append, List.length_singleton]; omega
      ·try dsimp only
       first | omega | (simp; omega) | (simp_all; omega)
     ·have h15w := h15
      simp only [Bool.and_eq_true, Bool.or_eq_true, Bool.and_eq_false_iff, Bool.or_eq_false_iff, Bool.not_eq_true', Bool.not_eq_false', decide_eq_true_eq, decide_eq_false_iff_not] at h15
      refine q_ ?_
      refine drB [] 9 Ty.mixed ?_
      refine jp_ 0 rfl mv_ ?_
      refine jt_ 1 (vS word) rfl (x_str_at rfl Tryd.underlying52 Tryd.underlying5 Tryd.underlying9 (cells_row 0 rfl) rfl) ?_
      refine jp_ 2 rfl mv_ (jp_ 3 rfl mv_ (jp_ 4 rfl (x_add_n (a := i) (b := 1) rfl rfl (by omega)) (jp_ 5 rfl (x_sub_s (lo := i + 1) (hi := line.length) rfl Tryd.underlying9 (.inl rfl) (.inr ⟨rfl, rfl⟩) lt_ c39b0_) (jp_ 6 rfl av_ (jp_ 7 rfl av_ (jp_ 8 rfl av_ ?_))))))
      refine JA_done (by kernel_rfl) gm_ ?_
      refine n_ (rt_ (kq_ (kq_ (nr_ (rr_ (kq_ (nr_ ?_)))))))
      refine JX_rets [_, _, _] (Value.tuple #[_, _, _]) Tryd.results24 (fun w h => ⟨rfl, rfl, rfl, trivial⟩) rfl _ (fun _ h => h.keep [false] rfl) ⟨word, sub line (i + 1) line.length, (true), ?_, ?_, ?_⟩
      ·have e_x0 : (true : Bool) = (true) := by first | rfl | omega | (simp_all; done) | (simp_all; omega)
       exact congrArg (fun (x0 : Bool) => Value.tuple #[vS word, vS (sub line (i + 1) line.length), vB x0]) e_x0
      ·rfl
      ·exact c39b1_
  ·refine J_exit (ne_ (re_ (kh_ (n_ (q_ ?_)))))
   refine g_ (s_ av_ (s_ av_ (s_ av_ (z_ (n_ (rt_ ?_))))))
   refine JX_rets [_, _, _] (Value.tuple #[_, _, _]) Tryd.results24 (fun w h => ⟨rfl, rfl, rfl, trivial⟩) rfl _ (fun _ h => h.keep [false] rfl) ⟨[], [], (false), ?_, ?_, ?_⟩
   ·have e_x0 : (false : Bool) = (false) := by first | rfl | omega | (simp_all; done) | (simp_all; omega)
    exact congrArg (fun (x0 : Bool) => Value.tuple #[vS [], vS [], vB x0]) e_x0
   ·rfl
   ·exact c39b1_
set_option maxRecDepth 20000 in
theorem f10_ok (line : Bytes) (w : World) (q0 : line.length ≤ 2000000) : Calls Tryd.prog 10 #[vS line] w (Gives [] w fun v L => ∃ A2 : Option Addr, ∃ c2 : Nat, v = Value.tuple #[vL A2 ((R39.scanW line).length) c2, vI (R39.scanE line)] ∧ L = [Ent.row (.slice A2 (R39.scanW line).length c2) 9 1 (R39.scanW line).length ((R39.scanW line).map vS)]) := by
 refine calls_J [] 37 Tryd.func10 rfl Tryd.ntmps10 [(0, _)] rfl rfl (Give.nil w) ?_
 refine q_ (g_ (s_ av_ (s_ av_ (z_ (n_ (q_ (g_ (s_ av_ (z_ (n_ (q_ (q_ (g_ (s_ mv_ (c0 (cl_ Ty.ca23) (fun w hS => trim_ok line w) ?_)))))))))))))))
 have ha1 := R39.trim_le line
 refine s_ av_ (z_ (n_ (k_ ?_)))
 refine J_loop (X := Bytes × (List Bytes) × (Option Addr) × Nat) (fun (⟨l, out, outA, outC⟩ : Bytes × (List Bytes) × (Option Addr) × Nat) => (R39.ScanJ line out l) ∧ (l.length + out.length ≤ line.length)) (fun (⟨l, out, outA, outC⟩ : Bytes × (List Bytes) × (Option Addr) × Nat) => [(0, vS l), (4, vL outA out.length outC)]) (fun (⟨l, out, outA, outC⟩ : Bytes × (List Bytes) × (Option Addr) × Nat) => [Ent.row (.slice outA out.length outC) 9 1 out.length (out.map vS)]) (fun (⟨l, out, outA, outC⟩ : Bytes × (List Bytes) × (Option Addr) × Nat) => l.length) ((R39.trim line, ([] : List Bytes), none, 0) : Bytes × (List Bytes) × (Option Addr) × Nat) ?_ ⟨rfl, rfl, trivial⟩ (fun _ h => (h.nilrow 9 1).keep [true] rfl) ?_
 ·try dsimp only
  refine ⟨?_, ?_⟩
  ·exact R39.ScanJ.start
  ·omega
 rintro ⟨l, out, outA, outC⟩ hI1
 obtain ⟨i1_0, i1_1⟩ := hI1
 try dsimp only at i1_0
 try dsimp only at i1_1
 try dsimp only
 refine q_ (q_ (g_ (s_ mv_ (js_ (vB (decide (l ≠ ([] : Bytes)))) (x_neq_s rfl rfl) (z_ (n_ ?_))))))
 refine ifd (fun h2w h2 => ?_) (fun h2w h2 => ?_)
 ·have h2l := List.length_pos_iff.2 h2
  refine sk_ (n_ (q_ (k_ (q_ (g_ (s_ mv_ ?_))))))
  refine c1 (cl_ Ty.ca24) (fun w hS => f24_ok l w hy_ hy_) ?_
  rintro _ _ ⟨e3, e4, e5, rfl, rfl, hf6⟩
  refine s_ mv_ (s_ (ex_ 0) (s_ (ex_ 1) (s_ (ex_ 2) (s_ av_ (s_ av_ (s_ av_ (z_ (n_ (q_ (q_ (g_ (s_ mv_ (s_ (x_not rfl) ?_)))))))))))))
  refine s_ mv_ ?_
  refine or_ 7 ((decide (e4 ≠ ([] : Bytes))) && (decide (e4.getD 0 0 ≠ (32 : UInt8)))) (fun g7 => ?_) ?_
  ·have g7r := g7
   have g7r : (e5) = true := bnot_false g7r
   refine sg_ g7 mv_ (jg_ g7 (vB (decide (e4 ≠ ([] : Bytes)))) (x_neq_s rfl rfl) (sg_ g7 mv_ ?_))
   refine and_ 3 (decide (e4.getD 0 0 ≠ (32 : UInt8))) (fun g8 => ?_) ?_ (hw := by exact ⟨_, rfl, g7⟩)
   ·have g8r := g8
    have g8r := of_decide_eq_true g8r
    have g8rl := List.length_pos_iff.2 g8r
    refine sg_ g8 mv_ (sg_ g8 (x_idx_s (k := 0) rfl rfl Tryd.underlying9 (by omega)) (jg_ g8 (vB (decide (e4.getD 0 0 ≠ (32 : UInt8)))) (x_neq_u8 rfl rfl) ?_))
    exact cr_
   exact cr_
  refine z_ (n_ ?_)
  refine if_ (fun h9 => ?_) (fun h9 => ?_)
  ·have h9w := h9
   simp only [Bool.and_eq_true, Bool.or_eq_true, Bool.and_eq_false_iff, Bool.or_eq_false_iff, Bool.not_eq_true', Bool.not_eq_false', decide_eq_true_eq, decide_eq_false_iff_not] at h9
   refine q_ (g_ (s_ av_ (s_ av_ (z_ (n_ (rt_ (nr_ (kq_ (nr_ (rr_ (kq_ (nr_ ?_))))))))))))
   refine JX_rets [_, _] (Value.tuple #[_, _]) Tryd.results10 (fun w h => ⟨rfl, rfl, trivial⟩) rfl [Ent.row (.slice none ([] : List Bytes).length 0) 9 1 ([] : List Bytes).length (([] : List Bytes).map vS)] (fun _ h => (h.nilrow 9 1).keep [true, false] rfl) ⟨none, 0, ?_, ?_⟩
   ·have e_x0 : (0 : Nat) = ((R39.scanW line).length) := by first | exact congrArg List.length (R39.scanW_none (i1_0.err (by assumption) hf6 (by assumption))) | exact congrArg List.length (R39.scanW_some (i1_0.done (Decidable.not_not.1 (by assumption))))
    have e_x1 : (3 : Int) = (R39.scanE line) := by first | exact R39.scanE_none (i1_0.err (by assumption) hf6 (by assumption)) | exact R39.scanE_some (i1_0.done (Decidable.not_not.1 (by assumption)))
    have e_all := (congr (congrArg (fun (x0 : Nat) (x1 : Int) => Value.tuple #[vL none x0 0, vI x1]) e_x0) e_x1)
    exact e_all
   ·have e_y0 : (([] : List Bytes) : List Bytes) = (R39.scanW line) := by
     exact c39b5_
    have e_all := (congrArg (fun (y0 : List Bytes) => [Ent.row (.slice none y0.length 0) 9 1 y0.length (y0.map vS)]) e_y0)
    exact e_all
  ·have h9w := h9
   have ⟨h9, h10⟩ := bor_false h9
   have h9 : (e5) = true := bnot_false h9
   simp only [Bool.and_eq_true, Bool.or_eq_true, Bool.and_eq_false_iff, Bool.or_eq_false_iff, Bool.not_eq_true', Bool.not_eq_false', decide_eq_true_eq, decide_eq_false_iff_not] at h10
   refine sk_ (n_ (g_ (s_ mv_ (s_ mv_ (o_ (O_buildSlice (cs := [vS e3]) Tryd.underlying24 Ty.sz9 Ty.ze9 (by decide) (by decide) (by kernel_rfl) fun b11 => ?_))))))
   refine o_ (O_append_m 1 vS out [e3] Tryd.underlying24 Ty.sz9 Ty.by9 Ty.ze9 rfl rfl rfl rfl rfl (fun _ => rfl) (cells_blk 0 (off := 0) (m := 1) rfl rfl) lt_ lt_ fun A12 c13 => ?_)
   refine s_ mv_ (s_ av_ (s_ av_ (z_ (kx_ (n_ (g_ (s_ mv_ (c0 (cl_ Ty.ca23) (fun w hS => trim_ok e4 w) ?_))))))))
   have ha14 := R39.trim_le e4
   refine s_ av_ (z_ ?_)
   refine JX_round ((R39.trim e4, out ++ [e3], A12, c13) : Bytes × (List Bytes) × (Option Addr) × Nat) ?_ ?_ ⟨rfl, rfl, trivial⟩ (fun _ h => h.keep [false, true] rfl)
   ·try dsimp only
    refine ⟨?_, ?_⟩
    ·exact i1_0.stepB (by assumption) hf6 (by assumption)
    ·have hls := hf6.less (by assumption)
     rw [List.length_append, List.length_singleton]; omega
   ·try dsimp only
    have hls := hf6.less (by assumption)
    omega
 ·refine J_exit (ne_ (re_ (kh_ (n_ (q_ ?_)))))
  refine g_ (s_ mv_ (s_ av_ (s_ av_ (z_ (n_ (rt_ ?_))))))
  refine JX_rets [_, _] (Value.tuple #[_, _]) Tryd.results10 (fun w h => ⟨rfl, rfl, trivial⟩) rfl _ (fun _ h => h) ⟨outA, outC, ?_, ?_⟩
  ·have e_x0 : (out.length : Nat) = ((R39.scanW line).length) := by first | exact congrArg List.length (R39.scanW_none (i1_0.err (by assumption) no_such_condition (by assumption))) | exact congrArg List.length (R39.scanW_some (i1_0.done (Decidable.not_not.1 (by assumption))))
   have e_x1 : (0 : Int) = (R39.scanE line) := by first | exact R39.scanE_none (i1_0.err (by assumption) no_such_condition (by assumption)) | exact R39.scanE_some (i1_0.done (Decidable.not_not.1 (by assumption)))
   have e_all := (congr (congrArg (fun (x0 : Nat) (x1 : Int) => Value.tuple #[vL outA x0 outC, vI x1]) e_x0) e_x1)
   exact e_all
  ·have e_y0 : (out : List Bytes) = (R39.scanW line) := by
    exact c39b6_
   have e_all := (congrArg (fun (y0 : List Bytes) => [Ent.row (.slice outA y0.length outC) 9 1 y0.length (y0.map vS)]) e_y0)
   exact e_all
set_option maxRecDepth 20000 in
theorem f10k_ok (line : Bytes) (w : World) (q0 : line.length ≤ 2000000) : Calls Tryd.prog 10 #[vS line] w (GivesW [] w fun v L wx => ∃ o : List Bytes, ∃ oA : Option Addr, ∃ oC : Nat, v = Value.tuple #[vL oA o.length oC, vI (R39.scanE line)] ∧ L = [] ∧ RO (List.range w.heap.size) wx oA (o.map vS) ∧ o.length ≤ oC ∧ (o = R39.scanW line) ∧ (o.length ≤ line.length) ∧ (∀ i, (o.getD i []).length ≤ line.length)) := by
 refine calls_JW [] 37 Tryd.func10 rfl Tryd.ntmps10 [(0, _)] rfl rfl (Give.nil w) ?_
 refine q_ (g_ (s_ av_ (s_ av_ (z_ (n_ (q_ (g_ (s_ av_ (z_ (n_ (q_ (q_ (g_ (s_ mv_ (c0 (cl_ Ty.ca23) (fun w hS => trim_ok line w) ?_)))))))))))))))
 have ha1 := R39.trim_le line
 refine s_ av_ (z_ (n_ (k_ ?_)))
 refine J_loop (X := Bytes × (List Bytes) × (Option Addr) × Nat) (fun (⟨l, out, outA, outC⟩ : Bytes × (List Bytes) × (Option Addr) × Nat) => (R39.ScanJ line out l) ∧ (l.length + out.length ≤ line.length)) (fun (⟨l, out, outA, outC⟩ : Bytes × (List Bytes) × (Option Addr) × Nat) => [(0, vS l), (4, vL outA out.length outC)]) (fun (⟨l, out, outA, outC⟩ : Bytes × (List Bytes) × (Option Addr) × Nat) => [Ent.row (.slice outA out.length outC) 9 1 out.length (out.map vS)]) (fun (⟨l, out, outA, outC⟩ : Bytes × (List Bytes) × (Option Addr) × Nat) => l.length) ((R39.trim line, ([] : List Bytes), none, 0) : Bytes × (List Bytes) × (Option Addr) × Nat) ?_ ⟨rfl, rfl, trivial⟩ (fun _ h => (h.nilrow 9 1).keep [true] rfl) ?_
 ·try dsimp only
  refine ⟨?_, ?_⟩
  ·exact R39.ScanJ.start
  ·omega
 rintro ⟨l, out, outA, outC⟩ hI1
 obtain ⟨i1_0, i1_1⟩ := hI1
 try dsimp only at i1_0
 try dsimp only at i1_1
 try dsimp only
 refine q_ (q_ (g_ (s_ mv_ (js_ (vB (decide (l ≠ ([] : Bytes)))) (x_neq_s rfl rfl) (z_ (n_ ?_))))))
 refine ifd (fun h2w h2 => ?_) (fun h2w h2 => ?_)
 ·have h2l := List.length_pos_iff.2 h2
  refine sk_ (n_ (q_ (k_ (q_ (g_ (s_ mv_ ?_))))))
  refine c1 (cl_ Ty.ca24) (fun w hS => f24_ok l w hy_ hy_) ?_
  rintro _ _ ⟨e3, e4, e5, rfl, rfl, hf6⟩
  refine s_ mv_ (s_ (ex_ 0) (s_ (ex_ 1) (s_ (ex_ 2) (s_ av_ (s_ av_ (s_ av_ (z_ (n_ (q_ (q_ (g_ (s_ mv_ (s_ (x_not rfl) ?_)))))))))))))
  refine s_ mv_ ?_
  refine or_ 7 ((decide (e4 ≠ ([] : Bytes))) && (decide (e4.getD 0 0 ≠ (32 : UInt8)))) (fun g7 => ?_) ?_
  ·have g7r := g7
   have g7r : (e5) = true := bnot_false g7r
   refine sg_ g7 mv_ (jg_ g7 (vB (decide (e4 ≠ ([] : Bytes)))) (x_neq_s rfl rfl) (sg_ g7 mv_ ?_))
   refine and_ 3 (decide (e4.getD 0 0 ≠ (32 : UInt8))) (fun g8 => ?_) ?_ (hw := by exact ⟨_, rfl, g7⟩)
   ·have g8r := g8
    have g8r := of_decide_eq_true g8r
    have g8rl := List.length_pos_iff.2 g8r
    refine sg_ g8 mv_ (sg_ g8 (x_idx_s (k := 0) rfl rfl Tryd.underlying9 (by omega)) (jg_ g8 (vB (decide (e4.getD 0 0 ≠ (32 : UInt8)))) (x_neq_u8 rfl rfl) ?_))
    exact cr_
   exact cr_
  refine z_ (n_ ?_)
  refine if_ (fun h9 => ?_) (fun h9 => ?_)
  ·have h9w := h9
   simp only [Bool.and_eq_true, Bool.or_eq_true, Bool.and_eq_false_iff, Bool.or_eq_false_iff, Bool.not_eq_true', Bool.not_eq_false', decide_eq_true_eq, decide_eq_false_iff_not] at h9
   refine q_ (g_ (s_ av_ (s_ av_ (z_ (n_ (rt_ (nr_ (kq_ (nr_ (rr_ (kq_ (nr_ ?_))))))))))))
   refine JX_retsB [_, _] (Value.tuple #[_, _]) Tryd.results10 (fun w h => ⟨rfl, rfl, trivial⟩) rfl _ (fun _ h => h.keep [false] rfl) (fun _ _ h => h) (fun wx hw => ⟨([] : List Bytes), none, 0, ?_, ?_, RO.nil, (Nat.zero_le _), ?_, ?_, ?_⟩)
   ·have e_x0 : (0 : Nat) = (([] : List Bytes).length) := by first | rfl | exact R39.scanE_none (i1_0.err (by assumption) hf6 (by assumption)) | exact R39.scanE_some (i1_0.done (Decidable.not_not.1 (by assumption)))
    have e_x1 : (3 : Int) = (R39.scanE line) := by first | rfl | exact R39.scanE_none (i1_0.err (by assumption) hf6 (by assumption)) | exact R39.scanE_some (i1_0.done (Decidable.not_not.1 (by assumption)))
    have e_all := (congr (congrArg (fun (x0 : Nat) (x1 : Int) => Value.tuple #[vL none x0 0, vI x1]) e_x0) e_x1)
    exact e_all
   ·rfl
   ·exact c39b5_
   ·exact c39b7_
   ·exact c39b8_
  ·have h9w := h9
   have ⟨h9, h10⟩ := bor_false h9
   have h9 : (e5) = true := bnot_false h9
   simp only [Bool.and_eq_true, Bool.or_eq_true, Bool.and_eq_false_iff, Bool.or_eq_false_iff, Bool.not_eq_true', Bool.not_eq_false', decide_eq_true_eq, decide_eq_false_iff_not] at h10
   refine sk_ (n_ (g_ (s_ mv_ (s_ mv_ (o_ (O_buildSlice (cs := [vS e3]) Tryd.underlying24 Ty.sz9 Ty.ze9 (by decide) (by decide) (by kernel_rfl) fun b11 => ?_))))))
   refine o_ (O_append_m 1 vS out [e3] Tryd.underlying24 Ty.sz9 Ty.by9 Ty.ze9 rfl rfl rfl rfl rfl (fun _ => rfl) (cells_blk 0 (off := 0) (m := 1) rfl rfl) lt_ lt_ fun A12 c13 => ?_)
   refine s_ mv_ (s_ av_ (s_ av_ (z_ (kx_ (n_ (g_ (s_ mv_ (c0 (cl_ Ty.ca23) (fun w hS => trim_ok e4 w) ?_))))))))
   have ha14 := R39.trim_le e4
   refine s_ av_ (z_ ?_)
   refine JX_round ((R39.trim e4, out ++ [e3], A12, c13) : Bytes × (List Bytes) × (Option Addr) × Nat) ?_ ?_ ⟨rfl, rfl, trivial⟩ (fun _ h => h.keep [false, true] rfl)
   ·try dsimp only
    refine ⟨?_, ?_⟩
    ·exact i1_0.stepB (by assumption) hf6 (by assumption)
    ·have hls := hf6.less (by assumption)
     rw [List.length_append, List.length_singleton]; omega
   ·try dsimp only
    have hls := hf6.less (by assumption)
    omega
 ·refine J_exit (ne_ (re_ (kh_ (n_ (q_ ?_)))))
  refine g_ (s_ mv_ (s_ av_ (s_ av_ (z_ (n_ (rt_ ?_))))))
  refine JX_retsD [_, _] (Value.tuple #[_, _]) Tryd.results10 (fun w h => ⟨rfl, rfl, trivial⟩) rfl _ (fun _ h => h.keep [false] rfl) (fun _ _ h => h) (fun wx hw => ⟨out, outA, outC, ?_, ?_, (RO.of_rowF (Lc := []) hw hw 0 rfl), (row_le (hw.mem (j := 0) rfl)), ?_, ?_, ?_⟩)
  ·have e_x0 : (0 : Int) = (R39.scanE line) := by first | rfl | exact R39.scanE_none (i1_0.err (by assumption) no_such_condition (by assumption)) | exact R39.scanE_some (i1_0.done (Decidable.not_not.1 (by assumption)))
   exact congrArg (fun (x0 : Int) => Value.tuple #[vL outA out.length outC, vI x0]) e_x0
  ·rfl
  ·exact c39b6_
  ·exact c39b7_
  ·exact c39b8_
set_option maxRecDepth 20000 in
theorem f15_ok (word : Bytes) (w : World) (hT : Tab [] w) (q0 : word.length ≤ 1000000) (q1 : ∀ c ∈ word, c.toNat < 128) : Calls Tryd.prog 15 #[vS word] w (Gives [] w fun v L => v = vS (R39.quote word) ∧ L = []) := by
 refine calls_J [] 15 Tryd.func15 rfl Tryd.ntmps15 [(0, _)] rfl rfl (Give.nil w) ?_
 refine q_ (g_ (s_ av_ (z_ (n_ (q_ (q_ (g_ (s_ mv_ (js_ (vB (decide (word ≠ ([] : Bytes)))) (x_neq_s rfl rfl) (s_ mv_ ?_))))))))))
 refine and_ 3 (!(decide (32 ∈ word ∨ 39 ∈ word))) (fun g1 => ?_) ?_
 ·have g1r := g1
  have g1r := of_decide_eq_true g1r
  have g1rl := List.length_pos_iff.2 g1r
  refine sg_ g1 mv_ (c0g g1 (cl_ Ty.ca34) (fun w hS => cany_ok word w hy_ hy_) (sg_ g1 (x_not rfl) ?_))
  exact cr_
 refine z_ (n_ ?_)
 refine if_ (fun h2 => ?_) (fun h2 => ?_)
 ·have h2w := h2
  have ⟨h2, h3⟩ := band_true h2
  have h2 := of_decide_eq_true h2
  have h2l := List.length_pos_iff.2 h2
  have h3 : (decide (32 ∈ word ∨ 39 ∈ word)) = false := bnot_true h3
  have h3 := of_decide_eq_false h3
  refine q_ (g_ (s_ mv_ (s_ av_ (z_ (n_ (rt_ (nr_ ?_)))))))
  exact c39b9_
 ·have h2w := h2
  simp only [Bool.and_eq_true, Bool.or_eq_true, Bool.and_eq_false_iff, Bool.or_eq_false_iff, Bool.not_eq_true', Bool.not_eq_false', decide_eq_true_eq, decide_eq_false_iff_not] at h2
  refine sk_ (n_ (q_ (g_ (s_ mv_ (c0 (cl_ Ty.ca17) (fun w hS => repl_ok 39 word w (hT.on hS (fun _ h => by cases h)) hy_) ?_)))))
  have ha4 := R39.dbl_len 39 word
  refine js_ (vS ([39] ++ (R39.dblC 39 word))) (x_cat_s rfl rfl c39b2_) (js_ (vS (([39] ++ (R39.dblC 39 word)) ++ [39])) (x_cat_s rfl rfl c39b2_) (s_ av_ (z_ (n_ (rt_ ?_)))))
  exact c39b9_
end Go.Proofs.YtbfiibgmgopnaaaDoor

namespace Go.Proofs.YtbfiibgmgopnaaaDoor
open Go.GV
namespace R39
def exV (r : Except Int Bytes) : Bytes := match r with
  | .ok x => x
  | .error _ => []
def exE (r : Except Int Bytes) : Int := match r with
  | .ok _ => 0
  | .error e => e
def ReplJ (m : Syms) (s xs l : Bytes) : Prop := repl m s = (repl m l).map (xs ++ ·)
theorem sub_end (l : Bytes) (k : Nat) : sub l k l.length = l.drop k := by unfold sub; rw [List.take_length]
theorem sub_head (l : Bytes) (k : Nat) : sub l 0 k = l.take k := by unfold sub; rw [List.drop_zero]
theorem sub_none (l : Bytes) : sub l l.length l.length = [] := by rw [sub_end, List.drop_length]
theorem sub_some {l : Bytes} {k : Nat} (hk : k < l.length) : sub l k l.length ≠ [] := by
  rw [sub_end, drop_cons hk]; exact List.cons_ne_nil _ _
theorem sub_len_end (l : Bytes) (k : Nat) : (sub l k l.length).length = l.length - k := by rw [sub_end, List.length_drop]
theorem sub_len_head {l : Bytes} {k : Nat} (h : k < l.length) : (sub l 0 k).length = k := by rw [sub_head, List.length_take]; omega
theorem take2_len {l : Bytes} (h : l.take 2 = [38, 38]) : 2 ≤ l.length := by
  have := congrArg List.length h; rw [List.length_take] at this; simp only [List.length_cons, List.length_nil] at this; omega
section
variable {m : Syms} {s xs l : Bytes}
theorem ReplJ.start : ReplJ m s [] s := (map_id _).symm
theorem ReplJ.app (h : ReplJ m s xs l) {a b : Bytes} (e : l = a ++ b) (ha : 38 ∉ a) : ReplJ m s (xs ++ a) b := by
  unfold ReplJ at *
  rw [h, e, repl_app ha, map_map]
  congr 1; funext x; exact (List.append_assoc _ _ _).symm
theorem ReplJ.last (h : ReplJ m s xs l) {r : Int} (hi : IxJ 38 l r) (hr : r < 0) : repl m s = .ok (xs ++ sub l 0 l.length) := by
  rw [sub_head, List.take_length]
  rcases hi with ⟨_, h2, _⟩ | ⟨k, h2, _⟩
  · unfold ReplJ at h
    rw [h, repl_plain h2]; rfl
  · omega
theorem ReplJ.stop (h : ReplJ m s xs l) (h0 : l = []) : repl m s = .ok xs := by
  unfold ReplJ at h; rw [h, h0, repl_nil]; show Except.ok (xs ++ []) = _; rw [List.append_nil]
theorem ReplJ.skip (h : ReplJ m s xs l) {k : Nat} (hi : IxJ 38 l (k : Int)) : ReplJ m s (xs ++ sub l 0 k) (sub l k l.length) ∧ k < l.length ∧ (sub l k l.length).getD 0 0 = 38 := by
  rcases hi with ⟨h1, _⟩ | ⟨j, h1, h2, h3, h4, _⟩
  · omega
  · obtain rfl : k = j := by omega
    rw [sub_head, sub_end]
    refine ⟨h.app (List.take_append_drop k l).symm h3, h2, ?_⟩
    rw [drop_cons h2]; exact h4
theorem head_cons {q : Bytes} (h0 : q ≠ []) (h : q.getD 0 0 = 38) : ∃ t, q = 38 :: t := by
  cases q with
  | nil => exact absurd rfl h0
  | cons c t => exact ⟨t, by rw [show c = 38 from h]⟩
theorem ReplJ.two {q : Bytes} (h : ReplJ m s xs q) (h2 : q.take 2 = [38, 38]) : ReplJ m s (xs ++ [38]) (sub q 2 q.length) := by
  obtain ⟨t, rfl⟩ : ∃ t, q = 38 :: 38 :: t := by
    cases q with
    | nil => cases h2
    | cons c q =>
      cases q with
      | nil => cases h2
      | cons d t =>
        have h2 : [c, d] = [38, 38] := h2
        injection h2 with e1 e2
        injection e2 with e2
        exact ⟨t, by rw [e1, e2]⟩
  unfold ReplJ at *
  rw [sub_end, h, repl_two, map_map]
  congr 1; funext x; exact (List.append_assoc xs [38] x).symm
theorem ReplJ.at {q : Bytes} (h : ReplJ m s xs q) (h0 : q ≠ []) (hq : q.getD 0 0 = 38) (h2 : ¬ q.take 2 = [38, 38]) : repl m s = Except.map (xs ++ ·) (match cutB 59 (sub q 1 q.length) with
    | none => .error 3
    | some (a, r) => if symV a = true then (match m a with
        | none => .error 4
        | some v => (repl m r).map (v ++ ·)) else .error 3) := by
  obtain ⟨t, rfl⟩ := head_cons h0 hq
  unfold ReplJ at h
  rw [h, sub_end, repl_sym]
  · rfl
  · intro e
    cases t with
    | nil => cases e
    | cons d t => injection e with e; exact h2 (by rw [show d = 38 from e]; rfl)
theorem ReplJ.err3 {q a r : Bytes} {o : Bool} (h : ReplJ m s xs q) (h0 : q ≠ []) (hq : q.getD 0 0 = 38) (h2 : ¬ q.take 2 = [38, 38]) (ho : o = true → cutB 59 (sub q 1 q.length) = some (a, r)) (hn : o = false → cutB 59 (sub q 1 q.length) = none) (hb : (!o || !symV a) = true) : repl m s = .error 3 := by
  rw [h.at h0 hq h2]
  cases o with
  | false => rw [hn rfl]; rfl
  | true =>
    rw [ho rfl]
    have hs : ¬ symV a = true := by
      simp only [Bool.not_true, Bool.false_or, Bool.not_eq_true'] at hb
      rw [hb]; decide
    show Except.map _ (if symV a = true then _ else _) = _
    rw [if_neg hs]; rfl
theorem ReplJ.err4 {q a r : Bytes} {o : Bool} (h : ReplJ m s xs q) (h0 : q ≠ []) (hq : q.getD 0 0 = 38) (h2 : ¬ q.take 2 = [38, 38]) (ho : o = true → cutB 59 (sub q 1 q.length) = some (a, r)) (hb : (!o || !symV a) = false) (hm : (m a).isSome = false) : repl m s = .error 4 := by
  rw [h.at h0 hq h2]
  cases o with
  | false => cases hb
  | true =>
    rw [ho rfl]
    have hs : symV a = true := by simpa using hb
    show Except.map _ (if symV a = true then (match m a with | none => Except.error 4 | some v => (repl m r).map (v ++ ·)) else _) = _
    rw [if_pos hs, show m a = none from by cases e : m a with | none => rfl | some v => rw [e] at hm; cases hm]; rfl
theorem ReplJ.sym {q a r : Bytes} {o : Bool} (h : ReplJ m s xs q) (h0 : q ≠ []) (hq : q.getD 0 0 = 38) (h2 : ¬ q.take 2 = [38, 38]) (ho : o = true → cutB 59 (sub q 1 q.length) = some (a, r)) (hb : (!o || !symV a) = false) (hm : (m a).isSome = true) : ReplJ m s (xs ++ (m a).getD []) r := by
  have e := h.at h0 hq h2
  cases o with
  | false => cases hb
  | true =>
    rw [ho rfl] at e
    have hs : symV a = true := by simpa using hb
    obtain ⟨v, hv⟩ := Option.isSome_iff_exists.1 hm
    have e : repl m s = Except.map (xs ++ ·) (if symV a = true then (match m a with | none => Except.error 4 | some v => (repl m r).map (v ++ ·)) else .error 3) := e
    rw [if_pos hs, hv] at e
    unfold ReplJ
    rw [e, hv]
    show Except.map _ (Except.map _ (repl m r)) = _
    rw [map_map]
    congr 1; funext x; exact (List.append_assoc _ _ _).symm
theorem cut_short {q a r : Bytes} {o : Bool} (ho : o = true → cutB 59 q = some (a, r)) (hn : (!o || !symV a) = false) : a.length + r.length < q.length := by
  cases o with
  | false => cases hn
  | true =>
    have := congrArg List.length (cutB_le (ho rfl))
    rw [List.length_append, List.length_cons] at this; omega
theorem replV_ok {x : Bytes} (h : repl m s = .ok x) (hl : ¬ (1000 : Int) < ((x.length : Nat) : Int)) : replV m s = .ok x := by unfold replV; rw [h]; exact if_neg (by omega)
theorem replV_big {x : Bytes} (h : repl m s = .ok x) (hl : (1000 : Int) < ((x.length : Nat) : Int)) : replV m s = .error 8 := by unfold replV; rw [h]; exact if_pos (by omega)
theorem replV_err {e : Int} (h : repl m s = .error e) : replV m s = .error e := by unfold replV; rw [h]
theorem exV_ok {r : Except Int Bytes} {x : Bytes} (h : r = .ok x) : x = exV r := by rw [h]; rfl
theorem exE_ok {r : Except Int Bytes} {x : Bytes} (h : r = .ok x) : 0 = exE r := by rw [h]; rfl
theorem exV_er {r : Except Int Bytes} {e : Int} (h : r = .error e) : [] = exV r := by rw [h]; rfl
theorem exE_er {r : Except Int Bytes} {e : Int} (h : r = .error e) : e = exE r := by rw [h]; rfl
theorem exV_len : (exV (replV m s)).length ≤ 1000 := by
  unfold replV
  split
  · split
    · exact Nat.zero_le _
    · rename_i x _ hx; show x.length ≤ 1000; omega
  · exact Nat.zero_le _
end
def ShortV (l : List (Bytes × Bytes)) : Prop := ∀ k, ((lookK l k).getD []).length ≤ 20000
end R39
end Go.Proofs.YtbfiibgmgopnaaaDoor

namespace Go.Proofs.YtbfiibgmgopnaaaDoor
open Go.GV
set_option linter.unusedVariables false
set_option linter.unusedSimpArgs false
theorem c39c0_ {p : Prop} (h : p := by first | omega | (simp only [sub, List.length_drop, List.length_take]; omega) | (simp; omega) | (simp_all; omega)) : p := h
theorem c39c1_ {p : Prop} (h : p := by first | assumption | exact .inl rfl | exact .inr rfl) : p := h
theorem c39c2_ {p : Prop} (h : p := by first | ((try simp only [List.length_append, List.length_cons, List.length_nil]); omega) | (have hcs := R39.cut_short no_such_condition (by assumption); (try simp only [List.length_append]); omega)) : p := h
theorem c39c3_ {p : Prop} (h : p := by first | ((try simp only [List.length_append, List.length_cons, List.length_nil]); omega) | (have hcs := R39.cut_short hf20 (by assumption); (try simp only [List.length_append]); omega)) : p := h
theorem c39c4_ {p : Prop} (h : p := by first | exact R39.exV_er (R39.replV_err (hsk.1.err3 (by assumption) hsk.2.2 (by assumption) no_such_condition no_such_condition (by assumption))) | exact R39.exV_er (R39.replV_err (hsk.1.err4 (by assumption) hsk.2.2 (by assumption) no_such_condition (by assumption) (by assumption))) | exact R39.exV_er (R39.replV_big (i1_0.stop (Decidable.not_not.1 (by assumption))) (by assumption)) | exact R39.exV_er (R39.replV_big (i1_0.last hf4 (by assumption)) (by assumption)) | exact R39.exV_ok (R39.replV_ok (i1_0.stop (Decidable.not_not.1 (by assumption))) (by assumption)) | exact R39.exV_ok (R39.replV_ok (i1_0.last hf4 (by assumption)) (by assumption))) : p := h
theorem c39c5_ {p : Prop} (h : p := by first | exact R39.exE_er (R39.replV_err (hsk.1.err3 (by assumption) hsk.2.2 (by assumption) no_such_condition no_such_condition (by assumption))) | exact R39.exE_er (R39.replV_err (hsk.1.err4 (by assumption) hsk.2.2 (by assumption) no_such_condition (by assumption) (by assumption))) | exact R39.exE_er (R39.replV_big (i1_0.stop (Decidable.not_not.1 (by assumption))) (by assumption)) | exact R39.exE_er (R39.replV_big (i1_0.last hf4 (by assumption)) (by assumption)) | exact R39.exE_ok (R39.replV_ok (i1_0.stop (Decidable.not_not.1 (by assumption))) (by assumption)) | exact R39.exE_ok (R39.replV_ok (i1_0.last hf4 (by assumption)) (by assumption))) : p := h
theorem c39c6_ {p : Prop} (h : p := by first | exact R39.exV_er (R39.replV_err (hsk.1.err3 (by assumption) hsk.2.2 (by assumption) hf20 hf21 (by assumption))) | exact R39.exV_er (R39.replV_err (hsk.1.err4 (by assumption) hsk.2.2 (by assumption) hf20 (by assumption) (by assumption))) | exact R39.exV_er (R39.replV_big (i1_0.stop (Decidable.not_not.1 (by assumption))) (by assumption)) | exact R39.exV_er (R39.replV_big (i1_0.last hf4 (by assumption)) (by assumption)) | exact R39.exV_ok (R39.replV_ok (i1_0.stop (Decidable.not_not.1 (by assumption))) (by assumption)) | exact R39.exV_ok (R39.replV_ok (i1_0.last hf4 (by assumption)) (by assumption))) : p := h
theorem c39c7_ {p : Prop} (h : p := by first | exact R39.exE_er (R39.replV_err (hsk.1.err3 (by assumption) hsk.2.2 (by assumption) hf20 hf21 (by assumption))) | exact R39.exE_er (R39.replV_err (hsk.1.err4 (by assumption) hsk.2.2 (by assumption) hf20 (by assumption) (by assumption))) | exact R39.exE_er (R39.replV_big (i1_0.stop (Decidable.not_not.1 (by assumption))) (by assumption)) | exact R39.exE_er (R39.replV_big (i1_0.last hf4 (by assumption)) (by assumption)) | exact R39.exE_ok (R39.replV_ok (i1_0.stop (Decidable.not_not.1 (by assumption))) (by assumption)) | exact R39.exE_ok (R39.replV_ok (i1_0.last hf4 (by assumption)) (by assumption))) : p := h
theorem c39c8_ {p : Prop} (h : p := by first | exact R39.exV_er (R39.replV_err (hsk.1.err3 (by assumption) hsk.2.2 (by assumption) no_such_condition no_such_condition (by assumption))) | exact R39.exV_er (R39.replV_err (hsk.1.err4 (by assumption) hsk.2.2 (by assumption) no_such_condition (by assumption) (by assumption))) | exact R39.exV_er (R39.replV_big (i1_0.stop (Decidable.not_not.1 (by assumption))) (by assumption)) | exact R39.exV_er (R39.replV_big (i1_0.last no_such_condition (by assumption)) (by assumption)) | exact R39.exV_ok (R39.replV_ok (i1_0.stop (Decidable.not_not.1 (by assumption))) (by assumption)) | exact R39.exV_ok (R39.replV_ok (i1_0.last no_such_condition (by assumption)) (by assumption))) : p := h
theorem c39c9_ {p : Prop} (h : p := by first | exact R39.exE_er (R39.replV_err (hsk.1.err3 (by assumption) hsk.2.2 (by assumption) no_such_condition no_such_condition (by assumption))) | exact R39.exE_er (R39.replV_err (hsk.1.err4 (by assumption) hsk.2.2 (by assumption) no_such_condition (by assumption) (by assumption))) | exact R39.exE_er (R39.replV_big (i1_0.stop (Decidable.not_not.1 (by assumption))) (by assumption)) | exact R39.exE_er (R39.replV_big (i1_0.last no_such_condition (by assumption)) (by assumption)) | exact R39.exE_ok (R39.replV_ok (i1_0.stop (Decidable.not_not.1 (by assumption))) (by assumption)) | exact R39.exE_ok (R39.replV_ok (i1_0.last no_such_condition (by assumption)) (by assumption))) : p := h
set_option maxRecDepth 20000 in
theorem f12_ok (line : Bytes) (sy : List (Bytes × Bytes)) (syB : Nat) (w : World) (syR : Kp [] w (Ent.at (Ent.mp vS syB (sy.map kvS)))) (hT : Tab [] w) (q0 : line.length ≤ 20000) (q1 : R39.ShortV sy) : Calls Tryd.prog 12 #[vS line, Value.map (some syB)] w (Gives [] w fun v L => v = Value.tuple #[vS (R39.exV (R39.replV (lookK sy) line)), vI (R39.exE (R39.replV (lookK sy) line))] ∧ L = []) := by
 refine calls_J [] 62 Tryd.func12 rfl Tryd.ntmps12 [(0, _), (1, _)] rfl rfl (Give.nil w) ?_
 refine q_ (g_ (s_ av_ (s_ av_ (z_ (n_ (q_ (g_ (o_ (al_ Ty.ze54 fun b1 => ?_)))))))))
 refine z_ (n_ (q_ (k_ ?_)))
 refine J_loop (X := Bytes × Value × (List UInt8) × (Option Addr) × Nat) (fun (⟨l, pv, xs, xsA, xsC⟩ : Bytes × Value × (List UInt8) × (Option Addr) × Nat) => (R39.ReplJ (lookK sy) line xs l) ∧ (pv = Value.pointer none ∨ pv = pB b1 0) ∧ (xs.length + 20000 * l.length ≤ 20000 * line.length) ∧ (l.length ≤ line.length)) (fun (⟨l, pv, xs, xsA, xsC⟩ : Bytes × Value × (List UInt8) × (Option Addr) × Nat) => [(0, vS l), (1, Value.map (some syB)), (6, pB b1 0)]) (fun (⟨l, pv, xs, xsA, xsC⟩ : Bytes × Value × (List UInt8) × (Option Addr) × Nat) => [Ent.blk b1 54 [pv, vL xsA xs.length xsC], Ent.row (.slice xsA xs.length xsC) 5 1 xs.length (xs.map vU8)]) (fun (⟨l, pv, xs, xsA, xsC⟩ : Bytes × Value × (List UInt8) × (Option Addr) × Nat) => l.length) ((line, Value.pointer none, ([] : List UInt8), none, 0) : Bytes × Value × (List UInt8) × (Option Addr) × Nat) ?_ ⟨rfl, rfl, rfl, trivial⟩ (fun _ h => ((h.nilrow 5 1).front 1 _ rfl).keep [true, true] rfl) ?_
 ·try dsimp only
  refine ⟨?_, ?_, ?_, ?_⟩
  ·exact R39.ReplJ.start
  ·exact .inl rfl
  ·simp only [List.length_nil]; omega
  ·first | rfl | omega | (simp_all; done) | (simp_all; omega)
 rintro ⟨l, pv, xs, xsA, xsC⟩ hI1
 obtain ⟨i1_0, i1_1, i1_2, i1_3⟩ := hI1
 try dsimp only at i1_0
 try dsimp only at i1_1
 try dsimp only at i1_2
 try dsimp only at i1_3
 try dsimp only
 refine q_ (q_ (g_ (s_ mv_ (js_ (vB (decide (l ≠ ([] : Bytes)))) (x_neq_s rfl rfl) (z_ (n_ ?_))))))
 refine ifd (fun h2w h2 => ?_) (fun h2w h2 => ?_)
 ·have h2l := List.length_pos_iff.2 h2
  refine sk_ (n_ (k_ (q_ (g_ (s_ mv_ ?_)))))
  refine c1 (cl_ Ty.ca25) (fun w hS => ixb_ok l (38 : UInt8) w) ?_
  rintro _ _ ⟨r3, rfl, rfl, hf4⟩
  refine s_ av_ (z_ (n_ (q_ (q_ (g_ (s_ mv_ (s_ (x_lss_i rfl rfl) (z_ (n_ ?_)))))))))
  refine ifd (fun h5w h5 => ?_) (fun h5w h5 => ?_)
  ·refine g_ (s_ mv_ (s_ (x_len_s rfl Tryd.underlying9) (s_ av_ (z_ (n_ (q_ (g_ (s_ mv_ (s_ mv_ (s_ (x_sub_s (lo := 0) (hi := l.length) rfl Tryd.underlying9 (.inr ⟨rfl, rfl⟩) (.inl rfl) lt_ c39c0_) ?_))))))))))
   refine JO_call (Lown [Ent.blk b1 54 [pv, vL xsA xs.length xsC], Ent.row (.slice xsA xs.length xsC) 5 1 xs.length (xs.map vU8)]) [Ent.blk b1 54 [pv, vL xsA xs.length xsC], Ent.row (.slice xsA xs.length xsC) 5 1 xs.length (xs.map vU8)] [] rfl trivial (fun _ => x_call Ty.ca26 rfl) (fun _ h => h) lown_mem (fun w hS => f26_ok b1 pv xs xsA xsC xs.length (sub l 0 l.length) w hy_ c39c1_ hy_ hy_ (hS.give lown_in)) ?_
   rintro _ _ ⟨yA6, yC7, rfl, rfl⟩
   refine z_ (n_ (q_ (g_ (s_ mv_ (s_ mv_ (s_ (x_sub_s (lo := l.length) (hi := l.length) rfl Tryd.underlying9 (.inl rfl) (.inr ⟨rfl, rfl⟩) lt_ c39c0_) (s_ av_ (z_ (n_ (q_ (q_ (g_ (s_ mv_ (js_ (vB (decide (sub l l.length l.length = ([] : Bytes)))) (x_eql_s rfl rfl) (z_ (xk_ [0, 1, 6, 28] ?_))))))))))))))))
   refine n_ ?_
   refine ifd (fun h8w h8 => ?_) (fun h8w h8 => ?_)
   ·refine J_exit (ne_ ?_)
    refine JX_block_miss rfl ?_
    refine re_ (kh_ (n_ (q_ (q_ (g_ ?_)))))
    refine JO_call (Lown [Ent.blk b1 54 [pB b1 0, vL yA6 ((xs ++ (sub l 0 l.length)).length) yC7], Ent.row (.slice yA6 ((xs ++ (sub l 0 l.length)).length) yC7) 5 1 ((xs ++ (sub l 0 l.length)).length) ((xs ++ (sub l 0 l.length)).map vU8)]) [Ent.blk b1 54 [pB b1 0, vL yA6 ((xs ++ (sub l 0 l.length)).length) yC7], Ent.row (.slice yA6 ((xs ++ (sub l 0 l.length)).length) yC7) 5 1 ((xs ++ (sub l 0 l.length)).length) ((xs ++ (sub l 0 l.length)).map vU8)] [] rfl trivial (fun _ => x_call Ty.ca31 rfl) (fun _ h => h) lown_mem (fun w hS => f31_ok b1 (pB b1 0) (xs ++ (sub l 0 l.length)) yA6 yC7 ((xs ++ (sub l 0 l.length)).length) w hy_ (hS.give lown_in)) ?_
    rintro _ _ ⟨rfl, rfl⟩
    refine s_ (x_gtr_i rfl rfl) (z_ (n_ ?_))
    refine ifd (fun h9w h9 => ?_) (fun h9w h9 => ?_)
    ·refine q_ (g_ (s_ av_ (s_ av_ (z_ (n_ (rt_ (nr_ ?_)))))))
     exact p2 Tryd.results12 rfl rfl ⟨t2 (eS c39c4_) (eI c39c5_), rfl⟩
    ·refine sk_ (n_ (q_ (g_ ?_)))
     refine JO_call (Lown [Ent.blk b1 54 [pB b1 0, vL yA6 ((xs ++ (sub l 0 l.length)).length) yC7], Ent.row (.slice yA6 (xs ++ (sub l 0 l.length)).length yC7) 5 1 (xs ++ (sub l 0 l.length)).length ((xs ++ (sub l 0 l.length)).map vU8)]) [Ent.blk b1 54 [pB b1 0, vL yA6 ((xs ++ (sub l 0 l.length)).length) yC7], Ent.row (.slice yA6 (xs ++ (sub l 0 l.length)).length yC7) 5 1 (xs ++ (sub l 0 l.length)).length ((xs ++ (sub l 0 l.length)).map vU8)] [] rfl trivial (fun _ => x_call Ty.ca32 rfl) (fun _ h => h) lown_mem (fun w hS => str_ok b1 (pB b1 0) (xs ++ (sub l 0 l.length)) yA6 yC7 w hy_ (hS.give lown_in)) ?_
     rintro _ _ ⟨rfl, rfl⟩
     refine s_ av_ (s_ av_ (z_ (n_ (rt_ ?_))))
     exact p2 Tryd.results12 rfl rfl ⟨t2 (eS c39c4_) (eI c39c5_), rfl⟩
   ·have h8l := List.length_pos_iff.2 h8
    exact absurd (R39.sub_none l) (by assumption)
  ·obtain ⟨k9, rfl⟩ : ∃ k9 : Nat, r3 = (k9 : Int) := ⟨r3.toNat, by omega⟩
   have hsk := i1_0.skip hf4
   have hl1 := R39.sub_len_end l k9
   have hl2 := R39.sub_len_head hsk.2.1
   have hl3 := R39.sub_len_end (sub l k9 l.length) 1
   have hl4 := R39.sub_len_end (sub l k9 l.length) 2
   refine sk_ (n_ (q_ (g_ (s_ mv_ (s_ mv_ (s_ (x_sub_s (lo := 0) (hi := k9) rfl Tryd.underlying9 (.inr ⟨rfl, rfl⟩) (.inl rfl) lt_ c39c0_) ?_))))))
   refine JO_call (Lown [Ent.blk b1 54 [pv, vL xsA xs.length xsC], Ent.row (.slice xsA xs.length xsC) 5 1 xs.length (xs.map vU8)]) [Ent.blk b1 54 [pv, vL xsA xs.length xsC], Ent.row (.slice xsA xs.length xsC) 5 1 xs.length (xs.map vU8)] [] rfl trivial (fun _ => x_call Ty.ca26 rfl) (fun _ h => h) lown_mem (fun w hS => f26_ok b1 pv xs xsA xsC xs.length (sub l 0 k9) w hy_ c39c1_ hy_ hy_ (hS.give lown_in)) ?_
   rintro _ _ ⟨yA10, yC11, rfl, rfl⟩
   refine z_ (n_ (q_ (g_ (s_ mv_ (s_ mv_ (s_ (x_sub_s (lo := k9) (hi := l.length) rfl Tryd.underlying9 (.inl rfl) (.inr ⟨rfl, rfl⟩) lt_ c39c0_) (s_ av_ (z_ (n_ (q_ (q_ (g_ (s_ mv_ (js_ (vB (decide (sub l k9 l.length = ([] : Bytes)))) (x_eql_s rfl rfl) (z_ (n_ ?_))))))))))))))))
   refine ifd (fun h12w h12 => ?_) (fun h12w h12 => ?_)
   ·exact absurd (by assumption) (R39.sub_some hsk.2.1)
   ·have h12l := List.length_pos_iff.2 h12
    refine sk_ (n_ (q_ (q_ (g_ (s_ mv_ (c0 (cl_ Ty.ca27) (fun w hS => hasp_ok _ w) (z_ (xk_ [0, 1, 6, 30] ?_))))))))
    refine n_ ?_
    refine ifd (fun h13w h13 => ?_) (fun h13w h13 => ?_)
    ·have hi14 := R39.take2_len h13
     refine q_ (g_ ?_)
     refine JO_call (Lown [Ent.blk b1 54 [pB b1 0, vL yA10 ((xs ++ (sub l 0 k9)).length) yC11], Ent.row (.slice yA10 ((xs ++ (sub l 0 k9)).length) yC11) 5 1 ((xs ++ (sub l 0 k9)).length) ((xs ++ (sub l 0 k9)).map vU8)]) [Ent.blk b1 54 [pB b1 0, vL yA10 ((xs ++ (sub l 0 k9)).length) yC11], Ent.row (.slice yA10 ((xs ++ (sub l 0 k9)).length) yC11) 5 1 ((xs ++ (sub l 0 k9)).length) ((xs ++ (sub l 0 k9)).map vU8)] [] rfl trivial (fun _ => x_call Ty.ca28 rfl) (fun _ h => h) lown_mem (fun w hS => f28_ok b1 (pB b1 0) (xs ++ (sub l 0 k9)) yA10 yC11 ((xs ++ (sub l 0 k9)).length) (38 : UInt8) w hy_ c39c1_ hy_ (hS.give lown_in)) ?_
     rintro _ _ ⟨yA15, yC16, rfl, rfl⟩
     refine z_ (n_ (q_ (g_ (s_ mv_ (s_ (x_sub_s (lo := 2) (hi := (sub l k9 l.length).length) rfl Tryd.underlying9 (.inl rfl) (.inr ⟨rfl, rfl⟩) lt_ c39c0_) (s_ av_ (z_ (n_ (J_exit (ne_ (kh_ ?_)))))))))))
     refine JX_round ((sub (sub l k9 l.length) 2 ((sub l k9 l.length).length), pB b1 0, (xs ++ (sub l 0 k9)) ++ [(38 : UInt8)], yA15, yC16) : Bytes × Value × (List UInt8) × (Option Addr) × Nat) ?_ ?_ ⟨rfl, rfl, rfl, trivial⟩ (fun _ h => h)
     ·try dsimp only
      refine ⟨?_, ?_, ?_, ?_⟩
      ·first | exact hsk.1.two (by assumption) | exact hsk.1.sym (by assumption) hsk.2.2 (by assumption) no_such_condition (by assumption) (by assumption)
      ·exact .inr rfl
      ·exact c39c2_
      ·exact c39c2_
     ·try dsimp only
      exact c39c2_
    ·refine sk_ (n_ (q_ (g_ (s_ mv_ (s_ (x_sub_s (lo := 1) (hi := (sub l k9 l.length).length) rfl Tryd.underlying9 (.inl rfl) (.inr ⟨rfl, rfl⟩) lt_ c39c0_) ?_)))))
     refine c1 (cl_ Ty.ca29) (fun w hS => cut_ok 59 _ w (hT.on hS (fun _ h => by cases h)) hy_) ?_
     rintro _ _ ⟨a17, r18, o19, rfl, rfl, hf20, hf21, hf22⟩
     have ha23 := q1 a17
     refine s_ mv_ (s_ (ex_ 0) (s_ (ex_ 1) (s_ (ex_ 2) (s_ av_ (s_ av_ (s_ av_ (z_ (n_ (q_ (q_ (g_ (s_ mv_ (s_ (x_not rfl) ?_)))))))))))))
     refine s_ mv_ ?_
     refine or_ 3 (!(R39.symV a17)) (fun g24 => ?_) ?_
     ·have g24r := g24
      have g24r : (o19) = true := bnot_false g24r
      refine sg_ g24 mv_ (c0g g24 (cl_ Ty.ca30) (fun w hS => f30_ok a17 w (hT.on hS (fun _ h => by cases h)) hy_) (sg_ g24 (x_not rfl) ?_))
      exact cr_
     refine z_ (n_ ?_)
     refine if_ (fun h25 => ?_) (fun h25 => ?_)
     ·have h25w := h25
      simp only [Bool.and_eq_true, Bool.or_eq_true, Bool.and_eq_false_iff, Bool.or_eq_false_iff, Bool.not_eq_true', Bool.not_eq_false', decide_eq_true_eq, decide_eq_false_iff_not] at h25
      refine q_ (g_ (s_ av_ (s_ av_ (z_ (n_ (rt_ (nr_ (kq_ (rr_ (kq_ (nr_ ?_)))))))))))
      exact p2 Tryd.results12 rfl rfl ⟨t2 (eS c39c6_) (eI c39c7_), rfl⟩
     ·have h25w := h25
      have ⟨h25, h26⟩ := bor_false h25
      have h25 : (o19) = true := bnot_false h25
      have h26 : (R39.symV a17) = true := bnot_false h26
      refine sk_ (n_ (q_ (g_ (s_ mv_ (s_ mv_ ?_)))))
      refine JO_read (Value.tuple #[vS ((lookK sy a17).getD []), vB ((lookK sy a17).isSome)]) rfl trivial (x_lookup_okR (f := vS) (k := a17) (kp_mp syR) rfl rfl Tryd.underlying22 (mapK_s Tryd.underlying9) Ty.ze9 (lk_kv sy a17) (getD_kv _) (isSome_mp _ _)) ?_
      refine s_ mv_ (s_ (ex_ 0) (s_ (ex_ 1) (s_ av_ (s_ av_ (z_ (xk_ [0, 1, 6, 9, 10, 11] ?_))))))
      refine n_ (q_ (q_ (g_ (s_ mv_ (s_ (x_not rfl) (z_ (n_ ?_)))))))
      refine if_ (fun h27 => ?_) (fun h27 => ?_)
      ·have h27w := h27
       have h27 : ((lookK sy a17).isSome) = false := bnot_true h27
       refine q_ (g_ (s_ av_ (s_ av_ (z_ (n_ (rt_ (nr_ (kq_ (rr_ (kq_ (nr_ ?_)))))))))))
       exact p2 Tryd.results12 rfl rfl ⟨t2 (eS c39c6_) (eI c39c7_), rfl⟩
      ·have h27w := h27
       have h27 : ((lookK sy a17).isSome) = true := bnot_false h27
       refine sk_ (n_ (q_ (g_ (s_ mv_ ?_))))
       refine JO_call (Lown [Ent.blk b1 54 [pB b1 0, vL yA10 ((xs ++ (sub l 0 k9)).length) yC11], Ent.row (.slice yA10 ((xs ++ (sub l 0 k9)).length) yC11) 5 1 ((xs ++ (sub l 0 k9)).length) ((xs ++ (sub l 0 k9)).map vU8)]) [Ent.blk b1 54 [pB b1 0, vL yA10 ((xs ++ (sub l 0 k9)).length) yC11], Ent.row (.slice yA10 ((xs ++ (sub l 0 k9)).length) yC11) 5 1 ((xs ++ (sub l 0 k9)).length) ((xs ++ (sub l 0 k9)).map vU8)] [] rfl trivial (fun _ => x_call Ty.ca26 rfl) (fun _ h => h) lown_mem (fun w hS => f26_ok b1 (pB b1 0) (xs ++ (sub l 0 k9)) yA10 yC11 ((xs ++ (sub l 0 k9)).length) ((lookK sy a17).getD []) w hy_ c39c1_ hy_ hy_ (hS.give lown_in)) ?_
       rintro _ _ ⟨yA28, yC29, rfl, rfl⟩
       refine z_ (n_ (g_ (s_ mv_ (s_ av_ (z_ (kx_ ?_))))))
       refine JX_round ((r18, pB b1 0, (xs ++ (sub l 0 k9)) ++ ((lookK sy a17).getD []), yA28, yC29) : Bytes × Value × (List UInt8) × (Option Addr) × Nat) ?_ ?_ ⟨rfl, rfl, rfl, trivial⟩ (fun _ h => h)
       ·try dsimp only
        refine ⟨?_, ?_, ?_, ?_⟩
        ·first | exact hsk.1.two (by assumption) | exact hsk.1.sym (by assumption) hsk.2.2 (by assumption) hf20 (by assumption) (by assumption)
        ·exact .inr rfl
        ·exact c39c3_
        ·exact c39c3_
       ·try dsimp only
        exact c39c3_
 ·refine J_exit (ne_ (re_ (kh_ (n_ (q_ ?_)))))
  refine q_ (g_ ?_)
  refine JO_call (Lown [Ent.blk b1 54 [pv, vL xsA xs.length xsC], Ent.row (.slice xsA xs.length xsC) 5 1 xs.length (xs.map vU8)]) [Ent.blk b1 54 [pv, vL xsA xs.length xsC], Ent.row (.slice xsA xs.length xsC) 5 1 xs.length (xs.map vU8)] [] rfl trivial (fun _ => x_call Ty.ca31 rfl) (fun _ h => h) lown_mem (fun w hS => f31_ok b1 pv xs xsA xsC xs.length w hy_ (hS.give lown_in)) ?_
  rintro _ _ ⟨rfl, rfl⟩
  refine s_ (x_gtr_i rfl rfl) (z_ (n_ ?_))
  refine ifd (fun h30w h30 => ?_) (fun h30w h30 => ?_)
  ·refine q_ (g_ (s_ av_ (s_ av_ (z_ (n_ (rt_ (nr_ ?_)))))))
   exact p2 Tryd.results12 rfl rfl ⟨t2 (eS c39c8_) (eI c39c9_), rfl⟩
  ·refine sk_ (n_ (q_ (g_ ?_)))
   refine JO_call (Lown [Ent.blk b1 54 [pv, vL xsA xs.length xsC], Ent.row (.slice xsA xs.length xsC) 5 1 xs.length (xs.map vU8)]) [Ent.blk b1 54 [pv, vL xsA xs.length xsC], Ent.row (.slice xsA xs.length xsC) 5 1 xs.length (xs.map vU8)] [] rfl trivial (fun _ => x_call Ty.ca32 rfl) (fun _ h => h) lown_mem (fun w hS => str_ok b1 pv xs xsA xsC w hy_ (hS.give lown_in)) ?_
   rintro _ _ ⟨rfl, rfl⟩
   refine s_ av_ (s_ av_ (z_ (n_ (rt_ ?_))))
   exact p2 Tryd.results12 rfl rfl ⟨t2 (eS c39c8_) (eI c39c9_), rfl⟩
end Go.Proofs.YtbfiibgmgopnaaaDoor
