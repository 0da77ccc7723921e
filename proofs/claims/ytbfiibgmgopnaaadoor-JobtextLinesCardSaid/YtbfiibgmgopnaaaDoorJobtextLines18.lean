/- C39t, Pl39y, C39u, GvKn in one text. -/
import Derived.Test.YtbfiibgmgopnaaaDoorJobtextLines17
import Derived.Test.YtbfiibgmgopnaaaDoorJobtextLines6
import Derived.Test.YtbfiibgmgopnaaaDoorJobtextLines4
import Derived.Test.YtbfiibgmgopnaaaDoorJobtextLines5
import Derived.Laws.IdiomRangeMap
set_option linter.unusedVariables false
set_option linter.unusedSimpArgs false
namespace Go.Proofs.YtbfiibgmgopnaaaDoor
open Go.GV
set_option linter.unusedVariables false
set_option linter.unusedSimpArgs false
theorem c39t0_ {p : Prop} (h : p := by first | exact R39.exV_er (R39.replV_err (i1_1.ref3 (by omega) (Decidable.not_not.1 (by assumption)) (R39.nt (by assumption)) (by omega))) | exact R39.exV_er (R39.replV_err (i1_1.ref4 (by omega) (Decidable.not_not.1 (by assumption)) (R39.nt (by assumption)) (by omega) (by assumption))) | exact R39.exV_er (R39.replV_big (i1_1.fin (by omega)) (by assumption)) | exact R39.exV_ok (R39.replV_ok (i1_1.fin (by omega)) (by assumption))) : p := h
theorem c39t1_ {p : Prop} (h : p := by first | exact R39.exE_er (R39.replV_err (i1_1.ref3 (by omega) (Decidable.not_not.1 (by assumption)) (R39.nt (by assumption)) (by omega))) | exact R39.exE_er (R39.replV_err (i1_1.ref4 (by omega) (Decidable.not_not.1 (by assumption)) (R39.nt (by assumption)) (by omega) (by assumption))) | exact R39.exE_er (R39.replV_big (i1_1.fin (by omega)) (by assumption)) | exact R39.exE_ok (R39.replV_ok (i1_1.fin (by omega)) (by assumption))) : p := h
theorem c39t3_ {p : Prop} (h : p := by first | omega | (simp only [sub, List.length_drop, List.length_take]; omega) | (simp; omega) | (simp_all; omega)) : p := h
theorem c39t4_ {p : Prop} (h : p := by first | omega | (simp only [List.length_append, List.length_cons, List.length_nil]; omega) | (simp; omega) | (simp_all; omega)) : p := h
theorem c39t5_ {p : Prop} (h : p := by first | exact i1_1.one (by omega) (by assumption) | exact i1_1.amp2 (by omega) (Decidable.not_not.1 (by assumption)) (by assumption) | exact i1_1.refs (by omega) (Decidable.not_not.1 (by assumption)) (R39.nt (by assumption)) (by omega) (by assumption)) : p := h
set_option maxRecDepth 20000 in
theorem f13_ok (line : Bytes) (sy : List (Bytes × Bytes)) (syB : Nat) (w : World) (syR : Kp [] w (Ent.at (Ent.mp vS syB (sy.map kvS)))) (q0 : line.length ≤ 20000) (q1 : R39.ShortV sy) : Calls Tryd.prog 13 #[vS line, Value.map (some syB)] w (Gives [] w fun v L => v = Value.tuple #[vS (R39.exV (R39.replV (lookK sy) line)), vI (R39.exE (R39.replV (lookK sy) line))] ∧ L = []) := by
 refine calls_J [] 75 Tryd.func13 rfl Tryd.ntmps13 [(0, _), (1, _)] rfl rfl (Give.nil w) ?_
 refine q_ (g_ (s_ av_ (s_ av_ (z_ (n_ (q_ (g_ (s_ av_ (z_ (n_ (q_ (q_ (g_ (s_ av_ (z_ (n_ (k_ ?_)))))))))))))))))
 refine J_loop (X := Nat × Bytes) (fun (⟨i, s⟩ : Nat × Bytes) => (i ≤ line.length) ∧ (R39.ReplJ (lookK sy) line s (line.drop i)) ∧ (s.length ≤ 20000 * i)) (fun (⟨i, s⟩ : Nat × Bytes) => [(0, vS line), (1, Value.map (some syB)), (6, vS s), (7, vI ((i : Nat) : Int))]) (fun (⟨i, s⟩ : Nat × Bytes) => []) (fun (⟨i, s⟩ : Nat × Bytes) => line.length - i) ((0, []) : Nat × Bytes) ?_ ⟨rfl, rfl, rfl, rfl, trivial⟩ (fun _ h => h) ?_
 ·try dsimp only
  refine ⟨?_, ?_, ?_⟩
  ·first | rfl | omega | (simp_all; done) | (simp_all; omega)
  ·exact R39.ReplJ.start
  ·first | rfl | omega | (simp_all; done) | (simp_all; omega)
 rintro ⟨i, s⟩ hI1
 obtain ⟨i1_0, i1_1, i1_2⟩ := hI1
 try dsimp only at i1_0
 try dsimp only at i1_1
 try dsimp only at i1_2
 have hsu := fun h => sub_length line i (i + 1) h
 have hen := R39.end_le (sub line (i + 1) line.length)
 have hse := R39.sub_len_end line (i + 1)
 have hsv := q1 (sub line (i + 1) (i + R39.endV (sub line (i + 1) line.length)))
 try dsimp only
 refine q_ (q_ (g_ (s_ mv_ (s_ mv_ (s_ (x_len_s rfl Tryd.underlying9) (s_ (x_lss_i rfl rfl) (z_ (n_ ?_))))))))
 refine ifd (fun h1w h1 => ?_) (fun h1w h1 => ?_)
 ·refine sk_ (n_ (q_ (k_ (q_ (q_ (g_ (s_ mv_ (s_ mv_ (s_ (x_idx_s (k := i) rfl rfl Tryd.underlying9 (by omega)) (js_ (vB (decide (line.getD i 0 ≠ (38 : UInt8)))) (x_neq_u8 rfl rfl) (z_ (n_ ?_))))))))))))
  refine ifd (fun h2w h2 => ?_) (fun h2w h2 => ?_)
  ·refine q_ (g_ (s_ mv_ (s_ mv_ (s_ mv_ (s_ mv_ (s_ (x_add_n (a := i) (b := 1) rfl rfl (by omega)) (s_ (x_sub_s (lo := i) (hi := i + 1) rfl Tryd.underlying9 (.inl rfl) (.inl rfl) lt_ c39t3_) (s_ (x_cat_s rfl rfl c39t4_) (s_ av_ (z_ (n_ (J_exit (ne_ (kh_ (n_ ?_)))))))))))))))
   refine g_ (s_ mv_ (s_ (x_add_n (a := i) (b := 1) rfl rfl (by omega)) (s_ av_ (z_ ?_))))
   refine JX_round ((i + 1, s ++ (sub line i (i + 1))) : Nat × Bytes) ?_ ?_ ⟨rfl, rfl, rfl, rfl, trivial⟩ (fun _ h => h)
   ·try dsimp only
    refine ⟨?_, ?_, ?_⟩
    ·omega
    ·exact c39t5_
    ·(try simp only [List.length_append, List.length_cons, List.length_nil]); omega
   ·try dsimp only
    omega
  ·refine sk_ (n_ (q_ (q_ (g_ (s_ mv_ (s_ (x_add_n (a := i) (b := 1) rfl rfl (by omega)) (s_ mv_ (s_ (x_len_s rfl Tryd.underlying9) (s_ (x_lss_i rfl rfl) (s_ mv_ ?_))))))))))
   refine and_ 5 (decide (line.getD (i + 1) 0 = (38 : UInt8))) (fun g3 => ?_) ?_
   ·have g3r := g3
    have g3r := of_decide_eq_true g3r
    refine sg_ g3 mv_ (sg_ g3 mv_ (sg_ g3 (x_add_n (a := i) (b := 1) rfl rfl (by omega)) (sg_ g3 (x_idx_s (k := i + 1) rfl rfl Tryd.underlying9 (by omega)) (jg_ g3 (vB (decide (line.getD (i + 1) 0 = (38 : UInt8)))) (x_eql_u8 rfl rfl) ?_))))
    exact cr_
   refine z_ (n_ ?_)
   refine if_ (fun h4 => ?_) (fun h4 => ?_)
   ·have h4w := h4
    have ⟨h4, h5⟩ := band_true h4
    have h4 := of_decide_eq_true h4
    have h5 := of_decide_eq_true h5
    refine q_ (g_ (s_ mv_ (js_ (vS (s ++ [38])) (x_cat_s rfl rfl c39t4_) (s_ av_ (z_ (xk_ [0, 1, 6, 7] ?_))))))
    refine n_ (q_ (g_ (s_ mv_ (s_ (x_add_n (a := i) (b := 1) rfl rfl (by omega)) (s_ av_ (z_ (n_ (J_exit (ne_ (kh_ (n_ (g_ (s_ mv_ (s_ (x_add_n (a := i + 1) (b := 1) rfl rfl (by omega)) (s_ av_ (z_ ?_))))))))))))))))
    refine JX_round (((i + 1) + 1, s ++ [38]) : Nat × Bytes) ?_ ?_ ⟨rfl, rfl, rfl, rfl, trivial⟩ (fun _ h => h)
    ·try dsimp only
     refine ⟨?_, ?_, ?_⟩
     ·omega
     ·exact c39t5_
     ·(try simp only [List.length_append, List.length_cons, List.length_nil]); omega
    ·try dsimp only
     omega
   ·have h4w := h4
    simp only [Bool.and_eq_true, Bool.or_eq_true, Bool.and_eq_false_iff, Bool.or_eq_false_iff, Bool.not_eq_true', Bool.not_eq_false', decide_eq_true_eq, decide_eq_false_iff_not] at h4
    refine sk_ (n_ (q_ (g_ (s_ mv_ (s_ mv_ (s_ (x_add_n (a := i) (b := 1) rfl rfl (by omega)) (s_ (x_sub_s (lo := i + 1) (hi := line.length) rfl Tryd.underlying9 (.inl rfl) (.inr ⟨rfl, rfl⟩) lt_ c39t3_) (c0 (cl_ Ty.ca33) (fun w hS => f33_ok _ w hy_) (s_ av_ (z_ (xk_ [0, 1, 6, 7, 8] ?_)))))))))))
    refine n_ (q_ (q_ (g_ (s_ mv_ (s_ (x_eql_i rfl rfl) (z_ (n_ ?_)))))))
    refine ifd (fun h6w h6 => ?_) (fun h6w h6 => ?_)
    ·refine q_ (g_ (s_ av_ (s_ av_ (z_ (n_ (rt_ (nr_ (kq_ (nr_ (rr_ (kq_ (nr_ ?_))))))))))))
     exact p2 Tryd.results13 rfl rfl ⟨t2 (eS c39t0_) (eI c39t1_), rfl⟩
    ·refine sk_ (n_ (q_ (g_ (s_ mv_ (s_ mv_ (s_ mv_ (s_ (x_add_n (a := i) (b := 1) rfl rfl (by omega)) (s_ mv_ (s_ mv_ (s_ (x_add_n (a := i) (b := R39.endV (sub line (i + 1) line.length)) rfl rfl (by omega)) (s_ (x_sub_s (lo := i + 1) (hi := i + (R39.endV (sub line (i + 1) line.length))) rfl Tryd.underlying9 (.inl rfl) (.inl rfl) lt_ c39t3_) ?_)))))))))))
     refine JO_read (Value.tuple #[vS ((lookK sy (sub line (i + 1) (i + (R39.endV (sub line (i + 1) line.length))))).getD []), vB ((lookK sy (sub line (i + 1) (i + (R39.endV (sub line (i + 1) line.length))))).isSome)]) rfl trivial (x_lookup_okR (f := vS) (k := sub line (i + 1) (i + (R39.endV (sub line (i + 1) line.length)))) (kp_mp syR) rfl rfl Tryd.underlying22 (mapK_s Tryd.underlying9) Ty.ze9 (lk_kv sy (sub line (i + 1) (i + (R39.endV (sub line (i + 1) line.length))))) (getD_kv _) (isSome_mp _ _)) ?_
     refine s_ mv_ (s_ (ex_ 0) (s_ (ex_ 1) (s_ av_ (s_ av_ (z_ (xk_ [0, 1, 6, 7, 8, 9, 10] ?_))))))
     refine n_ (q_ (q_ (g_ (s_ mv_ (s_ (x_not rfl) (z_ (n_ ?_)))))))
     refine if_ (fun h7 => ?_) (fun h7 => ?_)
     ·have h7w := h7
      have h7 : ((lookK sy (sub line (i + 1) (i + (R39.endV (sub line (i + 1) line.length))))).isSome) = false := bnot_true h7
      refine q_ (g_ (s_ av_ (s_ av_ (z_ (n_ (rt_ (nr_ (kq_ (nr_ (rr_ (kq_ (nr_ ?_))))))))))))
      exact p2 Tryd.results13 rfl rfl ⟨t2 (eS c39t0_) (eI c39t1_), rfl⟩
     ·have h7w := h7
      have h7 : ((lookK sy (sub line (i + 1) (i + (R39.endV (sub line (i + 1) line.length))))).isSome) = true := bnot_false h7
      refine sk_ (n_ (q_ (g_ (s_ mv_ (s_ mv_ (s_ (x_cat_s rfl rfl c39t4_) (s_ av_ (z_ (n_ (g_ (s_ mv_ (s_ mv_ (s_ (x_add_n (a := i) (b := R39.endV (sub line (i + 1) line.length)) rfl rfl (by omega)) (s_ av_ ?_))))))))))))))
      refine z_ (kx_ (n_ (g_ (s_ mv_ (s_ (x_add_n (a := i + (R39.endV (sub line (i + 1) line.length))) (b := 1) rfl rfl (by omega)) (s_ av_ (z_ ?_)))))))
      refine JX_round (((i + (R39.endV (sub line (i + 1) line.length))) + 1, s ++ ((lookK sy (sub line (i + 1) (i + (R39.endV (sub line (i + 1) line.length))))).getD [])) : Nat × Bytes) ?_ ?_ ⟨rfl, rfl, rfl, rfl, trivial⟩ (fun _ h => h)
      ·try dsimp only
       refine ⟨?_, ?_, ?_⟩
       ·omega
       ·exact c39t5_
       ·(try simp only [List.length_append, List.length_cons, List.length_nil]); omega
      ·try dsimp only
       omega
 ·refine J_exit (ne_ (re_ (kh_ (n_ (q_ ?_)))))
  refine q_ (g_ (s_ mv_ (s_ (x_len_s rfl Tryd.underlying9) (s_ (x_gtr_i rfl rfl) (z_ (n_ ?_))))))
  refine ifd (fun h8w h8 => ?_) (fun h8w h8 => ?_)
  ·refine q_ (g_ (s_ av_ (s_ av_ (z_ (n_ (rt_ (nr_ ?_)))))))
   exact p2 Tryd.results13 rfl rfl ⟨t2 (eS c39t0_) (eI c39t1_), rfl⟩
  ·refine sk_ (n_ (q_ (g_ (s_ mv_ (s_ av_ (s_ av_ (z_ (n_ (rt_ ?_)))))))))
   exact p2 Tryd.results13 rfl rfl ⟨t2 (eS c39t0_) (eI c39t1_), rfl⟩
end Go.Proofs.YtbfiibgmgopnaaaDoor

namespace Go.Proofs.YtbfiibgmgopnaaaDoor
open Go.GV
namespace R39
section
variable {line wd : Bytes} {out : List Bytes} {i j i0 : Nat} {c : Bool}
def SR (line : Bytes) (out : List Bytes) (i : Nat) : Prop := scan line = (scan (line.drop i)).map (out ++ ·)
theorem SR.start : SR line [] 0 := by
  show scan line = (scan line).map ([] ++ ·)
  cases scan line <;> rfl
theorem scan_blank (r : Bytes) : scan (32 :: r) = scan r := by rw [← scan_trim (32 :: r), ← scan_trim r]; rfl
theorem SR.blank (h : SR line out i) (hi : i < line.length) (hc : line.getD i 0 = 32) : SR line out (i + 1) := by
  unfold SR at *; rw [h, drop_getD hi, hc, scan_blank]
theorem SR.done (h : SR line out i) (hi : ¬ i < line.length) : scan line = some out := by
  unfold SR at h; rw [h, List.drop_eq_nil_of_le (by omega), scan_none]; simp
theorem trim_at (hi : i < line.length) (hc : line.getD i 0 ≠ 32) : trim (line.drop i) = line.drop i := by rw [drop_getD hi]; exact trim_cons hc
theorem blank_at (hb : ¬ (j < line.length ∧ line.getD j 0 ≠ 32)) : blank (line.drop j) := by
  by_cases hj : j < line.length
  · right; rw [drop_getD hj]
    have : line.getD j 0 = 32 := Decidable.not_not.1 fun h => hb ⟨hj, h⟩
    rw [this]; rfl
  · left; exact List.drop_eq_nil_of_le (by omega)
theorem SR.word (h : SR line out i) (hi : i < line.length) (hc : line.getD i 0 ≠ 32) (hw : first (line.drop i) = some (wd, line.drop j)) (hb : ¬ (j < line.length ∧ line.getD j 0 ≠ 32)) : SR line (out ++ [wd]) j := by
  unfold SR at *
  have ht := trim_at hi hc
  rw [h, scan_word (s := line.drop i) (w := wd) (r := line.drop j) (by rw [ht, drop_getD hi]; exact List.cons_ne_nil _ _) (by rw [ht]; exact hw) (blank_at hb)]
  cases scan (line.drop j) with
  | none => rfl
  | some l => simp
theorem SR.no (h : SR line out i) (hi : i < line.length) (hc : line.getD i 0 ≠ 32) (hw : first (line.drop i) = none) : scan line = none := by
  unfold SR at h
  have ht := trim_at hi hc
  rw [h, scan_eq, if_neg (by rw [ht, drop_getD hi]; exact List.cons_ne_nil _ _), ht, hw]; rfl
theorem SR.bad (h : SR line out i) (hi : i < line.length) (hc : line.getD i 0 ≠ 32) (hw : first (line.drop i) = some (wd, line.drop j)) (hb : j < line.length ∧ line.getD j 0 ≠ 32) : scan line = none := by
  unfold SR at h
  have ht := trim_at hi hc
  rw [h, scan_eq, if_neg (by rw [ht, drop_getD hi]; exact List.cons_ne_nil _ _), ht, hw]
  dsimp only
  rw [if_neg]; rfl
  rw [drop_getD hb.1]
  rintro (e | e)
  · cases e
  · have e : some (line.getD j 0) = some 32 := e
    injection e with e; exact hb.2 e
def QR (line : Bytes) (i0 : Nat) (wd : Bytes) (i : Nat) (c : Bool) : Prop := qw (line.drop i0) = if c = true then some (wd, line.drop i) else (qw (line.drop i)).map fun p => (wd ++ p.1, p.2)
theorem QR.start : QR line i0 [] i0 false := by
  unfold QR; rw [if_neg (by decide)]
  cases qw (line.drop i0) <;> rfl
theorem qw_one {c : UInt8} {t : Bytes} (h1 : c ≠ 39) : qw (c :: t) = if c < 32 ∨ 126 < c then none else (qw t).map fun p => (c :: p.1, p.2) := by
  cases t with
  | nil =>
    show (if c = 39 then some (([] : Bytes), ([] : Bytes)) else none) = _
    rw [if_neg h1]; split <;> rfl
  | cons d t => rw [qw, if_neg h1]
theorem QR.err (h : QR line i0 wd i false) (hi : i < line.length) (hc : line.getD i 0 < 32 ∨ 126 < line.getD i 0) : qw (line.drop i0) = none := by
  unfold QR at h; rw [if_neg (by decide)] at h
  have h1 : line.getD i 0 ≠ 39 := fun e => by rw [e] at hc; exact absurd hc (by decide)
  rw [h, drop_getD hi, qw_one h1, if_pos hc]; rfl
theorem QR.one (h : QR line i0 wd i false) (hi : i < line.length) (hc : ¬ (line.getD i 0 < 32 ∨ 126 < line.getD i 0)) (h1 : line.getD i 0 ≠ 39) : QR line i0 (wd ++ sub line i (i + 1)) (i + 1) false := by
  unfold QR at *; rw [if_neg (by decide)] at *
  rw [h, drop_getD hi, qw_one h1, if_neg hc, sub_one hi]
  cases qw (line.drop (i + 1)) with
  | none => rfl
  | some p => simp
theorem QR.two (h : QR line i0 wd i false) (hi : i + 1 < line.length) (h1 : line.getD i 0 = 39) (h2 : line.getD (i + 1) 0 = 39) : QR line i0 (wd ++ [39]) (i + 2) false := by
  unfold QR at *; rw [if_neg (by decide)] at *
  rw [h, drop_getD (by omega : i < line.length), drop_getD hi, h1, h2, qw, if_pos rfl, if_pos rfl]
  cases qw (line.drop (i + 2)) with
  | none => rfl
  | some p => simp
theorem QR.close (h : QR line i0 wd i false) (hi : i < line.length) (h1 : line.getD i 0 = 39) (h2 : ¬ (i + 1 < line.length ∧ line.getD (i + 1) 0 = 39)) : QR line i0 wd (i + 1) true := by
  unfold QR at *; rw [if_neg (by decide)] at h; rw [if_pos rfl]
  rw [h, drop_getD hi, h1]
  by_cases h3 : i + 1 < line.length
  · rw [drop_getD h3, qw, if_pos rfl, if_neg fun e => h2 ⟨h3, e⟩]; simp
  · rw [List.drop_eq_nil_of_le (by omega : line.length ≤ i + 1), qw, if_pos rfl]; simp
theorem QR.end (h : QR line i0 wd i true) : qw (line.drop i0) = some (wd, line.drop i) := h
theorem QR.open_ (h : QR line i0 wd i false) (hi : ¬ i < line.length) : qw (line.drop i0) = none := by
  unfold QR at h; rw [if_neg (by decide), List.drop_eq_nil_of_le (by omega : line.length ≤ i)] at h; exact h
theorem first_q (hi : i < line.length) (h1 : line.getD i 0 = 39) : first (line.drop i) = qw (line.drop (i + 1)) := by rw [drop_getD hi, first, if_pos h1]
theorem QR.err' (h : QR line i0 wd i c) (hc0 : c = false) (hi : i < line.length) (hc : line.getD i 0 < 32 ∨ 126 < line.getD i 0) : qw (line.drop i0) = none := QR.err (by rw [← hc0]; exact h) hi hc
theorem QR.one' (h : QR line i0 wd i c) (hc0 : c = false) (hi : i < line.length) (h2 : ¬ line.getD i 0 < 32) (h3 : ¬ 126 < line.getD i 0) (h1 : line.getD i 0 ≠ 39) : QR line i0 (wd ++ sub line i (i + 1)) (i + 1) c := by
  subst hc0; exact QR.one h hi (fun e => e.elim h2 h3) h1
theorem QR.two' (h : QR line i0 wd i c) (hc0 : c = false) (hi : i + 1 < line.length) (h1 : line.getD i 0 = 39) (h2 : line.getD (i + 1) 0 = 39) : QR line i0 (wd ++ [39]) (i + 2) c := by subst hc0; exact QR.two h hi h1 h2
theorem QR.close' (h : QR line i0 wd i c) (hc0 : c = false) (hi : i < line.length) (h1 : line.getD i 0 = 39) (h2 : ¬ ((i + 1 : Nat) : Int) < ((line.length : Nat) : Int) ∨ ¬ line.getD (i + 1) 0 = 39) : QR line i0 wd (i + 1) true :=
  QR.close (by rw [← hc0]; exact h) hi h1 fun ⟨a, b⟩ => h2.elim (fun h => h (by omega)) fun h => h b
theorem QR.end' (h : QR line i0 wd i c) (hc0 : c = true) : qw (line.drop i0) = some (wd, line.drop i) := QR.end (by rw [← hc0]; exact h)
theorem QR.open' (h : QR line i0 wd i c) (hc0 : c = false) (hi : ¬ ((i : Nat) : Int) < ((line.length : Nat) : Int) ∨ c = true) : qw (line.drop i0) = none :=
  QR.open_ (by rw [← hc0]; exact h) (hi.elim (fun h => by omega) fun h => by rw [hc0] at h; cases h)
theorem nd (h : ¬ ((j : Nat) : Int) < ((line.length : Nat) : Int) ∨ ¬ line.getD j 0 ≠ 32) : ¬ (j < line.length ∧ line.getD j 0 ≠ 32) := fun ⟨a, b⟩ => h.elim (fun h => h (by omega)) fun h => h b
theorem st_lt (h : ¬ ((j : Nat) : Int) < ((line.length : Nat) : Int) ∨ ¬ line.getD j 0 ≠ 32) (h3 : ¬ line.getD i 0 = 32) (hij : i ≤ j) (h0 : i < line.length) : i < j := by
  rcases Nat.eq_or_lt_of_le hij with e | e
  · subst e; exact absurd ⟨h0, h3⟩ (nd h)
  · exact e
theorem isW_iff {c : UInt8} : isW c = ((decide (32 < c) && decide (c ≤ 126)) && decide (c ≠ 39)) := rfl
theorem yw {c : UInt8} (h1 : 32 < c) (h2 : c ≤ 126) (h3 : c ≠ 39) : isW c = true := by rw [isW_iff, decide_eq_true h1, decide_eq_true h2, decide_eq_true h3]; rfl
theorem nw (h : ((¬ ((j : Nat) : Int) < ((line.length : Nat) : Int) ∨ ¬ 32 < line.getD j 0) ∨ ¬ line.getD j 0 ≤ 126) ∨ ¬ line.getD j 0 ≠ 39) : ¬ (j < line.length ∧ isW (line.getD j 0) = true) := fun ⟨a, b⟩ => by
  rw [isW_iff, Bool.and_eq_true, Bool.and_eq_true, decide_eq_true_eq, decide_eq_true_eq, decide_eq_true_eq] at b
  rcases h with ((h | h) | h) | h
  · exact h (by omega)
  · exact h b.1.1
  · exact h b.1.2
  · exact h b.2
def PR (line : Bytes) (i0 : Nat) (wd : Bytes) (i : Nat) : Prop := (line.drop i0).takeWhile isW = wd ++ (line.drop i).takeWhile isW ∧ (line.drop i0).dropWhile isW = (line.drop i).dropWhile isW
theorem PR.start : PR line i0 [] i0 := ⟨rfl, rfl⟩
theorem PR.one (h : PR line i0 wd i) (hi : i < line.length) (hc : isW (line.getD i 0) = true) : PR line i0 (wd ++ sub line i (i + 1)) (i + 1) := by
  obtain ⟨h1, h2⟩ := h
  rw [drop_getD hi, List.takeWhile_cons, if_pos hc] at h1
  rw [drop_getD hi, List.dropWhile_cons, if_pos hc] at h2
  exact ⟨by rw [h1, sub_one hi]; simp, h2⟩
theorem PR.end (h : PR line i0 wd i) (hi : ¬ (i < line.length ∧ isW (line.getD i 0) = true)) : (line.drop i0).takeWhile isW = wd ∧ (line.drop i0).dropWhile isW = line.drop i := by
  obtain ⟨h1, h2⟩ := h
  by_cases h3 : i < line.length
  · have h4 : ¬ isW (line.getD i 0) = true := fun h4 => hi ⟨h3, h4⟩
    rw [drop_getD h3, List.takeWhile_cons, if_neg h4, List.append_nil] at h1
    rw [drop_getD h3, List.dropWhile_cons, if_neg h4, ← drop_getD h3] at h2
    exact ⟨h1, h2⟩
  · rw [List.drop_eq_nil_of_le (by omega : line.length ≤ i)] at h1 h2 ⊢
    exact ⟨by rw [h1]; simp, h2⟩
theorem PR.word (h : PR line i0 wd i) (hi : ¬ (i < line.length ∧ isW (line.getD i 0) = true)) (h0 : i0 < line.length) (hq : line.getD i0 0 ≠ 39) (hw : isW (line.getD i0 0) = true) : first (line.drop i0) = some (wd, line.drop i) := by
  obtain ⟨h1, h2⟩ := h.end hi
  rw [drop_getD h0] at h1 h2 ⊢
  rw [first, if_neg hq, if_pos hw, h1, h2]
theorem PR.none_ (h0 : i0 < line.length) (hq : line.getD i0 0 ≠ 39) (hw : ¬ isW (line.getD i0 0) = true) : first (line.drop i0) = none := by
  rw [drop_getD h0, first, if_neg hq, if_neg hw]
theorem PR.stay (h : PR line i0 wd i) (hi : ¬ (i < line.length ∧ isW (line.getD i 0) = true)) (h0 : i0 < line.length) (hw : ¬ isW (line.getD i0 0) = true) : line.drop i0 = line.drop i := by
  obtain ⟨_, h2⟩ := h.end hi
  rwa [drop_getD h0, List.dropWhile_cons, if_neg hw, ← drop_getD h0] at h2
theorem PR.app (hs : SR line out i0) (h : PR line i0 wd i) (hi : ¬ (i < line.length ∧ isW (line.getD i 0) = true)) (h0 : i0 < line.length) (hb : line.getD i0 0 ≠ 32) (hq : line.getD i0 0 ≠ 39) (hc : ¬ (i < line.length ∧ line.getD i 0 ≠ 32)) : SR line (out ++ [wd]) i := by
  by_cases hw : isW (line.getD i0 0) = true
  · exact hs.word h0 hb (h.word hi h0 hq hw) hc
  · have e := h.stay hi h0 hw
    have e2 := congrArg List.length e
    rw [List.length_drop, List.length_drop] at e2
    have : i = i0 := by omega
    subst this
    exact absurd ⟨h0, hb⟩ hc
theorem PR.bad (hs : SR line out i0) (h : PR line i0 wd i) (hi : ¬ (i < line.length ∧ isW (line.getD i 0) = true)) (h0 : i0 < line.length) (hb : line.getD i0 0 ≠ 32) (hq : line.getD i0 0 ≠ 39) (hc : i < line.length ∧ line.getD i 0 ≠ 32) : scan line = none := by
  by_cases hw : isW (line.getD i0 0) = true
  · exact hs.bad h0 hb (h.word hi h0 hq hw) hc
  · exact hs.no h0 hb (PR.none_ h0 hq hw)
end
def noSy : List (Bytes × Bytes) := []
theorem noSy_short : ShortV noSy := shortV_nil
def ShJ (M left : List KV) : Prop := ∀ p ∈ M, p ∈ left ∨ (p.1.length ≤ 20 ∧ p.2.length ≤ 1200)
theorem ShJ.start {M : List KV} : ShJ M M := fun p h => .inl h
theorem ShJ.step {M left : List KV} {n : Nat} {p : KV} (h : ShJ M left) (hp : left[n]? = some p) (hs : p.1.length ≤ 20 ∧ p.2.length ≤ 1200) : ShJ M (left.eraseIdx n) := fun q hq => by
  rcases h q hq with h1 | h1
  · obtain ⟨i, hi, hie⟩ := List.getElem_of_mem h1
    by_cases e : i = n
    · subst e
      rw [List.getElem?_eq_getElem hi, hie] at hp
      injection hp with hp; subst hp
      exact .inr hs
    · exact .inl (List.mem_eraseIdx_iff_getElem?.2 ⟨i, e, by rw [List.getElem?_eq_getElem hi, hie]⟩)
  · exact .inr h1
theorem ShJ.stepI {M left : List KV} {n : Nat} {p : KV} (h : ShJ M left) (hp : left[n]? = some p) (h1 : ¬ (20 : Int) < ((p.1.length : Nat) : Int)) (h2 : ¬ (1200 : Int) < ((p.2.length : Nat) : Int)) : ShJ M (left.eraseIdx n) := h.step hp ⟨by omega, by omega⟩
theorem ShJ.done {M left : List KV} (h : ShJ M left) (h0 : left = []) : ShortV M := fun k => by
  unfold lookK
  cases hf : M.find? fun p => decide (p.1 = k) with
  | none => exact Nat.zero_le _
  | some p =>
    rcases h p (List.mem_of_find?_eq_some hf) with h1 | h1
    · rw [h0] at h1; cases h1
    · show p.2.length ≤ _; omega
end R39
end Go.Proofs.YtbfiibgmgopnaaaDoor

namespace Go.Proofs.YtbfiibgmgopnaaaDoor
open Go.GV
set_option linter.unusedVariables false
set_option linter.unusedSimpArgs false
theorem c39u0_ {p : Prop} (h : p := by first | omega | (have hlt := R39.st_lt (line := line) (i := i) (j := j) (by assumption) (by assumption) (by omega) (by omega); (try rw [List.length_append, List.length_singleton]); omega)) : p := h
theorem c39u1_ {p : Prop} (h : p := by first | exact R39.scanW_none (i1_1.no (by omega) (by assumption) ((R39.first_q (by omega) (by assumption)).trans (i2_2.err' (by assumption) (by omega) (by assumption)))) | exact R39.scanW_none (i1_1.no (by omega) (by assumption) ((R39.first_q (by omega) (by assumption)).trans (i2_2.open' (by assumption) (by assumption)))) | exact R39.scanW_none (i1_1.bad (by omega) (by assumption) ((R39.first_q (by omega) (by assumption)).trans (i2_2.end' (by assumption))) ⟨by omega, by assumption⟩) | exact R39.scanW_none (R39.PR.bad i1_1 i3_2 (R39.nw (by assumption)) (by omega) (by assumption) (by assumption) ⟨by omega, by assumption⟩) | exact R39.scanW_some (i1_1.done (by omega))) : p := h
theorem c39u2_ {p : Prop} (h : p := by first | omega | (simp only [List.length_append, List.length_cons, List.length_nil]; omega) | (simp; omega) | (simp_all; omega)) : p := h
theorem c39u3_ {p : Prop} (h : p := by first | exact i1_1.blank (by omega) (by assumption) | exact i1_1.word (by omega) (by assumption) ((R39.first_q (by omega) (by assumption)).trans (i2_2.end' (by assumption))) (R39.nd (by assumption)) | exact R39.PR.app i1_1 i3_2 (R39.nw (by assumption)) (by omega) (by assumption) (by assumption) (R39.nd (by assumption))) : p := h
theorem c39u4_ {p : Prop} (h : p := by first | exact i2_2.one' (by assumption) (by omega) (by assumption) (by assumption) (by assumption) | exact i2_2.two' (by assumption) (by omega) (Decidable.not_not.1 (by assumption)) (by assumption) | exact i2_2.close' (by assumption) (by omega) (Decidable.not_not.1 (by assumption)) (by assumption)) : p := h
theorem c39u5_ {p : Prop} (h : p := by first | omega | (simp only [sub, List.length_drop, List.length_take]; omega) | (simp; omega) | (simp_all; omega)) : p := h
set_option maxRecDepth 20000 in
theorem f11_ok (line : Bytes) (w : World) (q0 : line.length ≤ 1000000) : Calls Tryd.prog 11 #[vS line] w (Gives [] w fun v L => ∃ A2 : Option Addr, ∃ c2 : Nat, v = Value.tuple #[vL A2 ((R39.scanW line).length) c2, vI (R39.scanE line)] ∧ L = [Ent.row (.slice A2 (R39.scanW line).length c2) 9 1 (R39.scanW line).length ((R39.scanW line).map vS)]) := by
 refine calls_J [] 125 Tryd.func11 rfl Tryd.ntmps11 [(0, _)] rfl rfl (Give.nil w) ?_
 refine q_ (g_ (s_ av_ (s_ av_ (z_ (n_ (q_ (g_ (o_ (O_buildSlice0 Tryd.underlying24 Ty.sz9 fun b1 => ?_)))))))))
 refine s_ av_ (z_ (n_ (q_ (g_ (s_ av_ (z_ (n_ (q_ (k_ ?_)))))))))
 refine J_loop (X := Nat × (List Bytes) × (Option Addr) × Nat) (fun (⟨i, out, outA, outC⟩ : Nat × (List Bytes) × (Option Addr) × Nat) => (i ≤ line.length) ∧ (R39.SR line out i) ∧ (out.length ≤ i)) (fun (⟨i, out, outA, outC⟩ : Nat × (List Bytes) × (Option Addr) × Nat) => [(0, vS line), (4, vL outA out.length outC), (5, vI ((i : Nat) : Int))]) (fun (⟨i, out, outA, outC⟩ : Nat × (List Bytes) × (Option Addr) × Nat) => [Ent.row (.slice outA out.length outC) 9 1 out.length (out.map vS)]) (fun (⟨i, out, outA, outC⟩ : Nat × (List Bytes) × (Option Addr) × Nat) => line.length - i) ((0, ([] : List Bytes), (some ⟨b1, 0, none⟩), 0) : Nat × (List Bytes) × (Option Addr) × Nat) ?_ ⟨rfl, rfl, rfl, trivial⟩ (fun _ h => (St.torow (cs := []) h 1 0 rfl (by decide)).keep [true] rfl) ?_
 ·try dsimp only
  refine ⟨?_, ?_, ?_⟩
  ·first | rfl | omega | (simp_all; done) | (simp_all; omega)
  ·exact R39.SR.start
  ·first | rfl | omega | (simp_all; done) | (simp_all; omega)
 rintro ⟨i, out, outA, outC⟩ hI1
 obtain ⟨i1_0, i1_1, i1_2⟩ := hI1
 try dsimp only at i1_0
 try dsimp only at i1_1
 try dsimp only at i1_2
 have hsu := fun h => sub_length line i (i + 1) h
 try dsimp only
 refine q_ (q_ (g_ (s_ mv_ (s_ mv_ (s_ (x_len_s rfl Tryd.underlying9) (s_ (x_lss_i rfl rfl) (z_ (n_ ?_))))))))
 refine ifd (fun h2w h2 => ?_) (fun h2w h2 => ?_)
 ·refine sk_ (n_ (k_ (q_ (q_ (g_ (s_ mv_ (s_ mv_ (s_ (x_idx_s (k := i) rfl rfl Tryd.underlying9 (by omega)) (js_ (vB (decide (line.getD i 0 = (32 : UInt8)))) (x_eql_u8 rfl rfl) (z_ (n_ ?_)))))))))))
  refine ifd (fun h3w h3 => ?_) (fun h3w h3 => ?_)
  ·refine q_ (g_ (s_ mv_ (s_ (x_add_n (a := i) (b := 1) rfl rfl (by omega)) (s_ av_ (z_ (n_ (J_exit (ne_ (kh_ ?_)))))))))
   refine JX_round ((i + 1, out, outA, outC) : Nat × (List Bytes) × (Option Addr) × Nat) ?_ ?_ ⟨rfl, rfl, rfl, trivial⟩ (fun _ h => h)
   ·try dsimp only
    refine ⟨?_, ?_, ?_⟩
    ·first | rfl | omega | (simp_all; done) | (simp_all; omega)
    ·exact c39u3_
    ·exact c39u0_
   ·try dsimp only
    exact c39u0_
  ·refine sk_ (n_ (q_ (g_ (s_ av_ (z_ (n_ (q_ (q_ (g_ (s_ mv_ (s_ mv_ (s_ (x_idx_s (k := i) rfl rfl Tryd.underlying9 (by omega)) (js_ (vB (decide (line.getD i 0 = (39 : UInt8)))) (x_eql_u8 rfl rfl) (z_ (n_ ?_)))))))))))))))
   refine ifd (fun h4w h4 => ?_) (fun h4w h4 => ?_)
   ·refine q_ (g_ (s_ mv_ (s_ (x_add_n (a := i) (b := 1) rfl rfl (by omega)) (s_ av_ (z_ (n_ (q_ (g_ (s_ av_ (z_ (n_ (q_ (k_ ?_)))))))))))))
    refine J_loop (X := Nat × Bytes × Bool) (fun (⟨j, word, c⟩ : Nat × Bytes × Bool) => (i + 1 ≤ j) ∧ (j ≤ line.length) ∧ (R39.QR line (i + 1) word j c) ∧ (word.length ≤ j)) (fun (⟨j, word, c⟩ : Nat × Bytes × Bool) => [(0, vS line), (4, vL outA out.length outC), (5, vI ((j : Nat) : Int)), (6, vS word), (7, vB c)]) (fun (⟨j, word, c⟩ : Nat × Bytes × Bool) => [Ent.row (.slice outA out.length outC) 9 1 out.length (out.map vS)]) (fun (⟨j, word, c⟩ : Nat × Bytes × Bool) => line.length - j) ((i + 1, [], false) : Nat × Bytes × Bool) ?_ ⟨rfl, rfl, rfl, rfl, rfl, trivial⟩ (fun _ h => h) ?_
    ·try dsimp only
     refine ⟨?_, ?_, ?_, ?_⟩
     ·first | rfl | omega | (simp_all; done) | (simp_all; omega)
     ·first | rfl | omega | (simp_all; done) | (simp_all; omega)
     ·exact R39.QR.start
     ·exact Nat.zero_le _
    rintro ⟨j, word, c⟩ hI2
    obtain ⟨i2_0, i2_1, i2_2, i2_3⟩ := hI2
    try dsimp only at i2_0
    try dsimp only at i2_1
    try dsimp only at i2_2
    try dsimp only at i2_3
    have hsv := fun h => sub_length line j (j + 1) h
    try dsimp only
    refine q_ (q_ (g_ (s_ mv_ (s_ mv_ (s_ (x_len_s rfl Tryd.underlying9) (s_ (x_lss_i rfl rfl) (s_ mv_ ?_)))))))
    refine and_ 2 (!c) (fun g5 => ?_) ?_
    ·have g5r := g5
     have g5r := of_decide_eq_true g5r
     refine sg_ g5 mv_ (sg_ g5 (x_not rfl) ?_)
     exact cr_
    refine z_ (n_ ?_)
    refine if_ (fun h6 => ?_) (fun h6 => ?_)
    ·have h6w := h6
     have ⟨h6, h7⟩ := band_true h6
     have h6 := of_decide_eq_true h6
     have h7 : (c) = false := bnot_true h7
     refine sk_ (n_ (k_ (k_ (q_ (g_ (s_ mv_ (s_ mv_ (s_ (x_idx_s (k := j) rfl rfl Tryd.underlying9 (by omega)) (js_ (vB (decide (line.getD j 0 < (32 : UInt8)))) (x_lss_u8 rfl rfl) (s_ mv_ ?_))))))))))
     refine or_ 4 (decide ((126 : UInt8) < line.getD j 0)) (fun g8 => ?_) ?_
     ·have g8r := g8
      have g8r := of_decide_eq_false g8r
      have g8ru := g8r
      try simp only [UInt8.lt_iff_toNat_lt, UInt8.le_iff_toNat_le, UInt8.reduceToNat, UInt32.lt_iff_toNat_lt, UInt32.le_iff_toNat_le, UInt32.reduceToNat, UInt64.lt_iff_toNat_lt, UInt64.le_iff_toNat_le, UInt64.reduceToNat] at g8ru
      refine sg_ g8 mv_ (sg_ g8 mv_ (sg_ g8 (x_idx_s (k := j) rfl rfl Tryd.underlying9 (by omega)) (jg_ g8 (vB (decide ((126 : UInt8) < line.getD j 0))) (x_gtr_u8 rfl rfl) ?_)))
      exact cr_
     refine s_ av_ (z_ (n_ ?_))
     refine if_ (fun h9 => ?_) (fun h9 => ?_)
     ·have h9w := h9
      simp only [Bool.and_eq_true, Bool.or_eq_true, Bool.and_eq_false_iff, Bool.or_eq_false_iff, Bool.not_eq_true', Bool.not_eq_false', decide_eq_true_eq, decide_eq_false_iff_not] at h9
      refine q_ (g_ (s_ av_ (s_ av_ (z_ (n_ (rt_ (kq_ (kq_ (rr_ (kq_ (nr_ (nr_ (kq_ ?_)))))))))))))
      refine rr_ (kq_ (nr_ ?_))
      refine JX_rets [_, _] (Value.tuple #[_, _]) Tryd.results11 (fun w h => ⟨rfl, rfl, trivial⟩) rfl [Ent.row (.slice none ([] : List Bytes).length 0) 9 1 ([] : List Bytes).length (([] : List Bytes).map vS)] (fun _ h => (h.nilrow 9 1).keep [true, false] rfl) ⟨none, 0, ?_, ?_⟩
      ·have e_x0 : (0 : Nat) = ((R39.scanW line).length) := by first | exact congrArg List.length (R39.scanW_none (i1_1.no (by omega) (by assumption) ((R39.first_q (by omega) (by assumption)).trans (i2_2.err' (by assumption) (by omega) (by assumption))))) | exact congrArg List.length (R39.scanW_none (i1_1.no (by omega) (by assumption) ((R39.first_q (by omega) (by assumption)).trans (i2_2.open' (by assumption) (by assumption))))) | exact congrArg List.length (R39.scanW_none (i1_1.bad (by omega) (by assumption) ((R39.first_q (by omega) (by assumption)).trans (i2_2.end' (by assumption))) ⟨by omega, by assumption⟩)) | exact congrArg List.length (R39.scanW_none (R39.PR.bad i1_1 i3_2 (R39.nw (by assumption)) (by omega) (by assumption) (by assumption) ⟨by omega, by assumption⟩)) | exact congrArg List.length (R39.scanW_some (i1_1.done (by omega)))
       have e_x1 : (3 : Int) = (R39.scanE line) := by first | exact R39.scanE_none (i1_1.no (by omega) (by assumption) ((R39.first_q (by omega) (by assumption)).trans (i2_2.err' (by assumption) (by omega) (by assumption)))) | exact R39.scanE_none (i1_1.no (by omega) (by assumption) ((R39.first_q (by omega) (by assumption)).trans (i2_2.open' (by assumption) (by assumption)))) | exact R39.scanE_none (i1_1.bad (by omega) (by assumption) ((R39.first_q (by omega) (by assumption)).trans (i2_2.end' (by assumption))) ⟨by omega, by assumption⟩) | exact R39.scanE_none (R39.PR.bad i1_1 i3_2 (R39.nw (by assumption)) (by omega) (by assumption) (by assumption) ⟨by omega, by assumption⟩) | exact R39.scanE_some (i1_1.done (by omega))
       have e_all := (congr (congrArg (fun (x0 : Nat) (x1 : Int) => Value.tuple #[vL none x0 0, vI x1]) e_x0) e_x1)
       exact e_all
      ·have e_y0 : (([] : List Bytes) : List Bytes) = (R39.scanW line) := by
        exact c39u1_
       have e_all := (congrArg (fun (y0 : List Bytes) => [Ent.row (.slice none y0.length 0) 9 1 y0.length (y0.map vS)]) e_y0)
       exact e_all
     ·have h9w := h9
      have ⟨h9, h10⟩ := bor_false h9
      have h9 := of_decide_eq_false h9
      have h9u := h9
      try simp only [UInt8.lt_iff_toNat_lt, UInt8.le_iff_toNat_le, UInt8.reduceToNat, UInt32.lt_iff_toNat_lt, UInt32.le_iff_toNat_le, UInt32.reduceToNat, UInt64.lt_iff_toNat_lt, UInt64.le_iff_toNat_le, UInt64.reduceToNat] at h9u
      have h10 := of_decide_eq_false h10
      have h10u := h10
      try simp only [UInt8.lt_iff_toNat_lt, UInt8.le_iff_toNat_le, UInt8.reduceToNat, UInt32.lt_iff_toNat_lt, UInt32.le_iff_toNat_le, UInt32.reduceToNat, UInt64.lt_iff_toNat_lt, UInt64.le_iff_toNat_le, UInt64.reduceToNat] at h10u
      refine q_ (g_ (s_ mv_ (s_ mv_ (s_ (x_idx_s (k := j) rfl rfl Tryd.underlying9 (by omega)) (js_ (vB (decide (line.getD j 0 ≠ (39 : UInt8)))) (x_neq_u8 rfl rfl) (s_ av_ (z_ (xk_ [0, 4, 5, 6, 7, 46] ?_))))))))
      refine n_ ?_
      refine ifd (fun h11w h11 => ?_) (fun h11w h11 => ?_)
      ·refine q_ (g_ (s_ mv_ (s_ mv_ (s_ mv_ (s_ mv_ (s_ (x_add_n (a := j) (b := 1) rfl rfl (by omega)) (s_ (x_sub_s (lo := j) (hi := j + 1) rfl Tryd.underlying9 (.inl rfl) (.inl rfl) lt_ c39u5_) (s_ (x_cat_s rfl rfl c39u2_) (s_ av_ (z_ (n_ (g_ ?_))))))))))))
       refine s_ mv_ (s_ (x_add_n (a := j) (b := 1) rfl rfl (by omega)) (s_ av_ (z_ (kx_ (kx_ ?_)))))
       refine JX_round ((j + 1, word ++ (sub line j (j + 1)), c) : Nat × Bytes × Bool) ?_ ?_ ⟨rfl, rfl, rfl, rfl, rfl, trivial⟩ (fun _ h => h)
       ·try dsimp only
        refine ⟨?_, ?_, ?_, ?_⟩
        ·omega
        ·omega
        ·exact c39u4_
        ·(try simp only [List.length_append, List.length_cons, List.length_nil]); omega
       ·try dsimp only
        omega
      ·refine q_ (g_ (s_ mv_ (s_ (x_add_n (a := j) (b := 1) rfl rfl (by omega)) (s_ mv_ (s_ (x_len_s rfl Tryd.underlying9) (s_ (x_lss_i rfl rfl) (s_ mv_ ?_)))))))
       refine and_ 5 (decide (line.getD (j + 1) 0 = (39 : UInt8))) (fun g12 => ?_) ?_
       ·have g12r := g12
        have g12r := of_decide_eq_true g12r
        refine sg_ g12 mv_ (sg_ g12 mv_ (sg_ g12 (x_add_n (a := j) (b := 1) rfl rfl (by omega)) (sg_ g12 (x_idx_s (k := j + 1) rfl rfl Tryd.underlying9 (by omega)) (jg_ g12 (vB (decide (line.getD (j + 1) 0 = (39 : UInt8)))) (x_eql_u8 rfl rfl) ?_))))
        exact cr_
       refine s_ av_ (z_ (n_ ?_))
       refine if_ (fun h13 => ?_) (fun h13 => ?_)
       ·have h13w := h13
        have ⟨h13, h14⟩ := band_true h13
        have h13 := of_decide_eq_true h13
        have h14 := of_decide_eq_true h14
        refine q_ (g_ (s_ mv_ (js_ (vS (word ++ [39])) (x_cat_s rfl rfl c39u2_) (s_ av_ (z_ (n_ (g_ (s_ mv_ (s_ (x_add_n (a := j) (b := 2) rfl rfl (by omega)) (s_ av_ (z_ (kx_ (kx_ ?_)))))))))))))
        refine JX_round ((j + 2, word ++ [39], c) : Nat × Bytes × Bool) ?_ ?_ ⟨rfl, rfl, rfl, rfl, rfl, trivial⟩ (fun _ h => h)
        ·try dsimp only
         refine ⟨?_, ?_, ?_, ?_⟩
         ·omega
         ·omega
         ·exact c39u4_
         ·(try simp only [List.length_append, List.length_cons, List.length_nil]); omega
        ·try dsimp only
         omega
       ·have h13w := h13
        simp only [Bool.and_eq_true, Bool.or_eq_true, Bool.and_eq_false_iff, Bool.or_eq_false_iff, Bool.not_eq_true', Bool.not_eq_false', decide_eq_true_eq, decide_eq_false_iff_not] at h13
        refine q_ (g_ (s_ av_ (z_ (n_ (g_ (s_ mv_ (s_ (x_add_n (a := j) (b := 1) rfl rfl (by omega)) (s_ av_ (z_ (kx_ (kx_ ?_)))))))))))
        refine JX_round ((j + 1, word, true) : Nat × Bytes × Bool) ?_ ?_ ⟨rfl, rfl, rfl, rfl, rfl, trivial⟩ (fun _ h => h)
        ·try dsimp only
         refine ⟨?_, ?_, ?_, ?_⟩
         ·omega
         ·omega
         ·exact c39u4_
         ·(try simp only [List.length_append, List.length_cons, List.length_nil]); omega
        ·try dsimp only
         omega
    ·have h6w := h6
     simp only [Bool.and_eq_true, Bool.or_eq_true, Bool.and_eq_false_iff, Bool.or_eq_false_iff, Bool.not_eq_true', Bool.not_eq_false', decide_eq_true_eq, decide_eq_false_iff_not] at h6
     refine J_exit (ne_ (re_ (kh_ (n_ (q_ ?_)))))
     refine g_ (s_ mv_ (s_ (x_not rfl) (z_ (n_ ?_))))
     refine if_ (fun h15 => ?_) (fun h15 => ?_)
     ·have h15w := h15
      have h15 : (c) = false := bnot_true h15
      refine q_ (g_ (s_ av_ (s_ av_ (z_ (n_ (rt_ (nr_ (kq_ (rr_ (kq_ (nr_ ?_)))))))))))
      refine JX_rets [_, _] (Value.tuple #[_, _]) Tryd.results11 (fun w h => ⟨rfl, rfl, trivial⟩) rfl [Ent.row (.slice none ([] : List Bytes).length 0) 9 1 ([] : List Bytes).length (([] : List Bytes).map vS)] (fun _ h => (h.nilrow 9 1).keep [true, false] rfl) ⟨none, 0, ?_, ?_⟩
      ·have e_x0 : (0 : Nat) = ((R39.scanW line).length) := by first | exact congrArg List.length (R39.scanW_none (i1_1.no (by omega) (by assumption) ((R39.first_q (by omega) (by assumption)).trans (i2_2.err' (by assumption) (by omega) (by assumption))))) | exact congrArg List.length (R39.scanW_none (i1_1.no (by omega) (by assumption) ((R39.first_q (by omega) (by assumption)).trans (i2_2.open' (by assumption) (by assumption))))) | exact congrArg List.length (R39.scanW_none (i1_1.bad (by omega) (by assumption) ((R39.first_q (by omega) (by assumption)).trans (i2_2.end' (by assumption))) ⟨by omega, by assumption⟩)) | exact congrArg List.length (R39.scanW_none (R39.PR.bad i1_1 i3_2 (R39.nw (by assumption)) (by omega) (by assumption) (by assumption) ⟨by omega, by assumption⟩)) | exact congrArg List.length (R39.scanW_some (i1_1.done (by omega)))
       have e_x1 : (3 : Int) = (R39.scanE line) := by first | exact R39.scanE_none (i1_1.no (by omega) (by assumption) ((R39.first_q (by omega) (by assumption)).trans (i2_2.err' (by assumption) (by omega) (by assumption)))) | exact R39.scanE_none (i1_1.no (by omega) (by assumption) ((R39.first_q (by omega) (by assumption)).trans (i2_2.open' (by assumption) (by assumption)))) | exact R39.scanE_none (i1_1.bad (by omega) (by assumption) ((R39.first_q (by omega) (by assumption)).trans (i2_2.end' (by assumption))) ⟨by omega, by assumption⟩) | exact R39.scanE_none (R39.PR.bad i1_1 i3_2 (R39.nw (by assumption)) (by omega) (by assumption) (by assumption) ⟨by omega, by assumption⟩) | exact R39.scanE_some (i1_1.done (by omega))
       have e_all := (congr (congrArg (fun (x0 : Nat) (x1 : Int) => Value.tuple #[vL none x0 0, vI x1]) e_x0) e_x1)
       exact e_all
      ·have e_y0 : (([] : List Bytes) : List Bytes) = (R39.scanW line) := by
        exact c39u1_
       have e_all := (congrArg (fun (y0 : List Bytes) => [Ent.row (.slice none y0.length 0) 9 1 y0.length (y0.map vS)]) e_y0)
       exact e_all
     ·have h15w := h15
      have h15 : (c) = true := bnot_false h15
      refine sk_ (n_ (q_ (q_ (g_ (s_ mv_ (s_ mv_ (s_ (x_len_s rfl Tryd.underlying9) (s_ (x_lss_i rfl rfl) (s_ mv_ ?_)))))))))
      refine and_ 4 (decide (line.getD j 0 ≠ (32 : UInt8))) (fun g16 => ?_) ?_
      ·have g16r := g16
       have g16r := of_decide_eq_true g16r
       refine sg_ g16 mv_ (sg_ g16 mv_ (sg_ g16 (x_idx_s (k := j) rfl rfl Tryd.underlying9 (by omega)) (jg_ g16 (vB (decide (line.getD j 0 ≠ (32 : UInt8)))) (x_neq_u8 rfl rfl) ?_)))
       exact cr_
      refine z_ (n_ ?_)
      refine if_ (fun h17 => ?_) (fun h17 => ?_)
      ·have h17w := h17
       have ⟨h17, h18⟩ := band_true h17
       have h17 := of_decide_eq_true h17
       have h18 := of_decide_eq_true h18
       refine q_ (g_ (s_ av_ (s_ av_ (z_ (xk_ [0, 4, 5, 6, 2, 3] ?_)))))
       refine n_ (rt_ (nr_ (kq_ (rr_ (kq_ (nr_ ?_))))))
       refine JX_rets [_, _] (Value.tuple #[_, _]) Tryd.results11 (fun w h => ⟨rfl, rfl, trivial⟩) rfl [Ent.row (.slice none ([] : List Bytes).length 0) 9 1 ([] : List Bytes).length (([] : List Bytes).map vS)] (fun _ h => (h.nilrow 9 1).keep [true, false] rfl) ⟨none, 0, ?_, ?_⟩
       ·have e_x0 : (0 : Nat) = ((R39.scanW line).length) := by first | exact congrArg List.length (R39.scanW_none (i1_1.no (by omega) (by assumption) ((R39.first_q (by omega) (by assumption)).trans (i2_2.err' (by assumption) (by omega) (by assumption))))) | exact congrArg List.length (R39.scanW_none (i1_1.no (by omega) (by assumption) ((R39.first_q (by omega) (by assumption)).trans (i2_2.open' (by assumption) (by assumption))))) | exact congrArg List.length (R39.scanW_none (i1_1.bad (by omega) (by assumption) ((R39.first_q (by omega) (by assumption)).trans (i2_2.end' (by assumption))) ⟨by omega, by assumption⟩)) | exact congrArg List.length (R39.scanW_none (R39.PR.bad i1_1 i3_2 (R39.nw (by assumption)) (by omega) (by assumption) (by assumption) ⟨by omega, by assumption⟩)) | exact congrArg List.length (R39.scanW_some (i1_1.done (by omega)))
        have e_x1 : (3 : Int) = (R39.scanE line) := by first | exact R39.scanE_none (i1_1.no (by omega) (by assumption) ((R39.first_q (by omega) (by assumption)).trans (i2_2.err' (by assumption) (by omega) (by assumption)))) | exact R39.scanE_none (i1_1.no (by omega) (by assumption) ((R39.first_q (by omega) (by assumption)).trans (i2_2.open' (by assumption) (by assumption)))) | exact R39.scanE_none (i1_1.bad (by omega) (by assumption) ((R39.first_q (by omega) (by assumption)).trans (i2_2.end' (by assumption))) ⟨by omega, by assumption⟩) | exact R39.scanE_none (R39.PR.bad i1_1 i3_2 (R39.nw (by assumption)) (by omega) (by assumption) (by assumption) ⟨by omega, by assumption⟩) | exact R39.scanE_some (i1_1.done (by omega))
        have e_all := (congr (congrArg (fun (x0 : Nat) (x1 : Int) => Value.tuple #[vL none x0 0, vI x1]) e_x0) e_x1)
        exact e_all
       ·have e_y0 : (([] : List Bytes) : List Bytes) = (R39.scanW line) := by
         exact c39u1_
        have e_all := (congrArg (fun (y0 : List Bytes) => [Ent.row (.slice none y0.length 0) 9 1 y0.length (y0.map vS)]) e_y0)
        exact e_all
      ·have h17w := h17
       simp only [Bool.and_eq_true, Bool.or_eq_true, Bool.and_eq_false_iff, Bool.or_eq_false_iff, Bool.not_eq_true', Bool.not_eq_false', decide_eq_true_eq, decide_eq_false_iff_not] at h17
       refine sk_ (n_ (g_ (s_ mv_ (s_ mv_ (o_ (O_buildSlice (cs := [vS word]) Tryd.underlying24 Ty.sz9 Ty.ze9 (by decide) (by decide) (by kernel_rfl) fun b19 => ?_))))))
       refine o_ (O_append_m 1 vS out [word] Tryd.underlying24 Ty.sz9 Ty.by9 Ty.ze9 rfl rfl rfl rfl rfl (fun _ => rfl) (cells_blk 0 (off := 0) (m := 1) rfl rfl) lt_ lt_ fun A20 c21 => ?_)
       refine s_ av_ (z_ (kx_ ?_))
       refine JX_round ((j, out ++ [word], A20, c21) : Nat × (List Bytes) × (Option Addr) × Nat) ?_ ?_ ⟨rfl, rfl, rfl, trivial⟩ (fun _ h => h.keep [false, true] rfl)
       ·try dsimp only
        refine ⟨?_, ?_, ?_⟩
        ·first | rfl | omega | (simp_all; done) | (simp_all; omega)
        ·exact c39u3_
        ·exact c39u0_
       ·try dsimp only
        exact c39u0_
   ·refine k_ ?_
    refine J_loop (X := Nat × Bytes) (fun (⟨j, word⟩ : Nat × Bytes) => (i ≤ j) ∧ (j ≤ line.length) ∧ (R39.PR line i word j) ∧ (word.length ≤ j)) (fun (⟨j, word⟩ : Nat × Bytes) => [(0, vS line), (4, vL outA out.length outC), (5, vI ((j : Nat) : Int)), (6, vS word)]) (fun (⟨j, word⟩ : Nat × Bytes) => [Ent.row (.slice outA out.length outC) 9 1 out.length (out.map vS)]) (fun (⟨j, word⟩ : Nat × Bytes) => line.length - j) ((i, []) : Nat × Bytes) ?_ ⟨rfl, rfl, rfl, rfl, trivial⟩ (fun _ h => h) ?_
    ·try dsimp only
     refine ⟨?_, ?_, ?_, ?_⟩
     ·first | rfl | omega | (simp_all; done) | (simp_all; omega)
     ·first | rfl | omega | (simp_all; done) | (simp_all; omega)
     ·exact R39.PR.start
     ·exact Nat.zero_le _
    rintro ⟨j, word⟩ hI3
    obtain ⟨i3_0, i3_1, i3_2, i3_3⟩ := hI3
    try dsimp only at i3_0
    try dsimp only at i3_1
    try dsimp only at i3_2
    try dsimp only at i3_3
    have hsv := fun h => sub_length line j (j + 1) h
    try dsimp only
    refine q_ (q_ (g_ (s_ mv_ (s_ mv_ (s_ (x_len_s rfl Tryd.underlying9) (s_ (x_lss_i rfl rfl) (s_ mv_ ?_)))))))
    refine and_ 4 (decide ((32 : UInt8) < line.getD j 0)) (fun g22 => ?_) ?_
    ·have g22r := g22
     have g22r := of_decide_eq_true g22r
     refine sg_ g22 mv_ (sg_ g22 mv_ (sg_ g22 (x_idx_s (k := j) rfl rfl Tryd.underlying9 (by omega)) (jg_ g22 (vB (decide ((32 : UInt8) < line.getD j 0))) (x_gtr_u8 rfl rfl) ?_)))
     exact cr_
    refine s_ mv_ ?_
    refine and_ 4 (decide (line.getD j 0 ≤ (126 : UInt8))) (fun g23 => ?_) ?_
    ·have g23r := g23
     have ⟨g23r, h24⟩ := band_true g23r
     have g23r := of_decide_eq_true g23r
     have h24 := of_decide_eq_true h24
     have h24u := h24
     try simp only [UInt8.lt_iff_toNat_lt, UInt8.le_iff_toNat_le, UInt8.reduceToNat, UInt32.lt_iff_toNat_lt, UInt32.le_iff_toNat_le, UInt32.reduceToNat, UInt64.lt_iff_toNat_lt, UInt64.le_iff_toNat_le, UInt64.reduceToNat] at h24u
     refine sg_ g23 mv_ (sg_ g23 mv_ (sg_ g23 (x_idx_s (k := j) rfl rfl Tryd.underlying9 (by omega)) (jg_ g23 (vB (decide (line.getD j 0 ≤ (126 : UInt8)))) (x_leq_u8 rfl rfl) ?_)))
     exact cr_
    refine s_ mv_ ?_
    refine and_ 4 (decide (line.getD j 0 ≠ (39 : UInt8))) (fun g25 => ?_) ?_
    ·have g25r := g25
     have ⟨g25r, h26⟩ := band_true g25r
     have ⟨g25r, h27⟩ := band_true g25r
     have g25r := of_decide_eq_true g25r
     have h27 := of_decide_eq_true h27
     have h27u := h27
     try simp only [UInt8.lt_iff_toNat_lt, UInt8.le_iff_toNat_le, UInt8.reduceToNat, UInt32.lt_iff_toNat_lt, UInt32.le_iff_toNat_le, UInt32.reduceToNat, UInt64.lt_iff_toNat_lt, UInt64.le_iff_toNat_le, UInt64.reduceToNat] at h27u
     have h26 := of_decide_eq_true h26
     have h26u := h26
     try simp only [UInt8.lt_iff_toNat_lt, UInt8.le_iff_toNat_le, UInt8.reduceToNat, UInt32.lt_iff_toNat_lt, UInt32.le_iff_toNat_le, UInt32.reduceToNat, UInt64.lt_iff_toNat_lt, UInt64.le_iff_toNat_le, UInt64.reduceToNat] at h26u
     refine sg_ g25 mv_ (sg_ g25 mv_ (sg_ g25 (x_idx_s (k := j) rfl rfl Tryd.underlying9 (by omega)) (jg_ g25 (vB (decide (line.getD j 0 ≠ (39 : UInt8)))) (x_neq_u8 rfl rfl) ?_)))
     exact cr_
    refine z_ (n_ ?_)
    refine if_ (fun h28 => ?_) (fun h28 => ?_)
    ·have h28w := h28
     have ⟨h28, h29⟩ := band_true h28
     have ⟨h28, h30⟩ := band_true h28
     have ⟨h28, h31⟩ := band_true h28
     have h28 := of_decide_eq_true h28
     have h31 := of_decide_eq_true h31
     have h31u := h31
     try simp only [UInt8.lt_iff_toNat_lt, UInt8.le_iff_toNat_le, UInt8.reduceToNat, UInt32.lt_iff_toNat_lt, UInt32.le_iff_toNat_le, UInt32.reduceToNat, UInt64.lt_iff_toNat_lt, UInt64.le_iff_toNat_le, UInt64.reduceToNat] at h31u
     have h30 := of_decide_eq_true h30
     have h30u := h30
     try simp only [UInt8.lt_iff_toNat_lt, UInt8.le_iff_toNat_le, UInt8.reduceToNat, UInt32.lt_iff_toNat_lt, UInt32.le_iff_toNat_le, UInt32.reduceToNat, UInt64.lt_iff_toNat_lt, UInt64.le_iff_toNat_le, UInt64.reduceToNat] at h30u
     have h29 := of_decide_eq_true h29
     refine sk_ (n_ (k_ (q_ (g_ (s_ mv_ (s_ mv_ (s_ mv_ (s_ mv_ (s_ (x_add_n (a := j) (b := 1) rfl rfl (by omega)) (s_ (x_sub_s (lo := j) (hi := j + 1) rfl Tryd.underlying9 (.inl rfl) (.inl rfl) lt_ c39u5_) (s_ (x_cat_s rfl rfl c39u2_) (s_ av_ (z_ ?_)))))))))))))
     refine xk_ [0, 4, 5, 6] ?_
     refine n_ (g_ (s_ mv_ (s_ (x_add_n (a := j) (b := 1) rfl rfl (by omega)) (s_ av_ (z_ (kx_ ?_))))))
     refine JX_round ((j + 1, word ++ (sub line j (j + 1))) : Nat × Bytes) ?_ ?_ ⟨rfl, rfl, rfl, rfl, trivial⟩ (fun _ h => h)
     ·try dsimp only
      refine ⟨?_, ?_, ?_, ?_⟩
      ·omega
      ·omega
      ·exact i3_2.one (by omega) (R39.yw (by assumption) (by assumption) (by assumption))
      ·(try simp only [List.length_append, List.length_cons, List.length_nil]); omega
     ·try dsimp only
      omega
    ·have h28w := h28
     simp only [Bool.and_eq_true, Bool.or_eq_true, Bool.and_eq_false_iff, Bool.or_eq_false_iff, Bool.not_eq_true', Bool.not_eq_false', decide_eq_true_eq, decide_eq_false_iff_not] at h28
     refine J_exit (ne_ (re_ (kh_ (n_ (q_ ?_)))))
     refine q_ (g_ (s_ mv_ (s_ mv_ (s_ (x_len_s rfl Tryd.underlying9) (s_ (x_lss_i rfl rfl) (s_ mv_ ?_))))))
     refine and_ 4 (decide (line.getD j 0 ≠ (32 : UInt8))) (fun g32 => ?_) ?_
     ·have g32r := g32
      have g32r := of_decide_eq_true g32r
      refine sg_ g32 mv_ (sg_ g32 mv_ (sg_ g32 (x_idx_s (k := j) rfl rfl Tryd.underlying9 (by omega)) (jg_ g32 (vB (decide (line.getD j 0 ≠ (32 : UInt8)))) (x_neq_u8 rfl rfl) ?_)))
      exact cr_
     refine z_ (n_ ?_)
     refine if_ (fun h33 => ?_) (fun h33 => ?_)
     ·have h33w := h33
      have ⟨h33, h34⟩ := band_true h33
      have h33 := of_decide_eq_true h33
      have h34 := of_decide_eq_true h34
      refine q_ (g_ (s_ av_ (s_ av_ (z_ (xk_ [0, 4, 5, 6, 2, 3] ?_)))))
      refine n_ (rt_ (nr_ (kq_ (rr_ (kq_ (nr_ ?_))))))
      refine JX_rets [_, _] (Value.tuple #[_, _]) Tryd.results11 (fun w h => ⟨rfl, rfl, trivial⟩) rfl [Ent.row (.slice none ([] : List Bytes).length 0) 9 1 ([] : List Bytes).length (([] : List Bytes).map vS)] (fun _ h => (h.nilrow 9 1).keep [true, false] rfl) ⟨none, 0, ?_, ?_⟩
      ·have e_x0 : (0 : Nat) = ((R39.scanW line).length) := by first | exact congrArg List.length (R39.scanW_none (i1_1.no (by omega) (by assumption) ((R39.first_q (by omega) (by assumption)).trans (i2_2.err' (by assumption) (by omega) (by assumption))))) | exact congrArg List.length (R39.scanW_none (i1_1.no (by omega) (by assumption) ((R39.first_q (by omega) (by assumption)).trans (i2_2.open' (by assumption) (by assumption))))) | exact congrArg List.length (R39.scanW_none (i1_1.bad (by omega) (by assumption) ((R39.first_q (by omega) (by assumption)).trans (i2_2.end' (by assumption))) ⟨by omega, by assumption⟩)) | exact congrArg List.length (R39.scanW_none (R39.PR.bad i1_1 i3_2 (R39.nw (by assumption)) (by omega) (by assumption) (by assumption) ⟨by omega, by assumption⟩)) | exact congrArg List.length (R39.scanW_some (i1_1.done (by omega)))
       have e_x1 : (3 : Int) = (R39.scanE line) := by first | exact R39.scanE_none (i1_1.no (by omega) (by assumption) ((R39.first_q (by omega) (by assumption)).trans (i2_2.err' (by assumption) (by omega) (by assumption)))) | exact R39.scanE_none (i1_1.no (by omega) (by assumption) ((R39.first_q (by omega) (by assumption)).trans (i2_2.open' (by assumption) (by assumption)))) | exact R39.scanE_none (i1_1.bad (by omega) (by assumption) ((R39.first_q (by omega) (by assumption)).trans (i2_2.end' (by assumption))) ⟨by omega, by assumption⟩) | exact R39.scanE_none (R39.PR.bad i1_1 i3_2 (R39.nw (by assumption)) (by omega) (by assumption) (by assumption) ⟨by omega, by assumption⟩) | exact R39.scanE_some (i1_1.done (by omega))
       have e_all := (congr (congrArg (fun (x0 : Nat) (x1 : Int) => Value.tuple #[vL none x0 0, vI x1]) e_x0) e_x1)
       exact e_all
      ·have e_y0 : (([] : List Bytes) : List Bytes) = (R39.scanW line) := by
        exact c39u1_
       have e_all := (congrArg (fun (y0 : List Bytes) => [Ent.row (.slice none y0.length 0) 9 1 y0.length (y0.map vS)]) e_y0)
       exact e_all
     ·have h33w := h33
      simp only [Bool.and_eq_true, Bool.or_eq_true, Bool.and_eq_false_iff, Bool.or_eq_false_iff, Bool.not_eq_true', Bool.not_eq_false', decide_eq_true_eq, decide_eq_false_iff_not] at h33
      refine sk_ (n_ (g_ (s_ mv_ (s_ mv_ (o_ (O_buildSlice (cs := [vS word]) Tryd.underlying24 Ty.sz9 Ty.ze9 (by decide) (by decide) (by kernel_rfl) fun b35 => ?_))))))
      refine o_ (O_append_m 1 vS out [word] Tryd.underlying24 Ty.sz9 Ty.by9 Ty.ze9 rfl rfl rfl rfl rfl (fun _ => rfl) (cells_blk 0 (off := 0) (m := 1) rfl rfl) lt_ lt_ fun A36 c37 => ?_)
      refine s_ av_ (z_ (kx_ ?_))
      refine JX_round ((j, out ++ [word], A36, c37) : Nat × (List Bytes) × (Option Addr) × Nat) ?_ ?_ ⟨rfl, rfl, rfl, trivial⟩ (fun _ h => h.keep [false, true] rfl)
      ·try dsimp only
       refine ⟨?_, ?_, ?_⟩
       ·first | rfl | omega | (simp_all; done) | (simp_all; omega)
       ·exact c39u3_
       ·exact c39u0_
      ·try dsimp only
       exact c39u0_
 ·refine J_exit (ne_ (re_ (kh_ (n_ (q_ ?_)))))
  refine g_ (s_ mv_ (s_ av_ (s_ av_ (z_ (n_ (rt_ ?_))))))
  refine JX_rets [_, _] (Value.tuple #[_, _]) Tryd.results11 (fun w h => ⟨rfl, rfl, trivial⟩) rfl _ (fun _ h => h) ⟨outA, outC, ?_, ?_⟩
  ·have e_x0 : (out.length : Nat) = ((R39.scanW line).length) := by first | exact congrArg List.length (R39.scanW_none (i1_1.no (by omega) (by assumption) ((R39.first_q (by omega) (by assumption)).trans (i2_2.err' (by assumption) (by omega) (by assumption))))) | exact congrArg List.length (R39.scanW_none (i1_1.no (by omega) (by assumption) ((R39.first_q (by omega) (by assumption)).trans (i2_2.open' (by assumption) (by assumption))))) | exact congrArg List.length (R39.scanW_none (i1_1.bad (by omega) (by assumption) ((R39.first_q (by omega) (by assumption)).trans (i2_2.end' (by assumption))) ⟨by omega, by assumption⟩)) | exact congrArg List.length (R39.scanW_none (R39.PR.bad i1_1 i3_2 (R39.nw (by assumption)) (by omega) (by assumption) (by assumption) ⟨by omega, by assumption⟩)) | exact congrArg List.length (R39.scanW_some (i1_1.done (by omega)))
   have e_x1 : (0 : Int) = (R39.scanE line) := by first | exact R39.scanE_none (i1_1.no (by omega) (by assumption) ((R39.first_q (by omega) (by assumption)).trans (i2_2.err' (by assumption) (by omega) (by assumption)))) | exact R39.scanE_none (i1_1.no (by omega) (by assumption) ((R39.first_q (by omega) (by assumption)).trans (i2_2.open' (by assumption) (by assumption)))) | exact R39.scanE_none (i1_1.bad (by omega) (by assumption) ((R39.first_q (by omega) (by assumption)).trans (i2_2.end' (by assumption))) ⟨by omega, by assumption⟩) | exact R39.scanE_none (R39.PR.bad i1_1 i3_2 (R39.nw (by assumption)) (by omega) (by assumption) (by assumption) ⟨by omega, by assumption⟩) | exact R39.scanE_some (i1_1.done (by omega))
   have e_all := (congr (congrArg (fun (x0 : Nat) (x1 : Int) => Value.tuple #[vL outA x0 outC, vI x1]) e_x0) e_x1)
   exact e_all
  ·have e_y0 : (out : List Bytes) = (R39.scanW line) := by
    exact c39u1_
   have e_all := (congrArg (fun (y0 : List Bytes) => [Ent.row (.slice outA y0.length outC) 9 1 y0.length (y0.map vS)]) e_y0)
   exact e_all
end Go.Proofs.YtbfiibgmgopnaaaDoor

namespace Go.GV
open Go.RowKit Go.Op
section
variable {κ : Type} [DecidableEq κ] {E : Env} {P : Program} {x : Operand} {dst : Option Nat} {t ty : TypeId} {pos : String} {af : Array Edge} {g : Option (Nat × Bool)}
omit [DecidableEq κ] in
theorem x_len_mpR {S : List Nat} {w0 : World} {L : List Ent} {f : κ → Value} {b : Nat} {l : List (κ × Value)} (hat : ∀ w, St S w0 w L → (Ent.mp f b l).at w) {kt et : TypeId} {n : Nat} (hx : ev E x = .map (some b)) (ht : P.underlying t = some (.map kt et)) (hn : l.length = n) :
    ∀ w, St S w0 w L → (execOp (ev E) ⟨dst, .call ⟨.builtin .len, #[x], #[t]⟩, ty, pos, af, g⟩).run P w = .ok (.value (vI (n : Int))) w := by
  intro w hS
  subst hn
  obtain ⟨es, clock, hb, hes, _⟩ := mp_at (hat w hS)
  have hl : es.size = l.length := by
    have := congrArg List.length hes
    simpa using this
  rw [← hl]
  have hr : (Builtin.len_ #[t] ty #[.map (some b)]).run P w = .ok (vI (es.size : Int)) w := by
    simp only [Builtin.len_]
    show Sem.run P (do let u ← underlying t; _) w = _
    simp [run_underlying ht, goInt, MapKept.run_getObj_map hb]
  simp [execOp, resolve, invoke, builtin, hx, hr]
theorem x_len_nilmp {S : List Nat} {w0 : World} {L : List Ent} {kt et : TypeId} (hx : ev E x = .map none) (ht : P.underlying t = some (.map kt et)) :
    ∀ w, St S w0 w L → (execOp (ev E) ⟨dst, .call ⟨.builtin .len, #[x], #[t]⟩, ty, pos, af, g⟩).run P w = .ok (.value (vI ((0 : Nat) : Int))) w := by
  intro w hS
  have hr : (Builtin.len_ #[t] ty #[.map none]).run P w = .ok (vI ((0 : Nat) : Int)) w := by
    simp only [Builtin.len_]
    show Sem.run P (do let u ← underlying t; _) w = _
    simp [run_underlying ht, goInt]
  simp [execOp, resolve, invoke, builtin, hx, hr]
theorem run_lookup_nil {f : κ → Value} {w : World} {kt et : TypeId} {zv : Value} {k : κ} (ht : P.underlying t = some (.map kt et)) (hK : MapK P kt f) (hz : zeroIs P et = some zv) :
    (Instr.lookup t (.map none) (f k) true).run P w = .ok (.tuple #[zv, .bool false]) w := by
  obtain ⟨d, hd, hkey, hinj⟩ := hK.ex
  unfold Instr.lookup
  simp only [Sem.run_bind, run_underlying ht, Result.andThen_ok, Sem.run_pure, MapKept.run_checkKey hd (hkey k)]
  rcases find_lk hkey hinj k [] [] 0 rfl with ⟨h1, h2⟩ | ⟨j, v, h1, h2, _⟩
  · simp only [MapKept.run_findKey hd h1, Result.andThen_ok, Sem.run_bind, run_zeroValue_is hz, Sem.run_pure]
    rfl
  · cases h2
theorem x_lookup_okN {S : List Nat} {w0 : World} {L : List Ent} {y : Operand} {f : κ → Value} {kt et : TypeId} {zv v : Value} {o : Bool} {k : κ} (hx : ev E x = .map none) (hy : ev E y = f k) (ht : P.underlying t = some (.map kt et)) (hK : MapK P kt f) (hz : zeroIs P et = some zv) (hv : zv = v) (ho : false = o) :
    ∀ w, St S w0 w L → (execOp (ev E) ⟨dst, .lookup t x y true, ty, pos, af, g⟩).run P w = .ok (.value (.tuple #[v, vB o])) w := by
  intro w hS
  subst hv; subst ho
  simp only [execOp, hx, hy]
  show Sem.run P (do let v ← Instr.lookup t (.map none) (f k) true; pure (Next.value v)) w = _
  rw [Sem.run_bind, run_lookup_nil (k := k) ht hK hz]; rfl
theorem O_rangeN {S : List Nat} {w0 : World} {L : List Ent} {K : Value → List Ent → Prop} {kt et : TypeId} (hx : ev E x = .map none) (ht : P.underlying t = some (.map kt et))
    (k : ∀ it, K (.pointer (some ⟨it, 0, none⟩)) (Ent.obj it (.mapIter none 0 #[] 0) :: L)) : OpJ P S w0 E L ⟨dst, .range t x, ty, pos, af, g⟩ K := by
  intro w hS
  refine ⟨_, _, _, .inl ?_, hS.allocObj (.mapIter none 0 #[] 0), k _⟩
  simp only [execOp, hx]
  show Sem.run P (do let v ← Instr.range t (.map none); pure (Next.value v)) w = _
  rw [Sem.run_bind, run_range_nilMap w t kt et ht]; rfl
theorem x_nextN {S : List Nat} {w0 : World} {L : List Ent} (j : Nat) {it : Nat} (hx : ev E x = .pointer (some ⟨it, 0, none⟩)) (hj : L[j]? = some (Ent.obj it (.mapIter none 0 #[] 0))) :
    ∀ w, St S w0 w L → (execOp (ev E) ⟨dst, .next x false, ty, pos, af, g⟩).run P w = .ok (.value (.tuple #[vB false])) w := by
  intro w hS
  have h := obj_at (hS.mem hj)
  have hr : (Instr.next (.pointer (some ⟨it, 0, none⟩)) false ty).run P w = .ok (.tuple #[vB false]) w := by
    simp only [Instr.next, getObj, Sem.run_bind, Sem.run, h, Result.andThen]
    rfl
  simp only [execOp, hx]
  show Sem.run P (do let v ← Instr.next (.pointer (some ⟨it, 0, none⟩)) false ty; pure (Next.value v)) w = _
  rw [Sem.run_bind, hr]; rfl
end
end Go.GV
