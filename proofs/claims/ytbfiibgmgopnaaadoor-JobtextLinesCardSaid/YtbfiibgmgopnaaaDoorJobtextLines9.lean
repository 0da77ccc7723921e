/- Pl39i, Ca39, C39b in one text. -/
import Derived.Test.YtbfiibgmgopnaaaDoorJobtextLines8
import Derived.Laws.RangeAny
import Derived.Laws.Runes
import Derived.Deep.LoopGhost
import Derived.WalkMore
import Derived.Deep.RegionWith
import Derived.Lib.OthersKept
import Derived.Lib.IndexAny
import Derived.WalkKit
import Derived.ProofKit
import Derived.Test.YtbfiibgmgopnaaaDoorJobtextLines5
set_option linter.unusedVariables false
set_option linter.unusedSimpArgs false
namespace Go.Proofs.YtbfiibgmgopnaaaDoor
open Go.GV
namespace R39
theorem drop_cons {s : Bytes} {i : Nat} (h : i < s.length) : s.drop i = s.getD i 0 :: s.drop (i + 1) := by
  rw [List.drop_eq_getElem_cons h, List.getD_eq_getElem?_getD, List.getElem?_eq_getElem h]; rfl
def QwJ (s word : Bytes) (i : Nat) : Prop := first s = (qw (s.drop i)).map fun p => (word ++ p.1, p.2)
section
variable {s word : Bytes} {i : Nat}
theorem QwJ.start (h0 : 0 < s.length) (h : s.getD 0 0 = 39) : QwJ s [] 1 := by
  unfold QwJ
  cases s with
  | nil => cases h0
  | cons c t =>
    have h : c = 39 := h
    rw [first, if_pos h]
    show qw t = (qw t).map _
    cases qw t <;> rfl
theorem qw_cons (c : UInt8) (t : Bytes) : qw (c :: t) = if c = 39 then (match t with
    | [] => some ([], [])
    | d :: u => if d = 39 then (qw u).map fun p => (39 :: p.1, p.2) else some ([], d :: u)) else if c < 32 ∨ 126 < c then none else (qw t).map fun p => (c :: p.1, p.2) := by
  cases t with
  | nil =>
    by_cases h : c = 39
    · subst h; rw [if_pos rfl]; rfl
    · rw [if_neg h]
      show (if c = 39 then some ([], []) else none) = _
      rw [if_neg h]; split <;> rfl
  | cons d u => rw [qw]
theorem QwJ.plain (h : QwJ s word i) (hi : i < s.length) (h1 : ¬ (s.getD i 0 < 32 ∨ 126 < s.getD i 0)) (h2 : s.getD i 0 ≠ 39) : QwJ s (word ++ [s.getD i 0]) (i + 1) := by
  unfold QwJ at *
  rw [h, drop_cons hi, qw_cons, if_neg h2, if_neg h1]
  cases qw (s.drop (i + 1)) with
  | none => rfl
  | some p => exact congrArg some (by simp)
theorem QwJ.two (h : QwJ s word i) (hi : i + 1 < s.length) (h1 : s.getD i 0 = 39) (h2 : s.getD (i + 1) 0 = 39) : QwJ s (word ++ [s.getD i 0]) (i + 1 + 1) := by
  unfold QwJ at *
  rw [h, drop_cons (show i < s.length by omega), qw_cons, if_pos h1, drop_cons hi]
  show ((if s.getD (i + 1) 0 = 39 then _ else _) : Option (Bytes × Bytes)).map _ = _
  rw [if_pos h2, h1]
  cases qw (s.drop (i + 1 + 1)) with
  | none => rfl
  | some p => exact congrArg some (by simp)
theorem QwJ.done (h : QwJ s word i) (hi : i < s.length) (h1 : s.getD i 0 = 39) (h2 : ¬ (i + 1 < s.length ∧ s.getD (i + 1) 0 = 39)) : first s = some (word, s.drop (i + 1)) := by
  unfold QwJ at h
  rw [h, drop_cons hi, qw_cons, if_pos h1]
  rcases Nat.lt_or_ge (i + 1) s.length with hl | hl
  · rw [drop_cons hl]
    show ((if s.getD (i + 1) 0 = 39 then _ else _) : Option (Bytes × Bytes)).map _ = _
    rw [if_neg (fun e => h2 ⟨hl, e⟩)]
    show some (word ++ [], _) = _; rw [List.append_nil]
  · rw [List.drop_eq_nil_of_le hl]
    show some (word ++ [], _) = _; rw [List.append_nil]
theorem QwJ.bad (h : QwJ s word i) (hi : i < s.length) (h1 : s.getD i 0 < 32 ∨ 126 < s.getD i 0) : first s = none := by
  unfold QwJ at h
  have h2 : s.getD i 0 ≠ 39 := fun e => by rw [e] at h1; rcases h1 with h1 | h1 <;> exact absurd h1 (by decide)
  rw [h, drop_cons hi, qw_cons, if_neg h2, if_pos h1]; rfl
theorem QwJ.none_ (h : QwJ s word i) (hi : ¬ i < s.length) : first s = none := by
  unfold QwJ at h
  rw [h, List.drop_eq_nil_of_le (by omega)]; rfl
theorem tw_len (s : Bytes) : (s.takeWhile isW).length ≤ s.length := (List.takeWhile_sublist _).length_le
theorem tw_take (s : Bytes) : s.take (s.takeWhile isW).length = s.takeWhile isW := by
  have e := List.takeWhile_append_dropWhile (p := isW) (l := s)
  conv => lhs; arg 2; rw [← e]
  exact List.take_left
theorem tw_drop (s : Bytes) : s.drop (s.takeWhile isW).length = s.dropWhile isW := by
  have e := List.takeWhile_append_dropWhile (p := isW) (l := s)
  conv => lhs; arg 2; rw [← e]
  exact List.drop_left
theorem first_word (h0 : 0 < s.length) (h : s.getD 0 0 ≠ 39) (hw : 0 < (s.takeWhile isW).length) : first s = some (s.takeWhile isW, s.dropWhile isW) := by
  cases s with
  | nil => cases h0
  | cons c t =>
    have h : c ≠ 39 := h
    have hc : isW c = true := by
      cases e : isW c with
      | true => rfl
      | false => rw [List.takeWhile_cons, e] at hw; cases hw
    rw [first, if_neg h, if_pos hc]
theorem first_no (h0 : 0 < s.length) (h : s.getD 0 0 ≠ 39) (hw : (s.takeWhile isW).length = 0) : first s = none := by
  cases s with
  | nil => cases h0
  | cons c t =>
    have h : c ≠ 39 := h
    have hc : ¬ isW c = true := by
      intro e
      rw [List.takeWhile_cons, e] at hw; cases hw
    rw [first, if_neg h, if_neg hc]
theorem QwJ.plainB (h : QwJ s word i) (hi : i < s.length) (h1 : (decide (s.getD i 0 < 32) || decide (126 < s.getD i 0)) = false) (h2 : s.getD i 0 ≠ 39) : QwJ s (word ++ [s.getD i 0]) (i + 1) :=
  h.plain hi (by simpa using h1) h2
theorem QwJ.twoB (h : QwJ s word i) (h1 : ¬ s.getD i 0 ≠ 39) (h2 : (decide (((i + 1 : Nat) : Int) < ((s.length : Nat) : Int)) && decide (s.getD (i + 1) 0 = 39)) = true) : QwJ s (word ++ [s.getD i 0]) (i + 1 + 1) := by
  simp only [Bool.and_eq_true, decide_eq_true_eq] at h2
  exact h.two (by omega) (Decidable.not_not.1 h1) h2.2
theorem QwJ.doneB (h : QwJ s word i) (hi : i < s.length) (h1 : ¬ s.getD i 0 ≠ 39) (h2 : (decide (((i + 1 : Nat) : Int) < ((s.length : Nat) : Int)) && decide (s.getD (i + 1) 0 = 39)) = false) : first s = some (word, sub s (i + 1) s.length) := by
  have e : sub s (i + 1) s.length = s.drop (i + 1) := by unfold sub; rw [List.take_length]
  rw [e]
  refine h.done hi (Decidable.not_not.1 h1) fun hh => ?_
  rw [decide_eq_true (by omega), decide_eq_true hh.2] at h2; cases h2
theorem QwJ.badB (h : QwJ s word i) (hi : i < s.length) (h1 : (decide (s.getD i 0 < 32) || decide (126 < s.getD i 0)) = true) : first s = none := h.bad hi (by simpa using h1)
def FirJ (s w r : Bytes) (ok : Bool) : Prop := (ok = true → first s = some (w, r)) ∧ (ok = false → first s = none) ∧ w.length + r.length ≤ s.length ∧ (ok = true → r.length < s.length)
theorem FirJ.yes {w r : Bytes} (h : first s = some (w, r)) : FirJ s w r true := ⟨fun _ => h, fun e => (by cases e), (first_le h).1, fun _ => (first_le h).2⟩
theorem FirJ.no (h : first s = none) : FirJ s [] [] false := ⟨fun e => (by cases e), fun _ => h, Nat.zero_le _, fun e => (by cases e)⟩
theorem FirJ.wordK (h0 : 0 < s.length) (h : s.getD 0 0 ≠ 39) {k : Nat} (hk : k = (s.takeWhile isW).length) : FirJ s (sub s 0 k) (sub s k s.length) (decide ((0 : Int) < ((k : Nat) : Int))) := by
  subst hk
  have e1 : sub s 0 (s.takeWhile isW).length = s.takeWhile isW := by unfold sub; rw [List.drop_zero, tw_take]
  have e2 : sub s (s.takeWhile isW).length s.length = s.dropWhile isW := by unfold sub; rw [List.take_length, tw_drop]
  have e3 : (s.takeWhile isW).length + (s.dropWhile isW).length = s.length := by rw [← List.length_append, List.takeWhile_append_dropWhile]
  rw [e1, e2]
  by_cases hw : 0 < (s.takeWhile isW).length
  · rw [decide_eq_true (by omega)]; exact FirJ.yes (first_word h0 h hw)
  · rw [decide_eq_false (by omega)]
    exact ⟨fun e => (by cases e), fun _ => first_no h0 h (by omega), by omega, fun e => (by cases e)⟩
end
def ScanJ (s : Bytes) (out : List Bytes) (r : Bytes) : Prop := trim r = r ∧ scan s = (scan r).map (out ++ ·)
section
variable {s r : Bytes} {out : List Bytes}
theorem ScanJ.start : ScanJ s [] (trim s) := ⟨trim_trim s, by rw [scan_trim]; cases scan s <;> rfl⟩
theorem ScanJ.step (h : ScanJ s out r) (h0 : r ≠ []) {w q : Bytes} (hf : first r = some (w, q)) (hq : q = [] ∨ q.getD 0 0 = 32) : ScanJ s (out ++ [w]) (trim q) := by
  obtain ⟨h1, h2⟩ := h
  refine ⟨trim_trim q, ?_⟩
  have hb : q = [] ∨ q.head? = some 32 := by
    rcases hq with rfl | hq
    · exact .inl rfl
    · cases q with
      | nil => exact .inl rfl
      | cons c t => exact .inr (congrArg some hq)
  rw [h2, scan_trim, scan_word (by rw [h1]; exact h0) (by rw [h1]; exact hf) hb]
  cases scan q with
  | none => rfl
  | some l => exact congrArg some (by simp)
theorem ScanJ.done (h : ScanJ s out r) (h0 : r = []) : scan s = some out := by
  obtain ⟨_, h2⟩ := h
  subst h0
  rw [h2, scan_none]; show some (out ++ []) = _; rw [List.append_nil]
theorem ScanJ.bad (h : ScanJ s out r) (h0 : r ≠ []) (hf : first r = none) : scan s = none := by
  obtain ⟨h1, h2⟩ := h
  rw [h2, scan_bad (by rw [h1]; exact h0) (by rw [h1]; exact hf)]; rfl
theorem ScanJ.bad2 (h : ScanJ s out r) (h0 : r ≠ []) {w q : Bytes} (hf : first r = some (w, q)) (hq : q ≠ []) (hc : q.getD 0 0 ≠ 32) : scan s = none := by
  obtain ⟨h1, h2⟩ := h
  rw [h2, scan_bad2 (by rw [h1]; exact h0) (by rw [h1]; exact hf)]; rfl
  rintro (h | h)
  · exact hq h
  · cases q with
    | nil => cases h
    | cons c t => injection h with h; exact hc h
theorem ScanJ.err (h : ScanJ s out r) (h0 : r ≠ []) {w q : Bytes} {o : Bool} (hF : FirJ r w q o) (hb : (!o || (decide (q ≠ []) && decide (q.getD 0 0 ≠ 32))) = true) : scan s = none := by
  cases o with
  | false => exact h.bad h0 (hF.2.1 rfl)
  | true =>
    simp only [Bool.not_true, Bool.false_or, Bool.and_eq_true, decide_eq_true_eq] at hb
    exact h.bad2 h0 (hF.1 rfl) hb.1 hb.2
theorem ScanJ.stepB (h : ScanJ s out r) (h0 : r ≠ []) {w q : Bytes} {o : Bool} (hF : FirJ r w q o) (hb : (!o || (decide (q ≠ []) && decide (q.getD 0 0 ≠ 32))) = false) : ScanJ s (out ++ [w]) (trim q) := by
  cases o with
  | false => cases hb
  | true =>
    refine h.step h0 (hF.1 rfl) ?_
    by_cases hq : q = []
    · exact .inl hq
    · rw [decide_eq_true hq] at hb
      simp only [Bool.not_true, Bool.false_or, Bool.true_and, decide_eq_false_iff_not, Decidable.not_not] at hb
      exact .inr hb
theorem FirJ.less {w q : Bytes} {o : Bool} (hF : FirJ r w q o) (hb : (!o || (decide (q ≠ []) && decide (q.getD 0 0 ≠ 32))) = false) : q.length < r.length := by
  cases o with
  | false => cases hb
  | true => exact hF.2.2.2 rfl
def scanE (s : Bytes) : Int := match scan s with
  | some _ => 0
  | none => 3
theorem scanW_some {l : List Bytes} (h : scan s = some l) : l = scanW s := by unfold scanW; rw [h]; rfl
theorem scanW_none (h : scan s = none) : [] = scanW s := by unfold scanW; rw [h]; rfl
theorem scanE_some {l : List Bytes} (h : scan s = some l) : 0 = scanE s := by unfold scanE; rw [h]
theorem scanE_none (h : scan s = none) : 3 = scanE s := by unfold scanE; rw [h]
theorem scanN_len : ∀ (n : Nat) (s : Bytes) (l : List Bytes), scanN n s = some l → l.length ≤ s.length ∧ ∀ w ∈ l, w.length ≤ s.length
  | 0, _, _, h => by cases h
  | n + 1, s, l, h => by
    rw [scanN] at h
    split at h
    · cases h; exact ⟨Nat.zero_le _, fun w hw => by cases hw⟩
    · split at h
      · cases h
      · rename_i w r hf
        split at h
        · cases hr : scanN n r with
          | none => rw [hr] at h; cases h
          | some x =>
            rw [hr] at h; cases h
            have ih := scanN_len n r x hr
            have h1 := first_le hf; have h2 := trim_le s
            refine ⟨by rw [List.length_cons]; omega, fun v hv => ?_⟩
            rcases List.mem_cons.1 hv with rfl | hv
            · omega
            · have := ih.2 v hv; omega
        · cases h
theorem scanW_len (s : Bytes) : (scanW s).length ≤ s.length := by
  unfold scanW
  cases h : scan s with
  | none => exact Nat.zero_le _
  | some l => exact (scanN_len _ s l h).1
theorem scanW_short (s : Bytes) (i : Nat) : ((scanW s).getD i []).length ≤ s.length := by
  unfold scanW
  cases h : scan s with
  | none => exact Nat.zero_le _
  | some l =>
    show (l.getD i []).length ≤ _
    rcases Nat.lt_or_ge i l.length with hi | hi
    · rw [List.getD_eq_getElem?_getD, List.getElem?_eq_getElem hi]; exact (scanN_len _ s l h).2 _ (List.getElem_mem hi)
    · rw [List.getD_eq_getElem?_getD, List.getElem?_eq_none hi]; exact Nat.zero_le _
end
theorem scanW_le {s : Bytes} {o : List Bytes} (h : o = scanW s) : o.length ≤ s.length := by rw [h]; exact scanW_len s
theorem scanW_sh {s : Bytes} {o : List Bytes} (h : o = scanW s) (i : Nat) : (o.getD i []).length ≤ s.length := by rw [h]; exact scanW_short s i
theorem quote_y {w : Bytes} (h0 : w ≠ []) (h : ¬ (32 ∈ w ∨ 39 ∈ w)) : w = quote w := by unfold quote; rw [if_pos ⟨h0, h⟩]
theorem quote_n {w : Bytes} (h : ¬ (w ≠ [] ∧ ¬ (32 ∈ w ∨ 39 ∈ w))) : ([39] ++ dblC 39 w) ++ [39] = quote w := by unfold quote; rw [if_neg h]; rfl
theorem quote_yB {w : Bytes} (h : (decide (w ≠ []) && !decide (32 ∈ w ∨ 39 ∈ w)) = true) : w = quote w := by
  simp only [Bool.and_eq_true, decide_eq_true_eq, Bool.not_eq_true', decide_eq_false_iff_not] at h
  exact quote_y h.1 h.2
theorem quote_nB {w : Bytes} (h : (decide (w ≠ []) && !decide (32 ∈ w ∨ 39 ∈ w)) = false) : ([39] ++ dblC 39 w) ++ [39] = quote w := by
  refine quote_n fun hh => ?_
  rw [decide_eq_true hh.1, decide_eq_false hh.2] at h; cases h
theorem quote_len (w : Bytes) : (quote w).length ≤ 2 * w.length + 2 := by
  unfold quote
  have := dbl_len 39 w
  split
  · omega
  · simp only [List.length_append, List.length_cons, List.length_nil]
    have e : (dbl w).length = (dblC 39 w).length := rfl
    omega
end R39
end Go.Proofs.YtbfiibgmgopnaaaDoor

namespace Go.Proofs.YtbfiibgmgopnaaaDoor
open Go.RowKit Go.Lib Go.GV
set_option maxHeartbeats 1000000
set_option maxRecDepth 1000000
theorem valid_rune (r : Int) (h0 : 128 ≤ r) (h1 : r ≤ 2147483647) (w : World) : Calls Tryd.prog 96 #[.int .i32 r] w fun e w' => e = .returned (.bool (decide (r < 55296) || (decide (57343 < r) && decide (r ≤ 1114111)))) ∧ w' = w := by
  go_enter Tryd.func96, Tryd.ntmps96
  go_wp2
  all_goals go_ret
  all_goals refine ⟨?_, rfl⟩
  · simp only [decide_eq_true ‹r < 55296›, Bool.true_or]; rfl
  · rw [decide_eq_false (by omega : ¬ r < 55296), decide_eq_true ‹57343 < r›, decide_eq_true ‹r ≤ 1114111›]; rfl
  · rw [decide_eq_false (by omega : ¬ r < 55296), decide_eq_true ‹57343 < r›, decide_eq_false (by omega : ¬ r ≤ 1114111)]; rfl
  · rw [decide_eq_false (by omega : ¬ r < 55296), decide_eq_false (by omega : ¬ 57343 < r)]; rfl
def qc : ByteArray := ⟨#[32, 39]⟩
theorem idx_hi (r : Int) (h0 : 128 ≤ r) (h1 : r ≤ 2147483647) (w : World) : Calls Tryd.prog 79 #[.string qc, .int .i32 r] w fun e w' => e = .returned (.int .i64 (-1)) ∧ Below w.heap.size w w' := by
  have e96 : ∀ args w, (callFunc 96 args).run Tryd.prog w = .ok (.enter 96 args) w := enters_of Tryd.func96 (by kernel_rfl) rfl
  have hsz : qc.size = 2 := rfl
  by_cases hr : r = 65533
  · subst hr
    have hn0 := fun ty => run_next_ascii (P := Tryd.prog) w qc 0 ty (by decide) (by decide)
    have hn1 := fun ty => run_next_ascii (P := Tryd.prog) w qc 1 ty (by decide) (by decide)
    have hn2 := fun ty => run_next_end (P := Tryd.prog) w qc 2 ty (by decide)
    go_enter Tryd.func79, Tryd.ntmps79
    go_wp2
    go_loopg [5, 6] 2 (fun g _ _ wx => (g = 2 ∧ wx = w.iter qc 0) ∨ (g = 1 ∧ wx = w.iter qc 1) ∨ (g = 0 ∧ wx = w.iter qc 2))
    case atStart => exact .inl ⟨rfl, rfl⟩
    case round =>
      rcases hrel with ⟨rfl, rfl⟩ | ⟨rfl, rfl⟩ | ⟨rfl, rfl⟩
      · go_wp2
        go_roundg 1
        case measure => omega
        case rel => exact .inr (.inl ⟨rfl, rfl⟩)
      · go_wp2
        go_roundg 0
        case measure => omega
        case rel => exact .inr (.inr ⟨rfl, rfl⟩)
      · go_wp2
        go_ret
        exact ⟨rfl, (Below.refl _ _).alloc (Nat.le_refl _) _⟩
  · cases hv : (decide (r < 55296) || (decide (57343 < r) && decide (r ≤ 1114111)))
    · go_enter Tryd.func79, Tryd.ntmps79
      go_wp2_with (go_at_fn 96; refine (valid_rune r h0 h1 _).mono ?_; rintro e w' ⟨rfl, hw⟩; rw [hw, hv])
      go_ret
      exact ⟨rfl, Below.refl _ _⟩
    · have hval : Utf8.valid r = true := by
        simp only [Bool.or_eq_true, Bool.and_eq_true, decide_eq_true_eq] at hv
        unfold Utf8.valid
        simp only [Bool.or_eq_true, Bool.and_eq_true, decide_eq_true_eq]
        omega
      obtain ⟨hs2, hs4, hlast⟩ := encode_facts r hval h0
      go_enter Tryd.func79, Tryd.ntmps79
      go_wp2_with (go_at_fn 96; refine (valid_rune r h0 h1 _).mono ?_; rintro e w' ⟨rfl, hw⟩; rw [hw, hv])
      apply wp_scope_straight
      go_wp2
      generalize Utf8.encode r = E at *
      by_cases h2 : E.size = 2
      · have e1 : (E.size : Int) - 1 = 1 := by omega
        have hb : 1 < E.size := by omega
        obtain ⟨x, hx⟩ : ∃ x : UInt8, E[1]'hb = x := ⟨_, rfl⟩
        have hx128 : 128 ≤ x.toNat := by
          have := hlast (by omega)
          simp only [h2] at this
          rw [← hx]; exact this
        have hne : (39 : UInt8) ≠ x := fun e => by rw [← e] at hx128; exact absurd hx128 (by decide)
        have hqx : (((qc[1]'(by decide)).toNat : Int) != (x.toNat : Int)) = true := by
          rw [bne_iff_ne]; intro e; have : (qc[1]'(by decide)).toNat = 39 := rfl; omega
        rw [e1]
        go_loopg [9, 10, 11, 12] 0 (fun g s9 s10 s11 s12 wx => s9 = .int .i64 1 ∧ s10 = .int .i64 0 ∧ wx = w)
        case atStart => exact ⟨rfl, rfl, rfl⟩
        case round =>
          obtain ⟨rfl, rfl, rfl⟩ := hrel
          go_wp2
          apply wp_scope_straight
          go_wp2
          go_region
          go_wp2
          go_region_with (refine (Tryd.strings_IndexByte _ _ _).mono ?_; rintro e w' ⟨rfl, hw⟩; rw [hw])
          all_goals go_wp2
          all_goals rw [Exit.noGoto_ret]
          all_goals go_wp2
          all_goals rw [Exit.noGoto_ret]
          all_goals go_wp2
          all_goals go_ret
          all_goals exact ⟨rfl, (Below.refl _ _).drew.drew⟩
      · have hlt : ¬ (E.size : Int) - 1 < (qc.size : Int) := by rw [hsz]; omega
        go_loopg [9, 10, 11, 12] 0 (fun g s9 s10 s11 s12 wx => s9 = .int .i64 ((E.size : Int) - 1) ∧ s10 = .int .i64 0 ∧ wx = w)
        case atStart => exact ⟨rfl, rfl, rfl⟩
        case round =>
          obtain ⟨rfl, rfl, rfl⟩ := hrel
          go_wp2
          go_ret
          exact ⟨rfl, Below.refl _ _⟩
def NoB (s : ByteArray) (i : Nat) : Prop := ∀ j (h : j < s.size), j < i → s[j] ≠ 32 ∧ s[j] ≠ 39
theorem NoB.succ {s : ByteArray} {i : Nat} (h : NoB s i) {h0 : i < s.size} (h1 : s[i] ≠ 32 ∧ s[i] ≠ 39) : NoB s (i + 1) := fun j hj hji => by
  rcases Nat.lt_or_ge j i with h2 | h2
  · exact h j hj h2
  · have : j = i := by omega
    subst this; exact h1
theorem get_off (s : ByteArray) (p : Nat) (h : p < s.size) : s.get! p = s[p]'h := by
  show s.get! p = _
  simp [ByteArray.get!, getElem!_pos, h]
  rfl
theorem decode_skip (s : ByteArray) (pos : Nat) (h : pos < s.size) (ha : 128 ≤ (s[pos]'h).toNat) : pos + (Utf8.decode s pos).2 ≤ s.size ∧ ∀ j (hj : j < s.size), pos ≤ j → j < pos + (Utf8.decode s pos).2 → 128 ≤ (s[j]'hj).toNat := by
  have hn : ¬ (s[pos]'h).toNat < 128 := by omega
  have g : ∀ k (hk : pos + k < s.size), (s.get! (pos + k)).toNat / 64 = 2 → 128 ≤ (s[pos + k]'hk).toNat := fun k hk e => by
    rw [get_off s _ hk] at e; omega
  have key : ∀ n, (∀ k, 1 ≤ k → k < n → pos + k < s.size ∧ (s.get! (pos + k)).toNat / 64 = 2) → 1 ≤ n → pos + n ≤ s.size ∧ ∀ j (hj : j < s.size), pos ≤ j → j < pos + n → 128 ≤ (s[j]'hj).toNat := fun n hk hn1 => by
    refine ⟨?_, fun j hj h1 h2 => ?_⟩
    · rcases Nat.lt_or_ge 1 n with h1 | h1
      · have := (hk (n - 1) (by omega) (by omega)).1; omega
      · omega
    · rcases Nat.eq_or_lt_of_le h1 with e | e
      · subst e; exact ha
      · obtain ⟨k, rfl⟩ : ∃ k, j = pos + k := ⟨j - pos, by omega⟩
        exact g k hj (hk k (by omega) (by omega)).2
  simp only [Utf8.decode, get_at s pos h, hn, if_false]
  split
  · rename_i h1
    simp only [Bool.and_eq_true, decide_eq_true_eq, beq_iff_eq] at h1
    have h2 : ∀ k, 1 ≤ k → k < 2 → pos + k < s.size ∧ (s.get! (pos + k)).toNat / 64 = 2 := fun k a b => by
      obtain rfl : k = 1 := by omega
      exact h1.2
    split
    · exact key 2 h2 (by decide)
    · exact key 1 (fun k a b => by omega) (by decide)
  · split
    · rename_i h1
      simp only [Bool.and_eq_true, decide_eq_true_eq, beq_iff_eq] at h1
      have h2 : ∀ k, 1 ≤ k → k < 3 → pos + k < s.size ∧ (s.get! (pos + k)).toNat / 64 = 2 := fun k a b => by
        obtain rfl | rfl : k = 1 ∨ k = 2 := by omega
        · exact h1.1.2
        · exact h1.2
      split
      · exact key 3 h2 (by decide)
      · exact key 1 (fun k a b => by omega) (by decide)
    · split
      · rename_i h1
        simp only [Bool.and_eq_true, decide_eq_true_eq, beq_iff_eq] at h1
        have h2 : ∀ k, 1 ≤ k → k < 4 → pos + k < s.size ∧ (s.get! (pos + k)).toNat / 64 = 2 := fun k a b => by
          obtain rfl | rfl | rfl : k = 1 ∨ k = 2 ∨ k = 3 := by omega
          · exact h1.1.1.2
          · exact h1.1.2
          · exact h1.2
        split
        · exact key 4 h2 (by decide)
        · exact key 1 (fun k a b => by omega) (by decide)
      · exact key 1 (fun k a b => by omega) (by decide)
theorem NoB.skip {s : ByteArray} {i n : Nat} (h : NoB s i) (h1 : ∀ j (hj : j < s.size), i ≤ j → j < i + n → 128 ≤ (s[j]'hj).toNat) : NoB s (i + n) := fun j hj hji => by
  rcases Nat.lt_or_ge j i with h2 | h2
  · exact h j hj h2
  · have := h1 j hj h2 hji
    exact ⟨fun e => by rw [e] at this; exact absurd this (by decide), fun e => by rw [e] at this; exact absurd this (by decide)⟩
def HasB (s : ByteArray) : Prop := ∃ j, ∃ h : j < s.size, s[j] = 32 ∨ s[j] = 39
theorem any_short (s : ByteArray) (w : World) (h8 : s.size ≤ 8) : Calls Tryd.prog 57 #[.string s, .string qc] w fun e w' => (∃ z : Int, e = .returned (.int .i64 z) ∧ (0 ≤ z ↔ HasB s)) ∧ Below w.heap.size w w' := by
  have hemp : qc.toList.isEmpty = false := by rw [Lib.toList_data]; rfl
  have hn1 : ((qc.size : Int) == 1) = false := by rfl
  have h8z : decide ((8 : Int) < (s.size : Int)) = false := decide_eq_false (by omega)
  have e152 : ∀ args w, (callFunc 79 args).run Tryd.prog w = .ok (.enter 79 args) w := enters_of Tryd.func79 (by kernel_rfl) rfl
  have e226 : ∀ args w, (callFunc 80 args).run Tryd.prog w = .ok (.enter 80 args) w := enters_of Tryd.func80 (by kernel_rfl) rfl
  go_enter Tryd.func57, Tryd.ntmps57
  go_wp2_with (go_at_fn 80; refine (Any.strings_shouldUseASCIISet { Tryd.lays150 with } _ _).mono ?_; rintro e w' ⟨rfl, hw⟩; rw [hw, h8z])
  go_loopg [9, 10] s.size (fun g _ _ wx => ∃ i : Nat, i + g = s.size ∧ wx.heap[w.heap.size]? = some (.stringIter s i) ∧ Below w.heap.size w wx ∧ NoB s i)
  case atStart => exact ⟨0, by omega, World.iter_heap _ _ _, (Below.refl _ _).alloc (Nat.le_refl _) _, fun j _ h => absurd h (Nat.not_lt_zero _)⟩
  case round =>
    obtain ⟨i, hig, hit, hbe, hno⟩ := hrel
    have hks : w.heap.size < wr.heap.size := (Array.getElem?_eq_some_iff.1 hit).1
    cases gk with
    | zero =>
      obtain rfl : i = s.size := by omega
      have hnx := fun ty => Lib.run_next_end_at (P := Tryd.prog) wr w.heap.size s s.size ty hit (Nat.lt_irrefl _)
      go_wp2
      go_ret
      exact ⟨⟨_, rfl, fun h => absurd h (by decide), fun ⟨j, hj, hb⟩ => absurd hb (by have := hno j hj hj; simp [this.1, this.2])⟩, hbe⟩
    | succ g =>
      have hi : i < s.size := by omega
      obtain ⟨x, hx⟩ : ∃ x : UInt8, s[i]'hi = x := ⟨_, rfl⟩
      have hsz : ∀ p, (wr.iterAt w.heap.size s p).heap.size = wr.heap.size := fun p => Lib.iterAt_size _ _ _ _
      have hget : ∀ p, (wr.iterAt w.heap.size s p).heap[w.heap.size]? = some (.stringIter s p) := fun p => Lib.iterAt_heap wr w.heap.size s i p hit
      have hbel : ∀ p, Below w.heap.size w (wr.iterAt w.heap.size s p) := fun p => Lib.below_iterAt hbe (Nat.le_refl _) s p
      by_cases ha : x.toNat < 128
      · have hnx := fun ty => Lib.run_next_ascii_at (P := Tryd.prog) wr w.heap.size s i ty hit hi (by rw [hx]; exact ha)
        rw [hx] at hnx
        have hback : ((x.toNat : Int)).toNat.toUInt8 = x := by simp
        have hcon := Lib.contains_iff_indexByte qc.data.toList x
        by_cases hin : x = 32 ∨ x = 39
        · have hge : (0 : Int) ≤ Lib.indexByte qc.data.toList x := by rcases hin with rfl | rfl <;> decide
          clear hcon
          go_wp2_with (go_at_fn 79; refine (Any.strings_IndexRune_ascii { Tryd.lays150 with } _ _ _ (by omega) (by omega)).mono ?_; rintro e w' ⟨rfl, hw⟩; rw [hw, hback])
          go_ret
          exact ⟨⟨_, rfl, fun _ => ⟨i, hi, by rw [hx]; exact hin⟩, fun _ => Int.natCast_nonneg i⟩, hbel _⟩
        · have hlt : ¬ ((0 : Int) ≤ Lib.indexByte qc.data.toList x) := by
            intro h0
            have h1 : ([32, 39] : List UInt8).contains x = true := hcon.trans (decide_eq_true h0)
            simp only [List.contains_cons, List.contains_nil, Bool.or_false, Bool.or_eq_true, beq_iff_eq] at h1
            exact hin h1
          clear hcon
          go_wp2_with (go_at_fn 79; refine (Any.strings_IndexRune_ascii { Tryd.lays150 with } _ _ _ (by omega) (by omega)).mono ?_; rintro e w' ⟨rfl, hw⟩; rw [hw, hback])
          go_roundg g
          case measure => omega
          case rel => exact ⟨i + 1, by omega, hget _, hbel _, hno.succ (h0 := hi) (by rw [hx]; exact ⟨fun e => hin (.inl e), fun e => hin (.inr e)⟩)⟩
      · have hnx := fun ty => Lib.run_next_any_at (P := Tryd.prog) wr w.heap.size s i ty hit hi
        obtain ⟨hd1, hd2⟩ := decode_high s i hi (by rw [hx]; omega)
        have hd3 := decode_le s i
        obtain ⟨hd4, hd5⟩ := decode_skip s i hi (by rw [hx]; omega)
        generalize Utf8.decode s i = D at *
        go_wp2_with (go_at_fn 79; refine (idx_hi _ (by omega) (by omega) _).mono ?_; rintro e w9 ⟨rfl, hw9⟩)
        go_roundg (g + 1 - D.2)
        case measure => omega
        case rel => exact ⟨i + D.2, by omega, (hw9.block _ (by rw [hsz]; exact hks)).trans (hget _), (hbel _).trans (hw9.mono (by rw [hsz]; omega)), hno.skip hd5⟩
theorem hasB_iff (s : ByteArray) : HasB s ↔ (32 ∈ s.data.toList ∨ 39 ∈ s.data.toList) := by
  have key : ∀ c : UInt8, c ∈ s.data.toList ↔ ∃ j, ∃ h : j < s.size, s[j] = c := fun c => by
    rw [List.mem_iff_getElem]
    constructor
    · rintro ⟨j, hj, e⟩
      exact ⟨j, by rw [Array.length_toList] at hj; exact hj, by rw [← e]; rfl⟩
    · rintro ⟨j, hj, e⟩
      exact ⟨j, by rw [Array.length_toList]; exact hj, by rw [← e]; rfl⟩
  rw [key, key]
  constructor
  · rintro ⟨j, hj, h | h⟩
    · exact .inl ⟨j, hj, h⟩
    · exact .inr ⟨j, hj, h⟩
  · rintro (⟨j, hj, h⟩ | ⟨j, hj, h⟩)
    · exact ⟨j, hj, .inl h⟩
    · exact ⟨j, hj, .inr h⟩
theorem any_ok (s : ByteArray) (w : World) (hs : s.size < 4294967281) : Calls Tryd.prog 57 #[.string s, .string qc] w fun e w' => (∃ z : Int, e = .returned (.int .i64 z) ∧ (0 ≤ z ↔ HasB s)) ∧ Below w.heap.size w w' := by
  by_cases h8 : s.size ≤ 8
  · exact any_short s w h8
  · have h116 : (Tryd.prog.info? (Tryd.lays150_ren.t 116)).map (fun i => (i.zero, i.size)) = some (some (.agg (Array.replicate 256 (.bool false))), 256) := by kernel_rfl
    refine (Any.strings_IndexAny_long (P := Tryd.prog) { Tryd.lays150 with } (zero_of_info h116).1 (zero_of_info h116).2 s qc w (by decide) (by omega) hs (by decide) (fun j b h => ?_)).mono ?_
    · have h2 : b ∈ ([32, 39] : List UInt8) := List.mem_of_getElem? h
      simp only [List.mem_cons, List.not_mem_nil, or_false] at h2
      rcases h2 with rfl | rfl <;> decide
    · rintro e w' ⟨rfl, rfl⟩
      refine ⟨⟨_, rfl, ?_⟩, ((Below.refl _ _).alloc (Nat.le_refl _) _).alloc (by simp) _⟩
      have h := R39.any_lib s.data.toList
      rw [hasB_iff, ← decide_eq_true_iff (p := _ ∨ _), ← h]
      exact decide_eq_true_iff.symm
theorem canyb_ok (s : Bytes) (w : World) (q0 : s.length ≤ 1000000) : Calls Tryd.prog 34 #[vS s, vS [32, 39]] w (Go.GV.Gives [] w fun v L => v = vB (decide (32 ∈ s ∨ 39 ∈ s)) ∧ L = []) := by
  have e57 : ∀ args w, (callFunc 57 args).run Tryd.prog w = .ok (.enter 57 args) w := enters_of Tryd.func57 (by kernel_rfl) rfl
  have c := any_ok ⟨s.toArray⟩ w (by rw [sz]; omega)
  have hB : HasB ⟨s.toArray⟩ ↔ (32 ∈ s ∨ 39 ∈ s) := by rw [hasB_iff]
  show Calls Tryd.prog 34 #[.string ⟨s.toArray⟩, .string qc] w _
  go_enter Tryd.func34, Tryd.ntmps34
  go_wp2_with (go_at_fn 57; refine c.mono ?_; rintro e w' ⟨⟨z, rfl, hz⟩, hw⟩)
  go_ret
  exact ⟨_, [], rfl, ⟨congrArg vB (Bool.decide_or _ _).symm, rfl⟩, St.nil (Fr.of_below hw)⟩
end Go.Proofs.YtbfiibgmgopnaaaDoor

namespace Go.Proofs.YtbfiibgmgopnaaaDoor
open Go.GV
set_option linter.unusedVariables false
set_option linter.unusedSimpArgs false
theorem c39b0_ {p : Prop} (h : p := by first | omega | (simp only [sub, List.length_drop, List.length_take]; omega) | (simp; omega) | (simp_all; omega)) : p := h
theorem c39b1_ {p : Prop} (h : p := by first | exact R39.FirJ.wordK q0 (by assumption) (no_such_condition.neg (by omega)) | exact R39.FirJ.wordK q0 (by assumption) hk9 | exact R39.FirJ.no (i1_0.none_ (by omega)) | exact R39.FirJ.no (i1_0.badB (by omega) (by assumption)) | exact R39.FirJ.yes (i1_0.doneB (by omega) (by assumption) (by assumption))) : p := h
theorem c39b2_ {p : Prop} (h : p := by first | omega | (simp only [List.length_append, List.length_cons, List.length_nil]; omega) | (simp; omega) | (simp_all; omega)) : p := h
theorem c39b3_ {p : Prop} (h : p := by first | exact R39.FirJ.wordK q0 (by assumption) (hf3.neg (by omega)) | exact R39.FirJ.wordK q0 (by assumption) hk9 | exact R39.FirJ.no (i1_0.none_ (by omega)) | exact R39.FirJ.no (i1_0.badB (by omega) (by assumption)) | exact R39.FirJ.yes (i1_0.doneB (by omega) (by assumption) (by assumption))) : p := h
theorem c39b4_ {p : Prop} (h : p := by first | exact i1_0.plainB (by omega) (by assumption) (by assumption) | exact i1_0.twoB (by assumption) (by assumption)) : p := h
theorem c39b5_ {p : Prop} (h : p := by first | exact (R39.scanW_none (i1_0.err (by assumption) hf6 (by assumption))) | exact (R39.scanW_some (i1_0.done (Decidable.not_not.1 (by assumption))))) : p := h
theorem c39b6_ {p : Prop} (h : p := by first | exact (R39.scanW_none (i1_0.err (by assumption) no_such_condition (by assumption))) | exact (R39.scanW_some (i1_0.done (Decidable.not_not.1 (by assumption))))) : p := h
theorem c39b7_ {p : Prop} (h : p := by first | exact Nat.zero_le _ | exact R39.scanW_le (R39.scanW_some (i1_0.done (Decidable.not_not.1 (by assumption))))) : p := h
theorem c39b8_ {p : Prop} (h : p := by first | exact fun _ => Nat.zero_le _ | exact R39.scanW_sh (R39.scanW_some (i1_0.done (Decidable.not_not.1 (by assumption))))) : p := h
theorem c39b9_ {p : Prop} (h : p := by exact p1 Tryd.results15 rfl ⟨(eS (by first | exact R39.quote_yB (by assumption) | exact R39.quote_nB (by assumption))), rfl⟩) : p := h
set_option maxRecDepth 20000 in
theorem f24_ok (line : Bytes) (w : World) (q0 : 0 < line.length) (q1 : line.length ≤ 2000000) : Calls Tryd.prog 24 #[vS line] w (Gives [] w fun v L => ∃ w9 : Bytes, ∃ r9 : Bytes, ∃ o9 : Bool, v = Value.tuple #[vS w9, vS r9, vB o9] ∧ L = [] ∧ (R39.FirJ line w9 r9 o9)) := by
 refine calls_J [] 74 Tryd.func24 rfl Tryd.ntmps24 [(0, _)] rfl rfl (Give.nil w) ?_
 refine q_ (g_ (s_ av_ (s_ av_ (s_ av_ (z_ (n_ (q_ (q_ (g_ (s_ mv_ (s_ (x_idx_s (k := 0) rfl rfl Tryd.underlying9 (by omega)) (js_ (vB (decide (line.getD 0 0 ≠ (39 : UInt8)))) (x_neq_u8 rfl rfl) (z_ (n_ ?_))))))))))))))
 refine ifd (fun h1w h1 => ?_) (fun h1w h1 => ?_)
 ·refine q_ (g_ (s_ mv_ ?_))
  refine c1 (cl_ Ty.ca49) (fun w hS => ixf_ok f50_ok line w) ?_
  rintro _ _ ⟨e2, rfl, rfl, hf3⟩
  have ha4 := R39.tw_len line
  refine s_ av_ (z_ (n_ (q_ (q_ (g_ (s_ mv_ (s_ (x_lss_i rfl rfl) (z_ (n_ ?_)))))))))
  refine ifd (fun h5w h5 => ?_) (fun h5w h5 => ?_)
  ·refine g_ (s_ mv_ (s_ (x_len_s rfl Tryd.underlying9) (s_ av_ (z_ (n_ (q_ ?_))))))
   refine drB [] 11 Ty.mixed ?_
   refine jp_ 0 rfl mv_ (jp_ 1 rfl mv_ (jp_ 2 rfl (x_sub_s (lo := 0) (hi := line.length) rfl Tryd.underlying9 (.inr ⟨rfl, rfl⟩) (.inl rfl) lt_ c39b0_) (jp_ 3 rfl mv_ (jp_ 4 rfl mv_ (jp_ 5 rfl (x_sub_s (lo := line.length) (hi := line.length) rfl Tryd.underlying9 (.inl rfl) (.inr ⟨rfl, rfl⟩) lt_ c39b0_) (jp_ 6 rfl mv_ (jp_ 7 rfl (x_gtr_i rfl rfl) (jp_ 8 rfl av_ (jp_ 9 rfl av_ ?_)))))))))
   refine jp_ 10 rfl av_ ?_
   refine JA_done (by kernel_rfl) gm_ ?_
   refine n_ (rt_ (nr_ ?_))
   refine JX_rets [_, _, _] (Value.tuple #[_, _, _]) Tryd.results24 (fun w h => ⟨rfl, rfl, rfl, trivial⟩) rfl _ (fun _ h => h) ⟨sub line 0 line.length, sub line line.length line.length, (decide ((0 : Int) < ((line.length : Nat) : Int))), ?_, ?_, ?_⟩
   ·rfl
   ·rfl
   ·exact c39b3_
  ·obtain ⟨k9, rfl⟩ : ∃ k9 : Nat, e2 = (k9 : Int) := ⟨e2.toNat, by omega⟩
   have hk9 := R39.IxfJ.pos hf3
   refine sk_ (n_ (q_ ?_))
   refine drB [] 11 Ty.mixed ?_
   refine jp_ 0 rfl mv_ (jp_ 1 rfl mv_ (jp_ 2 rfl (x_sub_s (lo := 0) (hi := k9) rfl Tryd.underlying9 (.inr ⟨rfl, rfl⟩) (.inl rfl) lt_ c39b0_) (jp_ 3 rfl mv_ (jp_ 4 rfl mv_ (jp_ 5 rfl (x_sub_s (lo := k9) (hi := line.length) rfl Tryd.underlying9 (.inl rfl) (.inr ⟨rfl, rfl⟩) lt_ c39b0_) (jp_ 6 rfl mv_ (jp_ 7 rfl (x_gtr_i rfl rfl) (jp_ 8 rfl av_ (jp_ 9 rfl av_ ?_)))))))))
   refine jp_ 10 rfl av_ ?_
   refine JA_done (by kernel_rfl) gm_ ?_
   refine n_ (rt_ (nr_ ?_))
   refine JX_rets [_, _, _] (Value.tuple #[_, _, _]) Tryd.results24 (fun w h => ⟨rfl, rfl, rfl, trivial⟩) rfl _ (fun _ h => h) ⟨sub line 0 k9, sub line k9 line.length, (decide ((0 : Int) < ((k9 : Nat) : Int))), ?_, ?_, ?_⟩
   ·rfl
   ·rfl
   ·exact c39b3_
 ·refine sk_ (n_ (q_ (g_ (s_ av_ (z_ (n_ (q_ (q_ (g_ (s_ av_ (z_ (n_ (k_ ?_)))))))))))))
  refine J_loop (X := Nat × (List UInt8) × (Option Addr) × Nat) (fun (⟨i, word, wordA, wordC⟩ : Nat × (List UInt8) × (Option Addr) × Nat) => (R39.QwJ line word i) ∧ (1 ≤ i) ∧ (i ≤ line.length + 1) ∧ (word.length ≤ i)) (fun (⟨i, word, wordA, wordC⟩ : Nat × (List UInt8) × (Option Addr) × Nat) => [(0, vS line), (6, vL wordA word.length wordC), (7, vI ((i : Nat) : Int))]) (fun (⟨i, word, wordA, wordC⟩ : Nat × (List UInt8) × (Option Addr) × Nat) => [Ent.row (.slice wordA word.length wordC) 5 1 word.length (word.map vU8)]) (fun (⟨i, word, wordA, wordC⟩ : Nat × (List UInt8) × (Option Addr) × Nat) => line.length + 1 - i) ((1, ([] : List UInt8), none, 0) : Nat × (List UInt8) × (Option Addr) × Nat) ?_ ⟨rfl, rfl, rfl, trivial⟩ (fun _ h => (h.nilrow 5 1).keep [true] rfl) ?_
  ·try dsimp only
   refine ⟨?_, ?_, ?_, ?_⟩
   ·exact R39.QwJ.start q0 (Decidable.not_not.1 (by assumption))
   ·first | rfl | omega | (simp_all; done) | (simp_all; omega)
   ·first | rfl | omega | (simp_all; done) | (simp_all; omega)
   ·first | rfl | omega | (simp_all; done) | (simp_all; omega)
  rintro ⟨i, word, wordA, wordC⟩ hI1
  obtain ⟨i1_0, i1_1, i1_2, i1_3⟩ := hI1
  try dsimp only at i1_0
  try dsimp only at i1_1
  try dsimp only at i1_2
  try dsimp only at i1_3
  try dsimp only
  refine q_ (q_ (g_ (s_ mv_ (s_ mv_ (s_ (x_len_s rfl Tryd.underlying9) (s_ (x_lss_i rfl rfl) (z_ (n_ ?_))))))))
  refine ifd (fun h6w h6 => ?_) (fun h6w h6 => ?_)
  ·refine sk_ (n_ (q_ (k_ (q_ (g_ (s_ mv_ (s_ mv_ (s_ (x_idx_s (k := i) rfl rfl Tryd.underlying9 (by omega)) (s_ av_ (z_ (n_ (k_ (q_ (g_ (s_ mv_ (js_ (vB (decide (line.getD i 0 < (32 : UInt8)))) (x_lss_u8 rfl rfl) (s_ mv_ ?_)))))))))))))))))
   refine or_ 2 (decide ((126 : UInt8) < line.getD i 0)) (fun g7 => ?_) ?_
   ·have g7r := g7
    have g7r := of_decide_eq_false g7r
    have g7ru := g7r
    try simp only [UInt8.lt_iff_toNat_lt, UInt8.le_iff_toNat_le, UInt8.reduceToNat, UInt32.lt_iff_toNat_lt, UInt32.le_iff_toNat_le, UInt32.reduceToNat, UInt64.lt_iff_toNat_lt, UInt64.le_iff_toNat_le, UInt64.reduceToNat] at g7ru
    refine sg_ g7 mv_ (jg_ g7 (vB (decide ((126 : UInt8) < line.getD i 0))) (x_gtr_u8 rfl rfl) ?_)
    exact cr_
   refine s_ av_ (z_ (n_ ?_))
   refine if_ (fun h8 => ?_) (fun h8 => ?_)
   ·have h8w := h8
    simp only [Bool.and_eq_true, Bool.or_eq_true, Bool.and_eq_false_iff, Bool.or_eq_false_iff, Bool.not_eq_true', Bool.not_eq_false', decide_eq_true_eq, decide_eq_false_iff_not] at h8
    refine q_ (g_ (s_ av_ (s_ av_ (s_ av_ (z_ (n_ (rt_ (kq_ (kq_ (nr_ (rr_ (kq_ (nr_ ?_)))))))))))))
    refine JX_rets [_, _, _] (Value.tuple #[_, _, _]) Tryd.results24 (fun w h => ⟨rfl, rfl, rfl, trivial⟩) rfl _ (fun _ h => h.keep [false] rfl) ⟨[], [], (false), ?_, ?_, ?_⟩
    ·have e_x0 : (false : Bool) = (false) := by first | rfl | omega | (simp_all; done) | (simp_all; omega)
     exact congrArg (fun (x0 : Bool) => Value.tuple #[vS [], vS [], vB x0]) e_x0
    ·rfl
    ·exact c39b1_
   ·have h8w := h8
    have ⟨h8, h9⟩ := bor_false h8
    have h8 := of_decide_eq_false h8
    have h8u := h8
    try simp only [UInt8.lt_iff_toNat_lt, UInt8.le_iff_toNat_le, UInt8.reduceToNat, UInt32.lt_iff_toNat_lt, UInt32.le_iff_toNat_le, UInt32.reduceToNat, UInt64.lt_iff_toNat_lt, UInt64.le_iff_toNat_le, UInt64.reduceToNat] at h8u
    have h9 := of_decide_eq_false h9
    have h9u := h9
    try simp only [UInt8.lt_iff_toNat_lt, UInt8.le_iff_toNat_le, UInt8.reduceToNat, UInt32.lt_iff_toNat_lt, UInt32.le_iff_toNat_le, UInt32.reduceToNat, UInt64.lt_iff_toNat_lt, UInt64.le_iff_toNat_le, UInt64.reduceToNat] at h9u
    refine q_ (g_ (s_ mv_ (js_ (vB (decide (line.getD i 0 ≠ (39 : UInt8)))) (x_neq_u8 rfl rfl) (s_ av_ (z_ (n_ ?_))))))
    refine ifd (fun h10w h10 => ?_) (fun h10w h10 => ?_)
    ·refine g_ (s_ mv_ (s_ mv_ (o_ (O_buildSlice (cs := [vU8 (line.getD i 0)]) Tryd.underlying52 Ty.sz5 Ty.ze5 (by decide) (by decide) (by kernel_rfl) fun b11 => ?_))))
     refine o_ (O_append_m 1 vU8 word [line.getD i 0] Tryd.underlying52 Ty.sz5 Ty.by5 Ty.ze5 rfl rfl rfl rfl rfl (fun _ => rfl) (cells_blk 0 (off := 0) (m := 1) rfl rfl) lt_ lt_ fun A12 c13 => ?_)
     refine s_ av_ (z_ (kx_ (kx_ (n_ (g_ (s_ mv_ (s_ (x_add_n (a := i) (b := 1) rfl rfl (by omega)) (s_ av_ (z_ ?_)))))))))
     refine JX_round ((i + 1, word ++ [line.getD i 0], A12, c13) : Nat × (List UInt8) × (Option Addr) × Nat) ?_ ?_ ⟨rfl, rfl, rfl, trivial⟩ (fun _ h => h.keep [false, true] rfl)
     ·try dsimp only
      refine ⟨?_, ?_, ?_, ?_⟩
      ·exact c39b4_
      ·first | rfl | omega | (simp_all; done) | (simp_all; omega)
      ·first | rfl | omega | (simp_all; done) | (simp_all; omega)
      ·rw [List.length_append, List.length_singleton]; omega
     ·try dsimp only
      first | omega | (simp; omega) | (simp_all; omega)
    ·refine q_ (g_ (s_ mv_ (s_ (x_add_n (a := i) (b := 1) rfl rfl (by omega)) (s_ mv_ (s_ (x_len_s rfl Tryd.underlying9) (s_ (x_lss_i rfl rfl) (s_ mv_ ?_)))))))
     refine and_ 5 (decide (line.getD (i + 1) 0 = (39 : UInt8))) (fun g14 => ?_) ?_
     ·have g14r := g14
      have g14r := of_decide_eq_true g14r
      refine sg_ g14 mv_ (sg_ g14 mv_ (sg_ g14 (x_add_n (a := i) (b := 1) rfl rfl (by omega)) (sg_ g14 (x_idx_s (k := i + 1) rfl rfl Tryd.underlying9 (by omega)) (jg_ g14 (vB (decide (line.getD (i + 1) 0 = (39 : UInt8)))) (x_eql_u8 rfl rfl) ?_))))
      exact cr_
     refine s_ av_ (z_ (xk_ [0, 6, 7, 8, 55] ?_))
     refine n_ ?_
     refine if_ (fun h15 => ?_) (fun h15 => ?_)
     ·have h15w := h15
      have ⟨h15, h16⟩ := band_true h15
      have h15 := of_decide_eq_true h15
      have h16 := of_decide_eq_true h16
      refine q_ (g_ (s_ mv_ (s_ mv_ (o_ (O_buildSlice (cs := [vU8 (line.getD i 0)]) Tryd.underlying52 Ty.sz5 Ty.ze5 (by decide) (by decide) (by kernel_rfl) fun b17 => ?_)))))
      refine o_ (O_append_m 1 vU8 word [line.getD i 0] Tryd.underlying52 Ty.sz5 Ty.by5 Ty.ze5 rfl rfl rfl rfl rfl (fun _ => rfl) (cells_blk 0 (off := 0) (m := 1) rfl rfl) lt_ lt_ fun A18 c19 => ?_)
      refine s_ av_ (z_ (n_ (g_ (s_ mv_ (s_ (x_add_n (a := i) (b := 1) rfl rfl (by omega)) (s_ av_ (z_ (kx_ (kx_ (n_ (g_ (s_ mv_ (s_ (x_add_n (a := i + 1) (b := 1) rfl rfl (by omega)) (s_ av_ (z_ ?_)))))))))))))))
      refine JX_round (((i + 1) + 1, word ++ [line.getD i 0], A18, c19) : Nat × (List UInt8) × (Option Addr) × Nat) ?_ ?_ ⟨rfl, rfl, rfl, trivial⟩ (fun _ h => h.keep [false, true] rfl)
      ·try dsimp only
       refine ⟨?_, ?_, ?_, ?_⟩
       ·exact c39b4_
       ·first | rfl | omega | (simp_all; done) | (simp_all; omega)
       ·first | rfl | omega | (simp_all; done) | (simp_all; omega)
       ·rw [List.length_append, List.length_singleton]; omega
      ·try dsimp only
       first | omega | (simp; omega) | (simp_all; omega)
     ·have h15w := h15
      simp only [Bool.and_eq_true, Bool.or_eq_true, Bool.and_eq_false_iff, Bool.or_eq_false_iff, Bool.not_eq_true', Bool.not_eq_false', decide_eq_true_eq, decide_eq_false_iff_not] at h15
      refine q_ ?_
      refine drB [] 9 Ty.mixed ?_
      refine jp_ 0 rfl mv_ ?_
      refine jt_ 1 (vS word) rfl (x_str_at rfl Tryd.underlying52 Tryd.underlying5 Tryd.underlying9 (cells_row 0 rfl) rfl) ?_
      refine jp_ 2 rfl mv_ (jp_ 3 rfl mv_ (jp_ 4 rfl (x_add_n (a := i) (b := 1) rfl rfl (by omega)) (jp_ 5 rfl (x_sub_s (lo := i + 1) (hi := line.length) rfl Tryd.underlying9 (.inl rfl) (.inr ⟨rfl, rfl⟩) lt_ c39b0_) (jp_ 6 rfl av_ (jp_ 7 rfl av_ (jp_ 8 rfl av_ ?_))))))
      refine JA_done (by kernel_rfl) gm_ ?_
      refine n_ (rt_ (kq_ (kq_ (nr_ (rr_ (kq_ (nr_ ?_)))))))
      refine JX_rets [_, _, _] (Value.tuple #[_, _, _]) Tryd.results24 (fun w h => ⟨rfl, rfl, rfl, trivial⟩) rfl _ (fun _ h => h.keep [false] rfl) ⟨word, sub line (i + 1) line.length, (true), ?_, ?_, ?_⟩
      ·have e_x0 : (true : Bool) = (true) := by first | rfl | omega | (simp_all; done) | (simp_all; omega)
       exact congrArg (fun (x0 : Bool) => Value.tuple #[vS word, vS (sub line (i + 1) line.length), vB x0]) e_x0
      ·rfl
      ·exact c39b1_
  ·refine J_exit (ne_ (re_ (kh_ (n_ (q_ ?_)))))
   refine g_ (s_ av_ (s_ av_ (s_ av_ (z_ (n_ (rt_ ?_))))))
   refine JX_rets [_, _, _] (Value.tuple #[_, _, _]) Tryd.results24 (fun w h => ⟨rfl, rfl, rfl, trivial⟩) rfl _ (fun _ h => h.keep [false] rfl) ⟨[], [], (false), ?_, ?_, ?_⟩
   ·have e_x0 : (false : Bool) = (false) := by first | rfl | omega | (simp_all; done) | (simp_all; omega)
    exact congrArg (fun (x0 : Bool) => Value.tuple #[vS [], vS [], vB x0]) e_x0
   ·rfl
   ·exact c39b1_
set_option maxRecDepth 20000 in
theorem f10_ok (line : Bytes) (w : World) (q0 : line.length ≤ 2000000) : Calls Tryd.prog 10 #[vS line] w (Gives [] w fun v L => ∃ A2 : Option Addr, ∃ c2 : Nat, v = Value.tuple #[vL A2 ((R39.scanW line).length) c2, vI (R39.scanE line)] ∧ L = [Ent.row (.slice A2 (R39.scanW line).length c2) 9 1 (R39.scanW line).length ((R39.scanW line).map vS)]) := by
 refine calls_J [] 37 Tryd.func10 rfl Tryd.ntmps10 [(0, _)] rfl rfl (Give.nil w) ?_
 refine q_ (g_ (s_ av_ (s_ av_ (z_ (n_ (q_ (g_ (s_ av_ (z_ (n_ (q_ (q_ (g_ (s_ mv_ (c0 (cl_ Ty.ca23) (fun w hS => trim_ok line w) ?_)))))))))))))))
 have ha1 := R39.trim_le line
 refine s_ av_ (z_ (n_ (k_ ?_)))
 refine J_loop (X := Bytes × (List Bytes) × (Option Addr) × Nat) (fun (⟨l, out, outA, outC⟩ : Bytes × (List Bytes) × (Option Addr) × Nat) => (R39.ScanJ line out l) ∧ (l.length + out.length ≤ line.length)) (fun (⟨l, out, outA, outC⟩ : Bytes × (List Bytes) × (Option Addr) × Nat) => [(0, vS l), (4, vL outA out.length outC)]) (fun (⟨l, out, outA, outC⟩ : Bytes × (List Bytes) × (Option Addr) × Nat) => [Ent.row (.slice outA out.length outC) 9 1 out.length (out.map vS)]) (fun (⟨l, out, outA, outC⟩ : Bytes × (List Bytes) × (Option Addr) × Nat) => l.length) ((R39.trim line, ([] : List Bytes), none, 0) : Bytes × (List Bytes) × (Option Addr) × Nat) ?_ ⟨rfl, rfl, trivial⟩ (fun _ h => (h.nilrow 9 1).keep [true] rfl) ?_
 ·try dsimp only
  refine ⟨?_, ?_⟩
  ·exact R39.ScanJ.start
  ·omega
 rintro ⟨l, out, outA, outC⟩ hI1
 obtain ⟨i1_0, i1_1⟩ := hI1
 try dsimp only at i1_0
 try dsimp only at i1_1
 try dsimp only
 refine q_ (q_ (g_ (s_ mv_ (js_ (vB (decide (l ≠ ([] : Bytes)))) (x_neq_s rfl rfl) (z_ (n_ ?_))))))
 refine ifd (fun h2w h2 => ?_) (fun h2w h2 => ?_)
 ·have h2l := List.length_pos_iff.2 h2
  refine sk_ (n_ (q_ (k_ (q_ (g_ (s_ mv_ ?_))))))
  refine c1 (cl_ Ty.ca24) (fun w hS => f24_ok l w hy_ hy_) ?_
  rintro _ _ ⟨e3, e4, e5, rfl, rfl, hf6⟩
  refine s_ mv_ (s_ (ex_ 0) (s_ (ex_ 1) (s_ (ex_ 2) (s_ av_ (s_ av_ (s_ av_ (z_ (n_ (q_ (q_ (g_ (s_ mv_ (s_ (x_not rfl) ?_)))))))))))))
  refine s_ mv_ ?_
  refine or_ 7 ((decide (e4 ≠ ([] : Bytes))) && (decide (e4.getD 0 0 ≠ (32 : UInt8)))) (fun g7 => ?_) ?_
  ·have g7r := g7
   have g7r : (e5) = true := bnot_false g7r
   refine sg_ g7 mv_ (jg_ g7 (vB (decide (e4 ≠ ([] : Bytes)))) (x_neq_s rfl rfl) (sg_ g7 mv_ ?_))
   refine and_ 3 (decide (e4.getD 0 0 ≠ (32 : UInt8))) (fun g8 => ?_) ?_ (hw := by exact ⟨_, rfl, g7⟩)
   ·have g8r := g8
    have g8r := of_decide_eq_true g8r
    have g8rl := List.length_pos_iff.2 g8r
    refine sg_ g8 mv_ (sg_ g8 (x_idx_s (k := 0) rfl rfl Tryd.underlying9 (by omega)) (jg_ g8 (vB (decide (e4.getD 0 0 ≠ (32 : UInt8)))) (x_neq_u8 rfl rfl) ?_))
    exact cr_
   exact cr_
  refine z_ (n_ ?_)
  refine if_ (fun h9 => ?_) (fun h9 => ?_)
  ·have h9w := h9
   simp only [Bool.and_eq_true, Bool.or_eq_true, Bool.and_eq_false_iff, Bool.or_eq_false_iff, Bool.not_eq_true', Bool.not_eq_false', decide_eq_true_eq, decide_eq_false_iff_not] at h9
   refine q_ (g_ (s_ av_ (s_ av_ (z_ (n_ (rt_ (nr_ (kq_ (nr_ (rr_ (kq_ (nr_ ?_))))))))))))
   refine JX_rets [_, _] (Value.tuple #[_, _]) Tryd.results10 (fun w h => ⟨rfl, rfl, trivial⟩) rfl [Ent.row (.slice none ([] : List Bytes).length 0) 9 1 ([] : List Bytes).length (([] : List Bytes).map vS)] (fun _ h => (h.nilrow 9 1).keep [true, false] rfl) ⟨none, 0, ?_, ?_⟩
   ·have e_x0 : (0 : Nat) = ((R39.scanW line).length) := by first | exact congrArg List.length (R39.scanW_none (i1_0.err (by assumption) hf6 (by assumption))) | exact congrArg List.length (R39.scanW_some (i1_0.done (Decidable.not_not.1 (by assumption))))
    have e_x1 : (3 : Int) = (R39.scanE line) := by first | exact R39.scanE_none (i1_0.err (by assumption) hf6 (by assumption)) | exact R39.scanE_some (i1_0.done (Decidable.not_not.1 (by assumption)))
    have e_all := (congr (congrArg (fun (x0 : Nat) (x1 : Int) => Value.tuple #[vL none x0 0, vI x1]) e_x0) e_x1)
    exact e_all
   ·have e_y0 : (([] : List Bytes) : List Bytes) = (R39.scanW line) := by
     exact c39b5_
    have e_all := (congrArg (fun (y0 : List Bytes) => [Ent.row (.slice none y0.length 0) 9 1 y0.length (y0.map vS)]) e_y0)
    exact e_all
  ·have h9w := h9
   have ⟨h9, h10⟩ := bor_false h9
   have h9 : (e5) = true := bnot_false h9
   simp only [Bool.and_eq_true, Bool.or_eq_true, Bool.and_eq_false_iff, Bool.or_eq_false_iff, Bool.not_eq_true', Bool.not_eq_false', decide_eq_true_eq, decide_eq_false_iff_not] at h10
   refine sk_ (n_ (g_ (s_ mv_ (s_ mv_ (o_ (O_buildSlice (cs := [vS e3]) Tryd.underlying24 Ty.sz9 Ty.ze9 (by decide) (by decide) (by kernel_rfl) fun b11 => ?_))))))
   refine o_ (O_append_m 1 vS out [e3] Tryd.underlying24 Ty.sz9 Ty.by9 Ty.ze9 rfl rfl rfl rfl rfl (fun _ => rfl) (cells_blk 0 (off := 0) (m := 1) rfl rfl) lt_ lt_ fun A12 c13 => ?_)
   refine s_ mv_ (s_ av_ (s_ av_ (z_ (kx_ (n_ (g_ (s_ mv_ (c0 (cl_ Ty.ca23) (fun w hS => trim_ok e4 w) ?_))))))))
   have ha14 := R39.trim_le e4
   refine s_ av_ (z_ ?_)
   refine JX_round ((R39.trim e4, out ++ [e3], A12, c13) : Bytes × (List Bytes) × (Option Addr) × Nat) ?_ ?_ ⟨rfl, rfl, trivial⟩ (fun _ h => h.keep [false, true] rfl)
   ·try dsimp only
    refine ⟨?_, ?_⟩
    ·exact i1_0.stepB (by assumption) hf6 (by assumption)
    ·have hls := hf6.less (by assumption)
     rw [List.length_append, List.length_singleton]; omega
   ·try dsimp only
    have hls := hf6.less (by assumption)
    omega
 ·refine J_exit (ne_ (re_ (kh_ (n_ (q_ ?_)))))
  refine g_ (s_ mv_ (s_ av_ (s_ av_ (z_ (n_ (rt_ ?_))))))
  refine JX_rets [_, _] (Value.tuple #[_, _]) Tryd.results10 (fun w h => ⟨rfl, rfl, trivial⟩) rfl _ (fun _ h => h) ⟨outA, outC, ?_, ?_⟩
  ·have e_x0 : (out.length : Nat) = ((R39.scanW line).length) := by first | exact congrArg List.length (R39.scanW_none (i1_0.err (by assumption) no_such_condition (by assumption))) | exact congrArg List.length (R39.scanW_some (i1_0.done (Decidable.not_not.1 (by assumption))))
   have e_x1 : (0 : Int) = (R39.scanE line) := by first | exact R39.scanE_none (i1_0.err (by assumption) no_such_condition (by assumption)) | exact R39.scanE_some (i1_0.done (Decidable.not_not.1 (by assumption)))
   have e_all := (congr (congrArg (fun (x0 : Nat) (x1 : Int) => Value.tuple #[vL outA x0 outC, vI x1]) e_x0) e_x1)
   exact e_all
  ·have e_y0 : (out : List Bytes) = (R39.scanW line) := by
    exact c39b6_
   have e_all := (congrArg (fun (y0 : List Bytes) => [Ent.row (.slice outA y0.length outC) 9 1 y0.length (y0.map vS)]) e_y0)
   exact e_all
set_option maxRecDepth 20000 in
theorem f10k_ok (line : Bytes) (w : World) (q0 : line.length ≤ 2000000) : Calls Tryd.prog 10 #[vS line] w (GivesW [] w fun v L wx => ∃ o : List Bytes, ∃ oA : Option Addr, ∃ oC : Nat, v = Value.tuple #[vL oA o.length oC, vI (R39.scanE line)] ∧ L = [] ∧ RO (List.range w.heap.size) wx oA (o.map vS) ∧ o.length ≤ oC ∧ (o = R39.scanW line) ∧ (o.length ≤ line.length) ∧ (∀ i, (o.getD i []).length ≤ line.length)) := by
 refine calls_JW [] 37 Tryd.func10 rfl Tryd.ntmps10 [(0, _)] rfl rfl (Give.nil w) ?_
 refine q_ (g_ (s_ av_ (s_ av_ (z_ (n_ (q_ (g_ (s_ av_ (z_ (n_ (q_ (q_ (g_ (s_ mv_ (c0 (cl_ Ty.ca23) (fun w hS => trim_ok line w) ?_)))))))))))))))
 have ha1 := R39.trim_le line
 refine s_ av_ (z_ (n_ (k_ ?_)))
 refine J_loop (X := Bytes × (List Bytes) × (Option Addr) × Nat) (fun (⟨l, out, outA, outC⟩ : Bytes × (List Bytes) × (Option Addr) × Nat) => (R39.ScanJ line out l) ∧ (l.length + out.length ≤ line.length)) (fun (⟨l, out, outA, outC⟩ : Bytes × (List Bytes) × (Option Addr) × Nat) => [(0, vS l), (4, vL outA out.length outC)]) (fun (⟨l, out, outA, outC⟩ : Bytes × (List Bytes) × (Option Addr) × Nat) => [Ent.row (.slice outA out.length outC) 9 1 out.length (out.map vS)]) (fun (⟨l, out, outA, outC⟩ : Bytes × (List Bytes) × (Option Addr) × Nat) => l.length) ((R39.trim line, ([] : List Bytes), none, 0) : Bytes × (List Bytes) × (Option Addr) × Nat) ?_ ⟨rfl, rfl, trivial⟩ (fun _ h => (h.nilrow 9 1).keep [true] rfl) ?_
 ·try dsimp only
  refine ⟨?_, ?_⟩
  ·exact R39.ScanJ.start
  ·omega
 rintro ⟨l, out, outA, outC⟩ hI1
 obtain ⟨i1_0, i1_1⟩ := hI1
 try dsimp only at i1_0
 try dsimp only at i1_1
 try dsimp only
 refine q_ (q_ (g_ (s_ mv_ (js_ (vB (decide (l ≠ ([] : Bytes)))) (x_neq_s rfl rfl) (z_ (n_ ?_))))))
 refine ifd (fun h2w h2 => ?_) (fun h2w h2 => ?_)
 ·have h2l := List.length_pos_iff.2 h2
  refine sk_ (n_ (q_ (k_ (q_ (g_ (s_ mv_ ?_))))))
  refine c1 (cl_ Ty.ca24) (fun w hS => f24_ok l w hy_ hy_) ?_
  rintro _ _ ⟨e3, e4, e5, rfl, rfl, hf6⟩
  refine s_ mv_ (s_ (ex_ 0) (s_ (ex_ 1) (s_ (ex_ 2) (s_ av_ (s_ av_ (s_ av_ (z_ (n_ (q_ (q_ (g_ (s_ mv_ (s_ (x_not rfl) ?_)))))))))))))
  refine s_ mv_ ?_
  refine or_ 7 ((decide (e4 ≠ ([] : Bytes))) && (decide (e4.getD 0 0 ≠ (32 : UInt8)))) (fun g7 => ?_) ?_
  ·have g7r := g7
   have g7r : (e5) = true := bnot_false g7r
   refine sg_ g7 mv_ (jg_ g7 (vB (decide (e4 ≠ ([] : Bytes)))) (x_neq_s rfl rfl) (sg_ g7 mv_ ?_))
   refine and_ 3 (decide (e4.getD 0 0 ≠ (32 : UInt8))) (fun g8 => ?_) ?_ (hw := by exact ⟨_, rfl, g7⟩)
   ·have g8r := g8
    have g8r := of_decide_eq_true g8r
    have g8rl := List.length_pos_iff.2 g8r
    refine sg_ g8 mv_ (sg_ g8 (x_idx_s (k := 0) rfl rfl Tryd.underlying9 (by omega)) (jg_ g8 (vB (decide (e4.getD 0 0 ≠ (32 : UInt8)))) (x_neq_u8 rfl rfl) ?_))
    exact cr_
   exact cr_
  refine z_ (n_ ?_)
  refine if_ (fun h9 => ?_) (fun h9 => ?_)
  ·have h9w := h9
   simp only [Bool.and_eq_true, Bool.or_eq_true, Bool.and_eq_false_iff, Bool.or_eq_false_iff, Bool.not_eq_true', Bool.not_eq_false', decide_eq_true_eq, decide_eq_false_iff_not] at h9
   refine q_ (g_ (s_ av_ (s_ av_ (z_ (n_ (rt_ (nr_ (kq_ (nr_ (rr_ (kq_ (nr_ ?_))))))))))))
   refine JX_retsB [_, _] (Value.tuple #[_, _]) Tryd.results10 (fun w h => ⟨rfl, rfl, trivial⟩) rfl _ (fun _ h => h.keep [false] rfl) (fun _ _ h => h) (fun wx hw => ⟨([] : List Bytes), none, 0, ?_, ?_, RO.nil, (Nat.zero_le _), ?_, ?_, ?_⟩)
   ·have e_x0 : (0 : Nat) = (([] : List Bytes).length) := by first | rfl | exact R39.scanE_none (i1_0.err (by assumption) hf6 (by assumption)) | exact R39.scanE_some (i1_0.done (Decidable.not_not.1 (by assumption)))
    have e_x1 : (3 : Int) = (R39.scanE line) := by first | rfl | exact R39.scanE_none (i1_0.err (by assumption) hf6 (by assumption)) | exact R39.scanE_some (i1_0.done (Decidable.not_not.1 (by assumption)))
    have e_all := (congr (congrArg (fun (x0 : Nat) (x1 : Int) => Value.tuple #[vL none x0 0, vI x1]) e_x0) e_x1)
    exact e_all
   ·rfl
   ·exact c39b5_
   ·exact c39b7_
   ·exact c39b8_
  ·have h9w := h9
   have ⟨h9, h10⟩ := bor_false h9
   have h9 : (e5) = true := bnot_false h9
   simp only [Bool.and_eq_true, Bool.or_eq_true, Bool.and_eq_false_iff, Bool.or_eq_false_iff, Bool.not_eq_true', Bool.not_eq_false', decide_eq_true_eq, decide_eq_false_iff_not] at h10
   refine sk_ (n_ (g_ (s_ mv_ (s_ mv_ (o_ (O_buildSlice (cs := [vS e3]) Tryd.underlying24 Ty.sz9 Ty.ze9 (by decide) (by decide) (by kernel_rfl) fun b11 => ?_))))))
   refine o_ (O_append_m 1 vS out [e3] Tryd.underlying24 Ty.sz9 Ty.by9 Ty.ze9 rfl rfl rfl rfl rfl (fun _ => rfl) (cells_blk 0 (off := 0) (m := 1) rfl rfl) lt_ lt_ fun A12 c13 => ?_)
   refine s_ mv_ (s_ av_ (s_ av_ (z_ (kx_ (n_ (g_ (s_ mv_ (c0 (cl_ Ty.ca23) (fun w hS => trim_ok e4 w) ?_))))))))
   have ha14 := R39.trim_le e4
   refine s_ av_ (z_ ?_)
   refine JX_round ((R39.trim e4, out ++ [e3], A12, c13) : Bytes × (List Bytes) × (Option Addr) × Nat) ?_ ?_ ⟨rfl, rfl, trivial⟩ (fun _ h => h.keep [false, true] rfl)
   ·try dsimp only
    refine ⟨?_, ?_⟩
    ·exact i1_0.stepB (by assumption) hf6 (by assumption)
    ·have hls := hf6.less (by assumption)
     rw [List.length_append, List.length_singleton]; omega
   ·try dsimp only
    have hls := hf6.less (by assumption)
    omega
 ·refine J_exit (ne_ (re_ (kh_ (n_ (q_ ?_)))))
  refine g_ (s_ mv_ (s_ av_ (s_ av_ (z_ (n_ (rt_ ?_))))))
  refine JX_retsD [_, _] (Value.tuple #[_, _]) Tryd.results10 (fun w h => ⟨rfl, rfl, trivial⟩) rfl _ (fun _ h => h.keep [false] rfl) (fun _ _ h => h) (fun wx hw => ⟨out, outA, outC, ?_, ?_, (RO.of_rowF (Lc := []) hw hw 0 rfl), (row_le (hw.mem (j := 0) rfl)), ?_, ?_, ?_⟩)
  ·have e_x0 : (0 : Int) = (R39.scanE line) := by first | rfl | exact R39.scanE_none (i1_0.err (by assumption) no_such_condition (by assumption)) | exact R39.scanE_some (i1_0.done (Decidable.not_not.1 (by assumption)))
   exact congrArg (fun (x0 : Int) => Value.tuple #[vL outA out.length outC, vI x0]) e_x0
  ·rfl
  ·exact c39b6_
  ·exact c39b7_
  ·exact c39b8_
set_option maxRecDepth 20000 in
theorem f15_ok (word : Bytes) (w : World) (hT : Tab [] w) (q0 : word.length ≤ 1000000) : Calls Tryd.prog 15 #[vS word] w (Gives [] w fun v L => v = vS (R39.quote word) ∧ L = []) := by
 refine calls_J [] 15 Tryd.func15 rfl Tryd.ntmps15 [(0, _)] rfl rfl (Give.nil w) ?_
 refine q_ (g_ (s_ av_ (z_ (n_ (q_ (q_ (g_ (s_ mv_ (js_ (vB (decide (word ≠ ([] : Bytes)))) (x_neq_s rfl rfl) (s_ mv_ ?_))))))))))
 refine and_ 3 (!(decide (32 ∈ word ∨ 39 ∈ word))) (fun g1 => ?_) ?_
 ·have g1r := g1
  have g1r := of_decide_eq_true g1r
  have g1rl := List.length_pos_iff.2 g1r
  refine sg_ g1 mv_ (c0g g1 (cl_ Ty.ca34) (fun w hS => canyb_ok word w hy_) (sg_ g1 (x_not rfl) ?_))
  exact cr_
 refine z_ (n_ ?_)
 refine if_ (fun h2 => ?_) (fun h2 => ?_)
 ·have h2w := h2
  have ⟨h2, h3⟩ := band_true h2
  have h2 := of_decide_eq_true h2
  have h2l := List.length_pos_iff.2 h2
  have h3 : (decide (32 ∈ word ∨ 39 ∈ word)) = false := bnot_true h3
  have h3 := of_decide_eq_false h3
  refine q_ (g_ (s_ mv_ (s_ av_ (z_ (n_ (rt_ (nr_ ?_)))))))
  exact c39b9_
 ·have h2w := h2
  simp only [Bool.and_eq_true, Bool.or_eq_true, Bool.and_eq_false_iff, Bool.or_eq_false_iff, Bool.not_eq_true', Bool.not_eq_false', decide_eq_true_eq, decide_eq_false_iff_not] at h2
  refine sk_ (n_ (q_ (g_ (s_ mv_ (c0 (cl_ Ty.ca17) (fun w hS => repl_ok 39 word w (hT.on hS (fun _ h => by cases h)) hy_) ?_)))))
  have ha4 := R39.dbl_len 39 word
  refine js_ (vS ([39] ++ (R39.dblC 39 word))) (x_cat_s rfl rfl c39b2_) (js_ (vS (([39] ++ (R39.dblC 39 word)) ++ [39])) (x_cat_s rfl rfl c39b2_) (s_ av_ (z_ (n_ (rt_ ?_)))))
  exact c39b9_
end Go.Proofs.YtbfiibgmgopnaaaDoor
