/- Pn40b, Pl39w, C39s, Pl39x in one text. -/
import Derived.Test.YtbfiibgmgopnaaaDoorJobtextLines8
import Derived.Test.YtbfiibgmgopnaaaDoorJobtextLines7
import Derived.Test.YtbfiibgmgopnaaaDoorJobtextLines16
set_option linter.unusedVariables false
set_option linter.unusedSimpArgs false
namespace Go.Proofs.YtbfiibgmgopnaaaDoor
open Go.GV
namespace R44
def SplJ (b : UInt8) (s : Bytes) (k : Nat) (out : List Bytes) : Prop := ∃ pre cur, out = pre ++ [cur] ∧ splitC b s = pre ++ splitGo b cur (s.drop k)
section
variable {b : UInt8} {s : Bytes} {k : Nat} {out : List Bytes}
theorem SplJ.start : SplJ b s 0 [[]] := ⟨[], [], rfl, rfl⟩
theorem SplJ.ne (h : SplJ b s k out) : 0 < out.length := by obtain ⟨pre, cur, rfl, _⟩ := h; simp
theorem SplJ.cut (h : SplJ b s k out) (hk : k < s.length) (hb : s.getD k 0 = b) : SplJ b s (k + 1) (out ++ [[]]) := by
  obtain ⟨pre, cur, rfl, h2⟩ := h
  refine ⟨pre ++ [cur], [], rfl, ?_⟩
  rw [h2, drop_cons (d := 0) hk, splitGo, if_pos hb]; simp
theorem SplJ.add (h : SplJ b s k out) (hk : k < s.length) (hb : ¬ s.getD k 0 = b) : SplJ b s (k + 1) (out.set (out.length - 1) (out.getD (out.length - 1) [] ++ sub s k (k + 1))) := by
  obtain ⟨pre, cur, rfl, h2⟩ := h
  refine ⟨pre, cur ++ [s.getD k 0], ?_, ?_⟩
  · rw [List.length_append, List.length_singleton, Nat.add_sub_cancel, List.set_append_right _ _ (Nat.le_refl _), Nat.sub_self, List.getD_eq_getElem?_getD, List.getElem?_append_right (Nat.le_refl _), Nat.sub_self, sub_snoc (Nat.le_refl k) hk, sub_none]; rfl
  · rw [h2, drop_cons (d := 0) hk, splitGo, if_neg hb]
theorem SplJ.done (h : SplJ b s k out) (hk : s.length ≤ k) : out = splitC b s := by
  obtain ⟨pre, cur, rfl, h2⟩ := h
  rw [h2, List.drop_of_length_le hk]; rfl
theorem SplJ.short (h : SplJ b s k out) (i : Nat) : (out.getD i []).length ≤ s.length := by
  obtain ⟨pre, cur, rfl, h2⟩ := h
  have key : ∀ x ∈ pre ++ [cur], x.length ≤ s.length := by
    intro x hx
    rcases List.mem_append.1 hx with hx | hx
    · have := splitGo_len b s [] x (by show x ∈ splitC b s; rw [h2]; exact List.mem_append_left _ hx)
      simpa using this
    · rw [List.mem_singleton.1 hx]
      have h3 : (splitGo b cur (s.drop k)).getD 0 [] ∈ splitC b s := by
        rw [h2]
        exact List.mem_append_right _ (getD_mem (List.length_pos_iff.2 (splitGo_ne b _ _)))
      have h4 := splitGo_len b s [] _ h3
      have h5 : cur.length ≤ ((splitGo b cur (s.drop k)).getD 0 []).length := by
        rw [splitGo_pre]
        cases hs : splitGo b [] (s.drop k) with
        | nil => exact absurd hs (splitGo_ne b _ _)
        | cons y r => simp
      rw [List.length_nil, Nat.zero_add] at h4; omega
  by_cases hi : i < (pre ++ [cur]).length
  · exact key _ (getD_mem hi)
  · rw [List.getD_eq_getElem?_getD, List.getElem?_eq_none (by omega)]; exact Nat.zero_le _
theorem SplJ.few (h : SplJ b s k out) : out.length ≤ s.length + 1 := by
  obtain ⟨pre, cur, rfl, h2⟩ := h
  have := splitC_count b s
  rw [h2, List.length_append] at this
  have := List.length_pos_iff.2 (splitGo_ne b (s.drop k) cur)
  rw [List.length_append, List.length_singleton]; omega
end
theorem texts_end {a b : List Bytes} (hl : a.length = b.length) (h : ∀ i, i < a.length → a.getD i [] = b.getD i []) : true = decide (a = b) := by
  refine (decide_eq_true ?_).symm
  apply List.ext_getElem hl
  intro i h1 h2
  have := h i h1
  rwa [List.getD_eq_getElem?_getD, List.getD_eq_getElem?_getD, List.getElem?_eq_getElem h1, List.getElem?_eq_getElem h2] at this
theorem texts_bad {a b : List Bytes} {i : Nat} (h : a.getD i [] ≠ b.getD i []) : false = decide (a = b) := by
  refine (decide_eq_false fun e => ?_).symm
  rw [e] at h; exact h rfl
theorem texts_len {a b : List Bytes} (h : a.length ≠ b.length) : false = decide (a = b) := by
  refine (decide_eq_false fun e => ?_).symm
  rw [e] at h; exact h rfl
end R44
end Go.Proofs.YtbfiibgmgopnaaaDoor

namespace Go.Proofs.YtbfiibgmgopnaaaDoor
open Go.GV
namespace R39
open R44
section
variable {s : Bytes} {k : Nat}
theorem up_not_dg {c : UInt8} (h : isUp c = true) : isDg c = false := by
  unfold isUp at h; unfold isDg
  simp only [Bool.and_eq_true, decide_eq_true_eq] at h
  have h1 : (48 : UInt8) ≤ c → ¬ c ≤ 57 := fun _ hc => by
    have h2 := UInt8.le_iff_toNat_le.1 h.1; have h3 := UInt8.le_iff_toNat_le.1 hc
    have : (65 : UInt8).toNat = 65 := rfl
    have : (57 : UInt8).toNat = 57 := rfl
    omega
  by_cases hb : (48 : UInt8) ≤ c
  · rw [decide_eq_true hb, decide_eq_false (h1 hb)]; rfl
  · rw [decide_eq_false hb]; rfl
theorem ref_part0 (h : ((s.length : Int) < 1 ∨ (8 : Int) < (s.length : Int)) ∨ isDg (s.getD 0 0) = true) : false = qualV isUp isPl s := by
  have : ((decide (1 ≤ s.length) && decide (s.length ≤ 8)) && isUp (s.getD 0 0)) = false := by
    rcases h with h | h
    · have : (decide (1 ≤ s.length) && decide (s.length ≤ 8)) = false := by
        rw [Bool.and_eq_false_iff, decide_eq_false_iff_not, decide_eq_false_iff_not]; omega
      rw [this]; rfl
    · cases hu : isUp (s.getD 0 0) with
      | false => simp
      | true => rw [up_not_dg hu] at h; cases h
  unfold qualV; rw [this]; rfl
theorem ref_partB (hk : k < s.length) (h : isUp (s.getD k 0) = false ∧ isDg (s.getD k 0) = false) : false = qualV isUp isPl s := by
  obtain ⟨h1, h2⟩ := h
  by_cases h0 : k = 0
  · subst h0; unfold qualV; rw [h1, Bool.and_false]; rfl
  · exact qual_bad (k := k) (by omega) hk (by unfold isPl; rw [h1, h2]; rfl)
theorem or_tf {a : Prop} (h : a ∨ true = false) : a := h.resolve_right (by simp)
theorem and_tf {a b : Prop} (h : (a ∧ b) ∧ True ∨ false = true) : a ∧ b := (h.resolve_right (by simp)).1
theorem ref_partE (h1 : ¬ (s.length : Int) < 1) (h2 : ¬ (8 : Int) < (s.length : Int)) (h : isDg (s.getD 0 0) = false) (hk : k = s.length) (ha : ∀ i, i < k → isPl (s.getD i 0) = true) : true = qualV isUp isPl s := by
  have h0 := ha 0 (by omega)
  have hu : isUp (s.getD 0 0) = true := by
    unfold isPl at h0
    cases hd : isDg (s.getD 0 0) with
    | true => rw [h] at hd; cases hd
    | false => rw [hd, Bool.or_false] at h0; exact h0
  refine qual_end ?_ (fun i _ hi => ha i (by omega))
  rw [hu, decide_eq_false (by omega), decide_eq_false (by omega)]; rfl
theorem ref_pstep (h : ∀ i, i < k → isPl (s.getD i 0) = true) (hk : isUp (s.getD k 0) = true ∨ isDg (s.getD k 0) = true) : ∀ i, i < k + 1 → isPl (s.getD i 0) = true := fun i h2 => by
  by_cases e : i = k
  · subst e; unfold isPl; exact Bool.or_eq_true _ _ ▸ hk
  · exact h i (by omega)
theorem splitGo_cnt (b : UInt8) : ∀ (l cur : Bytes), (splitGo b cur l).length = l.count b + 1
  | [], cur => by rw [splitGo]; rfl
  | c :: r, cur => by
    rw [splitGo, List.count_cons]
    split
    · rename_i h; rw [List.length_cons, splitGo_cnt b r [], if_pos (by simpa using h)]
    · rename_i h; rw [splitGo_cnt b r _, if_neg (by simpa using h)]
theorem ref_sym (s : Bytes) : (nameV (qualV isUp isPl) s && decide (((splitC 46 s).length : Int) = 1)) = symV s := by
  rw [← sym_name s]
  congr 1
  have := splitGo_cnt 46 s []
  have e : (splitC 46 s).length = s.count 46 + 1 := this
  by_cases h : 46 ∈ s
  · have := List.count_pos_iff.2 h
    rw [decide_eq_false (by omega), decide_eq_true h]; rfl
  · have := List.count_eq_zero.2 h
    rw [decide_eq_true (by omega), decide_eq_false h]; rfl
end
def QuR (w : Bytes) (k : Nat) (s : Bytes) (p : Bool) : Prop := s = dbl (w.take k) ∧ p = (decide (w ≠ []) && !decide (32 ∈ w.take k ∨ 39 ∈ w.take k))
theorem QuR.start {w : Bytes} : QuR w 0 [] (decide (w ≠ [])) := ⟨rfl, by simp⟩
theorem dblA_app (a b : Bytes) : dbl (a ++ b) = dbl a ++ dbl b := List.flatMap_append ..
theorem dbl_le : ∀ s : Bytes, (dbl s).length ≤ 2 * s.length := fun s => dbl_len 39 s
theorem QuR.len {w s : Bytes} {k : Nat} {p : Bool} (h : QuR w k s p) : s.length ≤ 2 * k := by
  rw [h.1]; have := dbl_le (w.take k); have : (w.take k).length ≤ k := by rw [List.length_take]; omega
  omega
theorem sub_one {w : Bytes} {k : Nat} (h : k < w.length) : sub w k (k + 1) = [w.getD k 0] := by
  unfold sub
  rw [List.drop_take, List.drop_eq_getElem_cons h, show k + 1 - k = 1 by omega, List.take_succ_cons, List.take_zero, List.getD_eq_getElem?_getD, List.getElem?_eq_getElem h]; rfl
theorem take_one {w : Bytes} {k : Nat} (h : k < w.length) : w.take (k + 1) = w.take k ++ [w.getD k 0] := R44.take_snoc (d := 0) h
theorem QuR.plain {w s : Bytes} {k : Nat} {p : Bool} (h : QuR w k s p) (hk : k < w.length) : (p && (decide (w.getD k 0 ≠ 32) && decide (w.getD k 0 ≠ 39))) = (decide (w ≠ []) && !decide (32 ∈ w.take (k + 1) ∨ 39 ∈ w.take (k + 1))) := by
  rw [h.2, take_one hk]
  generalize w.getD k 0 = c
  by_cases h1 : c = 32 <;> by_cases h2 : c = 39 <;> by_cases h3 : 32 ∈ w.take k <;> by_cases h4 : 39 ∈ w.take k <;> simp [h1, h2, h3, h4, eq_comm]
theorem QuR.quo {w s : Bytes} {k : Nat} {p p2 : Bool} (h : QuR w k s p) (hk : k < w.length) (hc : w.getD k 0 = 39) (hp : p2 = (p && (decide (w.getD k 0 ≠ 32) && decide (w.getD k 0 ≠ 39)))) : QuR w (k + 1) ((s ++ [39]) ++ sub w k (k + 1)) p2 := by
  refine ⟨?_, hp.trans (h.plain hk)⟩
  rw [sub_one hk, take_one hk, dblA_app, ← h.1, hc, List.append_assoc]; rfl
theorem QuR.one {w s : Bytes} {k : Nat} {p p2 : Bool} (h : QuR w k s p) (hk : k < w.length) (hc : w.getD k 0 ≠ 39) (hp : p2 = (p && (decide (w.getD k 0 ≠ 32) && decide (w.getD k 0 ≠ 39)))) : QuR w (k + 1) (s ++ sub w k (k + 1)) p2 := by
  refine ⟨?_, hp.trans (h.plain hk)⟩
  rw [sub_one hk, take_one hk, dblA_app, ← h.1]
  congr 1
  show _ = (if w.getD k 0 = 39 then [39, 39] else [w.getD k 0]) ++ []
  rw [if_neg hc]; rfl
theorem QuR.yes {w s : Bytes} {k : Nat} {p : Bool} (h : QuR w k s p) (hk : ¬ k < w.length) (hp : p = true) : w = quote w := by
  rw [h.2, List.take_of_length_le (by omega)] at hp
  simp only [Bool.and_eq_true, decide_eq_true_eq, Bool.not_eq_true', decide_eq_false_iff_not] at hp
  unfold quote; rw [if_pos ⟨hp.1, hp.2⟩]
theorem QuR.no {w s : Bytes} {k : Nat} {p : Bool} (h : QuR w k s p) (hk : ¬ k < w.length) (hp : p = false) : ([39] ++ s) ++ [39] = quote w := by
  have h1 := h.1
  rw [h.2, List.take_of_length_le (by omega)] at hp
  rw [List.take_of_length_le (by omega)] at h1
  unfold quote
  rw [if_neg fun ⟨h2, h3⟩ => by rw [decide_eq_true h2, decide_eq_false h3] at hp; cases hp]
  rw [h1]
def EndP (s : Bytes) (n : Nat) : Prop := n < s.length ∧ s.getD n 0 = 59 ∧ symV (s.take n) = true
def endV (s : Bytes) : Nat := match cutB 59 s with
  | some (a, _) => if symV a = true then a.length + 1 else 0
  | none => 0
theorem pl_no59 {c : UInt8} (h : isPl c = true) : c ≠ 59 := fun e => by rw [e] at h; exact absurd h (by decide)
theorem sym_no59 {a : Bytes} (h : symV a = true) : (59 : UInt8) ∉ a := fun hm => by
  unfold symV qualV at h
  simp only [Bool.and_eq_true, decide_eq_true_eq, List.all_eq_true] at h
  obtain ⟨⟨⟨h1, _⟩, hu⟩, ha⟩ := h
  cases a with
  | nil => cases hm
  | cons c r =>
    rcases List.mem_cons.1 hm with e | e
    · have : isUp c = true := hu
      rw [← e] at this; exact absurd this (by decide)
    · exact pl_no59 (ha _ e) rfl
theorem sym_8 {a : Bytes} (h : symV a = true) : 1 ≤ a.length ∧ a.length ≤ 8 := by
  unfold symV qualV at h
  simp only [Bool.and_eq_true, decide_eq_true_eq] at h
  exact h.1.1
theorem cutB_pre {b : UInt8} : ∀ {a r : Bytes}, b ∉ a → cutB b (a ++ b :: r) = some (a, r)
  | [], r, _ => by rw [List.nil_append, cutB, if_pos rfl]
  | c :: a, r, h => by
    rw [List.cons_append, cutB, if_neg (fun e => h (by rw [e]; exact List.mem_cons_self)), cutB_pre fun hm => h (List.mem_cons_of_mem _ hm)]; rfl
theorem EndP.cut {s : Bytes} {n : Nat} (h : EndP s n) : cutB 59 s = some (s.take n, s.drop (n + 1)) := by
  have hn := h.1
  have e : s = s.take n ++ 59 :: s.drop (n + 1) := by
    have h2 := List.drop_eq_getElem_cons hn
    have h3 : s[n] = 59 := by have := h.2.1; rwa [List.getD_eq_getElem?_getD, List.getElem?_eq_getElem hn] at this
    rw [h3] at h2
    rw [← h2, List.take_append_drop]
  have := cutB_pre (r := s.drop (n + 1)) (sym_no59 h.2.2)
  rwa [← e] at this
theorem EndP.end {s : Bytes} {n : Nat} (h : EndP s n) : endV s = n + 1 := by
  unfold endV; rw [h.cut]; dsimp only; rw [if_pos h.2.2, List.length_take]; have := h.1; omega
theorem end_none {s : Bytes} {k : Nat} (h : ∀ i, 1 ≤ i → i < k → ¬ EndP s i) (hk : ¬ (k ≤ 8 ∧ k < s.length)) : endV s = 0 := by
  unfold endV
  cases hc : cutB 59 s with
  | none => rfl
  | some p =>
    obtain ⟨a, r⟩ := p
    dsimp only
    split
    · rename_i hs
      have e := cutB_le hc
      have h8 := sym_8 hs
      have hl : s.length = a.length + (r.length + 1) := by rw [e, List.length_append, List.length_cons]
      refine absurd ?_ (h a.length h8.1 (by omega))
      refine ⟨by omega, ?_, ?_⟩
      · rw [e, List.getD_eq_getElem?_getD, List.getElem?_append_right (Nat.le_refl _), Nat.sub_self]; rfl
      · rw [e, List.take_append_of_le_length (Nat.le_refl _), List.take_length]; exact hs
    · rfl
theorem endP_no {s : Bytes} {k : Nat} (h : ¬ s.getD k 0 = 59 ∨ symV (sub s 0 k) = false) : ¬ EndP s k := fun ⟨_, h1, h2⟩ => h.elim (fun h => h h1) fun h => by rw [show sub s 0 k = s.take k from rfl, h2] at h; cases h
theorem end_step {s : Bytes} {k : Nat} (h : ∀ i, 1 ≤ i → i < k → ¬ EndP s i) (hk : ¬ EndP s k) : ∀ i, 1 ≤ i → i < k + 1 → ¬ EndP s i := fun i h1 h2 => by
  by_cases e : i = k
  · rw [e]; exact hk
  · exact h i h1 (by omega)
end R39
end Go.Proofs.YtbfiibgmgopnaaaDoor

namespace Go.Proofs.YtbfiibgmgopnaaaDoor
open Go.GV
set_option linter.unusedVariables false
set_option linter.unusedSimpArgs false
theorem c39s0_ {p : Prop} (h : p := by first | omega | (simp only [List.length_append, List.length_cons, List.length_nil]; omega) | (simp; omega) | (simp_all; omega)) : p := h
theorem c39s1_ {p : Prop} (h : p := by first | omega | (simp only [sub, List.length_drop, List.length_take]; omega) | (simp; omega) | (simp_all; omega)) : p := h
theorem c39s2_ {p : Prop} (h : p := by first | exact R39.ref_part0 (by assumption) | exact R39.ref_partB (k := k) (by omega) (R39.and_tf (by assumption)) | exact R39.ref_partE (by assumption) (by assumption) (by assumption) (by omega) i1_1) : p := h
theorem c39s3_ {p : Prop} (h : p := by first | exact R44.name_0 (by assumption) | exact R44.name_bad (k := k) (by omega) (by assumption) | exact R44.name_end (by assumption) (fun i h2 => i1_1 i (by omega))) : p := h
theorem c39s6_ {p : Prop} (h : p := by rw [List.length_map]; first | omega | (simp only [List.length_append, List.length_cons, List.length_nil]; omega) | (simp; omega) | (simp_all; omega) | (simp_all; done)) : p := h
theorem c39s7_ {p : Prop} (h : p := by first | exact i1_1.yes (by omega) (by assumption) | exact i1_1.no (by omega) (by assumption)) : p := h
theorem c39s8_ {p : Prop} (h : p := by first | exact (R39.EndP.end ⟨by omega, by assumption, by assumption⟩).symm | exact (R39.end_none i1_2 (by omega)).symm) : p := h
theorem c39s9_ {p : Prop} (h : p := by first | exact i1_1.cut (by omega) (by assumption) | exact i1_1.add (by omega) (by assumption)) : p := h
theorem c39s10_ {p : Prop} (h : p := by first | exact i1_1.quo (by omega) (by assumption) (Bool.and_assoc _ _ _) | exact i1_1.one (by omega) (by assumption) (Bool.and_assoc _ _ _)) : p := h
set_option maxRecDepth 20000 in
theorem f107_ok (c : UInt8) (w : World) : Calls Tryd.prog 107 #[vU8 c] w (Gives [] w fun v L => v = vB (R44.isUp c) ∧ L = []) := by
 refine calls_J [] 9 Tryd.func107 rfl Tryd.ntmps107 [(0, _)] rfl rfl (Give.nil w) ?_
 refine q_ (g_ (s_ av_ (z_ (n_ (q_ (g_ (s_ mv_ (js_ (vB (decide ((65 : UInt8) ≤ c))) (x_geq_u8 rfl rfl) (s_ mv_ ?_)))))))))
 refine and_ 2 (decide (c ≤ (90 : UInt8))) (fun g1 => ?_) ?_
 ·have g1r := g1
  have g1r := of_decide_eq_true g1r
  have g1ru := g1r
  try simp only [UInt8.lt_iff_toNat_lt, UInt8.le_iff_toNat_le, UInt8.reduceToNat, UInt32.lt_iff_toNat_lt, UInt32.le_iff_toNat_le, UInt32.reduceToNat, UInt64.lt_iff_toNat_lt, UInt64.le_iff_toNat_le, UInt64.reduceToNat] at g1ru
  refine sg_ g1 mv_ (jg_ g1 (vB (decide (c ≤ (90 : UInt8)))) (x_leq_u8 rfl rfl) ?_)
  exact cr_
 refine s_ av_ (z_ (n_ (rt_ ?_)))
 exact p1 Tryd.results107 rfl ⟨(eB (by rfl)), rfl⟩
set_option maxRecDepth 20000 in
theorem f106_ok (c : UInt8) (w : World) : Calls Tryd.prog 106 #[vU8 c] w (Gives [] w fun v L => v = vB (R44.isDg c) ∧ L = []) := by
 refine calls_J [] 9 Tryd.func106 rfl Tryd.ntmps106 [(0, _)] rfl rfl (Give.nil w) ?_
 refine q_ (g_ (s_ av_ (z_ (n_ (q_ (g_ (s_ mv_ (js_ (vB (decide ((48 : UInt8) ≤ c))) (x_geq_u8 rfl rfl) (s_ mv_ ?_)))))))))
 refine and_ 2 (decide (c ≤ (57 : UInt8))) (fun g1 => ?_) ?_
 ·have g1r := g1
  have g1r := of_decide_eq_true g1r
  have g1ru := g1r
  try simp only [UInt8.lt_iff_toNat_lt, UInt8.le_iff_toNat_le, UInt8.reduceToNat, UInt32.lt_iff_toNat_lt, UInt32.le_iff_toNat_le, UInt32.reduceToNat, UInt64.lt_iff_toNat_lt, UInt64.le_iff_toNat_le, UInt64.reduceToNat] at g1ru
  refine sg_ g1 mv_ (jg_ g1 (vB (decide (c ≤ (57 : UInt8)))) (x_leq_u8 rfl rfl) ?_)
  exact cr_
 refine s_ av_ (z_ (n_ (rt_ ?_)))
 exact p1 Tryd.results106 rfl ⟨(eB (by rfl)), rfl⟩
set_option maxRecDepth 20000 in
theorem f103_ok (s : Bytes) (w : World) (q0 : s.length ≤ 9223372036854775807) : Calls Tryd.prog 103 #[vS s, vB false] w (Gives [] w fun v L => v = vB ((R44.qualV R44.isUp R44.isPl) s) ∧ L = []) := by
 refine calls_J [] 68 Tryd.func103 rfl Tryd.ntmps103 [(0, _), (1, _)] rfl rfl (Give.nil w) ?_
 refine q_ (g_ (s_ av_ (z_ (n_ (q_ (q_ (g_ (s_ mv_ (s_ mv_ (sh_ rfl (sh_ rfl (jr_ (vB false) (z_ (n_ (iff_ (sk_ (n_ (q_ (q_ (g_ ?_))))))))))))))))))))
 refine s_ mv_ (s_ (x_len_s rfl Tryd.underlying9) (s_ (x_lss_i rfl rfl) (s_ mv_ ?_)))
 refine or_ 3 (decide ((8 : Int) < ((s.length : Nat) : Int))) (fun g1 => ?_) ?_
 ·have g1r := g1
  have g1r := of_decide_eq_false g1r
  refine sg_ g1 mv_ (sg_ g1 (x_len_s rfl Tryd.underlying9) (sg_ g1 (x_gtr_i rfl rfl) ?_))
  exact cr_
 refine s_ mv_ ?_
 refine or_ 3 (R44.isDg (s.getD 0 0)) (fun g2 => ?_) ?_
 ·have g2r := g2
  have ⟨g2r, h3⟩ := bor_false g2r
  have g2r := of_decide_eq_false g2r
  have h3 := of_decide_eq_false h3
  refine sg_ g2 mv_ (sg_ g2 (x_idx_s (k := 0) rfl rfl Tryd.underlying9 (by omega)) (c0g g2 (cl_ Ty.ca106) (fun w hS => f106_ok _ w) ?_))
  exact cr_
 refine z_ (n_ ?_)
 refine if_ (fun h4 => ?_) (fun h4 => ?_)
 ·have h4w := h4
  simp only [Bool.and_eq_true, Bool.or_eq_true, Bool.and_eq_false_iff, Bool.or_eq_false_iff, Bool.not_eq_true', Bool.not_eq_false', decide_eq_true_eq, decide_eq_false_iff_not] at h4
  refine q_ (g_ (s_ av_ (z_ (n_ (rt_ (nr_ ?_))))))
  exact p1 Tryd.results103 rfl ⟨(eB c39s2_), rfl⟩
 ·have h4w := h4
  have ⟨h4, h5⟩ := bor_false h4
  have ⟨h4, h6⟩ := bor_false h4
  have h4 := of_decide_eq_false h4
  have h6 := of_decide_eq_false h6
  refine sk_ (n_ (q_ (q_ (g_ (s_ av_ (z_ (n_ (k_ ?_))))))))
  refine J_loop (X := Nat) (fun (k : Nat) => (k ≤ s.length) ∧ (∀ i, i < k → R44.isPl (s.getD i 0) = true)) (fun (k : Nat) => [(0, vS s), (1, vB false), (5, vI ((k : Nat) : Int))]) (fun (k : Nat) => []) (fun (k : Nat) => s.length - k) (0 : Nat) ?_ ⟨rfl, rfl, rfl, trivial⟩ (fun _ h => h) ?_
  ·try dsimp only
   refine ⟨?_, ?_⟩
   ·first | rfl | omega | (simp_all; done) | (simp_all; omega)
   ·intro i h2; omega
  intro k hI1
  obtain ⟨i1_0, i1_1⟩ := hI1
  try dsimp only at i1_0
  try dsimp only at i1_1
  try dsimp only
  refine q_ (q_ (g_ (s_ mv_ (s_ mv_ (s_ (x_len_s rfl Tryd.underlying9) (s_ (x_lss_i rfl rfl) (z_ (n_ ?_))))))))
  refine ifd (fun h7w h7 => ?_) (fun h7w h7 => ?_)
  ·refine sk_ (n_ (q_ (k_ (q_ (g_ (s_ mv_ (s_ mv_ (sh_ rfl (sh_ rfl (sh_ rfl (sh_ rfl (jr_ (vB false) (s_ av_ (z_ (n_ (q_ (g_ ?_)))))))))))))))))
   refine s_ mv_ (s_ mv_ (s_ (x_idx_s (k := k) rfl rfl Tryd.underlying9 (by omega)) (c0 (cl_ Ty.ca107) (fun w hS => f107_ok _ w) (s_ (x_not rfl) (s_ mv_ ?_)))))
   refine and_ 5 (!(R44.isDg (s.getD k 0))) (fun g8 => ?_) ?_
   ·have g8r := g8
    have g8r : (R44.isUp (s.getD k 0)) = false := bnot_true g8r
    refine sg_ g8 mv_ (sg_ g8 mv_ (sg_ g8 (x_idx_s (k := k) rfl rfl Tryd.underlying9 (by omega)) (c0g g8 (cl_ Ty.ca106) (fun w hS => f106_ok _ w) (sg_ g8 (x_not rfl) ?_))))
    exact cr_
   refine s_ mv_ ?_
   refine and_ 2 (true) (fun g9 => ?_) ?_
   ·have g9r := g9
    have ⟨g9r, h10⟩ := band_true g9r
    have g9r : (R44.isUp (s.getD k 0)) = false := bnot_true g9r
    have h10 : (R44.isDg (s.getD k 0)) = false := bnot_true h10
    refine sg_ g9 mv_ (jg_ g9 (vB true) (rfl) ?_)
    exact cr_
   refine s_ mv_ ?_
   refine or_ 12 (false) (fun g11 => ?_) ?_
   ·have g11r := g11
    simp only [Bool.and_eq_true, Bool.or_eq_true, Bool.and_eq_false_iff, Bool.or_eq_false_iff, Bool.not_eq_true', Bool.not_eq_false', decide_eq_true_eq, decide_eq_false_iff_not] at g11r
    refine sg_ g11 mv_ (sg_ g11 mv_ (sh_ rfl (sh_ rfl (jg_ g11 (vB false) (rfl) (sg_ g11 mv_ (sh_ rfl (sh_ rfl (sh_ rfl (sh_ rfl ?_)))))))))
    refine sh_ rfl (jg_ g11 (vB false) (rfl) ?_)
    exact cr_
   refine z_ (xk_ [0, 1, 5, 67] ?_)
   refine n_ ?_
   refine if_ (fun h12 => ?_) (fun h12 => ?_)
   ·have h12w := h12
    simp only [Bool.and_eq_true, Bool.or_eq_true, Bool.and_eq_false_iff, Bool.or_eq_false_iff, Bool.not_eq_true', Bool.not_eq_false', decide_eq_true_eq, decide_eq_false_iff_not] at h12
    refine q_ (g_ (s_ av_ (z_ (n_ (rt_ (kq_ (nr_ (rr_ (kq_ (nr_ ?_))))))))))
    exact p1 Tryd.results103 rfl ⟨(eB c39s2_), rfl⟩
   ·have h12w := h12
    have ⟨h12, h13⟩ := bor_false h12
    simp only [Bool.and_eq_true, Bool.or_eq_true, Bool.and_eq_false_iff, Bool.or_eq_false_iff, Bool.not_eq_true', Bool.not_eq_false', decide_eq_true_eq, decide_eq_false_iff_not] at h12
    refine sk_ (kx_ (n_ (g_ (s_ mv_ (s_ (x_add_n (a := k) (b := 1) rfl rfl (by omega)) (s_ av_ (z_ ?_)))))))
    refine JX_round (k + 1 : Nat) ?_ ?_ ⟨rfl, rfl, rfl, trivial⟩ (fun _ h => h)
    ·try dsimp only
     refine ⟨?_, ?_⟩
     ·first | rfl | omega | (simp_all; done) | (simp_all; omega)
     ·exact R39.ref_pstep i1_1 (R39.or_tf (by assumption))
    ·try dsimp only
     first | omega | (simp; omega) | (simp_all; omega)
  ·refine J_exit (ne_ (re_ (kh_ (n_ (q_ ?_)))))
   refine g_ (s_ av_ (z_ (n_ (rt_ ?_))))
   exact p1 Tryd.results103 rfl ⟨(eB c39s2_), rfl⟩
set_option maxRecDepth 20000 in
theorem f78_ok (s : Bytes) (w : World) (q0 : s.length ≤ 1000000) : Calls Tryd.prog 78 #[vS s] w (Gives [] w fun v L => ∃ A2 : Option Addr, ∃ c2 : Nat, v = vL A2 ((R44.splitC 46 s).length) c2 ∧ L = [Ent.row (.slice A2 (R44.splitC 46 s).length c2) 9 1 (R44.splitC 46 s).length ((R44.splitC 46 s).map vS)]) := by
 refine calls_J [] 37 Tryd.func78 rfl Tryd.ntmps78 [(0, _)] rfl rfl (Give.nil w) ?_
 refine q_ (g_ (s_ av_ (z_ (n_ (q_ (g_ (o_ (O_buildSlice (cs := [vS []]) Tryd.underlying24 Ty.sz9 Ty.ze9 (by decide) (by decide) (by kernel_rfl) fun b1 => ?_))))))))
 refine s_ av_ (z_ (n_ (q_ (q_ (g_ (s_ av_ (z_ (n_ (k_ ?_)))))))))
 refine J_loop (X := Nat × (List Bytes) × (Option Addr) × Nat) (fun (⟨k, out, outA, outC⟩ : Nat × (List Bytes) × (Option Addr) × Nat) => (k ≤ s.length) ∧ (R44.SplJ 46 s k out)) (fun (⟨k, out, outA, outC⟩ : Nat × (List Bytes) × (Option Addr) × Nat) => [(0, vS s), (2, vL none 0 0), (3, vL outA out.length outC), (4, vI ((k : Nat) : Int))]) (fun (⟨k, out, outA, outC⟩ : Nat × (List Bytes) × (Option Addr) × Nat) => [Ent.row (.slice outA out.length outC) 9 1 out.length (out.map vS)]) (fun (⟨k, out, outA, outC⟩ : Nat × (List Bytes) × (Option Addr) × Nat) => s.length - k) ((0, [[]], (some ⟨b1, 0, none⟩), 1) : Nat × (List Bytes) × (Option Addr) × Nat) ?_ ⟨rfl, rfl, rfl, rfl, trivial⟩ (fun _ h => (St.torow (cs := [vS []]) h 1 1 rfl (by decide)).keep [true] rfl) ?_
 ·try dsimp only
  refine ⟨?_, ?_⟩
  ·first | rfl | omega | (simp_all; done) | (simp_all; omega)
  ·exact R44.SplJ.start
 rintro ⟨k, out, outA, outC⟩ hI1
 obtain ⟨i1_0, i1_1⟩ := hI1
 try dsimp only at i1_0
 try dsimp only at i1_1
 have hne := i1_1.ne
 have hsh := i1_1.short (out.length - 1)
 have hfw := i1_1.few
 have hsu := fun h => sub_length s k (k + 1) h
 try dsimp only
 refine q_ (q_ (g_ (s_ mv_ (s_ mv_ (s_ (x_len_s rfl Tryd.underlying9) (s_ (x_lss_i rfl rfl) (z_ (n_ ?_))))))))
 refine ifd (fun h2w h2 => ?_) (fun h2w h2 => ?_)
 ·refine sk_ (n_ (q_ (k_ (q_ (g_ (s_ mv_ (s_ mv_ (s_ (x_idx_s (k := k) rfl rfl Tryd.underlying9 (by omega)) (js_ (vB (decide (s.getD k 0 = (46 : UInt8)))) (x_eql_u8 rfl rfl) (z_ (n_ ?_)))))))))))
  refine ifd (fun h3w h3 => ?_) (fun h3w h3 => ?_)
  ·refine g_ (s_ mv_ (o_ (O_buildSlice (cs := [vS []]) Tryd.underlying24 Ty.sz9 Ty.ze9 (by decide) (by decide) (by kernel_rfl) fun b4 => ?_)))
   refine o_ (O_append_m 1 vS out [[]] Tryd.underlying24 Ty.sz9 Ty.by9 Ty.ze9 rfl rfl rfl rfl rfl (fun _ => rfl) (cells_blk 0 (off := 0) (m := 1) rfl rfl) lt_ lt_ fun A5 c6 => ?_)
   refine s_ av_ (z_ (kx_ (n_ (g_ (s_ mv_ (s_ (x_add_n (a := k) (b := 1) rfl rfl (by omega)) (s_ av_ (z_ ?_))))))))
   refine JX_round ((k + 1, out ++ [[]], A5, c6) : Nat × (List Bytes) × (Option Addr) × Nat) ?_ ?_ ⟨rfl, rfl, rfl, rfl, trivial⟩ (fun _ h => h.keep [false, true] rfl)
   ·try dsimp only
    refine ⟨?_, ?_⟩
    ·first | rfl | omega | (simp_all; done) | (simp_all; omega)
    ·exact c39s9_
   ·try dsimp only
    first | omega | (simp; omega) | (simp_all; omega)
  ·refine drU [] [17] 18 Ty.mixed ?_
   refine jp_ 0 rfl mv_ (jp_ 1 rfl mv_ (jp_ 2 rfl (lnS Tryd.underlying24) (jp_ 3 rfl (x_sub_i (a := ((out.length : Nat) : Int)) (b := 1) rfl rfl (by omega) (by omega)) (jp_ 4 rfl mv_ (jp_ 5 rfl mv_ (jp_ 6 rfl (lnS Tryd.underlying24) (jp_ 7 rfl (x_sub_i (a := ((out.length : Nat) : Int)) (b := 1) rfl rfl (by omega) (by omega)) ?_)))))))
   refine JA_early 8 (pA outA (out.length - 1)) rfl (by kernel_rfl) (by kernel_rfl) (by kernel_rfl) rfl (by kernel_rfl) (fun _ _ _ h => h) rfl trivial (x_indexAddr_at (k := (out.length - 1)) (off := (out.length - 1)) (cells_row 0 rfl) Tryd.underlying24 Ty.sz9 rfl (ix_nat rfl (by omega)) lt_ c39s6_ (Nat.mul_one _)) ?_
   refine JA_early 9 (vS (out.getD (out.length - 1) [])) rfl (by kernel_rfl) (by kernel_rfl) (by kernel_rfl) rfl (by kernel_rfl) (fun _ _ _ h => h) rfl trivial (x_load_at (cells_row 0 rfl) rfl Ty.sc9 (map_at vS out [] lt_)) ?_
   refine jp_ 10 rfl mv_ (jp_ 11 rfl mv_ (jp_ 12 rfl mv_ (jp_ 13 rfl (x_add_n (a := k) (b := 1) rfl rfl (by omega)) (jp_ 14 rfl (x_sub_s (lo := k) (hi := k + 1) rfl Tryd.underlying9 (.inl rfl) (.inl rfl) lt_ c39s1_) (jp_ 15 rfl (x_cat_s rfl rfl c39s0_) ?_)))))
   refine JA_early 16 (pA outA (out.length - 1)) rfl (by kernel_rfl) (by kernel_rfl) (by kernel_rfl) rfl (by kernel_rfl) (fun _ _ _ h => h) rfl trivial (x_indexAddr_at (k := (out.length - 1)) (off := (out.length - 1)) (cells_row 0 rfl) Tryd.underlying24 Ty.sz9 rfl (ix_nat rfl (by omega)) lt_ c39s6_ (Nat.mul_one _)) ?_
   refine j1_ 17 (jio_ rfl (O_store_row_1 (a := (out.getD (out.length - 1) []) ++ (sub s k (k + 1))) (xs := out) (k := (out.length - 1)) 0 vS [Ent.row (.slice outA (out.set (out.length - 1) ((out.getD (out.length - 1) []) ++ (sub s k (k + 1)))).length outC) 9 1 (out.set (out.length - 1) ((out.getD (out.length - 1) []) ++ (sub s k (k + 1)))).length ((out.set (out.length - 1) ((out.getD (out.length - 1) []) ++ (sub s k (k + 1)))).map vS)] rfl rfl rfl Ty.sz9 rfl (fun _ => rfl) lt_ rfl ?_)) (fun _ h => ⟨h.keep [false] rfl, fun _ => h⟩)
   refine JA_weaken (E' := [(0, vS s), (2, vL none 0 0), (3, vL outA ((out.set (out.length - 1) ((out.getD (out.length - 1) []) ++ (sub s k (k + 1)))).length) outC), (4, vI ((k : Nat) : Int)), (6, vI ((k : Nat) : Int)), (7, vS s), (8, vI ((s.length : Nat) : Int)), (9, vB (decide (((k : Nat) : Int) < ((s.length : Nat) : Int)))), (12, vS s), (13, vI ((k : Nat) : Int)), (14, vU8 (s.getD k 0)), (15, vB (decide (s.getD k 0 = (46 : UInt8)))), (19, vL outA ((out.set (out.length - 1) ((out.getD (out.length - 1) []) ++ (sub s k (k + 1)))).length) outC), (20, vL outA ((out.set (out.length - 1) ((out.getD (out.length - 1) []) ++ (sub s k (k + 1)))).length) outC), (21, vI ((out.length : Nat) : Int)), (22, vI (((out.length : Nat) : Int) - 1)), (23, vL outA ((out.set (out.length - 1) ((out.getD (out.length - 1) []) ++ (sub s k (k + 1)))).length) outC), (24, vL outA ((out.set (out.length - 1) ((out.getD (out.length - 1) []) ++ (sub s k (k + 1)))).length) outC), (25, vI ((out.length : Nat) : Int)), (26, vI (((out.length : Nat) : Int) - 1)), (27, pA outA (out.length - 1)), (28, vS (out.getD (out.length - 1) [])), (29, vS s), (30, vI ((k : Nat) : Int)), (31, vI ((k : Nat) : Int)), (32, vI ((k + 1 : Nat) : Int)), (33, vS (sub s k (k + 1))), (34, vS ((out.getD (out.length - 1) []) ++ (sub s k (k + 1)))), (35, pA outA (out.length - 1))]) (L' := [Ent.row (.slice outA (out.set (out.length - 1) ((out.getD (out.length - 1) []) ++ (sub s k (k + 1)))).length outC) 9 1 (out.set (out.length - 1) ((out.getD (out.length - 1) []) ++ (sub s k (k + 1)))).length ((out.set (out.length - 1) ((out.getD (out.length - 1) []) ++ (sub s k (k + 1)))).map vS)]) ⟨rfl, rfl, (congrArg (fun n : Nat => some (Value.slice outA n outC)) (set_len out (out.length - 1) ((out.getD (out.length - 1) []) ++ (sub s k (k + 1)))).symm), rfl, rfl, rfl, rfl, rfl, rfl, rfl, rfl, rfl, (congrArg (fun n : Nat => some (Value.slice outA n outC)) (set_len out (out.length - 1) ((out.getD (out.length - 1) []) ++ (sub s k (k + 1)))).symm), (congrArg (fun n : Nat => some (Value.slice outA n outC)) (set_len out (out.length - 1) ((out.getD (out.length - 1) []) ++ (sub s k (k + 1)))).symm), rfl, rfl, (congrArg (fun n : Nat => some (Value.slice outA n outC)) (set_len out (out.length - 1) ((out.getD (out.length - 1) []) ++ (sub s k (k + 1)))).symm), (congrArg (fun n : Nat => some (Value.slice outA n outC)) (set_len out (out.length - 1) ((out.getD (out.length - 1) []) ++ (sub s k (k + 1)))).symm), rfl, rfl, rfl, rfl, rfl, rfl, rfl, rfl, rfl, rfl, rfl, trivial⟩ (fun _ h => h) ?_
   refine JA_done (by kernel_rfl) (gl_ rfl (fun _ h => h.keep [false] rfl)) ?_
   refine kx_ (n_ (g_ (s_ mv_ (s_ (x_add_n (a := k) (b := 1) rfl rfl (by omega)) (s_ av_ (z_ ?_))))))
   refine JX_round ((k + 1, (out.set (out.length - 1) ((out.getD (out.length - 1) []) ++ (sub s k (k + 1)))), outA, outC) : Nat × (List Bytes) × (Option Addr) × Nat) ?_ ?_ ⟨rfl, rfl, rfl, rfl, trivial⟩ (fun _ h => h)
   ·try dsimp only
    refine ⟨?_, ?_⟩
    ·first | rfl | omega | (simp_all; done) | (simp_all; omega)
    ·exact c39s9_
   ·try dsimp only
    first | omega | (simp; omega) | (simp_all; omega)
 ·refine J_exit (ne_ (re_ (kh_ (n_ (q_ ?_)))))
  refine g_ (s_ mv_ (s_ av_ (z_ (n_ (rt_ ?_)))))
  refine JX_rets [_] _ Tryd.results78 (fun w h => ⟨rfl, trivial⟩) rfl _ (fun _ h => h) ⟨outA, outC, ?_, ?_⟩
  ·have e_x0 : (out.length : Nat) = ((R44.splitC 46 s).length) := congrArg List.length (i1_1.done (by omega))
   exact congrArg (fun (x0 : Nat) => vL outA x0 outC) e_x0
  ·have e_y0 : (out : List Bytes) = (R44.splitC 46 s) := by
    exact i1_1.done (by omega)
   have e_all := (congrArg (fun (y0 : List Bytes) => [Ent.row (.slice outA y0.length outC) 9 1 y0.length (y0.map vS)]) e_y0)
   exact e_all
set_option maxRecDepth 20000 in
theorem f95_ok (s : Bytes) (w : World) (q0 : s.length ≤ 1000000) : Calls Tryd.prog 95 #[vS s, vB false] w (Gives [] w fun v L => v = vB (R44.nameV (R44.qualV R44.isUp R44.isPl) s) ∧ L = []) := by
 refine calls_J [] 30 Tryd.func95 rfl Tryd.ntmps95 [(0, _), (1, _)] rfl rfl (Give.nil w) ?_
 refine q_ (g_ (s_ av_ (z_ (n_ (q_ (q_ (g_ (s_ mv_ (s_ (x_len_s rfl Tryd.underlying9) (s_ (x_lss_i rfl rfl) (s_ mv_ ?_)))))))))))
 refine or_ 3 (decide ((31 : Int) < ((s.length : Nat) : Int))) (fun g1 => ?_) ?_
 ·have g1r := g1
  have g1r := of_decide_eq_false g1r
  refine sg_ g1 mv_ (sg_ g1 (x_len_s rfl Tryd.underlying9) (sg_ g1 (x_gtr_i rfl rfl) ?_))
  exact cr_
 refine z_ (n_ ?_)
 refine if_ (fun h2 => ?_) (fun h2 => ?_)
 ·have h2w := h2
  simp only [Bool.and_eq_true, Bool.or_eq_true, Bool.and_eq_false_iff, Bool.or_eq_false_iff, Bool.not_eq_true', Bool.not_eq_false', decide_eq_true_eq, decide_eq_false_iff_not] at h2
  refine q_ (g_ (s_ av_ (z_ (n_ (rt_ (nr_ ?_))))))
  exact p1 Tryd.results95 rfl ⟨(eB c39s3_), rfl⟩
 ·have h2w := h2
  have ⟨h2, h3⟩ := bor_false h2
  have h2 := of_decide_eq_false h2
  have h3 := of_decide_eq_false h3
  refine sk_ (n_ (q_ (g_ (s_ mv_ ?_))))
  refine c1 (cl_ Ty.ca78) (fun w hS => f78_ok s w hy_) ?_
  rintro _ _ ⟨e4, e5, rfl, rfl⟩
  have ha6 := R44.splitC_count 46 s
  refine s_ av_ (z_ (n_ (q_ (q_ (g_ (s_ av_ (z_ (n_ (k_ ?_)))))))))
  refine J_loop (X := Nat) (fun (k : Nat) => (k ≤ (R44.splitC 46 s).length) ∧ (∀ i, i < k → (R44.qualV R44.isUp R44.isPl) ((R44.splitC 46 s).getD i []) = true)) (fun (k : Nat) => [(1, vB false), (5, vL e4 ((R44.splitC 46 s).length) e5), (6, vI ((k : Nat) : Int))]) (fun (k : Nat) => [Ent.row (.slice e4 (R44.splitC 46 s).length e5) 9 1 (R44.splitC 46 s).length ((R44.splitC 46 s).map vS)]) (fun (k : Nat) => (R44.splitC 46 s).length - k) (0 : Nat) ?_ ⟨rfl, rfl, rfl, trivial⟩ (fun _ h => h) ?_
  ·try dsimp only
   refine ⟨?_, ?_⟩
   ·first | rfl | omega | (simp_all; done) | (simp_all; omega)
   ·intro i h2; omega
  intro k hI1
  obtain ⟨i1_0, i1_1⟩ := hI1
  try dsimp only at i1_0
  try dsimp only at i1_1
  have hpl := R44.splitC_len 46 s k
  try dsimp only
  refine q_ (q_ (g_ (s_ mv_ (s_ mv_ (s_ (lnS Tryd.underlying24) (s_ (x_lss_i rfl rfl) (z_ (n_ ?_))))))))
  refine ifd (fun h7w h7 => ?_) (fun h7w h7 => ?_)
  ·refine sk_ (n_ (q_ (k_ (q_ (g_ (s_ mv_ (s_ mv_ (r_ (ixM (cells_row 0 rfl) Tryd.underlying24 Ty.sz9) (r_ (ldM vS [] (cells_row 0 rfl) Ty.sc9) (s_ mv_ (c0 (cl_ Ty.ca103) (fun w hS => f103_ok _ w hy_) (s_ (x_not rfl) (z_ (n_ ?_))))))))))))))
   refine if_ (fun h8 => ?_) (fun h8 => ?_)
   ·have h8w := h8
    have h8 : ((R44.qualV R44.isUp R44.isPl) ((R44.splitC 46 s).getD k [])) = false := bnot_true h8
    refine q_ (g_ (s_ av_ (z_ (n_ (rt_ (kq_ (nr_ (rr_ (kq_ (nr_ ?_))))))))))
    exact p1 Tryd.results95 rfl ⟨(eB c39s3_), rfl⟩
   ·have h8w := h8
    have h8 : ((R44.qualV R44.isUp R44.isPl) ((R44.splitC 46 s).getD k [])) = true := bnot_false h8
    refine sk_ (kx_ (n_ (g_ (s_ mv_ (s_ (x_add_n (a := k) (b := 1) rfl rfl (by omega)) (s_ av_ (z_ ?_)))))))
    refine JX_round (k + 1 : Nat) ?_ ?_ ⟨rfl, rfl, rfl, trivial⟩ (fun _ h => h)
    ·try dsimp only
     refine ⟨?_, ?_⟩
     ·first | rfl | omega | (simp_all; done) | (simp_all; omega)
     ·exact R44.all_step i1_1 (by assumption)
    ·try dsimp only
     first | omega | (simp; omega) | (simp_all; omega)
  ·refine J_exit (ne_ (re_ (kh_ (n_ (q_ ?_)))))
   refine g_ (s_ av_ (z_ (n_ (rt_ ?_))))
   exact p1 Tryd.results95 rfl ⟨(eB c39s3_), rfl⟩
set_option maxRecDepth 20000 in
theorem f77_ok (s : Bytes) (w : World) (q0 : s.length ≤ 1000000) : Calls Tryd.prog 77 #[vS s] w (Gives [] w fun v L => v = vB (R44.nameV (R44.qualV R44.isUp R44.isPl) s) ∧ L = []) := by
 refine calls_J [] 5 Tryd.func77 rfl Tryd.ntmps77 [(0, _)] rfl rfl (Give.nil w) ?_
 refine q_ (g_ (s_ av_ (z_ (n_ (q_ (g_ (s_ mv_ (c0 (cl_ Ty.ca95) (fun w hS => f95_ok s w hy_) (s_ av_ (z_ (n_ (rt_ ?_))))))))))))
 exact p1 Tryd.results77 rfl ⟨rfl, rfl⟩
set_option maxRecDepth 20000 in
theorem f56_ok (s : Bytes) (w : World) (q0 : s.length ≤ 1000000) : Calls Tryd.prog 56 #[vS s] w (Gives [] w fun v L => v = vB (R39.symV s) ∧ L = []) := by
 refine calls_J [] 11 Tryd.func56 rfl Tryd.ntmps56 [(0, _)] rfl rfl (Give.nil w) ?_
 refine q_ (g_ (s_ av_ (z_ (n_ (q_ (g_ (s_ mv_ (c0 (cl_ Ty.ca77) (fun w hS => f77_ok s w hy_) (s_ mv_ ?_)))))))))
 refine and_ 4 (decide ((((R44.splitC 46 s).length : Nat) : Int) = 1)) (fun g1 => ?_) ?_
 ·have g1r := g1
  refine sg_ g1 mv_ ?_
  refine c1g g1 (cl_ Ty.ca78) (fun w hS => f78_ok s w hy_) ?_
  rintro _ _ ⟨e2, e3, rfl, rfl⟩
  have ha4 := R44.splitC_count 46 s
  refine sg_ g1 (lnS Tryd.underlying24) (sg_ g1 (x_eql_i rfl rfl) ?_)
  exact cr_ (fun _ h => h.keep [false] rfl)
 refine s_ av_ (z_ (n_ (rt_ ?_)))
 exact p1 Tryd.results56 rfl ⟨(eB (R39.ref_sym s)), rfl⟩
set_option maxRecDepth 20000 in
theorem f16_ok (word : Bytes) (w : World) (q0 : word.length ≤ 1000000) : Calls Tryd.prog 16 #[vS word] w (Gives [] w fun v L => v = vS (R39.quote word) ∧ L = []) := by
 refine calls_J [] 45 Tryd.func16 rfl Tryd.ntmps16 [(0, _)] rfl rfl (Give.nil w) ?_
 refine q_ (g_ (s_ av_ (z_ (n_ (q_ (g_ (s_ mv_ (js_ (vB (decide (word ≠ ([] : Bytes)))) (x_neq_s rfl rfl) (s_ av_ (s_ av_ (z_ (n_ (q_ (q_ (g_ (s_ av_ (z_ (n_ (k_ ?_)))))))))))))))))))
 refine J_loop (X := Nat × Bytes × Bool) (fun (⟨k, s, p⟩ : Nat × Bytes × Bool) => (k ≤ word.length) ∧ (R39.QuR word k s p)) (fun (⟨k, s, p⟩ : Nat × Bytes × Bool) => [(0, vS word), (2, vS []), (3, vS s), (4, vB p), (5, vI ((k : Nat) : Int))]) (fun (⟨k, s, p⟩ : Nat × Bytes × Bool) => []) (fun (⟨k, s, p⟩ : Nat × Bytes × Bool) => word.length - k) ((0, [], decide (word ≠ ([] : Bytes))) : Nat × Bytes × Bool) ?_ ⟨rfl, rfl, rfl, rfl, rfl, trivial⟩ (fun _ h => h) ?_
 ·try dsimp only
  refine ⟨?_, ?_⟩
  ·first | rfl | omega | (simp_all; done) | (simp_all; omega)
  ·exact R39.QuR.start
 rintro ⟨k, s, p⟩ hI1
 obtain ⟨i1_0, i1_1⟩ := hI1
 try dsimp only at i1_0
 try dsimp only at i1_1
 have hsl := i1_1.len
 have hsu := fun h => sub_length word k (k + 1) h
 try dsimp only
 refine q_ (q_ (g_ (s_ mv_ (s_ mv_ (s_ (x_len_s rfl Tryd.underlying9) (s_ (x_lss_i rfl rfl) (z_ (n_ ?_))))))))
 refine ifd (fun h1w h1 => ?_) (fun h1w h1 => ?_)
 ·refine sk_ (n_ (q_ (k_ (q_ (q_ (g_ (s_ mv_ (s_ mv_ (s_ (x_idx_s (k := k) rfl rfl Tryd.underlying9 (by omega)) (js_ (vB (decide (word.getD k 0 = (39 : UInt8)))) (x_eql_u8 rfl rfl) (z_ (n_ ?_))))))))))))
  refine ifd (fun h2w h2 => ?_) (fun h2w h2 => ?_)
  ·refine g_ (s_ mv_ (js_ (vS (s ++ [39])) (x_cat_s rfl rfl c39s0_) (s_ av_ (z_ (n_ (q_ (g_ (s_ mv_ (s_ mv_ ?_)))))))))
   refine and_ 4 (decide (word.getD k 0 ≠ (32 : UInt8))) (fun g3 => ?_) ?_
   ·have g3r := g3
    refine sg_ g3 mv_ (sg_ g3 mv_ (sg_ g3 (x_idx_s (k := k) rfl rfl Tryd.underlying9 (by omega)) (jg_ g3 (vB (decide (word.getD k 0 ≠ (32 : UInt8)))) (x_neq_u8 rfl rfl) ?_)))
    exact cr_
   refine s_ mv_ ?_
   refine and_ 4 (decide (word.getD k 0 ≠ (39 : UInt8))) (fun g4 => ?_) ?_
   ·have g4r := g4
    have ⟨g4r, h5⟩ := band_true g4r
    have h5 := of_decide_eq_true h5
    refine sg_ g4 mv_ (sg_ g4 mv_ (sg_ g4 (x_idx_s (k := k) rfl rfl Tryd.underlying9 (by omega)) (jg_ g4 (vB (decide (word.getD k 0 ≠ (39 : UInt8)))) (x_neq_u8 rfl rfl) ?_)))
    exact cr_
   refine s_ av_ (z_ (n_ (g_ (s_ mv_ (s_ mv_ (s_ mv_ (s_ mv_ (s_ (x_add_n (a := k) (b := 1) rfl rfl (by omega)) (s_ (x_sub_s (lo := k) (hi := k + 1) rfl Tryd.underlying9 (.inl rfl) (.inl rfl) lt_ c39s1_) (s_ (x_cat_s rfl rfl c39s0_) (s_ av_ ?_)))))))))))
   refine z_ (kx_ (n_ (g_ (s_ mv_ (s_ (x_add_n (a := k) (b := 1) rfl rfl (by omega)) (s_ av_ (z_ ?_)))))))
   refine JX_round ((k + 1, (s ++ [39]) ++ (sub word k (k + 1)), (p && (decide (word.getD k 0 ≠ (32 : UInt8)))) && (decide (word.getD k 0 ≠ (39 : UInt8)))) : Nat × Bytes × Bool) ?_ ?_ ⟨rfl, rfl, rfl, rfl, rfl, trivial⟩ (fun _ h => h)
   ·try dsimp only
    refine ⟨?_, ?_⟩
    ·first | rfl | omega | (simp_all; done) | (simp_all; omega)
    ·exact c39s10_
   ·try dsimp only
    first | omega | (simp; omega) | (simp_all; omega)
  ·refine sk_ (n_ (q_ (g_ (s_ mv_ (s_ mv_ ?_)))))
   refine and_ 4 (decide (word.getD k 0 ≠ (32 : UInt8))) (fun g6 => ?_) ?_
   ·have g6r := g6
    refine sg_ g6 mv_ (sg_ g6 mv_ (sg_ g6 (x_idx_s (k := k) rfl rfl Tryd.underlying9 (by omega)) (jg_ g6 (vB (decide (word.getD k 0 ≠ (32 : UInt8)))) (x_neq_u8 rfl rfl) ?_)))
    exact cr_
   refine s_ mv_ ?_
   refine and_ 4 (decide (word.getD k 0 ≠ (39 : UInt8))) (fun g7 => ?_) ?_
   ·have g7r := g7
    have ⟨g7r, h8⟩ := band_true g7r
    have h8 := of_decide_eq_true h8
    refine sg_ g7 mv_ (sg_ g7 mv_ (sg_ g7 (x_idx_s (k := k) rfl rfl Tryd.underlying9 (by omega)) (jg_ g7 (vB (decide (word.getD k 0 ≠ (39 : UInt8)))) (x_neq_u8 rfl rfl) ?_)))
    exact cr_
   refine s_ av_ (z_ (n_ (g_ (s_ mv_ (s_ mv_ (s_ mv_ (s_ mv_ (s_ (x_add_n (a := k) (b := 1) rfl rfl (by omega)) (s_ (x_sub_s (lo := k) (hi := k + 1) rfl Tryd.underlying9 (.inl rfl) (.inl rfl) lt_ c39s1_) (s_ (x_cat_s rfl rfl c39s0_) (s_ av_ ?_)))))))))))
   refine z_ (kx_ (n_ (g_ (s_ mv_ (s_ (x_add_n (a := k) (b := 1) rfl rfl (by omega)) (s_ av_ (z_ ?_)))))))
   refine JX_round ((k + 1, s ++ (sub word k (k + 1)), (p && (decide (word.getD k 0 ≠ (32 : UInt8)))) && (decide (word.getD k 0 ≠ (39 : UInt8)))) : Nat × Bytes × Bool) ?_ ?_ ⟨rfl, rfl, rfl, rfl, rfl, trivial⟩ (fun _ h => h)
   ·try dsimp only
    refine ⟨?_, ?_⟩
    ·first | rfl | omega | (simp_all; done) | (simp_all; omega)
    ·exact c39s10_
   ·try dsimp only
    first | omega | (simp; omega) | (simp_all; omega)
 ·refine J_exit (ne_ (re_ (kh_ (n_ (q_ ?_)))))
  refine q_ (g_ (s_ mv_ (z_ (n_ ?_))))
  refine if_ (fun h9 => ?_) (fun h9 => ?_)
  ·have h9w := h9
   refine q_ (g_ (s_ mv_ (s_ av_ (z_ (n_ (rt_ (nr_ ?_)))))))
   exact p1 Tryd.results16 rfl ⟨(eS c39s7_), rfl⟩
  ·have h9w := h9
   refine sk_ (n_ (q_ (g_ (s_ mv_ (js_ (vS ([39] ++ s)) (x_cat_s rfl rfl c39s0_) (js_ (vS (([39] ++ s) ++ [39])) (x_cat_s rfl rfl c39s0_) (s_ av_ (z_ (n_ (rt_ ?_))))))))))
   exact p1 Tryd.results16 rfl ⟨(eS c39s7_), rfl⟩
set_option maxRecDepth 20000 in
theorem f33_ok (s : Bytes) (w : World) (q0 : s.length ≤ 1000000) : Calls Tryd.prog 33 #[vS s] w (Gives [] w fun v L => v = vI ((R39.endV s : Nat) : Int) ∧ L = []) := by
 refine calls_J [] 26 Tryd.func33 rfl Tryd.ntmps33 [(0, _)] rfl rfl (Give.nil w) ?_
 refine q_ (g_ (s_ av_ (z_ (n_ (q_ (q_ (g_ (s_ av_ (z_ (n_ (k_ ?_)))))))))))
 refine J_loop (X := Nat) (fun (k : Nat) => (1 ≤ k) ∧ (k ≤ 9) ∧ (∀ i, 1 ≤ i → i < k → ¬ R39.EndP s i)) (fun (k : Nat) => [(0, vS s), (3, vI ((k : Nat) : Int))]) (fun (k : Nat) => []) (fun (k : Nat) => 9 - k) (1 : Nat) ?_ ⟨rfl, rfl, trivial⟩ (fun _ h => h) ?_
 ·try dsimp only
  refine ⟨?_, ?_, ?_⟩
  ·first | rfl | omega | (simp_all; done) | (simp_all; omega)
  ·first | rfl | omega | (simp_all; done) | (simp_all; omega)
  ·intro i h1 h2; omega
 intro k hI1
 obtain ⟨i1_0, i1_1, i1_2⟩ := hI1
 try dsimp only at i1_0
 try dsimp only at i1_1
 try dsimp only at i1_2
 try dsimp only
 refine q_ (q_ (g_ (s_ mv_ (s_ (x_leq_i rfl rfl) (s_ mv_ ?_)))))
 refine and_ 4 (decide (((k : Nat) : Int) < ((s.length : Nat) : Int))) (fun g1 => ?_) ?_
 ·have g1r := g1
  have g1r := of_decide_eq_true g1r
  refine sg_ g1 mv_ (sg_ g1 mv_ (sg_ g1 (x_len_s rfl Tryd.underlying9) (sg_ g1 (x_lss_i rfl rfl) ?_)))
  exact cr_
 refine z_ (n_ ?_)
 refine if_ (fun h2 => ?_) (fun h2 => ?_)
 ·have h2w := h2
  have ⟨h2, h3⟩ := band_true h2
  have h2 := of_decide_eq_true h2
  have h3 := of_decide_eq_true h3
  refine sk_ (n_ (q_ (k_ (q_ (g_ (s_ mv_ (s_ mv_ (s_ (x_idx_s (k := k) rfl rfl Tryd.underlying9 (by omega)) (js_ (vB (decide (s.getD k 0 = (59 : UInt8)))) (x_eql_u8 rfl rfl) (s_ mv_ ?_))))))))))
  refine and_ 4 (R39.symV (sub s 0 k)) (fun g4 => ?_) ?_
  ·have g4r := g4
   have g4r := of_decide_eq_true g4r
   refine sg_ g4 mv_ (sg_ g4 mv_ (sg_ g4 (x_sub_s (lo := 0) (hi := k) rfl Tryd.underlying9 (.inr ⟨rfl, rfl⟩) (.inl rfl) lt_ c39s1_) (c0g g4 (cl_ Ty.ca56) (fun w hS => f56_ok _ w hy_) ?_)))
   exact cr_
  refine z_ (n_ ?_)
  refine if_ (fun h5 => ?_) (fun h5 => ?_)
  ·have h5w := h5
   have ⟨h5, h6⟩ := band_true h5
   have h5 := of_decide_eq_true h5
   refine q_ (g_ (s_ mv_ (s_ (x_add_n (a := k) (b := 1) rfl rfl (by omega)) (s_ av_ (z_ (n_ (rt_ (kq_ (nr_ (rr_ (kq_ (nr_ ?_))))))))))))
   exact p1 Tryd.results33 rfl ⟨(eN (k + 1) c39s8_), rfl⟩
  ·have h5w := h5
   simp only [Bool.and_eq_true, Bool.or_eq_true, Bool.and_eq_false_iff, Bool.or_eq_false_iff, Bool.not_eq_true', Bool.not_eq_false', decide_eq_true_eq, decide_eq_false_iff_not] at h5
   refine sk_ (kx_ (n_ (g_ (s_ mv_ (s_ (x_add_n (a := k) (b := 1) rfl rfl (by omega)) (s_ av_ (z_ ?_)))))))
   refine JX_round (k + 1 : Nat) ?_ ?_ ⟨rfl, rfl, trivial⟩ (fun _ h => h)
   ·try dsimp only
    refine ⟨?_, ?_, ?_⟩
    ·first | rfl | omega | (simp_all; done) | (simp_all; omega)
    ·first | rfl | omega | (simp_all; done) | (simp_all; omega)
    ·exact R39.end_step i1_2 (R39.endP_no (by assumption))
   ·try dsimp only
    first | omega | (simp; omega) | (simp_all; omega)
 ·have h2w := h2
  simp only [Bool.and_eq_true, Bool.or_eq_true, Bool.and_eq_false_iff, Bool.or_eq_false_iff, Bool.not_eq_true', Bool.not_eq_false', decide_eq_true_eq, decide_eq_false_iff_not] at h2
  refine J_exit (ne_ (re_ (kh_ (n_ (q_ ?_)))))
  refine g_ (s_ av_ (z_ (n_ (rt_ ?_))))
  exact p1 Tryd.results33 rfl ⟨(eN 0 c39s8_), rfl⟩
end Go.Proofs.YtbfiibgmgopnaaaDoor

namespace Go.Proofs.YtbfiibgmgopnaaaDoor
open Go.GV
namespace R39
open R44
theorem end_le (t : Bytes) : endV t ≤ t.length := by
  unfold endV
  cases hc : cutB 59 t with
  | none => exact Nat.zero_le _
  | some p =>
    obtain ⟨a, r⟩ := p
    dsimp only
    have e := congrArg List.length (cutB_le hc)
    rw [List.length_append, List.length_cons] at e
    split <;> omega
theorem end_pos {t : Bytes} (h0 : endV t ≠ 0) : cutB 59 t = some (t.take (endV t - 1), t.drop (endV t)) ∧ symV (t.take (endV t - 1)) = true := by
  unfold endV at *
  cases hc : cutB 59 t with
  | none => rw [hc] at h0; exact absurd rfl h0
  | some p =>
    obtain ⟨a, r⟩ := p
    rw [hc] at h0; dsimp only at h0 ⊢
    split at h0
    · rename_i hs
      rw [if_pos hs]
      have e := cutB_le hc
      have h1 : t.take a.length = a := by rw [e, List.take_append_of_le_length (Nat.le_refl _), List.take_length]
      have h2 : t.drop (a.length + 1) = r := by rw [e, List.drop_append]; simp
      rw [Nat.add_sub_cancel, h1, h2]; exact ⟨rfl, hs⟩
    · exact absurd rfl h0
section
variable {m : Syms} {line s : Bytes} {i : Nat}
theorem sub_end_drop (q : Bytes) (k : Nat) : sub q k q.length = q.drop k := by unfold sub; rw [List.take_length]
theorem drop_getD (h : i < line.length) : line.drop i = line.getD i 0 :: line.drop (i + 1) := by
  rw [List.drop_eq_getElem_cons h, List.getD_eq_getElem?_getD, List.getElem?_eq_getElem h]; rfl
theorem ReplJ.one (h : ReplJ m line s (line.drop i)) (hi : i < line.length) (hc : line.getD i 0 ≠ 38) : ReplJ m line (s ++ sub line i (i + 1)) (line.drop (i + 1)) := by
  rw [sub_one hi]
  refine h.app (a := [line.getD i 0]) (drop_getD hi) ?_
  intro hm; exact hc (List.mem_singleton.1 hm).symm
theorem ReplJ.amp2 (h : ReplJ m line s (line.drop i)) (hi : i + 1 < line.length) (hc : line.getD i 0 = 38) (hd : line.getD (i + 1) 0 = 38) : ReplJ m line (s ++ [38]) (line.drop (i + 1 + 1)) := by
  have h1 := h.two (by rw [drop_getD (by omega : i < line.length), drop_getD hi, hc, hd]; rfl)
  rwa [sub_end_drop, List.drop_drop] at h1
theorem not_two (hi : i < line.length) (h2 : ¬ (i + 1 < line.length ∧ line.getD (i + 1) 0 = 38)) : ¬ (line.drop i).take 2 = [38, 38] := fun e => by
  rw [drop_getD hi] at e
  by_cases h3 : i + 1 < line.length
  · rw [drop_getD h3] at e
    have e : [line.getD i 0, line.getD (i + 1) 0] = [38, 38] := e
    injection e with _ e; injection e with e _; exact h2 ⟨h3, e⟩
  · rw [List.drop_eq_nil_of_le (by omega)] at e
    have e : [line.getD i 0] = [38, 38] := e
    injection e with _ e; cases e
theorem drop_ne (hi : i < line.length) : line.drop i ≠ [] := by rw [drop_getD hi]; exact List.cons_ne_nil _ _
theorem drop_hd (hi : i < line.length) : (line.drop i).getD 0 0 = line.getD i 0 := by rw [drop_getD hi]; rfl
theorem sub1_drop (hi : i < line.length) : sub (line.drop i) 1 (line.drop i).length = sub line (i + 1) line.length := by rw [sub_end_drop, sub_end_drop, List.drop_drop]
theorem sub_mid {n : Nat} (hi : i < line.length) : sub line (i + 1) (i + n) = (sub line (i + 1) line.length).take (n - 1) := by
  rw [sub_end_drop]; unfold sub
  rw [List.drop_take, show i + n - (i + 1) = n - 1 by omega]
theorem ReplJ.ref3 (h : ReplJ m line s (line.drop i)) (hi : i < line.length) (hc : line.getD i 0 = 38) (h2 : ¬ (i + 1 < line.length ∧ line.getD (i + 1) 0 = 38)) (hn : endV (sub line (i + 1) line.length) = 0) : repl m line = .error 3 := by
  cases hq : cutB 59 (sub line (i + 1) line.length) with
  | none => exact h.err3 (o := false) (a := []) (r := []) (drop_ne hi) (by rw [drop_hd hi, hc]) (not_two hi h2) (fun e => by cases e) (fun _ => by rw [sub1_drop hi]; exact hq) rfl
  | some p =>
    obtain ⟨a, r⟩ := p
    refine h.err3 (o := true) (a := a) (r := r) (drop_ne hi) (by rw [drop_hd hi, hc]) (not_two hi h2) (fun _ => by rw [sub1_drop hi]; exact hq) (fun e => by cases e) ?_
    unfold endV at hn
    rw [hq] at hn; dsimp only at hn
    split at hn
    · omega
    · rename_i hs; rw [Bool.not_eq_true] at hs; rw [hs]; rfl
theorem ReplJ.ref4 (h : ReplJ m line s (line.drop i)) (hi : i < line.length) (hc : line.getD i 0 = 38) (h2 : ¬ (i + 1 < line.length ∧ line.getD (i + 1) 0 = 38)) (hn : endV (sub line (i + 1) line.length) ≠ 0) (hm : (m (sub line (i + 1) (i + endV (sub line (i + 1) line.length)))).isSome = false) : repl m line = .error 4 := by
  obtain ⟨h3, h4⟩ := end_pos hn
  rw [sub_mid hi] at hm
  exact h.err4 (o := true) (drop_ne hi) (by rw [drop_hd hi, hc]) (not_two hi h2) (fun _ => by rw [sub1_drop hi]; exact h3) (by rw [h4]; rfl) hm
theorem ReplJ.refs (h : ReplJ m line s (line.drop i)) (hi : i < line.length) (hc : line.getD i 0 = 38) (h2 : ¬ (i + 1 < line.length ∧ line.getD (i + 1) 0 = 38)) (hn : endV (sub line (i + 1) line.length) ≠ 0) (hm : (m (sub line (i + 1) (i + endV (sub line (i + 1) line.length)))).isSome = true) : ReplJ m line (s ++ (m (sub line (i + 1) (i + endV (sub line (i + 1) line.length)))).getD []) (line.drop (i + endV (sub line (i + 1) line.length) + 1)) := by
  obtain ⟨h3, h4⟩ := end_pos hn
  rw [sub_mid hi] at hm ⊢
  have h5 := h.sym (o := true) (drop_ne hi) (by rw [drop_hd hi, hc]) (not_two hi h2) (fun _ => by rw [sub1_drop hi]; exact h3) (by rw [h4]; rfl) hm
  have e : (sub line (i + 1) line.length).drop (endV (sub line (i + 1) line.length)) = line.drop (i + endV (sub line (i + 1) line.length) + 1) := by
    conv => lhs; arg 2; rw [sub_end_drop]
    rw [List.drop_drop]; congr 1; omega
  rwa [e] at h5
theorem nt (h : ¬ ((i + 1 : Nat) : Int) < ((line.length : Nat) : Int) ∨ ¬ line.getD (i + 1) 0 = 38) : ¬ (i + 1 < line.length ∧ line.getD (i + 1) 0 = 38) := fun ⟨h1, h2⟩ => h.elim (fun h => h (by omega)) fun h => h h2
theorem ReplJ.fin (h : ReplJ m line s (line.drop i)) (hi : ¬ i < line.length) : repl m line = .ok s := by
  rw [List.drop_eq_nil_of_le (by omega)] at h; exact h.stop rfl
end
end R39
end Go.Proofs.YtbfiibgmgopnaaaDoor
