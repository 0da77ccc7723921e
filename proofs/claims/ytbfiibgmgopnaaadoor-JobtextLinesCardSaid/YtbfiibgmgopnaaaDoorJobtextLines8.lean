/- Pl39h, Ad39, Tc39, GvOm, Pn40, C39a in one text. -/
import Derived.Test.YtbfiibgmgopnaaaDoorJobtextLines7
import Derived.Lib.IndexBytes
import Derived.Lib.IndexMore
import Derived.Lib.SplitLaws
import Derived.Lib.Replace
import Derived.Lib.IndexAny
import Derived.Lib.TrimByte
import Derived.Lib.Strings
import Derived.Laws.RangeString
import Derived.Laws.RangeAny
import Derived.Shelf.GgClosure.StringsIndexFunc
import Derived.Test.YtbfiibgmgopnaaaDoorJobtextLines6
import Derived.Test.YtbfiibgmgopnaaaDoorJobtextLines3
import Derived.Test.YtbfiibgmgopnaaaDoorRows
import Derived.Test.YtbfiibgmgopnaaaDoorJobtextLines5
import Derived.ProofKit
import Derived.LaidMore
import Derived.Stop.Joined
import Derived.Lib.LaidTab
import Derived.Shelf.Vars
import Derived.Handed
import Derived.Lay
import Derived.WideKeyElems2
import Derived.Test.YtbfiibgmgopnaaaDoorJobtextLines4
set_option linter.unusedVariables false
set_option linter.unusedSimpArgs false
namespace Go.Proofs.YtbfiibgmgopnaaaDoor
open Go.GV
namespace R39
def IxJ (c : UInt8) (s : Bytes) (r : Int) : Prop := (r = -1 ∧ c ∉ s ∧ cutB c s = none) ∨ ∃ k : Nat, r = k ∧ k < s.length ∧ c ∉ s.take k ∧ s.getD k 0 = c ∧ cutB c s = some (s.take k, s.drop (k + 1))
theorem ixb_lib (c : UInt8) : ∀ s : Bytes, IxJ c s (Lib.indexByte s c)
  | [] => .inl ⟨rfl, by simp, rfl⟩
  | b :: l => by
    rw [Lib.indexByte]
    by_cases h : b = c
    · subst h
      rw [if_pos (by simp)]
      exact .inr ⟨0, rfl, by simp, by simp, rfl, by rw [cutB, if_pos rfl]; rfl⟩
    · rw [if_neg (by simpa using h)]
      rcases ixb_lib c l with ⟨h1, h2, h3⟩ | ⟨k, h1, h2, h3, h4, h5⟩
      · rw [if_pos (by rw [h1]; rfl)]
        exact .inl ⟨rfl, by simp only [List.mem_cons, not_or]; exact ⟨fun e => h e.symm, h2⟩, by rw [cutB, if_neg h, h3]; rfl⟩
      · rw [if_neg (by rw [h1]; intro e; have := beq_iff_eq.1 e; omega), h1]
        refine .inr ⟨k + 1, rfl, by simp; omega, ?_, h4, ?_⟩
        · rw [List.take_succ_cons, List.mem_cons, not_or]; exact ⟨fun e => h e.symm, h3⟩
        · rw [cutB, if_neg h, h5]; rfl
theorem cut_lib (c : UInt8) (s : Bytes) : (cutB c s = none ∧ Lib.cut s [c] = (s, [], false)) ∨ ∃ a r, cutB c s = some (a, r) ∧ Lib.cut s [c] = (a, r, true) := by
  unfold Lib.cut
  rw [Lib.index_one]
  rcases ixb_lib c s with ⟨h1, _, h3⟩ | ⟨k, h1, h2, h3, h4, h5⟩
  · rw [h1]; exact .inl ⟨h3, rfl⟩
  · rw [h1, if_pos (by omega)]; exact .inr ⟨_, _, h5, rfl⟩
theorem cont_lib (c : UInt8) (s : Bytes) : decide (0 ≤ Lib.indexByte s c) = decide (c ∈ s) := by
  rcases ixb_lib c s with ⟨h1, h2, _⟩ | ⟨k, h1, h2, h3, h4, h5⟩
  · rw [h1]; simp [h2]
  · rw [h1]
    have : c ∈ s := by rw [← h4, List.getD_eq_getElem?_getD, List.getElem?_eq_getElem h2]; exact List.getElem_mem h2
    simp [this]
def dblC (c : UInt8) (s : Bytes) : Bytes := s.flatMap fun x => if x = c then [c, c] else [x]
theorem dbl_take (c : UInt8) : ∀ (s : Bytes), c ∉ s → dblC c s = s
  | [], _ => rfl
  | x :: s, h => by
    rw [List.mem_cons, not_or] at h
    unfold dblC at *
    rw [List.flatMap_cons, if_neg (fun e => h.1 e.symm), show List.flatMap (fun x => if x = c then [c, c] else [x]) s = s from dbl_take c s h.2]; rfl
theorem dbl_app (c : UInt8) (a b : Bytes) : dblC c (a ++ b) = dblC c a ++ dblC c b := by unfold dblC; rw [List.flatMap_append]
theorem replK_lib (c : UInt8) : ∀ (n : Nat) (s : Bytes), s.count c ≤ n → Lib.replaceK [c] [c, c] n s = dblC c s
  | 0, s, h => by
    rw [Lib.replaceK, dbl_take]
    intro hm
    have := List.count_pos_iff.2 hm
    omega
  | n + 1, s, h => by
    rw [Lib.replaceK, Lib.index_one]
    rcases ixb_lib c s with ⟨h1, h2, _⟩ | ⟨k, h1, h2, h3, h4, _⟩
    · rw [h1, if_pos (by rfl), dbl_take c s h2]
    · rw [h1, if_neg (by intro e; have := beq_iff_eq.1 e; omega)]
      have e : s = s.take k ++ (c :: s.drop (k + 1)) := by
        have e1 := (List.take_append_drop k s).symm
        rw [List.drop_eq_getElem_cons h2] at e1
        have : s[k] = c := by rw [List.getD_eq_getElem?_getD, List.getElem?_eq_getElem h2] at h4; exact h4
        rwa [this] at e1
      have hc : s.count c = (s.drop (k + 1)).count c + 1 := by
        have := congrArg (List.count c) e
        rw [List.count_append, List.count_cons_self, List.count_eq_zero.2 h3] at this
        omega
      have ih := replK_lib c n (s.drop (k + 1)) (by omega)
      rw [show ((k : Int).toNat + [c].length) = k + 1 from rfl, show (k : Int).toNat = k from rfl, ih]
      conv => rhs; rw [e]
      rw [dbl_app, dbl_take c _ h3]
      show _ = s.take k ++ dblC c (c :: s.drop (k + 1))
      rw [show dblC c (c :: s.drop (k + 1)) = [c, c] ++ dblC c (s.drop (k + 1)) by unfold dblC; rw [List.flatMap_cons, if_pos rfl], List.append_assoc]
theorem repl_lib (c : UInt8) (s : Bytes) : Lib.replaceAll s [c] [c, c] = dblC c s := by
  unfold Lib.replaceAll Lib.replace
  rw [if_neg (by simp)]
  refine replK_lib c _ s ?_
  unfold Lib.replaceNum
  rw [if_pos (.inl (by decide)), Lib.count_one]
  exact Nat.le_refl _
theorem any_lib : ∀ s : Bytes, Lib.containsAny s [32, 39] = decide (32 ∈ s ∨ 39 ∈ s)
  | [] => rfl
  | b :: l => by
    have ih := any_lib l
    unfold Lib.containsAny at *
    rw [Lib.indexAny]
    have hge := Lib.indexAny_ge [32, 39] l
    by_cases hb : b = 32 ∨ b = 39
    · rw [if_pos (by rcases hb with rfl | rfl <;> decide)]
      rcases hb with rfl | rfl <;> simp
    · rw [not_or] at hb
      have hc : ([32, 39] : List UInt8).contains b = false := by
        simp only [List.contains_cons, List.contains_nil, Bool.or_false, Bool.or_eq_false_iff, beq_eq_false_iff_ne]
        exact hb
      rw [if_neg (by rw [hc]; decide)]
      have e : (32 ∈ b :: l ∨ 39 ∈ b :: l) ↔ (32 ∈ l ∨ 39 ∈ l) := by
        simp only [List.mem_cons]
        constructor
        · rintro ((h | h) | (h | h))
          · exact absurd h.symm hb.1
          · exact .inl h
          · exact absurd h.symm hb.2
          · exact .inr h
        · rintro (h | h)
          · exact .inl (.inr h)
          · exact .inr (.inr h)
      rw [decide_eq_decide.2 e, ← ih]
      split
      · rename_i h; have := beq_iff_eq.1 h; rw [this]
      · rename_i h
        have : Lib.indexAny l [32, 39] ≠ -1 := fun e => h (by rw [e]; rfl)
        rw [decide_eq_decide]; omega
def chop (s : Bytes) : Bytes := if s.getLast? = some 10 then s.dropLast else s
theorem chop_lib (s : Bytes) : Lib.trimSuffix s [10] = chop s := by
  unfold Lib.trimSuffix Lib.hasSuffix chop
  have e : ([10] : List UInt8).isSuffixOf s = decide (s.getLast? = some 10) := by
    rw [Bool.eq_iff_iff, List.isSuffixOf_iff_suffix, decide_eq_true_eq]
    constructor
    · rintro ⟨t, rfl⟩; simp
    · intro h
      obtain ⟨t, ht⟩ := List.getLast?_eq_some_iff.1 h
      exact ⟨t, ht.symm⟩
  rw [e]
  by_cases h : s.getLast? = some 10
  · rw [if_pos (decide_eq_true h), if_pos h, List.dropLast_eq_take]; rfl
  · rw [if_neg (by simpa using h), if_neg h]
theorem hasp_lib (s : Bytes) : Lib.hasPrefix s [38, 38] = decide (s.take 2 = [38, 38]) := by
  unfold Lib.hasPrefix
  rw [Bool.eq_iff_iff, List.isPrefixOf_iff_prefix, decide_eq_true_eq, List.prefix_iff_eq_take]
  exact eq_comm
def pW (n : Nat) : Bool := (decide (n ≤ 32) || decide (126 < n)) || decide (n = 39)
theorem pW_byte (c : UInt8) : pW c.toNat = !isW c := by
  unfold pW isW
  have e : decide (c ≠ (39 : UInt8)) = !decide (c.toNat = 39) := by
    by_cases h : c = 39
    · subst h; rfl
    · rw [decide_eq_true h, decide_eq_false (fun e : c.toNat = 39 => h (UInt8.toNat_inj.1 e))]; rfl
  have e1 : decide ((32 : UInt8) < c) = !decide (c.toNat ≤ 32) := by
    rw [decide_eq_decide.2 UInt8.lt_iff_toNat_lt]
    by_cases h : c.toNat ≤ 32
    · rw [decide_eq_true h, decide_eq_false (by show ¬ 32 < c.toNat; omega)]; rfl
    · rw [decide_eq_false h, decide_eq_true (by show 32 < c.toNat; omega)]; rfl
  have e2 : decide (c ≤ (126 : UInt8)) = !decide (126 < c.toNat) := by
    rw [decide_eq_decide.2 UInt8.le_iff_toNat_le]
    by_cases h : 126 < c.toNat
    · rw [decide_eq_true h, decide_eq_false (by show ¬ c.toNat ≤ 126; omega)]; rfl
    · rw [decide_eq_false h, decide_eq_true (by show c.toNat ≤ 126; omega)]; rfl
  rw [e, e1, e2]
  cases decide (c.toNat ≤ 32) <;> cases decide (126 < c.toNat) <;> cases decide (c.toNat = 39) <;> rfl
theorem get_list (s : ByteArray) (pos : Nat) (h : pos < s.size) : s[pos]'h = s.data.toList.getD pos 0 := by
  rw [List.getD_eq_getElem?_getD, Lib.data_getElem? s pos h]; rfl
theorem decode_W (s : ByteArray) (pos : Nat) (h : pos < s.size) : (isW (s.data.toList.getD pos 0) = true → Utf8.decode s pos = ((s.data.toList.getD pos 0).toNat, 1)) ∧ pW (Utf8.decode s pos).1 = !isW (s.data.toList.getD pos 0) := by
  rw [← get_list s pos h]
  rcases Nat.lt_or_ge (s[pos]'h).toNat 128 with ha | ha
  · have e := decode_ascii s pos h ha
    exact ⟨fun _ => e, by rw [e]; exact pW_byte _⟩
  · have e := decode_high s pos h ha
    have hw : isW (s[pos]'h) = false := by
      unfold isW
      rw [decide_eq_false (p := s[pos]'h ≤ (126 : UInt8)) (by rw [UInt8.le_iff_toNat_le]; show ¬ (s[pos]'h).toNat ≤ 126; omega), Bool.and_false, Bool.false_and]
    refine ⟨fun h2 => absurd (hw.symm.trans h2) (by decide), ?_⟩
    rw [hw]
    unfold pW
    rw [decide_eq_true (p := 126 < (Utf8.decode s pos).1) (by omega), Bool.or_true, Bool.true_or]; rfl
theorem ixf_from (s : ByteArray) : ∀ (f pos : Nat), s.size - pos ≤ f → pos ≤ s.size →
    Lib.idxFuncFrom pW true s f pos = if (s.data.toList.drop pos).all isW = true then -1 else ((pos + ((s.data.toList.drop pos).takeWhile isW).length : Nat) : Int)
  | 0, pos, h, hp => by
    have : s.data.toList.drop pos = [] := List.drop_eq_nil_iff.2 (by rw [← Lib.size_eq]; omega)
    rw [this]; rfl
  | f + 1, pos, h, hp => by
    rw [Lib.idxFuncFrom]
    by_cases hlt : pos < s.size
    · rw [if_pos hlt]
      have hl : pos < s.data.toList.length := by rw [← Lib.size_eq]; exact hlt
      have hd : s.data.toList.drop pos = s.data.toList.getD pos 0 :: s.data.toList.drop (pos + 1) := by
        rw [List.drop_eq_getElem_cons hl, List.getD_eq_getElem?_getD, List.getElem?_eq_getElem hl]; rfl
      obtain ⟨d1, d2⟩ := decode_W s pos hlt
      rw [hd, List.all_cons, List.takeWhile_cons]
      cases hw : isW (s.data.toList.getD pos 0) with
      | true =>
        rw [d2, hw, if_neg (by decide), d1 hw, ixf_from s f (pos + 1) (by omega) (by omega)]
        simp only [Bool.true_and, if_true, List.length_cons]
        rw [show pos + 1 + (List.takeWhile isW (List.drop (pos + 1) s.data.toList)).length = pos + ((List.takeWhile isW (List.drop (pos + 1) s.data.toList)).length + 1) by omega]
      | false =>
        rw [d2, hw, if_pos (by rfl)]
        simp
    · rw [if_neg hlt]
      have : s.data.toList.drop pos = [] := List.drop_eq_nil_iff.2 (by rw [← Lib.size_eq]; omega)
      rw [this]; rfl
def IxfJ (s : Bytes) (r : Int) : Prop := (r < 0 ∧ s.takeWhile isW = s) ∨ r = ((s.takeWhile isW).length : Int)
theorem tw_all {s : Bytes} (h : s.all isW = true) : s.takeWhile isW = s := by
  have e := List.takeWhile_append_dropWhile (p := isW) (l := s)
  have hd : s.dropWhile isW = [] := by
    cases hq : s.dropWhile isW with
    | nil => rfl
    | cons c t =>
      have h1 := List.head_dropWhile_not isW (l := s) (by rw [hq]; exact List.cons_ne_nil _ _)
      have hm : (s.dropWhile isW).head (by rw [hq]; exact List.cons_ne_nil _ _) ∈ s := (List.dropWhile_sublist _).subset (List.head_mem _)
      exact absurd (List.all_eq_true.1 h _ hm) (by rw [h1]; decide)
  rw [hd, List.append_nil] at e; exact e
theorem IxfJ.neg {s : Bytes} {r : Int} (h : IxfJ s r) (hr : r < 0) : s.length = (s.takeWhile isW).length := by
  rcases h with ⟨_, h⟩ | h
  · rw [h]
  · omega
theorem IxfJ.pos {s : Bytes} {k : Nat} (h : IxfJ s (k : Int)) : k = (s.takeWhile isW).length := by
  rcases h with ⟨h, _⟩ | h <;> omega
theorem ixf_lib (s : Bytes) : Lib.idxFunc pW true ⟨s.toArray⟩ = if s.all isW = true then -1 else ((s.takeWhile isW).length : Int) := by
  unfold Lib.idxFunc
  rw [ixf_from _ _ 0 (by omega) (Nat.zero_le _), List.drop_zero, Nat.zero_add]
theorem ixfJ (s : Bytes) : IxfJ s (Lib.idxFunc pW true ⟨s.toArray⟩) := by
  rw [ixf_lib]
  by_cases h : s.all isW = true
  · rw [if_pos h]; exact .inl ⟨by decide, tw_all h⟩
  · rw [if_neg h]; exact .inr rfl
theorem dbl_len (c : UInt8) : ∀ s : Bytes, (dblC c s).length ≤ 2 * s.length
  | [] => Nat.le_refl _
  | x :: s => by
    have ih := dbl_len c s
    unfold dblC at *
    rw [List.flatMap_cons, List.length_append, List.length_cons]
    split <;> simp only [List.length_cons, List.length_nil] <;> omega
theorem pW_int (x : Nat) : ((decide ((x : Int) ≤ 32) || decide (126 < (x : Int))) || decide ((x : Int) = 39)) = pW x := by
  unfold pW
  rw [decide_eq_decide.2 (show ((x : Int) ≤ 32) ↔ x ≤ 32 by omega), decide_eq_decide.2 (show (126 < (x : Int)) ↔ 126 < x by omega), decide_eq_decide.2 (show ((x : Int) = 39) ↔ x = 39 by omega)]
theorem split_one (b : UInt8) : ∀ (s cur : Bytes), b ∉ s → R44.splitGo b cur s = [cur ++ s]
  | [], cur, _ => by rw [R44.splitGo, List.append_nil]
  | c :: s, cur, h => by
    rw [List.mem_cons, not_or] at h
    rw [R44.splitGo, if_neg (fun e => h.1 e.symm), split_one b s _ h.2, List.append_assoc]; rfl
theorem sym_name (s : Bytes) : (R44.nameV (R44.qualV R44.isUp R44.isPl) s && !decide (46 ∈ s)) = symV s := by
  unfold symV
  by_cases hd : 46 ∈ s
  · rw [decide_eq_true hd]
    show (_ && false) = _
    rw [Bool.and_false]
    symm
    rw [Bool.eq_false_iff]
    intro hq
    unfold R44.qualV at hq
    simp only [Bool.and_eq_true, decide_eq_true_eq, List.all_eq_true] at hq
    obtain ⟨⟨⟨h1, _⟩, h2⟩, h3⟩ := hq
    cases s with
    | nil => cases hd
    | cons c r =>
      rcases List.mem_cons.1 hd with rfl | hm
      · exact absurd (show R44.isUp 46 = true from h2) (by decide)
      · exact absurd (h3 46 hm) (by decide)
  · rw [decide_eq_false hd]
    show (_ && true) = _
    rw [Bool.and_true]
    unfold R44.nameV R44.splitC
    rw [split_one 46 s [] hd, List.nil_append, List.all_cons, List.all_nil, Bool.and_true]
    cases hq : R44.qualV R44.isUp R44.isPl s with
    | false => rw [Bool.and_false]
    | true =>
      unfold R44.qualV at hq
      simp only [Bool.and_eq_true, decide_eq_true_eq] at hq
      rw [decide_eq_true hq.1.1.1, decide_eq_true (show s.length ≤ 31 by omega)]; rfl
end R39
end Go.Proofs.YtbfiibgmgopnaaaDoor

namespace Go.Proofs.YtbfiibgmgopnaaaDoor
open Go.GV Go.RowKit Go.Op
structure Tab (S : List Nat) (w : World) : Prop where
  mx : ∃ m, RO S w (some ⟨0, 0, none⟩) [vI m]
theorem Tab.on {S Sc : List Nat} {w0 w : World} {Lc Lr : List Ent} (h : Tab S w0) (hS : St S w0 w (Lc ++ Lr)) (hSc : ∀ b ∈ Sc, ∃ e ∈ Lc, e.own = some b) : Tab Sc w :=
  ⟨h.mx.imp fun _ k => k.on hS hSc⟩
theorem Tab.again {S : List Nat} {w0 w : World} {L : List Ent} (h : Tab S w0) (hS : St S w0 w L) : Tab (Lown L) w :=
  h.on (Lc := L) (Lr := []) (by rw [List.append_nil]; exact hS) lown_mem
theorem Tab.old {S S2 : List Nat} {w0 w2 : World} (h : Tab S w0) (ho : Old S w0 S2 w2) : Tab S2 w2 := ⟨h.mx.imp fun _ k => k.old ho⟩
theorem cell_ofT {S : List Nat} {w : World} {b : Nat} {v : Value} (h : RO S w (some ⟨b, 0, none⟩) [v]) : w.cell? ⟨b, 0, none⟩ = some v := h.cell (Fr.refl S w) (j := 0) rfl
theorem sz (s : Bytes) : (⟨s.toArray⟩ : ByteArray).size = s.length := by show s.toArray.size = _; simp
theorem split_ok (s : Bytes) (w : World) (hT : Tab [] w) (q0 : s.length ≤ 1000000) : Calls Tryd.prog 93 #[vS s, vS [46]] w (Gives [] w fun v L => ∃ (A2 : Option Addr) (c2 : Nat), v = vL A2 (R44.splitC 46 s).length c2 ∧ L = [Ent.row (.slice A2 (R44.splitC 46 s).length c2) 9 1 (R44.splitC 46 s).length ((R44.splitC 46 s).map vS)]) := by
  obtain ⟨m, hm⟩ := hT.mx
  refine (Tryd.strings_Split ⟨s.toArray⟩ ⟨#[46]⟩ m w (by show s.toArray.size < _; simp; omega) (cell_ofT hm) (by decide)).mono ?_
  rintro e w' ⟨rfl, rfl⟩
  have hl := R44.split_lib ⟨s.toArray⟩ 46
  have hlen := congrArg List.length hl
  rw [List.length_map, Lib.splitB_all _ (by decide) 0 _ _ rfl] at hlen
  have hsz : s.length = (⟨s.toArray⟩ : ByteArray).size := by show _ = s.toArray.size; simp
  have hc := Lib.countB_le ⟨#[46]⟩ (by decide) _ ⟨s.toArray⟩ (Nat.le_refl _)
  have hcells : (Lib.splitB ⟨#[46]⟩ 0 (Lib.countB ⟨s.toArray⟩ ⟨#[46]⟩) ⟨s.toArray⟩).map Value.string = (R44.splitC 46 s).map vS := by
    rw [show R44.splitC 46 s = R44.splitC 46 (⟨s.toArray⟩ : ByteArray).data.toList from rfl, ← hl, List.map_map]
    exact List.map_congr_left fun x _ => rfl
  refine ⟨_, _, rfl, ⟨some ⟨w.heap.size, 0, none⟩, (R44.splitC 46 s).length, ?_, rfl⟩, ?_⟩
  · rw [hlen]
  · refine (St.nil (Fr.refl [] w)).alloc _ _ rfl ⟨by simp, .inr ⟨w.heap.size, (R44.splitC 46 s).length, ((R44.splitC 46 s).map vS).toArray, rfl, ?_, Nat.le_refl _, ?_, by simp, ?_⟩⟩
    · rw [hcells]
    · rw [← hlen]; simp only [maxLen]; omega
    · exact List.take_of_length_le (by simp)
theorem trim_ok (s : Bytes) (w : World) : Calls Tryd.prog 23 #[vS s, vS [32]] w (Gives [] w fun v L => v = vS (R39.trim s) ∧ L = []) := by
  refine (Tryd.strings_TrimLeft_one ⟨s.toArray⟩ 32 (by decide) w).mono ?_
  rintro e w' ⟨rfl, rfl⟩
  exact ⟨_, _, rfl, ⟨rfl, rfl⟩, St.nil (Fr.refl _ _)⟩
theorem ixb_ok (s : Bytes) (c : UInt8) (w : World) : Calls Tryd.prog 25 #[vS s, vU8 c] w (Gives [] w fun v L => ∃ r : Int, v = vI r ∧ L = [] ∧ (R39.IxJ c s r)) := by
  refine (Tryd.strings_IndexByte ⟨s.toArray⟩ (c.toNat : Int) w).mono ?_
  rintro e w' ⟨rfl, rfl⟩
  refine ⟨_, _, rfl, ⟨_, rfl, rfl, ?_⟩, St.nil (Fr.refl _ _)⟩
  rw [Lib.byte_back]
  exact R39.ixb_lib c s
theorem cont_ok (c : UInt8) (s : Bytes) (w : World) : Calls Tryd.prog 18 #[vS s, vS [c]] w (Gives [] w fun v L => v = vB (decide (c ∈ s)) ∧ L = []) := by
  refine (Tryd.strings_Contains_one ⟨s.toArray⟩ c w).mono ?_
  rintro e w' ⟨rfl, rfl⟩
  exact ⟨_, _, rfl, ⟨congrArg vB (R39.cont_lib c s), rfl⟩, St.nil (Fr.refl _ _)⟩
theorem fr_drewN (w : World) (n : Nat) : Fr [] w (w.drewN n) := Fr.of_below (below_drewNg w n)
theorem cut_ok (c : UInt8) (s : Bytes) (w : World) (hT : Tab [] w) (q0 : s.length ≤ 1000000) : Calls Tryd.prog 29 #[vS s, vS [c]] w (Gives [] w fun v L => ∃ (a r : Bytes) (o : Bool), v = Value.tuple #[vS a, vS r, vB o] ∧ L = [] ∧ (o = true → R39.cutB c s = some (a, r)) ∧ (o = false → R39.cutB c s = none) ∧ (a.length + r.length ≤ s.length)) := by
  obtain ⟨m, hm⟩ := hT.mx
  refine (Tryd.strings_Cut ⟨s.toArray⟩ ⟨#[c]⟩ m w (by rw [sz]; omega) (cell_ofT hm)).mono ?_
  rintro e w' ⟨rfl, n, rfl⟩
  rcases R39.cut_lib c s with ⟨h1, h2⟩ | ⟨a, r, h1, h2⟩
  · refine ⟨_, _, rfl, ⟨s, [], false, ?_, rfl, fun h => (by cases h), fun _ => h1, Nat.le_refl _⟩, St.nil (fr_drewN w n)⟩
    show Value.tuple #[vS (Lib.cut s [c]).1, vS (Lib.cut s [c]).2.1, vB (Lib.cut s [c]).2.2] = _
    rw [h2]
  · refine ⟨_, _, rfl, ⟨a, r, true, ?_, rfl, fun _ => h1, fun h => (by cases h), by have := congrArg List.length (R39.cutB_le h1); rw [List.length_append, List.length_cons] at this; omega⟩, St.nil (fr_drewN w n)⟩
    show Value.tuple #[vS (Lib.cut s [c]).1, vS (Lib.cut s [c]).2.1, vB (Lib.cut s [c]).2.2] = _
    rw [h2]
theorem hasp_ok (s : Bytes) (w : World) : Calls Tryd.prog 27 #[vS s, vS [38, 38]] w (Gives [] w fun v L => v = vB (decide (s.take 2 = [38, 38])) ∧ L = []) := by
  refine (Tryd.strings_HasPrefix ⟨s.toArray⟩ ⟨#[38, 38]⟩ w).mono ?_
  rintro e w' ⟨rfl, rfl⟩
  exact ⟨_, _, rfl, ⟨congrArg vB (R39.hasp_lib s), rfl⟩, St.nil (Fr.refl _ _)⟩
theorem tsuf_ok (s : Bytes) (w : World) (q0 : s.length ≤ 9223372036854775807) : Calls Tryd.prog 38 #[vS s, vS [10]] w (Gives [] w fun v L => v = vS (R39.chop s) ∧ L = []) := by
  refine (Tryd.strings_TrimSuffix ⟨s.toArray⟩ ⟨#[10]⟩ w (by rw [sz]; exact q0)).mono ?_
  rintro e w' ⟨rfl, rfl⟩
  exact ⟨_, _, rfl, ⟨congrArg vS (R39.chop_lib s), rfl⟩, St.nil (Fr.refl _ _)⟩
theorem repl_ok (c : UInt8) (s : Bytes) (w : World) (hT : Tab [] w) (q0 : s.length ≤ 1000000) : Calls Tryd.prog 17 #[vS s, vS [c], vS [c, c]] w (Gives [] w fun v L => v = vS (R39.dblC c s) ∧ L = []) := by
  obtain ⟨m, hm⟩ := hT.mx
  have hc := Lib.countB_le ⟨#[c]⟩ (by show 1 ≤ (#[c] : Array UInt8).size; exact Nat.le_refl 1) _ ⟨s.toArray⟩ (Nat.le_refl _)
  refine (Tryd.strings_ReplaceAll ⟨s.toArray⟩ ⟨#[c]⟩ ⟨#[c, c]⟩ m w (by rw [sz]; omega) (cell_ofT hm) (Nat.le_refl 1) ?_).mono ?_
  · rw [sz] at hc ⊢
    show s.length + _ * 2 ≤ _
    omega
  · rintro e w' ⟨rfl, hb⟩
    exact ⟨_, _, rfl, ⟨congrArg vS (R39.repl_lib c s), rfl⟩, St.nil (Fr.of_below hb)⟩
theorem ixf_ok (hp : ∀ (x : Nat) (w : World), Calls Tryd.prog 50 #[vR x] w (Gives [] w fun v L => v = vB (R39.pW x) ∧ L = [])) (s : Bytes) (w : World) : Calls Tryd.prog 49 #[vS s, Value.func (.func 50) #[] #[]] w (Gives [] w fun v L => ∃ r : Int, v = vI r ∧ L = [] ∧ (R39.IxfJ s r)) := by
  refine (Tryd.strings_IndexFunc_grows 50 #[] (fun args w => run_callFunc_enter Ty.ca50) R39.pW ⟨s.toArray⟩ w (fun W x _ _ => ?_)).mono ?_
  · refine (hp x W).mono ?_
    rintro e w' ⟨v, L, rfl, ⟨rfl, rfl⟩, hS⟩
    exact ⟨rfl, hS.fr.below⟩
  · rintro e w' ⟨rfl, hb⟩
    exact ⟨_, _, rfl, ⟨_, rfl, rfl, R39.ixfJ s⟩, St.nil (Fr.of_below hb)⟩
theorem clones : Externed Tryd.prog 104 Extern.MapsClone.clone := ⟨Tryd.f104, Tryd.func104, by kernel_rfl, by kernel_rfl, by kernel_rfl, by kernel_rfl⟩
theorem noEsc : Externed Tryd.prog 71 Extern.AbiNoEscape.same := ⟨Tryd.f71, Tryd.func71, by kernel_rfl, by kernel_rfl, by kernel_rfl, by kernel_rfl⟩
end Go.Proofs.YtbfiibgmgopnaaaDoor

namespace Go.GV
open Go.RowKit
section
variable {P : Program} {t : TypeId}
end
theorem ro_one {w : World} {b : Nat} {v : Value} (h : w.cell? ⟨b, 0, none⟩ = some v) (hb : b < w.heap.size) : RO [] w (some ⟨b, 0, none⟩) [v] := fun j u hj => by
  cases j with
  | zero => cases hj; exact ⟨_, rfl, hb, List.not_mem_nil, h⟩
  | succ j => cases hj
end Go.GV
namespace Go
theorem returnsInHanded_of_change_and_shaped {H : Type} {enc : TypeId × Value → H} {a : Assume} {C : Checked} {os : Os} {f : FuncId} {fn : Func} {s : ChangeSpec} {conds : List PathCond} {apart fresh handsOn again : Bool} {X : World → Array Value → Prop}
    (hX : ∀ (w w' : World) (args : Array Value), w.heap = w'.heap → X w args → X w' args)
    (own : ownKnob C.prog.godebug = none) (started : os.Started) (noInit : C.prog.inits.idxOf? f = none) (hfn : C.prog.funcs[f]? = some fn)
    (witness : ∃ (w : World) (tape : Tape) (i : Input), w.os = os ∧ (w.forCall tape i).Shaped C.prog ∧ i.vars = [] ∧ Input.okWide C.prog (w.forCall tape i) .any w.heap.size f i ∧
      ((s.pre enc C.prog fn conds apart (w.forCall tape i).memory i.args ∧ X (w.forCall tape i).memory i.args) ∧ sizedMet enc C.prog fn (OpenSpec.ofChange s) apart (w.forCall tape i).memory i.args) ∧ a.holds C.prog (lone (Frame.enter C.prog f i.args .normal) [] (w.forCall tape i)))
    (contract : ∀ (W : World) (base : Nat) (args : Array Value) (ds gs : List (DataW H)) (before : List MemPlace),
      (∀ (j : Nat) t v, fn.params[j]? = some t → args[j]? = some v → Value.okWide C.prog W .any base t v) →
      DataW.Whole enc C.prog fn.params.toList s.vars apart W args.toList ds gs before →
      X W args → W.ShapedOpen C.prog →
      Calls C.prog f args W fun e W' => ∃ v, e = .returned v ∧ s.post enc C.prog fn apart fresh handsOn again W args v W') :
    ReturnsInHanded a C os f .any (fun w args => (s.pre enc C.prog fn conds apart w args ∧ X w args) ∧ sizedMet enc C.prog fn (OpenSpec.ofChange s) apart w args) (s.post enc C.prog fn apart fresh handsOn again) := by
  refine returnsInHanded_of_calls own started noInit witness ?_
  intro w tape i _ hsh _ hok hpre _
  obtain ⟨_, _, _, fn', hfn', _, _, _, _, hval⟩ := hok
  obtain rfl : fn' = fn := Option.some.inj (hfn'.symm.trans hfn)
  obtain ⟨⟨⟨ds, gs, before, hw, _⟩, hx⟩, _⟩ := hpre
  refine (contract (w.forCall tape i) w.heap.size i.args ds gs before hval (DataW.Whole.of_heap (w' := w.forCall tape i) (by rfl) hw) (hX _ _ _ (by rfl) hx) hsh).mono fun e W' ⟨v, he, hp⟩ => ?_
  subst he
  exact ChangeSpec.post_blind hp
end Go
namespace Go.Proofs.YtbfiibgmgopnaaaDoor
open Go.GV Go.RowKit
theorem own : ownKnob Tryd.prog.godebug = none := by kernel_rfl
theorem gMax {w : World} (h : w.ShapedOpen Tryd.prog) : ∃ m, w.cell? ⟨0, 0, none⟩ = some (.int .i64 m) :=
  Go.Proofs.cell_of_shapedOpen_int (zero := #[.int .i64 0]) (t := 3) h (of_decide_eq_true (by kernel_rfl)) (by kernel_rfl) rfl (by kernel_rfl) (by kernel_rfl) Tryd.underlying3
noncomputable abbrev start (os : Os) : World := World.laidAll Tryd.prog os Rows.jobtextWordsRow.laid
theorem door_met (os : Os) (args : Array Value) : laidMetH Tryd.prog Rows.jobtextWordsRow.laid ((start os).forCall (fun _ _ => 0) ⟨#[], args, []⟩).memory := by
  rw [MakeChecks.laidMetH_plain _ _ _ (by kernel_rfl)]
  exact laidMet_laidAll args (by kernel_rfl) (by kernel_rfl)
theorem start_os (os : Os) : (start os).os = os := World.laidAll_os _ _ _
theorem tab_of {W : World} (hs : W.ShapedOpen Tryd.prog) (_h : laidMetH Tryd.prog Rows.jobtextWordsRow.laid W) : Tab [] W := by
  obtain ⟨m, hm⟩ := gMax hs
  have hb : 0 < W.heap.size := by
    unfold World.cell? at hm
    cases ho : W.heap[0]? with
    | none => simp [ho] at hm
    | some o => exact (Array.getElem?_eq_some_iff.1 ho).1
  exact ⟨⟨m, ro_one hm hb⟩⟩
end Go.Proofs.YtbfiibgmgopnaaaDoor

namespace Go.GV
open Go.RowKit
def strB : Value → Bytes
  | .string s => s.data.toList
  | _ => []
theorem strB_ok (s : ByteArray) : vS (strB (.string s)) = .string s := by
  show Value.string ⟨s.data.toList.toArray⟩ = _
  rw [Array.toArray_toList]
theorem key_str {P : Program} {k : TypeId} (hk : P.underlying k = some .string) {v : Value} {l : Lit} (h : keyOf P k v = some l) : vS (strB v) = v := by
  unfold keyOf at h
  rw [hk] at h
  dsimp only at h
  unfold mapKey at h
  rw [hk] at h
  split at h
  · rename_i e; cases e
  · rename_i e; cases e
  · exact strB_ok _
  · cases h
theorem val_str {H : Type} {enc : TypeId × Value → H} {P : Program} {w : World} {base n : Nat} {sp : Nat → Bool} {held : Bool} {e : TypeId} (he : P.underlying e = some .string) {v : Value} {q : DataW H × List MemPlace} (h : WideElems.elemAt enc P w base sp held n e v = some q) : vS (strB v) = v := by
  unfold WideElems.elemAt at h
  split at h
  · rename_i hf
    obtain ⟨s, hs, _⟩ := DataW.trod_string he h
    cases v with
    | agg cs => unfold Value.formed at hf; rw [he] at hf; cases hf
    | string z => exact strB_ok z
    | tuple cs => unfold Value.formed at hf; cases hf
    | _ => cases hs
  · cases h
theorem open_mapS {P : Program} {t k e : TypeId} (ht : P.underlying t = some (.map k e)) (hk : P.underlying k = some .string) (he : P.underlying e = some .string) : OpenAt P t fun w cs => cs = [.map none] ∨ ∃ (b : Nat) (M : List (Bytes × Bytes)), cs = [.map (some b)] ∧ Kp [] w (Ent.mp vS b (M.map kvS)).at := by
  intro H enc w fuel cs x h
  rcases WideElems.open_map ht h with ⟨rfl, _⟩ | ⟨b, es, clock, n, _, rfl, hb, _, F, _⟩
  · exact .inl rfl
  · refine .inr ⟨b, es.toList.map fun y => (strB y.key, strB y.val), rfl, ?_⟩
    have hlt : b < w.heap.size := (Array.getElem?_eq_some_iff.1 hb).1
    have hs : ∀ y ∈ es.toList, vS (strB y.key) = y.key ∧ vS (strB y.val) = y.val := fun y hy => by
      obtain ⟨z, hz⟩ := F.reads y hy
      unfold WideElems.rd at hz
      simp only [Option.bind_eq_some_iff, Option.map_eq_some_iff] at hz
      obtain ⟨key, h1, q, h2, _⟩ := hz
      exact ⟨key_str hk h1, val_str he h2⟩
    obtain ⟨s1, s2, _⟩ := F.stamped
    refine ⟨fun x => x = b, fun x hx => ⟨hx ▸ hlt, List.not_mem_nil⟩, fun w' hw => ?_⟩
    have hb' : w'.heap[b]? = some (.map es clock) := (hw b rfl).trans hb
    refine ⟨⟨es, clock, hb', ?_, s2, s1⟩, fun b' e' => ?_⟩
    · rw [List.map_map, List.map_map]
      refine List.map_congr_left fun y hy => ?_
      obtain ⟨h1, h2⟩ := hs y hy
      show (y.key, y.val) = (vS (strB y.key), vS (strB y.val))
      rw [h1, h2]
    · have e' : some b = some b' := e'
      injection e' with e'; subst e'
      exact (Array.getElem?_eq_some_iff.1 hb').1
end Go.GV

namespace Go.Proofs.YtbfiibgmgopnaaaDoor
open Go.GV
namespace R44
theorem splitGo_len (b : UInt8) : ∀ (l cur : Bytes), ∀ x ∈ splitGo b cur l, x.length ≤ cur.length + l.length
  | [], cur, x, hx => by rw [splitGo] at hx; rw [List.mem_singleton.1 hx]; simp
  | c :: r, cur, x, hx => by
    rw [splitGo] at hx; rw [List.length_cons]
    split at hx
    · rcases List.mem_cons.1 hx with rfl | hx
      · omega
      · have := splitGo_len b r [] x hx; simp at this; omega
    · have := splitGo_len b r _ x hx; simp at this; omega
theorem splitC_len (b : UInt8) (s : Bytes) (i : Nat) : ((splitC b s).getD i []).length ≤ s.length := by
  by_cases h : i < (splitC b s).length
  · have := splitGo_len b s [] _ (getD_mem (d := []) h); rw [List.length_nil, Nat.zero_add] at this; exact this
  · rw [List.getD_eq_getElem?_getD, List.getElem?_eq_none (by omega)]; exact Nat.zero_le _
theorem splitGo_count (b : UInt8) : ∀ (l cur : Bytes), (splitGo b cur l).length ≤ l.length + 1
  | [], cur => by rw [splitGo]; simp
  | c :: r, cur => by
    rw [splitGo, List.length_cons]
    split
    · rw [List.length_cons]; have := splitGo_count b r []; omega
    · have := splitGo_count b r (cur ++ [c]); omega
theorem splitC_count (b : UInt8) (s : Bytes) : (splitC b s).length ≤ s.length + 1 := splitGo_count b s []
end R44
end Go.Proofs.YtbfiibgmgopnaaaDoor

namespace Go.Proofs.YtbfiibgmgopnaaaDoor
open Go.GV
set_option linter.unusedVariables false
set_option linter.unusedSimpArgs false
theorem c39a0_ {p : Prop} (h : p := by first | exact R44.qual_0 (by assumption) | exact R44.qual_bad (k := k) (by omega) (by omega) (by assumption) | exact R44.qual_end (by assumption) (fun i h1 h2 => i1_2 i h1 (by omega))) : p := h
theorem c39a1_ {p : Prop} (h : p := by first | exact R44.name_0 (by assumption) | exact R44.name_bad (k := k) (by omega) (by assumption) | exact R44.name_end (by assumption) (fun i h2 => i1_1 i (by omega))) : p := h
set_option maxRecDepth 20000 in
theorem f75_ok (c : UInt8) (w : World) : Calls Tryd.prog 75 #[vU8 c] w (Gives [] w fun v L => v = vB (R44.isUp c) ∧ L = []) := by
 refine calls_J [] 9 Tryd.func75 rfl Tryd.ntmps75 [(0, _)] rfl rfl (Give.nil w) ?_
 refine q_ (g_ (s_ av_ (z_ (n_ (q_ (g_ (s_ mv_ (js_ (vB (decide ((65 : UInt8) ≤ c))) (x_geq_u8 rfl rfl) (s_ mv_ ?_)))))))))
 refine and_ 2 (decide (c ≤ (90 : UInt8))) (fun g1 => ?_) ?_
 ·have g1r := g1
  have g1r := of_decide_eq_true g1r
  have g1ru := g1r
  try simp only [UInt8.lt_iff_toNat_lt, UInt8.le_iff_toNat_le, UInt8.reduceToNat, UInt32.lt_iff_toNat_lt, UInt32.le_iff_toNat_le, UInt32.reduceToNat, UInt64.lt_iff_toNat_lt, UInt64.le_iff_toNat_le, UInt64.reduceToNat] at g1ru
  refine sg_ g1 mv_ (jg_ g1 (vB (decide (c ≤ (90 : UInt8)))) (x_leq_u8 rfl rfl) ?_)
  exact cr_
 refine s_ av_ (z_ (n_ (rt_ ?_)))
 exact p1 Tryd.results75 rfl ⟨(eB (by rfl)), rfl⟩
set_option maxRecDepth 20000 in
theorem f94_ok (c : UInt8) (w : World) : Calls Tryd.prog 94 #[vU8 c] w (Gives [] w fun v L => v = vB (R44.isDg c) ∧ L = []) := by
 refine calls_J [] 9 Tryd.func94 rfl Tryd.ntmps94 [(0, _)] rfl rfl (Give.nil w) ?_
 refine q_ (g_ (s_ av_ (z_ (n_ (q_ (g_ (s_ mv_ (js_ (vB (decide ((48 : UInt8) ≤ c))) (x_geq_u8 rfl rfl) (s_ mv_ ?_)))))))))
 refine and_ 2 (decide (c ≤ (57 : UInt8))) (fun g1 => ?_) ?_
 ·have g1r := g1
  have g1r := of_decide_eq_true g1r
  have g1ru := g1r
  try simp only [UInt8.lt_iff_toNat_lt, UInt8.le_iff_toNat_le, UInt8.reduceToNat, UInt32.lt_iff_toNat_lt, UInt32.le_iff_toNat_le, UInt32.reduceToNat, UInt64.lt_iff_toNat_lt, UInt64.le_iff_toNat_le, UInt64.reduceToNat] at g1ru
  refine sg_ g1 mv_ (jg_ g1 (vB (decide (c ≤ (57 : UInt8)))) (x_leq_u8 rfl rfl) ?_)
  exact cr_
 refine s_ av_ (z_ (n_ (rt_ ?_)))
 exact p1 Tryd.results94 rfl ⟨(eB (by rfl)), rfl⟩
set_option maxRecDepth 20000 in
theorem f76_ok (c : UInt8) (w : World) : Calls Tryd.prog 76 #[vU8 c] w (Gives [] w fun v L => v = vB (R44.isPl c) ∧ L = []) := by
 refine calls_J [] 9 Tryd.func76 rfl Tryd.ntmps76 [(0, _)] rfl rfl (Give.nil w) ?_
 refine q_ (g_ (s_ av_ (z_ (n_ (q_ (g_ (s_ mv_ (c0 (cl_ Ty.ca75) (fun w hS => f75_ok c w) (s_ mv_ ?_)))))))))
 refine or_ 2 (R44.isDg c) (fun g1 => ?_) ?_
 ·have g1r := g1
  refine sg_ g1 mv_ (c0g g1 (cl_ Ty.ca94) (fun w hS => f94_ok c w) ?_)
  exact cr_
 refine s_ av_ (z_ (n_ (rt_ ?_)))
 exact p1 Tryd.results76 rfl ⟨(eB (by rfl)), rfl⟩
set_option maxRecDepth 20000 in
theorem f74_ok (s : Bytes) (w : World) (q0 : s.length ≤ 9223372036854775807) : Calls Tryd.prog 74 #[vS s, Value.func (.func 75) #[] #[], Value.func (.func 76) #[] #[]] w (Gives [] w fun v L => v = vB (R44.qualV R44.isUp R44.isPl s) ∧ L = []) := by
 refine calls_J [] 35 Tryd.func74 rfl Tryd.ntmps74 [(0, _), (1, _), (2, _)] rfl rfl (Give.nil w) ?_
 refine q_ (g_ (s_ av_ (z_ (n_ (q_ (q_ (g_ (s_ mv_ (s_ (x_len_s rfl Tryd.underlying9) (s_ (x_lss_i rfl rfl) (s_ mv_ ?_)))))))))))
 refine or_ 3 (decide ((8 : Int) < ((s.length : Nat) : Int))) (fun g1 => ?_) ?_
 ·have g1r := g1
  have g1r := of_decide_eq_false g1r
  refine sg_ g1 mv_ (sg_ g1 (x_len_s rfl Tryd.underlying9) (sg_ g1 (x_gtr_i rfl rfl) ?_))
  exact cr_
 refine s_ mv_ ?_
 refine or_ 5 (!(R44.isUp (s.getD 0 0))) (fun g2 => ?_) ?_
 ·have g2r := g2
  have ⟨g2r, h3⟩ := bor_false g2r
  have g2r := of_decide_eq_false g2r
  have h3 := of_decide_eq_false h3
  refine sg_ g2 mv_ (sg_ g2 mv_ (sg_ g2 (x_idx_s (k := 0) rfl rfl Tryd.underlying9 (by omega)) (c0g g2 (x_callv (first := []) (caps := []) rfl Ty.ca75 rfl) (fun w hS => f75_ok _ w) (sg_ g2 (x_not rfl) ?_))))
  exact cr_
 refine z_ (n_ ?_)
 refine if_ (fun h4 => ?_) (fun h4 => ?_)
 ·have h4w := h4
  simp only [Bool.and_eq_true, Bool.or_eq_true, Bool.and_eq_false_iff, Bool.or_eq_false_iff, Bool.not_eq_true', Bool.not_eq_false', decide_eq_true_eq, decide_eq_false_iff_not] at h4
  refine q_ (g_ (s_ av_ (z_ (n_ (rt_ (nr_ ?_))))))
  exact p1 Tryd.results74 rfl ⟨(eB c39a0_), rfl⟩
 ·have h4w := h4
  have ⟨h4, h5⟩ := bor_false h4
  have ⟨h4, h6⟩ := bor_false h4
  have h4 := of_decide_eq_false h4
  have h6 := of_decide_eq_false h6
  have h5 : (R44.isUp (s.getD 0 0)) = true := bnot_false h5
  refine sk_ (n_ (q_ (q_ (g_ (s_ av_ (z_ (n_ (k_ ?_))))))))
  refine J_loop (X := Nat) (fun (k : Nat) => (1 ≤ k) ∧ (k ≤ s.length) ∧ (∀ i, 1 ≤ i → i < k → R44.isPl (s.getD i 0) = true)) (fun (k : Nat) => [(0, vS s), (2, Value.func (.func 76) #[] #[]), (7, vI ((k : Nat) : Int))]) (fun (k : Nat) => []) (fun (k : Nat) => s.length - k) (1 : Nat) ?_ ⟨rfl, rfl, rfl, trivial⟩ (fun _ h => h) ?_
  ·try dsimp only
   refine ⟨?_, ?_, ?_⟩
   ·first | rfl | omega | (simp_all; done) | (simp_all; omega)
   ·first | rfl | omega | (simp_all; done) | (simp_all; omega)
   ·intro i h1 h2; omega
  intro k hI1
  obtain ⟨i1_0, i1_1, i1_2⟩ := hI1
  try dsimp only at i1_0
  try dsimp only at i1_1
  try dsimp only at i1_2
  try dsimp only
  refine q_ (q_ (g_ (s_ mv_ (s_ mv_ (s_ (x_len_s rfl Tryd.underlying9) (s_ (x_lss_i rfl rfl) (z_ (n_ ?_))))))))
  refine ifd (fun h7w h7 => ?_) (fun h7w h7 => ?_)
  ·refine sk_ (n_ (q_ (k_ (q_ (g_ (s_ mv_ (s_ mv_ (s_ mv_ (s_ (x_idx_s (k := k) rfl rfl Tryd.underlying9 (by omega)) (c0 (x_callv (first := []) (caps := []) rfl Ty.ca76 rfl) (fun w hS => f76_ok _ w) (s_ (x_not rfl) (z_ (n_ ?_)))))))))))))
   refine if_ (fun h8 => ?_) (fun h8 => ?_)
   ·have h8w := h8
    have h8 : (R44.isPl (s.getD k 0)) = false := bnot_true h8
    refine q_ (g_ (s_ av_ (z_ (n_ (rt_ (kq_ (nr_ (rr_ (kq_ (nr_ ?_))))))))))
    exact p1 Tryd.results74 rfl ⟨(eB c39a0_), rfl⟩
   ·have h8w := h8
    have h8 : (R44.isPl (s.getD k 0)) = true := bnot_false h8
    refine sk_ (kx_ (n_ (g_ (s_ mv_ (s_ (x_add_n (a := k) (b := 1) rfl rfl (by omega)) (s_ av_ (z_ ?_)))))))
    refine JX_round (k + 1 : Nat) ?_ ?_ ⟨rfl, rfl, rfl, trivial⟩ (fun _ h => h)
    ·try dsimp only
     refine ⟨?_, ?_, ?_⟩
     ·first | rfl | omega | (simp_all; done) | (simp_all; omega)
     ·first | rfl | omega | (simp_all; done) | (simp_all; omega)
     ·exact R44.qual_step i1_2 (by assumption)
    ·try dsimp only
     first | omega | (simp; omega) | (simp_all; omega)
  ·refine J_exit (ne_ (re_ (kh_ (n_ (q_ ?_)))))
   refine g_ (s_ av_ (z_ (n_ (rt_ ?_))))
   exact p1 Tryd.results74 rfl ⟨(eB c39a0_), rfl⟩
set_option maxRecDepth 20000 in
theorem f73_ok (s : Bytes) (w : World) (q0 : s.length ≤ 9223372036854775807) : Calls Tryd.prog 73 #[vS s] w (Gives [] w fun v L => v = vB (R44.qualV R44.isUp R44.isPl s) ∧ L = []) := by
 refine calls_J [] 5 Tryd.func73 rfl Tryd.ntmps73 [(0, _)] rfl rfl (Give.nil w) ?_
 refine q_ (g_ (s_ av_ (z_ (n_ (q_ (g_ (s_ mv_ (c0 (cl_ Ty.ca74) (fun w hS => f74_ok s w hy_) (s_ av_ (z_ (n_ (rt_ ?_))))))))))))
 exact p1 Tryd.results73 rfl ⟨rfl, rfl⟩
set_option maxRecDepth 20000 in
theorem f72_ok (s : Bytes) (w : World) (hT : Tab [] w) (q0 : s.length ≤ 1000000) : Calls Tryd.prog 72 #[vS s, vI 31, Value.func (.func 73) #[] #[]] w (Gives [] w fun v L => v = vB (R44.nameV (R44.qualV R44.isUp R44.isPl) s) ∧ L = []) := by
 refine calls_J [] 30 Tryd.func72 rfl Tryd.ntmps72 [(0, _), (1, _), (2, _)] rfl rfl (Give.nil w) ?_
 refine q_ (g_ (s_ av_ (z_ (n_ (q_ (q_ (g_ (s_ mv_ (s_ (x_len_s rfl Tryd.underlying9) (s_ (x_lss_i rfl rfl) (s_ mv_ ?_)))))))))))
 refine or_ 4 (decide ((31 : Int) < ((s.length : Nat) : Int))) (fun g1 => ?_) ?_
 ·have g1r := g1
  have g1r := of_decide_eq_false g1r
  refine sg_ g1 mv_ (sg_ g1 (x_len_s rfl Tryd.underlying9) (sg_ g1 mv_ (sg_ g1 (x_gtr_i rfl rfl) ?_)))
  exact cr_
 refine z_ (n_ ?_)
 refine if_ (fun h2 => ?_) (fun h2 => ?_)
 ·have h2w := h2
  simp only [Bool.and_eq_true, Bool.or_eq_true, Bool.and_eq_false_iff, Bool.or_eq_false_iff, Bool.not_eq_true', Bool.not_eq_false', decide_eq_true_eq, decide_eq_false_iff_not] at h2
  refine q_ (g_ (s_ av_ (z_ (n_ (rt_ (nr_ ?_))))))
  exact p1 Tryd.results72 rfl ⟨(eB c39a1_), rfl⟩
 ·have h2w := h2
  have ⟨h2, h3⟩ := bor_false h2
  have h2 := of_decide_eq_false h2
  have h3 := of_decide_eq_false h3
  refine sk_ (n_ (q_ (q_ (g_ (s_ mv_ ?_)))))
  refine c1 (cl_ Ty.ca93) (fun w hS => split_ok s w (hT.on hS (fun _ h => by cases h)) hy_) ?_
  rintro _ _ ⟨e4, e5, rfl, rfl⟩
  have ha6 := R44.splitC_count 46 s
  refine s_ (lnS Tryd.underlying24) (s_ mv_ (z_ (n_ (k_ ?_))))
  refine J_loop (X := Nat) (fun (k : Nat) => (k ≤ (R44.splitC 46 s).length) ∧ (∀ i, i < k → (R44.qualV R44.isUp R44.isPl) ((R44.splitC 46 s).getD i []) = true)) (fun (k : Nat) => [(2, Value.func (.func 73) #[] #[]), (19, vL e4 ((R44.splitC 46 s).length) e5), (20, vI (((R44.splitC 46 s).length : Nat) : Int)), (21, vI ((k : Nat) : Int))]) (fun (k : Nat) => [Ent.row (.slice e4 (R44.splitC 46 s).length e5) 9 1 (R44.splitC 46 s).length ((R44.splitC 46 s).map vS)]) (fun (k : Nat) => (R44.splitC 46 s).length - k) (0 : Nat) ?_ ⟨rfl, rfl, rfl, rfl, trivial⟩ (fun _ h => h) ?_
  ·try dsimp only
   refine ⟨?_, ?_⟩
   ·first | rfl | omega | (simp_all; done) | (simp_all; omega)
   ·intro i h2; omega
  intro k hI1
  obtain ⟨i1_0, i1_1⟩ := hI1
  try dsimp only at i1_0
  try dsimp only at i1_1
  have hpl := R44.splitC_len 46 s k
  try dsimp only
  refine q_ (g_ (s_ (x_lss_i rfl rfl) (z_ (n_ (q_ ?_)))))
  refine ifd (fun h7w h7 => ?_) (fun h7w h7 => ?_)
  ·refine sk_ (n_ (q_ (k_ (q_ (g_ (r_ (ixM (cells_row 0 rfl) Tryd.underlying24 Ty.sz9) (r_ (ldM vS [] (cells_row 0 rfl) Ty.sc9) (s_ av_ (z_ (n_ (q_ (g_ (s_ mv_ (s_ mv_ (c0 (x_callv (first := []) (caps := []) rfl Ty.ca73 rfl) (fun w hS => f73_ok _ w hy_) (s_ (x_not rfl) (z_ (n_ ?_))))))))))))))))))
   refine if_ (fun h8 => ?_) (fun h8 => ?_)
   ·have h8w := h8
    have h8 : (R44.qualV R44.isUp R44.isPl ((R44.splitC 46 s).getD k [])) = false := bnot_true h8
    refine q_ (g_ (s_ av_ (z_ (n_ (rt_ (kq_ (nr_ (rr_ (kq_ (nr_ ?_))))))))))
    exact p1 Tryd.results72 rfl ⟨(eB c39a1_), rfl⟩
   ·have h8w := h8
    have h8 : (R44.qualV R44.isUp R44.isPl ((R44.splitC 46 s).getD k [])) = true := bnot_false h8
    refine sk_ (kx_ (n_ (g_ (s_ (x_add_n (a := k) (b := 1) rfl rfl (by omega)) (s_ mv_ (z_ ?_))))))
    refine JX_round (k + 1 : Nat) ?_ ?_ ⟨rfl, rfl, rfl, rfl, trivial⟩ (fun _ h => h)
    ·try dsimp only
     refine ⟨?_, ?_⟩
     ·first | rfl | omega | (simp_all; done) | (simp_all; omega)
     ·exact R44.all_step i1_1 (by assumption)
    ·try dsimp only
     first | omega | (simp; omega) | (simp_all; omega)
  ·refine J_exit (ne_ (re_ (kh_ (n_ (q_ ?_)))))
   refine g_ (s_ av_ (z_ (n_ (rt_ ?_))))
   exact p1 Tryd.results72 rfl ⟨(eB c39a1_), rfl⟩
set_option maxRecDepth 20000 in
theorem f55_ok (s : Bytes) (w : World) (hT : Tab [] w) (q0 : s.length ≤ 1000000) : Calls Tryd.prog 55 #[vS s] w (Gives [] w fun v L => v = vB (R44.nameV (R44.qualV R44.isUp R44.isPl) s) ∧ L = []) := by
 refine calls_J [] 5 Tryd.func55 rfl Tryd.ntmps55 [(0, _)] rfl rfl (Give.nil w) ?_
 refine q_ (g_ (s_ av_ (z_ (n_ (q_ (g_ (s_ mv_ (c0 (cl_ Ty.ca72) (fun w hS => f72_ok s w (hT.on hS (fun _ h => by cases h)) hy_) (s_ av_ (z_ (n_ (rt_ ?_))))))))))))
 exact p1 Tryd.results55 rfl ⟨rfl, rfl⟩
set_option maxRecDepth 20000 in
theorem f50_ok (x : Nat) (w : World) : Calls Tryd.prog 50 #[vR (x : Int)] w (Gives [] w fun v L => v = vB (R39.pW x) ∧ L = []) := by
 refine calls_J [] 13 Tryd.func50 rfl Tryd.ntmps50 [(0, _)] rfl rfl (Give.nil w) ?_
 refine q_ (g_ (s_ av_ (z_ (n_ (q_ (g_ (s_ mv_ (js_ (vB (decide ((x : Int) ≤ (32 : Int)))) (x_leq_i32 rfl rfl) (s_ mv_ ?_)))))))))
 refine or_ 2 (decide ((126 : Int) < (x : Int))) (fun g1 => ?_) ?_
 ·have g1r := g1
  have g1r := of_decide_eq_false g1r
  refine sg_ g1 mv_ (jg_ g1 (vB (decide ((126 : Int) < (x : Int)))) (x_gtr_i32 rfl rfl) ?_)
  exact cr_
 refine s_ mv_ ?_
 refine or_ 2 (decide ((x : Int) = (39 : Int))) (fun g2 => ?_) ?_
 ·have g2r := g2
  have ⟨g2r, h3⟩ := bor_false g2r
  have g2r := of_decide_eq_false g2r
  have h3 := of_decide_eq_false h3
  refine sg_ g2 mv_ (jg_ g2 (vB (decide ((x : Int) = (39 : Int)))) (x_eql_i32 rfl rfl) ?_)
  exact cr_
 refine s_ av_ (z_ (n_ (rt_ ?_)))
 exact p1 Tryd.results50 rfl ⟨(eB (R39.pW_int x)), rfl⟩
set_option maxRecDepth 20000 in
theorem f30_ok (s : Bytes) (w : World) (hT : Tab [] w) (q0 : s.length ≤ 1000000) : Calls Tryd.prog 30 #[vS s] w (Gives [] w fun v L => v = vB (R39.symV s) ∧ L = []) := by
 refine calls_J [] 10 Tryd.func30 rfl Tryd.ntmps30 [(0, _)] rfl rfl (Give.nil w) ?_
 refine q_ (g_ (s_ av_ (z_ (n_ (q_ (g_ (s_ mv_ (c0 (cl_ Ty.ca55) (fun w hS => f55_ok s w (hT.on hS (fun _ h => by cases h)) hy_) (s_ mv_ ?_)))))))))
 refine and_ 3 (!(decide (46 ∈ s))) (fun g1 => ?_) ?_
 ·have g1r := g1
  refine sg_ g1 mv_ (c0g g1 (cl_ Ty.ca18) (fun w hS => cont_ok 46 s w) (sg_ g1 (x_not rfl) ?_))
  exact cr_
 refine s_ av_ (z_ (n_ (rt_ ?_)))
 exact p1 Tryd.results30 rfl ⟨(eB (R39.sym_name s)), rfl⟩
set_option maxRecDepth 20000 in
theorem cc_new (bb : Nat) (q : Value) (w : World) (hg : Give [bb] w [Ent.blk bb 54 [Value.pointer none, q]]) : Calls Tryd.prog 52 #[pB bb 0] w (Gives [bb] w fun v L => v = Value.tuple #[] ∧ L = [Ent.blk bb 54 [pB bb 0, q]]) := by
 refine calls_J [bb] 20 Tryd.func52 rfl Tryd.ntmps52 [(0, _)] rfl rfl hg ?_
 refine q_ (g_ (s_ mv_ (s_ (x_nilCheck rfl) (s_ (fA 0 Ty.fi54_0) (r_ (ld_ 0 Ty.sc51) (s_ (x_eql_nilp Tryd.underlying51 rfl rfl) (z_ (n_ (ift (g_ (s_ mv_ (s_ mv_ (r_ (x_to_unsafe 0 rfl rfl Tryd.underlying51 Tryd.underlying113 Ty.sz54 (Nat.succ_pos _)) ?_)))))))))))))
 refine s_ (x_noEscape noEsc rfl) (r_ (x_from_unsafe 0 rfl rfl Tryd.underlying113 Tryd.underlying51 Ty.sz54 (by kernel_rfl)) (s_ (x_nilCheck rfl) (s_ (fA 0 Ty.fi54_0) (o_ (st1 0 Ty.sz51 ?_)))))
 refine z_ ?_
 refine JX_end0 Tryd.results52 [Ent.blk bb 54 [pB bb 0, q]] (fun _ h => h) ⟨?_, ?_⟩
 ·rfl
 ·rfl
set_option maxRecDepth 20000 in
theorem cc_old (bb : Nat) (q : Value) (w : World) (hg : Give [bb] w [Ent.blk bb 54 [pB bb 0, q]]) : Calls Tryd.prog 52 #[pB bb 0] w (Gives [bb] w fun v L => v = Value.tuple #[] ∧ L = [Ent.blk bb 54 [pB bb 0, q]]) := by
 refine calls_J [bb] 20 Tryd.func52 rfl Tryd.ntmps52 [(0, _)] rfl rfl hg ?_
 refine q_ (g_ (s_ mv_ (s_ (x_nilCheck rfl) (s_ (fA 0 Ty.fi54_0) (r_ (ld_ 0 Ty.sc51) (s_ (x_eql_ptr Tryd.underlying51 rfl rfl) (z_ (n_ (iff_ (q_ (g_ (s_ mv_ (s_ (x_nilCheck rfl) (s_ (fA 0 Ty.fi54_0) ?_))))))))))))))
 refine r_ (ld_ 0 Ty.sc51) (s_ mv_ (s_ (x_neq_ptr rfl rfl Tryd.underlying51 Ty.sz54) (z_ (n_ (iff_ (sk_ ?_))))))
 refine JX_end0 Tryd.results52 [Ent.blk bb 54 [pB bb 0, q]] (fun _ h => h) ⟨?_, ?_⟩
 ·rfl
 ·rfl
theorem cc_ok (bb : Nat) (p : Value) (q : Value) (w : World) (q0 : p = Value.pointer none ∨ p = pB bb 0) (hg : Give [bb] w [Ent.blk bb 54 [p, q]]) : Calls Tryd.prog 52 #[pB bb 0] w (Gives [bb] w fun v L => v = Value.tuple #[] ∧ L = [Ent.blk bb 54 [pB bb 0, q]]) := by
 rcases q0 with rfl | rfl
 ·exact cc_new bb q w hg
 ·exact cc_old bb q w hg
set_option maxRecDepth 20000 in
theorem f26_ok (bb : Nat) (p : Value) (xs : List UInt8) (xsA : Option Addr) (xsC : Nat) (xsN : Nat) (s : Bytes) (w : World) (xsQ : xsN = xs.length) (q0 : p = Value.pointer none ∨ p = pB bb 0) (q1 : xs.length ≤ 1000000000) (q2 : s.length ≤ 1000000000) (hg : Give (Lown [Ent.blk bb 54 [p, vL xsA xsN xsC], Ent.row (.slice xsA xsN xsC) 5 1 xsN (xs.map vU8)]) w [Ent.blk bb 54 [p, vL xsA xsN xsC], Ent.row (.slice xsA xsN xsC) 5 1 xsN (xs.map vU8)]) : Calls Tryd.prog 26 #[pB bb 0, vS s] w (Gives (Lown [Ent.blk bb 54 [p, vL xsA xsN xsC], Ent.row (.slice xsA xsN xsC) 5 1 xsN (xs.map vU8)]) w fun v L => ∃ yA : Option Addr, ∃ yC : Nat, v = Value.tuple #[vI ((s.length : Nat) : Int), Value.nilIface] ∧ L = [Ent.blk bb 54 [pB bb 0, vL yA ((xs ++ s).length) yC], Ent.row (.slice yA (xs ++ s).length yC) 5 1 (xs ++ s).length ((xs ++ s).map vU8)]) := by
 subst xsQ
 refine calls_J (Lown [Ent.blk bb 54 [p, vL xsA xs.length xsC], Ent.row (.slice xsA xs.length xsC) 5 1 xs.length (xs.map vU8)]) 19 Tryd.func26 rfl Tryd.ntmps26 [(0, _), (1, _)] rfl rfl hg ?_
 refine q_ (g_ (s_ av_ (s_ av_ (z_ (n_ (q_ (g_ (s_ mv_ ?_))))))))
 refine JO_call [bb] [Ent.blk bb 54 [p, vL xsA xs.length xsC]] [Ent.row (.slice xsA xs.length xsC) 5 1 xs.length (xs.map vU8)] rfl trivial (fun _ => x_call Ty.ca52 rfl) (fun _ h => h) (own_mem rfl) (fun w hS => cc_ok bb p (vL xsA xs.length xsC) w (by first | assumption | exact .inl rfl | exact .inr rfl) (hS.give (own_in rfl))) ?_
 rintro _ _ ⟨rfl, rfl⟩
 refine z_ (n_ (q_ (g_ (s_ mv_ (s_ mv_ (s_ (x_nilCheck rfl) (s_ (fA 1 Ty.fi54_1) (r_ (ld_ 0 Ty.sc52) (s_ mv_ (o_ (O_append_s 1 xs s Tryd.underlying52 Tryd.underlying9 Ty.sz5 Ty.by5 Ty.ze5 rfl rfl rfl rfl lt_ fun A1 c2 => ?_)))))))))))
 refine s_ (x_nilCheck rfl) (s_ (fA 1 Ty.fi54_1) (o_ (st1 0 Ty.sz52 ?_)))
 refine z_ (n_ (q_ (g_ (s_ mv_ (s_ (x_len_s rfl Tryd.underlying9) (s_ av_ (s_ av_ (z_ (n_ (rt_ ?_))))))))))
 refine JX_rets [_, _] (Value.tuple #[_, _]) Tryd.results26 (fun w h => ⟨rfl, rfl, trivial⟩) rfl _ (fun _ h => h) ⟨A1, c2, ?_, ?_⟩
 ·rfl
 ·rfl
set_option maxRecDepth 20000 in
theorem f28_ok (bb : Nat) (p : Value) (xs : List UInt8) (xsA : Option Addr) (xsC : Nat) (xsN : Nat) (c : UInt8) (w : World) (xsQ : xsN = xs.length) (q0 : p = Value.pointer none ∨ p = pB bb 0) (q1 : xs.length ≤ 1000000000) (hg : Give (Lown [Ent.blk bb 54 [p, vL xsA xsN xsC], Ent.row (.slice xsA xsN xsC) 5 1 xsN (xs.map vU8)]) w [Ent.blk bb 54 [p, vL xsA xsN xsC], Ent.row (.slice xsA xsN xsC) 5 1 xsN (xs.map vU8)]) : Calls Tryd.prog 28 #[pB bb 0, vU8 c] w (Gives (Lown [Ent.blk bb 54 [p, vL xsA xsN xsC], Ent.row (.slice xsA xsN xsC) 5 1 xsN (xs.map vU8)]) w fun v L => ∃ yA : Option Addr, ∃ yC : Nat, v = Value.nilIface ∧ L = [Ent.blk bb 54 [pB bb 0, vL yA ((xs ++ [c]).length) yC], Ent.row (.slice yA (xs ++ [c]).length yC) 5 1 (xs ++ [c]).length ((xs ++ [c]).map vU8)]) := by
 subst xsQ
 refine calls_J (Lown [Ent.blk bb 54 [p, vL xsA xs.length xsC], Ent.row (.slice xsA xs.length xsC) 5 1 xs.length (xs.map vU8)]) 17 Tryd.func28 rfl Tryd.ntmps28 [(0, _), (1, _)] rfl rfl hg ?_
 refine q_ (g_ (s_ av_ (z_ (n_ (q_ (g_ (s_ mv_ ?_)))))))
 refine JO_call [bb] [Ent.blk bb 54 [p, vL xsA xs.length xsC]] [Ent.row (.slice xsA xs.length xsC) 5 1 xs.length (xs.map vU8)] rfl trivial (fun _ => x_call Ty.ca52 rfl) (fun _ h => h) (own_mem rfl) (fun w hS => cc_ok bb p (vL xsA xs.length xsC) w (by first | assumption | exact .inl rfl | exact .inr rfl) (hS.give (own_in rfl))) ?_
 rintro _ _ ⟨rfl, rfl⟩
 refine z_ (n_ (q_ (g_ (s_ mv_ (s_ mv_ (s_ (x_nilCheck rfl) (s_ (fA 1 Ty.fi54_1) (r_ (ld_ 0 Ty.sc52) (s_ mv_ (o_ (O_buildSlice (cs := [vU8 c]) Tryd.underlying52 Ty.sz5 Ty.ze5 (by decide) (by decide) (by kernel_rfl) fun b1 => ?_)))))))))))
 refine o_ (O_append_m 2 vU8 xs [c] Tryd.underlying52 Ty.sz5 Ty.by5 Ty.ze5 rfl rfl rfl rfl rfl (fun _ => rfl) (cells_blk 0 (off := 0) (m := 1) rfl rfl) lt_ lt_ fun A2 c3 => ?_)
 refine s_ (x_nilCheck rfl) (s_ (fA 1 Ty.fi54_1) (o_ (st1 1 Ty.sz52 ?_)))
 refine z_ (n_ (q_ (g_ (s_ av_ (z_ (n_ (rt_ ?_)))))))
 refine JX_rets [_] _ Tryd.results28 (fun w h => ⟨rfl, trivial⟩) rfl _ (fun _ h => h.keep [false, true, true] rfl) ⟨A2, c3, ?_, ?_⟩
 ·rfl
 ·rfl
set_option maxRecDepth 20000 in
theorem f31_ok (bb : Nat) (p : Value) (xs : List UInt8) (xsA : Option Addr) (xsC : Nat) (xsN : Nat) (w : World) (xsQ : xsN = xs.length) (hg : Give (Lown [Ent.blk bb 54 [p, vL xsA xsN xsC], Ent.row (.slice xsA xsN xsC) 5 1 xsN (xs.map vU8)]) w [Ent.blk bb 54 [p, vL xsA xsN xsC], Ent.row (.slice xsA xsN xsC) 5 1 xsN (xs.map vU8)]) : Calls Tryd.prog 31 #[pB bb 0] w (Gives (Lown [Ent.blk bb 54 [p, vL xsA xsN xsC], Ent.row (.slice xsA xsN xsC) 5 1 xsN (xs.map vU8)]) w fun v L => v = vI ((xs.length : Nat) : Int) ∧ L = [Ent.blk bb 54 [p, vL xsA xs.length xsC], Ent.row (.slice xsA xs.length xsC) 5 1 xs.length (xs.map vU8)]) := by
 subst xsQ
 refine calls_J (Lown [Ent.blk bb 54 [p, vL xsA xs.length xsC], Ent.row (.slice xsA xs.length xsC) 5 1 xs.length (xs.map vU8)]) 8 Tryd.func31 rfl Tryd.ntmps31 [(0, _)] rfl rfl hg ?_
 refine q_ (g_ (s_ av_ (z_ (n_ (q_ (g_ (s_ mv_ (s_ (x_nilCheck rfl) (s_ (fA 1 Ty.fi54_1) (r_ (ld_ 0 Ty.sc52) (s_ (lnS Tryd.underlying52) (s_ av_ (z_ (n_ (rt_ ?_)))))))))))))))
 refine JX_rets [_] _ Tryd.results31 (fun w h => ⟨rfl, trivial⟩) rfl _ (fun _ h => h) ⟨?_, ?_⟩
 ·rfl
 ·rfl
set_option maxRecDepth 20000 in
theorem str_0 (bb : Nat) (p : Value) (xsA : Option Addr) (xsC : Nat) (w : World) (hg : Give (Lown [Ent.blk bb 54 [p, vL xsA 0 xsC], Ent.row (.slice xsA 0 xsC) 5 1 0 (([] : Bytes).map vU8)]) w [Ent.blk bb 54 [p, vL xsA 0 xsC], Ent.row (.slice xsA 0 xsC) 5 1 0 (([] : Bytes).map vU8)]) : Calls Tryd.prog 32 #[pB bb 0] w (Gives (Lown [Ent.blk bb 54 [p, vL xsA 0 xsC], Ent.row (.slice xsA 0 xsC) 5 1 0 (([] : Bytes).map vU8)]) w fun v L => v = vS [] ∧ L = []) := by
 refine calls_J (Lown [Ent.blk bb 54 [p, vL xsA 0 xsC], Ent.row (.slice xsA 0 xsC) 5 1 0 (([] : Bytes).map vU8)]) 14 Tryd.func32 rfl Tryd.ntmps32 [(0, _)] rfl rfl hg ?_
 refine q_ (g_ (s_ av_ (z_ (n_ (q_ ?_)))))
 refine drU [] [10] 12 Ty.mixed ?_
 refine jp_ 0 rfl mv_ (jp_ 1 rfl (x_nilCheck rfl) (jp_ 2 rfl (fA 1 Ty.fi54_1) ?_))
 refine JA_earlyT 3 (vL xsA 0 xsC) rfl (by kernel_rfl) (by kernel_rfl) (by kernel_rfl) rfl (by kernel_rfl) (fun _ _ _ h => h) rfl trivial (x_load 0 rfl rfl Ty.sc52 rfl) ?_
 refine jp_ 5 rfl mv_ (jp_ 6 rfl (x_nilCheck rfl) (jp_ 7 rfl (fA 1 Ty.fi54_1) ?_))
 refine JA_earlyT 8 (vL xsA 0 xsC) rfl (by kernel_rfl) (by kernel_rfl) (by kernel_rfl) rfl (by kernel_rfl) (fun _ _ _ h => h) rfl trivial (x_load 0 rfl rfl Ty.sc52 rfl) ?_
 refine jp_ 9 rfl (lnS Tryd.underlying52) (j1_ 4 (jio_ rfl (O_usd0 1 rfl rfl Tryd.underlying97 fun p2 => ?_)) (fun _ h => ⟨h.keep [false, false] rfl, fun _ => h⟩))
 refine j1_ 10 ?_ (fun _ h => ⟨h.keep [false, false] rfl, fun _ => h⟩)
 refine JI_read (vS []) rfl rfl trivial (fun _ _ => x_ustr0 rfl rfl) ?_
 refine jp_ 11 rfl av_ ?_
 refine JA_done (by kernel_rfl) (gl_ rfl (fun _ h => h.keep [false, false] rfl)) ?_
 refine n_ (rt_ ?_)
 exact p1 Tryd.results32 rfl ⟨rfl, rfl⟩
set_option maxRecDepth 20000 in
theorem str_1 (bb : Nat) (p : Value) (xs : List UInt8) (xsA : Option Addr) (xsC : Nat) (w : World) (q0 : 0 < xs.length) (q1 : xs.length ≤ 1000000000) (hg : Give (Lown [Ent.blk bb 54 [p, vL xsA xs.length xsC], Ent.row (.slice xsA xs.length xsC) 5 1 xs.length (xs.map vU8)]) w [Ent.blk bb 54 [p, vL xsA xs.length xsC], Ent.row (.slice xsA xs.length xsC) 5 1 xs.length (xs.map vU8)]) : Calls Tryd.prog 32 #[pB bb 0] w (Gives (Lown [Ent.blk bb 54 [p, vL xsA xs.length xsC], Ent.row (.slice xsA xs.length xsC) 5 1 xs.length (xs.map vU8)]) w fun v L => v = vS xs ∧ L = []) := by
 refine calls_J (Lown [Ent.blk bb 54 [p, vL xsA xs.length xsC], Ent.row (.slice xsA xs.length xsC) 5 1 xs.length (xs.map vU8)]) 14 Tryd.func32 rfl Tryd.ntmps32 [(0, _)] rfl rfl hg ?_
 refine q_ (g_ (s_ av_ (z_ (n_ (q_ ?_)))))
 refine drU [] [10] 12 Ty.mixed ?_
 refine jp_ 0 rfl mv_ (jp_ 1 rfl (x_nilCheck rfl) (jp_ 2 rfl (fA 1 Ty.fi54_1) ?_))
 refine JA_earlyT 3 (vL xsA xs.length xsC) rfl (by kernel_rfl) (by kernel_rfl) (by kernel_rfl) rfl (by kernel_rfl) (fun _ _ _ h => h) rfl trivial (x_load 0 rfl rfl Ty.sc52 rfl) ?_
 refine jp_ 5 rfl mv_ (jp_ 6 rfl (x_nilCheck rfl) (jp_ 7 rfl (fA 1 Ty.fi54_1) ?_))
 refine JA_earlyT 8 (vL xsA xs.length xsC) rfl (by kernel_rfl) (by kernel_rfl) (by kernel_rfl) rfl (by kernel_rfl) (fun _ _ _ h => h) rfl trivial (x_load 0 rfl rfl Ty.sc52 rfl) ?_
 refine jp_ 9 rfl (lnS Tryd.underlying52) (j1_ 4 (jir_ rfl (x_usd1 1 rfl rfl lt_) (j1_ 10 (jio_ rfl (O_ustr1 1 (xs := xs) [Ent.blk bb 54 [p, vL xsA xs.length xsC]] rfl rfl rfl Tryd.underlying97 (by kernel_rfl) lt_ lt_ rfl ?_)) (fun _ h => ⟨h.keep [false, false] rfl, fun _ => h⟩))) (fun _ h => ⟨h.keep [false, false] rfl, fun _ => h⟩))
 refine jp_ 11 rfl av_ ?_
 refine JA_done (by kernel_rfl) (gl_ rfl (fun _ h => h.keep [false] rfl)) ?_
 refine n_ (rt_ ?_)
 exact p1 Tryd.results32 rfl ⟨rfl, rfl⟩
theorem str_ok (bb : Nat) (p : Value) (xs : List UInt8) (xsA : Option Addr) (xsC : Nat) (w : World) (q0 : xs.length ≤ 1000000000) (hg : Give (Lown [Ent.blk bb 54 [p, vL xsA xs.length xsC], Ent.row (.slice xsA xs.length xsC) 5 1 xs.length (xs.map vU8)]) w [Ent.blk bb 54 [p, vL xsA xs.length xsC], Ent.row (.slice xsA xs.length xsC) 5 1 xs.length (xs.map vU8)]) : Calls Tryd.prog 32 #[pB bb 0] w (Gives (Lown [Ent.blk bb 54 [p, vL xsA xs.length xsC], Ent.row (.slice xsA xs.length xsC) 5 1 xs.length (xs.map vU8)]) w fun v L => v = vS xs ∧ L = []) := by
 cases xs with
 | nil => exact str_0 bb p xsA xsC w hg
 | cons c r => exact str_1 bb p (c :: r) xsA xsC w (Nat.succ_pos _) q0 hg
end Go.Proofs.YtbfiibgmgopnaaaDoor
