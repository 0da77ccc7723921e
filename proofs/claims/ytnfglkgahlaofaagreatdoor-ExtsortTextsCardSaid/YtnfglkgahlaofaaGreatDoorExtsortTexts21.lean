/- Pl44o, L44b in one text. -/
import Derived.Test.YtnfglkgahlaofaaGreatDoorCards
import Derived.Test.YtnfglkgahlaofaaGreatDoorTie
import Derived.Test.YtnfglkgahlaofaaGreatDoorExtsortTexts20
import Derived.Test.YtnfglkgahlaofaaGreatDoorC44r
import Derived.Test.YtnfglkgahlaofaaGreatDoorC44s
import Derived.Test.YtnfglkgahlaofaaGreatDoorRows
import GoSem.ClaimSeven
import Derived.LaidByTextLater
import Derived.SevenTiedAt
import Derived.LaidSub
import Derived.LaidOnce
namespace Go.Proofs.YtnfglkgahlaofaaGreatDoor
open Go.GV
namespace R44
theorem words_run {m : Bytes} (hm : ∀ c ∈ m, c ≠ 32) (hne : m ≠ []) (r : Bytes) : words (m ++ 32 :: r) = m :: words r := by
  unfold words
  rw [wordsGo_run m [] (32 :: r) hm, List.nil_append, wordsGo, if_pos rfl, if_neg hne]
theorem words_last {m : Bytes} (hm : ∀ c ∈ m, c ≠ 32) (hne : m ≠ []) : words m = [m] := by
  have := wordsGo_run m [] [] hm
  rw [List.append_nil, List.nil_append] at this
  unfold words
  rw [this, wordsGo, if_neg hne]
theorem words_sp (r : Bytes) : words (32 :: r) = words r := by
  unfold words
  rw [wordsGo, if_pos rfl, if_pos rfl]
theorem dec_mem {n : Nat} {c : UInt8} (h : c ∈ Lib.decDigits n) : c ≠ 32 ∧ c ≠ 44 := by
  have := List.all_eq_true.1 (dec_all n) c h
  unfold isD at this
  simp only [Bool.and_eq_true, decide_eq_true_eq] at this
  constructor <;> (rintro rfl; simp at this)
def tailW (k : Int) (d : Bool) : List Bytes := (if k = 1 then [[110, 117, 109, 98, 101, 114]] else if k = 2 then [[98, 105, 110, 97, 114, 121]] else []) ++ (if d = true then [DS] else [])
theorem fmt_words {f : SortField} (h : f.Kind = 0 ∨ f.Kind = 1 ∨ f.Kind = 2) : words (fmt1 f) = Lib.decDigits f.At.toNat :: Lib.decDigits f.Length.toNat :: tailW f.Kind f.Descending := by
  obtain ⟨a, n, k, d⟩ := f
  simp only at h
  have e : fmt1 ⟨a, n, k, d⟩ = Lib.decDigits a.toNat ++ 32 :: (Lib.decDigits n.toNat ++ (kindT k ++ (if d = true then desT else []))) := by
    unfold fmt1; simp [List.append_assoc]
  rw [e, words_run (fun c hc => (dec_mem hc).1) (dec_ne _)]
  congr 1
  show _ = Lib.decDigits n.toNat :: tailW k d
  rcases h with rfl | rfl | rfl <;> cases d
  · rw [show kindT 0 ++ (if false = true then desT else []) = [] from rfl, List.append_nil, words_last (fun c hc => (dec_mem hc).1) (dec_ne _)]; rfl
  · rw [show kindT 0 ++ (if true = true then desT else []) = 32 :: DS from rfl, words_run (fun c hc => (dec_mem hc).1) (dec_ne _)]; rfl
  · rw [show kindT 1 ++ (if false = true then desT else []) = 32 :: [110, 117, 109, 98, 101, 114] from rfl, words_run (fun c hc => (dec_mem hc).1) (dec_ne _)]; rfl
  · rw [show kindT 1 ++ (if true = true then desT else []) = 32 :: ([110, 117, 109, 98, 101, 114] ++ 32 :: DS) from rfl, words_run (fun c hc => (dec_mem hc).1) (dec_ne _)]; rfl
  · rw [show kindT 2 ++ (if false = true then desT else []) = 32 :: [98, 105, 110, 97, 114, 121] from rfl, words_run (fun c hc => (dec_mem hc).1) (dec_ne _)]; rfl
  · rw [show kindT 2 ++ (if true = true then desT else []) = 32 :: ([98, 105, 110, 97, 114, 121] ++ 32 :: DS) from rfl, words_run (fun c hc => (dec_mem hc).1) (dec_ne _)]; rfl
theorem field_back {f : SortField} (h : fok f = true) : fieldW (words (fmt1 f)) = some f := by
  have hk := fok_kind h
  have hf := fok_facts h
  have hm := most_le f.Kind
  rw [fmt_words (by omega)]
  have h1 : numV (Lib.decDigits f.At.toNat) = some f.At.toNat := numV_dec (by omega)
  have h2 : numV (Lib.decDigits f.Length.toNat) = some f.Length.toNat := numV_dec (by omega)
  have e1 : ((f.At.toNat : Nat) : Int) = f.At := by omega
  have e2 : ((f.Length.toNat : Nat) : Int) = f.Length := by omega
  have hk2 : f.Kind = 0 ∨ f.Kind = 1 ∨ f.Kind = 2 := by omega
  obtain ⟨a, n, k, d⟩ := f
  simp only at h1 h2 e1 e2 hk2
  unfold fieldW
  rw [if_pos (by simp)]
  show (match numV (Lib.decDigits a.toNat), numV (Lib.decDigits n.toNat) with
     | some a, some n => if (descOf (kindOf (tailW k d)).2).2 = [] then some (SortField.mk (a : Int) (n : Int) (kindOf (tailW k d)).1 (descOf (kindOf (tailW k d)).2).1) else none
     | _, _ => none) = _
  rw [h1, h2]
  simp only [e1, e2]
  rcases hk2 with rfl | rfl | rfl <;> cases d <;> rfl
theorem splitGo_run {x : Bytes} (hx : ∀ c ∈ x, c ≠ 44) : ∀ (cur rest : Bytes), splitGo 44 cur (x ++ rest) = splitGo 44 (cur ++ x) rest := by
  induction x with
  | nil => intro cur rest; rw [List.nil_append, List.append_nil]
  | cons c r ih =>
    intro cur rest
    rw [List.cons_append, splitGo, if_neg (hx c List.mem_cons_self), ih (fun y hy => hx y (List.mem_cons_of_mem _ hy))]
    simp
theorem join_two (x y : Bytes) (r : List Bytes) : Lib.join (x :: y :: r) [44, 32] = x ++ (44 :: 32 :: Lib.join (y :: r) [44, 32]) := by
  simp [Lib.join, List.intercalate, List.intersperse]
theorem split_join : ∀ (r : List Bytes) (x cur : Bytes), (∀ y ∈ x :: r, ∀ c ∈ y, c ≠ 44) → splitGo 44 cur (Lib.join (x :: r) [44, 32]) = (cur ++ x) :: r.map fun y => 32 :: y
  | [], x, cur, h => by
    have := splitGo_run (h x List.mem_cons_self) cur []
    rw [List.append_nil] at this
    rw [Lib.join_one, this]; rfl
  | y :: r, x, cur, h => by
    rw [join_two, splitGo_run (h x List.mem_cons_self), splitGo, if_pos rfl, splitGo, if_neg (by decide), split_join r y _ fun z hz => h z (List.mem_cons_of_mem _ hz)]
    rfl
theorem fmt1_no {f : SortField} {c : UInt8} (hc : c ∈ fmt1 f) : c ≠ 44 := by
  unfold fmt1 at hc
  simp only [List.mem_append] at hc
  rcases hc with ((((h | h) | h) | h) | h)
  · exact (dec_mem h).2
  · rintro rfl; revert h; decide
  · exact (dec_mem h).2
  · unfold kindT at h
    split at h
    · rintro rfl; revert h; decide
    · split at h
      · rintro rfl; revert h; decide
      · cases h
  · split at h
    · rintro rfl; revert h; decide
    · cases h
theorem fields_back : ∀ (l : List SortField), (∀ f ∈ l, fok f = true) → fieldsW (l.map fun f => 32 :: fmt1 f) = some l
  | [], _ => rfl
  | f :: l, h => by
    rw [List.map_cons, fieldsW, words_sp, field_back (h f List.mem_cons_self)]
    simp only
    rw [fields_back l fun g hg => h g (List.mem_cons_of_mem _ hg)]
    rfl
theorem parse_back {l : List SortField} (hv : valid l = true) : parseV (fmtV l) = (l, 0) := by
  have hok : ∀ f ∈ l, fok f = true := by
    unfold valid at hv
    exact fun f hf => List.all_eq_true.1 (Bool.and_eq_true_iff.1 hv).1 f hf
  cases l with
  | nil => rfl
  | cons f l =>
    have e : fmtV (f :: l) = Lib.join (fmt1 f :: l.map fmt1) [44, 32] := if_pos hv
    have hs : splitC 44 (fmtV (f :: l)) = fmt1 f :: l.map fun g => 32 :: fmt1 g := by
      rw [e]
      unfold splitC
      rw [split_join _ _ _ (fun y hy c hc => by
        rcases List.mem_cons.1 hy with rfl | hy
        · exact fmt1_no hc
        · obtain ⟨g, _, rfl⟩ := List.mem_map.1 hy
          exact fmt1_no hc), List.nil_append, List.map_map]
      rfl
    have hw : words (fmtV (f :: l)) ≠ [] := by
      have e2 : ∃ r, fmtV (f :: l) = Lib.decDigits f.At.toNat ++ 32 :: r := by
        rw [e]
        cases l with
        | nil => rw [List.map_nil, Lib.join_one]; unfold fmt1; exact ⟨_, by simp [List.append_assoc]; rfl⟩
        | cons g l => rw [List.map_cons, join_two]; unfold fmt1; exact ⟨_, by simp [List.append_assoc]; rfl⟩
      obtain ⟨r, hr⟩ := e2
      rw [hr, words_run (fun c hc => (dec_mem hc).1) (dec_ne _)]
      exact List.cons_ne_nil _ _
    have hf : fieldsW (splitC 44 (fmtV (f :: l))) = some (f :: l) := by
      rw [hs, fieldsW, field_back (hok f List.mem_cons_self)]
      simp only
      rw [fields_back l fun g hg => hok g (List.mem_cons_of_mem _ hg)]
      rfl
    unfold parseV
    rw [if_neg hw, hf]
    exact if_pos hv
theorem law_back {l o : List SortField} {e : Int} (h : (o, e) = parseV (fmtV l)) : ((!(valid l)) || ((decide (e = 0)) && (decide (o = l)))) = true := by
  cases hv : valid l with
  | false => rfl
  | true => rw [parse_back hv] at h; cases h; simp
end R44
end Go.Proofs.YtnfglkgahlaofaaGreatDoor

namespace Go.Proofs.YtnfglkgahlaofaaGreatDoor
open Go.GV
set_option linter.unusedVariables false
set_option linter.unusedSimpArgs false
theorem l44b0_ {p : Prop} (h : p := by first | assumption | exact Nat.le_trans (R44.pv_cnt (by assumption)) (by omega)) : p := h
theorem l44b1_ {p : Prop} (h : p := by first | exact (R44.law_pars (by assumption) (by assumption) (by assumption)).elim | exact R44.law_back (by assumption)) : p := h
set_option maxRecDepth 20000 in
theorem f10_ok (s : Bytes) (l : List SortField) (lA : Option Addr) (lC : Nat) (w : World) (lR : RO [] w lA (l.flatMap SortField.enc)) (hT : Tab [] w) (q0 : l.length ≤ 9223372036854775807) (q1 : s.length ≤ 9223372036854775807) : Calls Tryz.prog 10 #[vS s, vL lA l.length lC] w (Gives [] w fun v L => v = vB true ∧ L = []) := by
 refine calls_J [] 58 Tryz.func10 rfl Tryz.ntmps10 [(0, _), (1, _)] rfl rfl (Give.nil w) ?_
 refine q_ (g_ (s_ av_ (z_ (n_ (q_ (q_ (g_ (c0 (cl_ Ty.ca11) (fun w hS => f11_ok w (hT.on hS (fun _ h => by cases h))) (jr_ (vB false) (z_ (n_ (iff_ (sk_ (n_ (q_ (q_ (g_ (s_ mv_ (s_ (x_len_s rfl Tryz.underlying9) (s_ (x_gtr_i rfl rfl) ?_))))))))))))))))))))
 refine s_ mv_ ?_
 refine or_ 3 (decide ((12 : Int) < ((l.length : Nat) : Int))) (fun g1 => ?_) ?_
 ·have g1r := g1
  have g1r := of_decide_eq_false g1r
  refine sg_ g1 mv_ (sg_ g1 (lnS Tryz.underlying24) (sg_ g1 (x_gtr_i rfl rfl) ?_))
  exact cr_
 refine z_ (n_ ?_)
 refine if_ (fun h2 => ?_) (fun h2 => ?_)
 ·have h2w := h2
  simp only [Bool.and_eq_true, Bool.or_eq_true, Bool.and_eq_false_iff, Bool.or_eq_false_iff, Bool.not_eq_true', Bool.not_eq_false', decide_eq_true_eq, decide_eq_false_iff_not] at h2
  refine q_ (g_ (s_ av_ (z_ (n_ (rt_ (nr_ ?_))))))
  exact p1 Tryz.results10 rfl ⟨rfl, rfl⟩
 ·have h2w := h2
  have ⟨h2, h3⟩ := bor_false h2
  have h2 := of_decide_eq_false h2
  have h3 := of_decide_eq_false h3
  refine sk_ (n_ (q_ (g_ (s_ mv_ ?_))))
  refine c1 (cl_ Ty.ca27) (fun w hS => f27_ok s w (hT.on hS (fun _ h => by cases h)) (by first | omega | exact Nat.le_trans (R44.fmtV_len _) (by omega))) ?_
  rintro _ _ ⟨out4, outA5, outC6, e7, rfl, rfl, hf8⟩
  refine s_ mv_ (s_ (ex_ 0) (s_ (ex_ 1) (s_ av_ (s_ av_ (z_ (n_ (q_ (g_ (s_ mv_ ?_)))))))))
  refine c1 (cl_ Ty.ca28) (fun w hS => f28_ok s w hy_) ?_
  rintro _ _ ⟨out9, outA10, outC11, e12, rfl, rfl, hf13⟩
  refine s_ mv_ (s_ (ex_ 0) (s_ (ex_ 1) (s_ av_ (s_ av_ (z_ (xk_ [1, 4, 5, 6, 7, 8] ?_))))))
  refine n_ (q_ (q_ (g_ (s_ mv_ (s_ mv_ (c0 (cl_ Ty.ca29) (fun w hS => f29_ok out4 _ _ out9 _ _ w (RO.of_row hS 1 rfl) (RO.of_row hS 0 rfl) l44b0_ l44b0_) (s_ (x_not rfl) (s_ mv_ ?_))))))))
  refine or_ 3 (decide (e7 ≠ e12)) (fun g14 => ?_) ?_
  ·have g14r := g14
   have g14r : (decide (out4 = out9)) = true := bnot_false g14r
   have g14r := of_decide_eq_true g14r
   refine sg_ g14 mv_ (sg_ g14 mv_ (sg_ g14 (x_neq_i rfl rfl) ?_))
   exact cr_
  refine z_ (n_ ?_)
  refine if_ (fun h15 => ?_) (fun h15 => ?_)
  ·have h15w := h15
   simp only [Bool.and_eq_true, Bool.or_eq_true, Bool.and_eq_false_iff, Bool.or_eq_false_iff, Bool.not_eq_true', Bool.not_eq_false', decide_eq_true_eq, decide_eq_false_iff_not] at h15
   refine q_ (g_ (s_ av_ (z_ (n_ (rt_ (nr_ ?_))))))
   exact p1 Tryz.results10 rfl ⟨(eB l44b1_), rfl⟩
  ·have h15w := h15
   have ⟨h15, h16⟩ := bor_false h15
   have h15 : (decide (out4 = out9)) = true := bnot_false h15
   have h15 := of_decide_eq_true h15
   have h16 := of_decide_eq_false h16
   refine sk_ (n_ (q_ (g_ (s_ mv_ (c0 (cl_ Ty.ca25) (fun w hS => f25_ok l lA lC w (rno lR hS) (hT.on hS (fun _ h => by cases h)) hy_) ?_)))))
   have ha17 := R44.fmtV_len l
   refine c1 (cl_ Ty.ca27) (fun w hS => f27_ok _ w (hT.on hS (fun _ h => by cases h)) (by first | omega | exact Nat.le_trans (R44.fmtV_len _) (by omega))) ?_
   rintro _ _ ⟨out18, outA19, outC20, e21, rfl, rfl, hf22⟩
   refine s_ mv_ (s_ (ex_ 0) (s_ (ex_ 1) (s_ av_ (s_ av_ (z_ (n_ (q_ (g_ (s_ mv_ (c0 (cl_ Ty.ca21) (fun w hS => f21_ok l lA lC w (rno lR hS) hy_) (s_ (x_not rfl) (s_ mv_ ?_))))))))))))
   refine or_ 7 ((decide (e21 = 0)) && (decide (out18 = l))) (fun g23 => ?_) ?_
   ·have g23r := g23
    have g23r : (R44.valid l) = true := bnot_false g23r
    have hi24 := R44.valid_facts g23r
    refine sg_ g23 mv_ (sg_ g23 (x_eql_i rfl rfl) (sg_ g23 mv_ ?_))
    refine and_ 3 (decide (out18 = l)) (fun g25 => ?_) ?_ (hw := by exact ⟨_, rfl, g23⟩)
    ·have g25r := g25
     have g25r := of_decide_eq_true g25r
     refine sg_ g25 mv_ (sg_ g25 mv_ (c0g g25 (cl_ Ty.ca29) (fun w hS => f29_ok _ _ _ l lA lC w (RO.of_row hS 0 rfl) (rno lR hS) l44b0_ l44b0_) ?_))
     exact cr_
    exact cr_
   refine s_ av_ (z_ (xk_ [4] ?_))
   refine n_ (rt_ ?_)
   exact p1 Tryz.results10 rfl ⟨(eB l44b1_), rfl⟩
end Go.Proofs.YtnfglkgahlaofaaGreatDoor


