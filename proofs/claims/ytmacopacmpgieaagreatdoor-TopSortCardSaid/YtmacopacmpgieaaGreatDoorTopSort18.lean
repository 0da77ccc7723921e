/- Pt44, Ch, GvAb, Ci in one text. -/
import Derived.Test.YtmacopacmpgieaaGreatDoorCards
import Derived.Test.YtmacopacmpgieaaGreatDoorTie
import Derived.Test.YtmacopacmpgieaaGreatDoorTopSort17
import Derived.Test.YtmacopacmpgieaaGreatDoorC44e
import Derived.Test.YtmacopacmpgieaaGreatDoorTopSort4
import Derived.Test.YtmacopacmpgieaaGreatDoorRows
import GoSem.ClaimSeven
import Derived.LaidByTextLater
import Derived.SevenTiedAt
import Derived.LaidSub
import Derived.LaidOnce
set_option linter.unusedVariables false
set_option linter.unusedSimpArgs false
namespace Go.Proofs.YtmacopacmpgieaaGreatDoor
open Go.GV
namespace Srt
variable {β : Type} {c : β → β → Int}
def ahead (c : β → β → Int) (R : β → β → Prop) (p q : β) : Prop := c p q < 0 ∨ (c p q = 0 ∧ R p q)
theorem ahead_le {R : β → β → Prop} {p q : β} (h : ahead c R p q) : c p q ≤ 0 := by rcases h with h | h <;> omega
theorem ins_ahead (h : Cmp c) {R : β → β → Prop} : ∀ {l : List β} {x : β}, l.Pairwise (ahead c R) → (∀ y ∈ l, R y x) → (ins c l x).Pairwise (ahead c R)
  | [], _, _, _ => List.pairwise_singleton _ _
  | y :: r, x, ho, ht => by
    have ho' := List.pairwise_cons.1 ho
    rw [ins]; split
    · rename_i hc
      refine List.pairwise_cons.2 ⟨fun z hz => ?_, ins_ahead h ho'.2 fun z hz => ht z (List.mem_cons_of_mem _ hz)⟩
      rcases ins_mem.1 hz with rfl | hz
      · have := ht y List.mem_cons_self
        by_cases h0 : c y z = 0
        · exact .inr ⟨h0, this⟩
        · exact .inl (by omega)
      · exact ho'.1 z hz
    · rename_i hc
      have hx : c x y < 0 := by have := h.anti y x; omega
      refine List.pairwise_cons.2 ⟨fun z hz => .inl ?_, ho⟩
      rcases List.mem_cons.1 hz with rfl | hz
      · exact hx
      · have h1 := ahead_le (ho'.1 z hz)
        have h2 := h.trans x y z (by omega) h1
        by_cases h0 : c x z = 0
        · have h3 := h.trans y z x h1 (by have := h.anti x z; omega)
          have := h.anti x y; omega
        · omega
theorem foldl_ahead (h : Cmp c) {R : β → β → Prop} : ∀ (l m : List β), l.Pairwise R → (∀ x ∈ l, ∀ y ∈ m, R y x) → m.Pairwise (ahead c R) → (l.foldl (ins c) m).Pairwise (ahead c R)
  | [], _, _, _, ho => ho
  | x :: l, m, hl, hm, ho => by
    have hl' := List.pairwise_cons.1 hl
    refine foldl_ahead h l _ hl'.2 (fun z hz y hy => ?_) (ins_ahead h ho (hm x List.mem_cons_self))
    rcases ins_mem.1 hy with rfl | hy
    · exact hl'.1 z hz
    · exact hm z (List.mem_cons_of_mem _ hz) y hy
theorem srt_ahead (h : Cmp c) {R : β → β → Prop} {l : List β} (hl : l.Pairwise R) : (srt c l).Pairwise (ahead c R) := foldl_ahead h l [] hl (fun _ _ _ hy => (by cases hy)) .nil
end Srt
open Srt (Cmp)
namespace R44
theorem cmpL_app : ∀ (b a : List SortField) (x y : Bytes), cmpL (b ++ a) x y = if cmpL b x y ≠ 0 then cmpL b x y else cmpL a x y
  | [], _, _, _ => by rw [List.nil_append, cmpL, if_neg (by simp)]
  | f :: r, a, x, y => by
    rw [List.cons_append, cmpL, cmpL, cmpL_app r a x y]
    by_cases h : cmp1 f x y = 0 <;> simp [h]
theorem srt_two (a b : List SortField) (rs : List Bytes) : Srt.srt (cmpL b) (Srt.srt (cmpL a) rs) = Srt.srt (cmpL (b ++ a)) rs := by
  have ha := cmpL_ok a
  have hb := cmpL_ok b
  have h1 : (Srt.srt (Srt.tc (cmpL a)) rs.zipIdx).Pairwise (Srt.lt (cmpL a)) := Srt.foldl_lt ha rs.zipIdx [] (Srt.zip_tags rs 0) (fun _ _ _ hy => (by cases hy)) .nil
  have h2 := Srt.srt_ahead hb.tagged h1
  have h3 : (Srt.srt (Srt.tc (cmpL b)) (Srt.srt (Srt.tc (cmpL a)) rs.zipIdx)).Pairwise (Srt.lt (cmpL (b ++ a))) := h2.imp fun {p q} h => by
    show cmpL (b ++ a) p.1 q.1 < 0 ∨ (cmpL (b ++ a) p.1 q.1 = 0 ∧ p.2 < q.2)
    rw [cmpL_app]
    rcases h with h | ⟨h, h4⟩
    · have h : cmpL b p.1 q.1 < 0 := h
      rw [if_pos (by omega)]; exact .inl h
    · have h : cmpL b p.1 q.1 = 0 := h
      rw [if_neg (by omega)]; exact h4
  have h5 := Srt.canon (cmpL_ok (b ++ a)) h3 (l := rs) ((Srt.srt_perm _).trans (Srt.srt_perm _))
  rw [← h5]
  have e1 := Srt.srt_map (c := cmpL a) Prod.fst rs.zipIdx
  rw [List.zipIdx_map_fst] at e1
  have e2 := Srt.srt_map (c := cmpL b) Prod.fst (Srt.srt (Srt.tc (cmpL a)) rs.zipIdx)
  rw [e1]
  exact e2
theorem short_of {rs : List Bytes} {k : Nat} (h : ∀ i, i < k → (rs.getD i []).length ≤ 60) (hk : rs.length ≤ k) (i : Nat) : (rs.getD i []).length ≤ 60 := by
  by_cases hi : i < rs.length
  · exact h i (by omega)
  · rw [List.getD_eq_getElem?_getD, List.getElem?_eq_none (by omega)]; exact Nat.zero_le _
theorem sv_cases {l : List SortField} {m fan x y z e : Int} {rs out : List Bytes} (hs : ∀ i, (rs.getD i []).length ≤ 60) (h : (out, SortWork.mk x y z, e) = sortV l m fan idF noF rs) : (out = [] ∧ e ≠ 0) ∨ (out = Srt.srt (cmpL l) rs ∧ e = 0 ∧ valid l = true ∧ g1 l m fan = false) := by
  unfold sortV at h
  split at h
  · cases h; exact .inl ⟨rfl, by decide⟩
  · rename_i h1
    have h1 : g1 l m fan = false := by simpa using h1
    split at h
    · cases h; exact .inl ⟨rfl, by decide⟩
    · rename_i h2
      rw [← inR_id (by simpa using h2), if_neg (by simp), ← sums_no, if_neg (by simp)] at h
      cases h
      exact .inr ⟨rfl, rfl, (g1_facts h1).1, h1⟩
theorem sv_short {l : List SortField} {m fan x y z e : Int} {rs out : List Bytes} (hs : ∀ i, (rs.getD i []).length ≤ 60) (h : (out, SortWork.mk x y z, e) = sortV l m fan idF noF rs) (i : Nat) : (out.getD i []).length ≤ 60 := by
  rcases sv_cases hs h with h | h
  · rw [h.1]; exact Nat.zero_le _
  · by_cases hi : i < out.length
    · have hp : out.Perm rs := by rw [h.1]; exact Srt.srt_perm rs
      obtain ⟨j, hj, e⟩ := getD_ex (d := []) (hp.mem_iff.1 (getD_mem (d := []) hi))
      rw [← e]; exact hs j
    · rw [List.getD_eq_getElem?_getD, List.getElem?_eq_none (by omega)]; exact Nat.zero_le _
theorem law_err {l : List SortField} {m fan x y z e : Int} {rs out : List Bytes} (he : e ≠ 0) (hs : ∀ i, (rs.getD i []).length ≤ 60) (h : (out, SortWork.mk x y z, e) = sortV l m fan idF noF rs) : decide (((out.length : Nat) : Int) = 0) = true := by
  rcases sv_cases hs h with h | h
  · rw [h.1]; rfl
  · exact absurd h.2.1 he
theorem valid_app {a b : List SortField} (ha : valid a = true) (hb : valid b = true) (hl : a.length ≤ 4) (hl2 : b.length ≤ 4) : valid (b ++ a) = true := by
  unfold valid at *
  rw [Bool.and_eq_true] at ha hb
  rw [List.all_append, ha.1, hb.1, List.length_append]
  exact decide_eq_true (by omega)
theorem law_top {a b : List SortField} {m fan m2 fan2 x y z e x2 y2 z2 e2 x3 y3 z3 e3 : Int} {rs o1 o2 o3 : List Bytes} (hl : a.length ≤ 4) (hl2 : b.length ≤ 4) (hr : rs.length ≤ 40) (hs : ∀ i, (rs.getD i []).length ≤ 60) (h1 : (o1, SortWork.mk x y z, e) = sortV a m fan idF noF rs) (he : ¬ e ≠ 0) (h2 : (o2, SortWork.mk x2 y2 z2, e2) = sortV b m2 fan2 idF noF o1) (he2 : ¬ e2 ≠ 0) (h3 : (o3, SortWork.mk x3 y3 z3, e3) = sortV (b ++ a) m fan idF noF rs) : (decide (e3 = 0) && decide (o2 = o3)) = true := by
  rcases sv_cases hs h1 with c1 | c1
  · exact absurd c1.2 he
  rcases sv_cases (fun i => sv_short hs h1 i) h2 with c2 | c2
  · exact absurd c2.2 he2
  have hg := g1_facts c1.2.2.2
  have c3 := sv_plain (valid_app c1.2.2.1 c2.2.2.1 hl hl2) hg.2.1 hg.2.2.1 hg.2.2.2.1 hg.2.2.2.2 (by omega) (fun i => by have := hs i; omega) h3
  rw [c3.2.1, c3.1, c2.1, c1.1, srt_two]; simp
end R44
end Go.Proofs.YtmacopacmpgieaaGreatDoor

namespace Go.Proofs.YtmacopacmpgieaaGreatDoor
open Go.GV
set_option linter.unusedVariables false
set_option linter.unusedSimpArgs false
theorem ch0_ {p : Prop} (h : p := by first | exact R44.texts_len (by omega) | exact R44.texts_bad (i := k) (by assumption) | exact R44.texts_end i1_1 (fun i hi => i1_2 i (by omega))) : p := h
set_option maxRecDepth 20000 in
theorem f6_ok (a : List Bytes) (aA : Option Addr) (aC : Nat) (b : List Bytes) (bA : Option Addr) (bC : Nat) (w : World) (aR : RO [] w aA (a.map vS)) (bR : RO [] w bA (b.map vS)) (q0 : a.length ≤ 9223372036854775807) (q1 : b.length ≤ 9223372036854775807) : Calls Tryz.prog 6 #[vL aA a.length aC, vL bA b.length bC] w (Gives [] w fun v L => v = vB (decide (a = b)) ∧ L = []) := by
 refine calls_J [] 26 Tryz.func6 rfl Tryz.ntmps6 [(0, _), (1, _)] rfl rfl (Give.nil w) ?_
 refine q_ (g_ (s_ av_ (z_ (n_ (q_ (q_ (g_ (s_ mv_ (s_ (lnS Tryz.underlying22) (s_ mv_ (s_ (lnS Tryz.underlying22) (s_ (x_neq_i rfl rfl) (z_ (n_ ?_))))))))))))))
 refine ifd (fun h1w h1 => ?_) (fun h1w h1 => ?_)
 ·refine q_ (g_ (s_ av_ (z_ (n_ (rt_ (nr_ ?_))))))
  exact p1 Tryz.results6 rfl ⟨(eB ch0_), rfl⟩
 ·refine sk_ (n_ (q_ (q_ (g_ (s_ mv_ (s_ (lnS Tryz.underlying22) (s_ mv_ (z_ (n_ (k_ ?_))))))))))
  refine J_loop (X := Nat) (fun (k : Nat) => (k ≤ a.length) ∧ (a.length = b.length) ∧ (∀ i, i < k → a.getD i [] = b.getD i [])) (fun (k : Nat) => [(0, vL aA a.length aC), (1, vL bA b.length bC), (12, vI ((a.length : Nat) : Int)), (13, vI ((k : Nat) : Int))]) (fun (k : Nat) => []) (fun (k : Nat) => a.length - k) (0 : Nat) ?_ ⟨rfl, rfl, rfl, rfl, trivial⟩ (fun _ h => h) ?_
  ·try dsimp only
   refine ⟨?_, ?_, ?_⟩
   ·first | rfl | omega | (simp_all; done) | (simp_all; omega)
   ·omega
   ·intro i hi; omega
  intro k hI1
  obtain ⟨i1_0, i1_1, i1_2⟩ := hI1
  try dsimp only at i1_0
  try dsimp only at i1_1
  try dsimp only at i1_2
  try dsimp only
  refine q_ (g_ (s_ (x_lss_i rfl rfl) (z_ (n_ (q_ ?_)))))
  refine ifd (fun h2w h2 => ?_) (fun h2w h2 => ?_)
  ·refine sk_ (n_ (q_ (k_ (q_ (g_ (s_ mv_ (s_ av_ (z_ (n_ (q_ ?_))))))))))
   refine drB [] 9 Ty.mixed ?_
   refine jp_ 0 rfl mv_ (jp_ 1 rfl mv_ (jq_ 2 rfl (ixM (cells_ro aR) Tryz.underlying22 Ty.sz9) (jq_ 3 rfl (ldM vS [] (cells_ro aR) Ty.sc9) (jp_ 4 rfl mv_ (jp_ 5 rfl mv_ (jq_ 6 rfl (ixM (cells_ro bR) Tryz.underlying22 Ty.sz9) (jq_ 7 rfl (ldM vS [] (cells_ro bR) Ty.sc9) (jp_ 8 rfl (x_neq_s rfl rfl) ?_))))))))
   refine JA_done (by kernel_rfl) gm_ ?_
   refine n_ ?_
   refine ifd (fun h3w h3 => ?_) (fun h3w h3 => ?_)
   ·refine q_ (g_ (s_ av_ (z_ (n_ (rt_ (kq_ (nr_ (rr_ (kq_ (nr_ ?_))))))))))
    exact p1 Tryz.results6 rfl ⟨(eB ch0_), rfl⟩
   ·refine sk_ (kx_ (n_ (g_ (s_ (x_add_n (a := k) (b := 1) rfl rfl (by omega)) (s_ mv_ (z_ ?_))))))
    refine JX_round (k + 1 : Nat) ?_ ?_ ⟨rfl, rfl, rfl, rfl, trivial⟩ (fun _ h => h)
    ·try dsimp only
     refine ⟨?_, ?_, ?_⟩
     ·first | rfl | omega | (simp_all; done) | (simp_all; omega)
     ·first | rfl | omega | (simp_all; done) | (simp_all; omega)
     ·intro i hi
      by_cases hik : i = k
      ·subst hik; simp_all
      ·exact i1_2 i (by omega)
    ·try dsimp only
     first | omega | (simp; omega) | (simp_all; omega)
  ·refine J_exit (ne_ (re_ (kh_ (n_ (q_ ?_)))))
   refine g_ (s_ av_ (z_ (n_ (rt_ ?_))))
   exact p1 Tryz.results6 rfl ⟨(eB ch0_), rfl⟩
end Go.Proofs.YtmacopacmpgieaaGreatDoor

namespace Go.GV
open Go.RowKit
section
variable {P : Program} {n : Dim} {S : List Nat} {w0 : World} {Q : Post} {E : Env} {L : List Ent} {ops : Array Oper} {o : Oper} {Lg Lu : List Ent} {us : List Nat} {fuel : Nat} {listed : Array Bool}
theorem wpAnyG_monoG {ro : Option Nat} {G1 G2 : Array Bool → World → Prop} (hG : ∀ l w, G1 l w → G2 l w) : ∀ (fuel : Nat) (listed : Array Bool) (a : Act) (w : World), wpAnyG ro P ops Q G1 fuel listed a w → wpAnyG ro P ops Q G2 fuel listed a w
  | 0, _, _, _, h => ⟨hG _ _ h.1, h.2.1, h.2.2⟩
  | fuel + 1, listed, a, w, h => ⟨hG _ _ h.1, h.2.1, fun i hi => wpOpIn_mono (fun a w h => wpAnyG_monoG hG fuel _ a w h) (h.2.2 i hi)⟩
theorem JI_callB {i : Nat} (Sc : List Nat) (Lc Lr : List Ent) {f : FuncId} {args : Array Value} {φ : World → Value → List Ent → World → Prop} (hi : ops[i]? = some o) (hfit : fit n E o = true) (hw : wants ops E o)
    (hr : ∀ w, (execOp (ev E) o).run P w = .ok (.enter f args) w) (hL : ∀ w, St S w0 w L → St S w0 w (Lc ++ Lr)) (hS : ∀ b ∈ Sc, ∃ e ∈ Lc, e.own = some b)
    (hc : ∀ w, St S w0 w (Lc ++ Lr) → Calls P f args w (GivesW Sc w (φ w)))
    (h : ∀ w v L' w', φ w v L' w' → St S w0 w (Lc ++ Lr) → St S w0 w' (L' ++ Lr) → JA P n (Lown (L' ++ Lr)) w' ops Q Lg us Lu fuel (listed.setIfInBounds i true) (put E o.dst v) (L' ++ Lr)) : JI P n S w0 ops Q Lg us Lu fuel listed E L i := by
  intro a w hR hSt hcl
  unfold wpOpIn
  rw [hi]
  simp only [wants_wanted hR hw, if_true]
  refine ⟨fun _ _ => trivial, ?_⟩
  rw [fit_sem hfit hR, hr w]
  refine ⟨fun h => (by cases h), (callsIn_wd (m := 0 - 1)).2 ((hc w (hL w hSt)).mono ?_)⟩
  rintro e w' ⟨v, L', rfl, hφ, hS'⟩
  have hs := (hL w hSt).after hS hS'
  exact wpAnyG_monoG (fun l w2 hG => ⟨hs.back _ _ hG.1, fun hu => hs.back _ _ (hG.2 hu)⟩) _ _ _ _ (h w v L' w' hφ (hL w hSt) hs _ _ (hR.put (fit_dst hfit) v) hs.base hcl)
end
end Go.GV

namespace Go.Proofs.YtmacopacmpgieaaGreatDoor
open Go.GV
set_option linter.unusedVariables false
set_option linter.unusedSimpArgs false
theorem ci0_ {p : Prop} (h : p := by have hsh := R44.short_of i1_1 (by omega); first | exact fun i => Nat.le_trans (hsh i) (by decide) | exact fun i => Nat.le_trans (R44.sv_short hsh (by assumption) i) (by decide)) : p := h
set_option maxRecDepth 20000 in
theorem f3_ok (rs : List Bytes) (rsA : Option Addr) (rsC : Nat) (a : List SortField) (aA : Option Addr) (aC : Nat) (b : List SortField) (bA : Option Addr) (bC : Nat) (p : SortPlan) (q : SortPlan) (w : World) (rsR : RO [] w rsA (rs.map vS)) (aR : RO [] w aA (a.flatMap SortField.enc)) (bR : RO [] w bA (b.flatMap SortField.enc)) (hT : Tab [] w) (q0 : rs.length ≤ rsC ∧ rs.length ≤ 9223372036854775807) (q1 : a.length ≤ 9223372036854775807) (q2 : b.length ≤ 9223372036854775807) : Calls Tryz.prog 3 #[vL rsA rs.length rsC, vL aA a.length aC, vL bA b.length bC, vG [vI p.Memory, vI p.Fan], vG [vI q.Memory, vI q.Fan]] w (Gives [] w fun v L => v = vB true ∧ L = []) := by
 refine calls_J [] 93 Tryz.func3 rfl Tryz.ntmps3 [(0, _), (1, _), (2, _), (3, _), (4, _)] rfl rfl (Give.nil w) ?_
 refine q_ (g_ (o_ (bxG fun b1 => ?_)))
 refine o_ (bxG fun b2 => ?_)
 refine s_ av_ (z_ (n_ (q_ (q_ (g_ (c0 (cl_ Ty.ca4) (fun w hS => f4_ok w (hT.on hS (fun _ h => by cases h))) (jr_ (vB false) (z_ (n_ (iff_ (sk_ (n_ (q_ (q_ (g_ (s_ mv_ (s_ (lnS Tryz.underlying22) (s_ (x_gtr_i rfl rfl) (s_ mv_ ?_)))))))))))))))))))
 refine or_ 3 (decide ((4 : Int) < ((a.length : Nat) : Int))) (fun g3 => ?_) ?_
 ·have g3r := g3
  have g3r := of_decide_eq_false g3r
  refine sg_ g3 mv_ (sg_ g3 (lnS Tryz.underlying23) (sg_ g3 (x_gtr_i rfl rfl) ?_))
  exact cr_
 refine s_ mv_ ?_
 refine or_ 3 (decide ((4 : Int) < ((b.length : Nat) : Int))) (fun g4 => ?_) ?_
 ·have g4r := g4
  have ⟨g4r, h5⟩ := bor_false g4r
  have g4r := of_decide_eq_false g4r
  have h5 := of_decide_eq_false h5
  refine sg_ g4 mv_ (sg_ g4 (lnS Tryz.underlying23) (sg_ g4 (x_gtr_i rfl rfl) ?_))
  exact cr_
 refine z_ (n_ ?_)
 refine if_ (fun h6 => ?_) (fun h6 => ?_)
 ·have h6w := h6
  simp only [Bool.and_eq_true, Bool.or_eq_true, Bool.and_eq_false_iff, Bool.or_eq_false_iff, Bool.not_eq_true', Bool.not_eq_false', decide_eq_true_eq, decide_eq_false_iff_not] at h6
  refine q_ (g_ (s_ av_ (z_ (n_ (rt_ (nr_ ?_))))))
  exact p1 Tryz.results3 rfl ⟨rfl, rfl⟩
 ·have h6w := h6
  have ⟨h6, h7⟩ := bor_false h6
  have ⟨h6, h8⟩ := bor_false h6
  have h6 := of_decide_eq_false h6
  have h8 := of_decide_eq_false h8
  have h7 := of_decide_eq_false h7
  refine sk_ (n_ (q_ (q_ (g_ (s_ mv_ (s_ (lnS Tryz.underlying22) (s_ mv_ (z_ (n_ (k_ ?_))))))))))
  refine J_loop (X := Nat) (fun (k : Nat) => (k ≤ rs.length) ∧ (∀ i, i < k → (rs.getD i []).length ≤ 60)) (fun (k : Nat) => [(0, vL rsA rs.length rsC), (1, vL aA a.length aC), (2, vL bA b.length bC), (8, pB b1 0), (9, pB b2 0), (35, vL rsA rs.length rsC), (36, vI ((rs.length : Nat) : Int)), (37, vI ((k : Nat) : Int))]) (fun (k : Nat) => [Ent.blk b2 25 [vI q.Memory, vI q.Fan], Ent.blk b1 25 [vI p.Memory, vI p.Fan]]) (fun (k : Nat) => rs.length - k) (0 : Nat) ?_ ⟨rfl, rfl, rfl, rfl, rfl, rfl, rfl, rfl, trivial⟩ (fun _ h => h) ?_
  ·try dsimp only
   refine ⟨?_, ?_⟩
   ·first | rfl | omega | (simp_all; done) | (simp_all; omega)
   ·intro i hi; omega
  intro k hI1
  obtain ⟨i1_0, i1_1⟩ := hI1
  try dsimp only at i1_0
  try dsimp only at i1_1
  try dsimp only
  refine q_ (g_ (s_ (x_lss_i rfl rfl) (z_ (n_ (q_ ?_)))))
  refine ifd (fun h9w h9 => ?_) (fun h9w h9 => ?_)
  ·refine sk_ (n_ (q_ (k_ (q_ (g_ (r_ (ixM (cells_ro rsR) Tryz.underlying22 Ty.sz9) (r_ (ldM vS [] (cells_ro rsR) Ty.sc9) (s_ av_ (z_ (n_ (q_ (g_ (s_ mv_ (s_ (x_len_s rfl Tryz.underlying9) (s_ (x_gtr_i rfl rfl) (z_ (n_ ?_)))))))))))))))))
   refine ifd (fun h10w h10 => ?_) (fun h10w h10 => ?_)
   ·refine q_ (g_ (s_ av_ (z_ (n_ (rt_ (kq_ (nr_ (rr_ (kq_ (nr_ ?_))))))))))
    exact p1 Tryz.results3 rfl ⟨rfl, rfl⟩
   ·refine sk_ (kx_ (n_ (g_ (s_ (x_add_n (a := k) (b := 1) rfl rfl (by omega)) (s_ mv_ (z_ ?_))))))
    refine JX_round (k + 1 : Nat) ?_ ?_ ⟨rfl, rfl, rfl, rfl, rfl, rfl, rfl, rfl, trivial⟩ (fun _ h => h)
    ·try dsimp only
     refine ⟨?_, ?_⟩
     ·first | rfl | omega | (simp_all; done) | (simp_all; omega)
     ·intro i hi
      by_cases hik : i = k
      ·subst hik; omega
      ·exact i1_1 i (by omega)
    ·try dsimp only
     first | omega | (simp; omega) | (simp_all; omega)
  ·refine J_exit (ne_ (re_ (kh_ (n_ (q_ ?_)))))
   refine g_ (s_ mv_ (r_ (ldN 1 [vI p.Memory, vI p.Fan] Ty.ag25 Ty.sz25) (s_ mv_ (js_ (vG [Value.nilFunc, Value.nilFunc]) (x_build (by kernel_rfl)) ?_))))
   refine JO_callB [] [] [Ent.blk b2 25 [vI q.Memory, vI q.Fan], Ent.blk b1 25 [vI p.Memory, vI p.Fan]] rfl trivial (fun _ => x_call Ty.ca5 rfl) (fun _ h => h) (fun _ h => by cases h) (fun w hS => f5_ok rs rsA rsC p.Memory p.Fan a aA aC w (rsR.on hS (fun _ h => by cases h)) (aR.on hS (fun _ h => by cases h)) hy_ ci0_ (by first | exact q0.1 | assumption) hy_) ?_
   rintro wc _ _ wbhB16 ⟨rout, routA, routC, e11, e12, e13, e14, rfl, rfl, routR, routL, hf15⟩ hc0 hB16
   have rsR := rsR.again hB16
   have aR := aR.again hB16
   have bR := bR.again hB16
   have hT := hT.again hB16
   have routR := routR.mono (lown_range hc0)
   have ha17 := R44.sv_len (by assumption)
   refine s_ mv_ (s_ (ex_ 0) (s_ (ex_ 1) (s_ (ex_ 2) (o_ (al_ Ty.ze28 fun b18 => ?_)))))
   refine s_ av_ (o_ (stG 0 Ty.sz28 ?_))
   refine s_ av_ (z_ (xk_ [0, 1, 2, 8, 9, 13, 15] ?_))
   refine n_ (q_ (q_ (g_ (s_ mv_ (s_ (x_neq_i rfl rfl) (z_ (n_ ?_)))))))
   refine ifd (fun h19w h19 => ?_) (fun h19w h19 => ?_)
   ·refine q_ (g_ (s_ mv_ (s_ (lnS Tryz.underlying22) (s_ (x_eql_i rfl rfl) (s_ av_ (z_ (n_ (rt_ (nr_ ?_)))))))))
    refine JX_retsC [_] _ Tryz.results3 (fun w h => ⟨rfl, trivial⟩) rfl _ (fun _ h => h.keep [false, false, false] rfl) (fun _ _ h => (hB16.back _ _ h)) ⟨?_, ?_⟩
    ·have e_x0 : (decide (((rout.length : Nat) : Int) = 0) : Bool) = true := by first | exact R44.law_err (by assumption) (R44.short_of i1_1 (by omega)) (by assumption) | exact R44.law_err (by assumption) (fun i => R44.sv_short (R44.short_of i1_1 (by omega)) (by assumption) i) (by assumption) | exact R44.law_top (a := a) (b := b) (by omega) (by omega) (by omega) (R44.short_of i1_1 (by omega)) (by assumption) (by assumption) (by assumption) (by assumption) (by assumption)
     exact congrArg (fun (x0 : Bool) => vB x0) e_x0
    ·rfl
   ·refine sk_ (n_ (q_ (g_ (s_ mv_ (r_ (ldN 1 [vI q.Memory, vI q.Fan] Ty.ag25 Ty.sz25) (s_ mv_ (js_ (vG [Value.nilFunc, Value.nilFunc]) (x_build (by kernel_rfl)) ?_)))))))
    refine JO_callB [] [] [Ent.blk b18 28 [vI e11, vI e12, vI e13], Ent.blk b2 25 [vI q.Memory, vI q.Fan], Ent.blk b1 25 [vI p.Memory, vI p.Fan]] rfl trivial (fun _ => x_call Ty.ca5 rfl) (fun _ h => h) (fun _ h => by cases h) (fun w hS => f5_ok rout routA routC q.Memory q.Fan b bA bC w (routR.on hS (fun _ h => by cases h)) (bR.on hS (fun _ h => by cases h)) hy_ ci0_ (by first | exact q0.1 | assumption) hy_) ?_
    rintro wc _ _ wbhB26 ⟨rout20, rout20A, rout20C, e21, e22, e23, e24, rfl, rfl, rout20R, rout20L, hf25⟩ hc0 hB26
    have rsR := rsR.again hB26
    have aR := aR.again hB26
    have bR := bR.again hB26
    have routR := routR.again hB26
    have hT := hT.again hB26
    have rout20R := rout20R.mono (lown_range hc0)
    have ha27 := R44.sv_len (by assumption)
    refine s_ mv_ (s_ (ex_ 0) (s_ (ex_ 1) (s_ (ex_ 2) (o_ (al_ Ty.ze28 fun b28 => ?_)))))
    refine s_ av_ (o_ (stG 0 Ty.sz28 ?_))
    refine s_ av_ (z_ (n_ (q_ (q_ (g_ (s_ mv_ (s_ (x_neq_i rfl rfl) (z_ (xk_ [0, 1, 2, 8, 15, 16, 69] ?_)))))))))
    refine n_ ?_
    refine ifd (fun h29w h29 => ?_) (fun h29w h29 => ?_)
    ·refine q_ (g_ (s_ mv_ (s_ (lnS Tryz.underlying22) (s_ (x_eql_i rfl rfl) (s_ av_ (z_ (n_ (rt_ (nr_ ?_)))))))))
     refine JX_retsC [_] _ Tryz.results3 (fun w h => ⟨rfl, trivial⟩) rfl _ (fun _ h => h.keep [false, false, false, false] rfl) (fun _ _ h => (hB16.back _ _ (hB26.back _ _ h))) ⟨?_, ?_⟩
     ·have e_x0 : (decide (((rout20.length : Nat) : Int) = 0) : Bool) = true := by first | exact R44.law_err (by assumption) (R44.short_of i1_1 (by omega)) (by assumption) | exact R44.law_err (by assumption) (fun i => R44.sv_short (R44.short_of i1_1 (by omega)) (by assumption) i) (by assumption) | exact R44.law_top (a := a) (b := b) (by omega) (by omega) (by omega) (R44.short_of i1_1 (by omega)) (by assumption) (by assumption) (by assumption) (by assumption) (by assumption)
      exact congrArg (fun (x0 : Bool) => vB x0) e_x0
     ·rfl
    ·refine sk_ (n_ (q_ ?_))
     refine drB [4, 6, 15] 17 Ty.mixed ?_
     refine jp_ 0 rfl mv_ (jq_ 1 rfl (ldN 3 [vI p.Memory, vI p.Fan] Ty.ag25 Ty.sz25) (jp_ 3 rfl mv_ (jp_ 5 rfl mv_ ?_)))
     refine jt_ 7 (vG [Value.nilFunc, Value.nilFunc]) rfl (fun _ _ => x_build (by kernel_rfl)) ?_
     refine JA_ready (rs := [2, 13]) (by kernel_rfl) (by decide) gm_ (List.forall_mem_cons.2 ⟨?_, (List.forall_mem_cons.2 ⟨?_, all_nil⟩)⟩)
     ·refine jio_ rfl (O_buildSlice0 Tryz.underlying23 Ty.sz65 fun b30 => ?_)
      refine JA_weaken (E' := [(0, vL rsA rs.length rsC), (1, vL aA a.length aC), (2, vL bA b.length bC), (8, pB b1 0), (15, vI e24), (16, vL rout20A rout20.length rout20C), (69, vB (decide (e24 ≠ 0))), (74, vL rsA rs.length rsC), (75, vG [vI p.Memory, vI p.Fan]), (77, vL bA b.length bC), (79, vL aA a.length aC), (81, vG [Value.nilFunc, Value.nilFunc]), (76, vL (some ⟨b30, 0, none⟩) ((([] : List SortField)).length) 0)]) (L' := [Ent.row (.slice (some ⟨b30, 0, none⟩) ([] : List SortField).length 0) 65 4 ([] : List SortField).length (([] : List SortField).flatMap SortField.enc), Ent.blk b28 28 [vI e21, vI e22, vI e23], Ent.blk b18 28 [vI e11, vI e12, vI e13], Ent.blk b2 25 [vI q.Memory, vI q.Fan], Ent.blk b1 25 [vI p.Memory, vI p.Fan]]) ⟨rfl, rfl, rfl, rfl, rfl, rfl, rfl, rfl, rfl, rfl, rfl, rfl, rfl, trivial⟩ (fun _ h => (St.torow (cs := []) (((((h.front 4 _ rfl).front 4 _ rfl).front 4 _ rfl).front 4 _ rfl).front 4 _ rfl) 4 0 rfl (by decide)).keep [true, true, true, true, true] rfl) ?_
      refine JA_ready (rs := [4, 13]) (by kernel_rfl) (by decide) (fun _ h => ⟨h.keep [false, true, true, true, true] rfl, fun _ => h.keep [false, true, true, true, true] rfl⟩) (List.forall_mem_cons.2 ⟨?_, (List.forall_mem_cons.2 ⟨?_, all_nil⟩)⟩)
      ·refine jio_ rfl (O_append_f 0 SortField.enc 4 ([] : List SortField) b Tryz.underlying23 Ty.sz65 Ty.by65 Ty.ze65 rfl (by decide) rfl rfl rfl rfl SortField.enc_len SortField.enc_one (cells_ro bR) lt_ lt_ fun A31 c32 => ?_)
       refine JA_ready (rs := [6, 13]) (by kernel_rfl) (by decide) (gl_ rfl (fun _ h => h.keep [false, true, true, true, true] rfl)) (List.forall_mem_cons.2 ⟨?_, (List.forall_mem_cons.2 ⟨?_, all_nil⟩)⟩)
       ·refine jio_ rfl (O_append_f 0 SortField.enc 4 (([] : List SortField) ++ b) a Tryz.underlying23 Ty.sz65 Ty.by65 Ty.ze65 rfl (by decide) rfl rfl rfl rfl SortField.enc_len SortField.enc_one (cells_ro aR) lt_ lt_ fun A33 c34 => ?_)
        refine JA_ready (rs := [8, 13]) (by kernel_rfl) (by decide) (gl_ rfl (fun _ h => h.keep [false, true, true, true, true] rfl)) (List.forall_mem_cons.2 ⟨?_, (List.forall_mem_cons.2 ⟨?_, all_nil⟩)⟩)
        ·refine JI_callB [] [] [Ent.row (.slice A33 ((([] : List SortField) ++ b) ++ a).length c34) 65 4 ((([] : List SortField) ++ b) ++ a).length (((([] : List SortField) ++ b) ++ a).flatMap SortField.enc), Ent.blk b28 28 [vI e21, vI e22, vI e23], Ent.blk b18 28 [vI e11, vI e12, vI e13], Ent.blk b2 25 [vI q.Memory, vI q.Fan], Ent.blk b1 25 [vI p.Memory, vI p.Fan]] rfl rfl trivial (fun _ => x_call Ty.ca5 rfl) (fun _ h => h) (fun _ h => by cases h) (fun w hS => f5_ok rs rsA rsC p.Memory p.Fan ((([] : List SortField) ++ b) ++ a) A33 c34 w (rsR.on hS (fun _ h => by cases h)) (RO.of_row hS 0 rfl) hy_ ci0_ (by first | exact q0.1 | assumption) hy_) ?_
         rintro wc _ _ wbhB41 ⟨rout35, rout35A, rout35C, e36, e37, e38, e39, rfl, rfl, rout35R, rout35L, hf40⟩ hc0 hB41
         have rsR := rsR.again hB41
         have aR := aR.again hB41
         have bR := bR.again hB41
         have routR := routR.again hB41
         have rout20R := rout20R.again hB41
         have hT := hT.again hB41
         have rout35R := rout35R.mono (lown_range hc0)
         have ha42 := R44.sv_len (by assumption)
         refine jp_ 9 rfl mv_ (jp_ 10 rfl (ex_ 0) (jp_ 11 rfl (ex_ 1) (jp_ 12 rfl (ex_ 2) (j1_ 13 (jio_ rfl (al_ Ty.ze28 fun b44 => ?_)) (gl_ rfl (fun _ h => h.keep [false, true, true, true, true] rfl))))))
         refine jp_ 14 rfl av_ (j1_ 15 (jio_ rfl (stG 0 Ty.sz28 ?_)) (gl_ rfl (fun _ h => h.keep [false, false, true, true, true, true] rfl)))
         refine jp_ 16 rfl av_ ?_
         refine JA_done (by kernel_rfl) (gl_ rfl (fun _ h => h.keep [false, false, true, true, true, true] rfl)) ?_
         refine n_ (q_ (g_ (s_ mv_ (s_ (x_eql_i rfl rfl) (s_ mv_ ?_)))))
         refine and_ 3 (decide (rout20 = rout35)) (fun g45 => ?_) ?_
         ·have g45r := g45
          have g45r := of_decide_eq_true g45r
          refine sg_ g45 mv_ (sg_ g45 mv_ (c0g g45 (cl_ Ty.ca6) (fun w hS => f6_ok _ _ _ _ _ _ w (rno rout20R hS) (rno rout35R hS) hy_ hy_) ?_))
          exact cr_
         refine s_ av_ (z_ (xk_ [10] ?_))
         refine n_ (rt_ ?_)
         refine JX_retsC [_] _ Tryz.results3 (fun w h => ⟨rfl, trivial⟩) rfl _ (fun _ h => h.keep [false, false, false, false, false, false] rfl) (fun _ _ h => (hB16.back _ _ (hB26.back _ _ (hB41.back _ _ h)))) ⟨?_, ?_⟩
         ·have e_x0 : ((decide (e39 = 0)) && (decide (rout20 = rout35)) : Bool) = true := by first | exact R44.law_err (by assumption) (R44.short_of i1_1 (by omega)) (by assumption) | exact R44.law_err (by assumption) (fun i => R44.sv_short (R44.short_of i1_1 (by omega)) (by assumption) i) (by assumption) | exact R44.law_top (a := a) (b := b) (by omega) (by omega) (by omega) (R44.short_of i1_1 (by omega)) (by assumption) (by assumption) (by assumption) (by assumption) (by assumption)
          exact congrArg (fun (x0 : Bool) => vB x0) e_x0
         ·rfl
        ·refine jio_ rfl (al_ Ty.ze28 fun b46 => ?_)
         refine j1_ 8 ?_ (gl_ rfl (fun _ h => h.keep [false, false, true, true, true, true] rfl))
         refine JI_callB [] [] [Ent.blk b46 28 [vI 0, vI 0, vI 0], Ent.row (.slice A33 ((([] : List SortField) ++ b) ++ a).length c34) 65 4 ((([] : List SortField) ++ b) ++ a).length (((([] : List SortField) ++ b) ++ a).flatMap SortField.enc), Ent.blk b28 28 [vI e21, vI e22, vI e23], Ent.blk b18 28 [vI e11, vI e12, vI e13], Ent.blk b2 25 [vI q.Memory, vI q.Fan], Ent.blk b1 25 [vI p.Memory, vI p.Fan]] rfl rfl trivial (fun _ => x_call Ty.ca5 rfl) (fun _ h => h) (fun _ h => by cases h) (fun w hS => f5_ok rs rsA rsC p.Memory p.Fan ((([] : List SortField) ++ b) ++ a) A33 c34 w (rsR.on hS (fun _ h => by cases h)) (RO.of_row hS 1 rfl) hy_ ci0_ (by first | exact q0.1 | assumption) hy_) ?_
         rintro wc _ _ wbhB53 ⟨rout47, rout47A, rout47C, e48, e49, e50, e51, rfl, rfl, rout47R, rout47L, hf52⟩ hc0 hB53
         have rsR := rsR.again hB53
         have aR := aR.again hB53
         have bR := bR.again hB53
         have routR := routR.again hB53
         have rout20R := rout20R.again hB53
         have hT := hT.again hB53
         have rout47R := rout47R.mono (lown_range hc0)
         have ha54 := R44.sv_len (by assumption)
         refine jp_ 9 rfl mv_ (jp_ 10 rfl (ex_ 0) (jp_ 11 rfl (ex_ 1) (jp_ 12 rfl (ex_ 2) (jp_ 14 rfl av_ (j1_ 15 (jio_ rfl (stG 0 Ty.sz28 ?_)) (gl_ rfl (fun _ h => h.keep [false, false, true, true, true, true] rfl)))))))
         refine jp_ 16 rfl av_ ?_
         refine JA_done (by kernel_rfl) (gl_ rfl (fun _ h => h.keep [false, false, true, true, true, true] rfl)) ?_
         refine n_ (q_ (g_ (s_ mv_ (s_ (x_eql_i rfl rfl) (s_ mv_ ?_)))))
         refine and_ 3 (decide (rout20 = rout47)) (fun g55 => ?_) ?_
         ·have g55r := g55
          have g55r := of_decide_eq_true g55r
          refine sg_ g55 mv_ (sg_ g55 mv_ (c0g g55 (cl_ Ty.ca6) (fun w hS => f6_ok _ _ _ _ _ _ w (rno rout20R hS) (rno rout47R hS) hy_ hy_) ?_))
          exact cr_
         refine s_ av_ (z_ (xk_ [10] ?_))
         refine n_ (rt_ ?_)
         refine JX_retsC [_] _ Tryz.results3 (fun w h => ⟨rfl, trivial⟩) rfl _ (fun _ h => h.keep [false, false, false, false, false, false] rfl) (fun _ _ h => (hB16.back _ _ (hB26.back _ _ (hB53.back _ _ h)))) ⟨?_, ?_⟩
         ·have e_x0 : ((decide (e51 = 0)) && (decide (rout20 = rout47)) : Bool) = true := by first | exact R44.law_err (by assumption) (R44.short_of i1_1 (by omega)) (by assumption) | exact R44.law_err (by assumption) (fun i => R44.sv_short (R44.short_of i1_1 (by omega)) (by assumption) i) (by assumption) | exact R44.law_top (a := a) (b := b) (by omega) (by omega) (by omega) (R44.short_of i1_1 (by omega)) (by assumption) (by assumption) (by assumption) (by assumption) (by assumption)
          exact congrArg (fun (x0 : Bool) => vB x0) e_x0
         ·rfl
       ·refine jio_ rfl (al_ Ty.ze28 fun b56 => ?_)
        refine j1_ 6 (jio_ rfl (O_append_f 1 SortField.enc 4 (([] : List SortField) ++ b) a Tryz.underlying23 Ty.sz65 Ty.by65 Ty.ze65 rfl (by decide) rfl rfl rfl rfl SortField.enc_len SortField.enc_one (cells_ro aR) lt_ lt_ fun A59 c60 => ?_)) (gl_ rfl (fun _ h => h.keep [false, false, true, true, true, true] rfl))
        refine j1_ 8 ?_ (gl_ rfl (fun _ h => h.keep [false, false, true, true, true, true] rfl))
        refine JI_callB [] [] [Ent.blk b56 28 [vI 0, vI 0, vI 0], Ent.row (.slice A59 ((([] : List SortField) ++ b) ++ a).length c60) 65 4 ((([] : List SortField) ++ b) ++ a).length (((([] : List SortField) ++ b) ++ a).flatMap SortField.enc), Ent.blk b28 28 [vI e21, vI e22, vI e23], Ent.blk b18 28 [vI e11, vI e12, vI e13], Ent.blk b2 25 [vI q.Memory, vI q.Fan], Ent.blk b1 25 [vI p.Memory, vI p.Fan]] rfl rfl trivial (fun _ => x_call Ty.ca5 rfl) (fun _ h => h) (fun _ h => by cases h) (fun w hS => f5_ok rs rsA rsC p.Memory p.Fan ((([] : List SortField) ++ b) ++ a) A59 c60 w (rsR.on hS (fun _ h => by cases h)) (RO.of_row hS 1 rfl) hy_ ci0_ (by first | exact q0.1 | assumption) hy_) ?_
        rintro wc _ _ wbhB67 ⟨rout61, rout61A, rout61C, e62, e63, e64, e65, rfl, rfl, rout61R, rout61L, hf66⟩ hc0 hB67
        have rsR := rsR.again hB67
        have aR := aR.again hB67
        have bR := bR.again hB67
        have routR := routR.again hB67
        have rout20R := rout20R.again hB67
        have hT := hT.again hB67
        have rout61R := rout61R.mono (lown_range hc0)
        have ha68 := R44.sv_len (by assumption)
        refine jp_ 9 rfl mv_ (jp_ 10 rfl (ex_ 0) (jp_ 11 rfl (ex_ 1) (jp_ 12 rfl (ex_ 2) (jp_ 14 rfl av_ (j1_ 15 (jio_ rfl (stG 0 Ty.sz28 ?_)) (gl_ rfl (fun _ h => h.keep [false, false, true, true, true, true] rfl)))))))
        refine jp_ 16 rfl av_ ?_
        refine JA_done (by kernel_rfl) (gl_ rfl (fun _ h => h.keep [false, false, true, true, true, true] rfl)) ?_
        refine n_ (q_ (g_ (s_ mv_ (s_ (x_eql_i rfl rfl) (s_ mv_ ?_)))))
        refine and_ 3 (decide (rout20 = rout61)) (fun g69 => ?_) ?_
        ·have g69r := g69
         have g69r := of_decide_eq_true g69r
         refine sg_ g69 mv_ (sg_ g69 mv_ (c0g g69 (cl_ Ty.ca6) (fun w hS => f6_ok _ _ _ _ _ _ w (rno rout20R hS) (rno rout61R hS) hy_ hy_) ?_))
         exact cr_
        refine s_ av_ (z_ (xk_ [10] ?_))
        refine n_ (rt_ ?_)
        refine JX_retsC [_] _ Tryz.results3 (fun w h => ⟨rfl, trivial⟩) rfl _ (fun _ h => h.keep [false, false, false, false, false, false] rfl) (fun _ _ h => (hB16.back _ _ (hB26.back _ _ (hB67.back _ _ h)))) ⟨?_, ?_⟩
        ·have e_x0 : ((decide (e65 = 0)) && (decide (rout20 = rout61)) : Bool) = true := by first | exact R44.law_err (by assumption) (R44.short_of i1_1 (by omega)) (by assumption) | exact R44.law_err (by assumption) (fun i => R44.sv_short (R44.short_of i1_1 (by omega)) (by assumption) i) (by assumption) | exact R44.law_top (a := a) (b := b) (by omega) (by omega) (by omega) (R44.short_of i1_1 (by omega)) (by assumption) (by assumption) (by assumption) (by assumption) (by assumption)
         exact congrArg (fun (x0 : Bool) => vB x0) e_x0
        ·rfl
      ·refine jio_ rfl (al_ Ty.ze28 fun b70 => ?_)
       refine j1_ 4 (jio_ rfl (O_append_f 1 SortField.enc 4 ([] : List SortField) b Tryz.underlying23 Ty.sz65 Ty.by65 Ty.ze65 rfl (by decide) rfl rfl rfl rfl SortField.enc_len SortField.enc_one (cells_ro bR) lt_ lt_ fun A73 c74 => ?_)) (fun _ h => ⟨h.keep [false, false, true, true, true, true] rfl, fun _ => h.keep [false, false, true, true, true, true] rfl⟩)
       refine j1_ 6 (jio_ rfl (O_append_f 1 SortField.enc 4 (([] : List SortField) ++ b) a Tryz.underlying23 Ty.sz65 Ty.by65 Ty.ze65 rfl (by decide) rfl rfl rfl rfl SortField.enc_len SortField.enc_one (cells_ro aR) lt_ lt_ fun A77 c78 => ?_)) (gl_ rfl (fun _ h => h.keep [false, false, true, true, true, true] rfl))
       refine j1_ 8 ?_ (gl_ rfl (fun _ h => h.keep [false, false, true, true, true, true] rfl))
       refine JI_callB [] [] [Ent.blk b70 28 [vI 0, vI 0, vI 0], Ent.row (.slice A77 ((([] : List SortField) ++ b) ++ a).length c78) 65 4 ((([] : List SortField) ++ b) ++ a).length (((([] : List SortField) ++ b) ++ a).flatMap SortField.enc), Ent.blk b28 28 [vI e21, vI e22, vI e23], Ent.blk b18 28 [vI e11, vI e12, vI e13], Ent.blk b2 25 [vI q.Memory, vI q.Fan], Ent.blk b1 25 [vI p.Memory, vI p.Fan]] rfl rfl trivial (fun _ => x_call Ty.ca5 rfl) (fun _ h => h) (fun _ h => by cases h) (fun w hS => f5_ok rs rsA rsC p.Memory p.Fan ((([] : List SortField) ++ b) ++ a) A77 c78 w (rsR.on hS (fun _ h => by cases h)) (RO.of_row hS 1 rfl) hy_ ci0_ (by first | exact q0.1 | assumption) hy_) ?_
       rintro wc _ _ wbhB85 ⟨rout79, rout79A, rout79C, e80, e81, e82, e83, rfl, rfl, rout79R, rout79L, hf84⟩ hc0 hB85
       have rsR := rsR.again hB85
       have aR := aR.again hB85
       have bR := bR.again hB85
       have routR := routR.again hB85
       have rout20R := rout20R.again hB85
       have hT := hT.again hB85
       have rout79R := rout79R.mono (lown_range hc0)
       have ha86 := R44.sv_len (by assumption)
       refine jp_ 9 rfl mv_ (jp_ 10 rfl (ex_ 0) (jp_ 11 rfl (ex_ 1) (jp_ 12 rfl (ex_ 2) (jp_ 14 rfl av_ (j1_ 15 (jio_ rfl (stG 0 Ty.sz28 ?_)) (gl_ rfl (fun _ h => h.keep [false, false, true, true, true, true] rfl)))))))
       refine jp_ 16 rfl av_ ?_
       refine JA_done (by kernel_rfl) (gl_ rfl (fun _ h => h.keep [false, false, true, true, true, true] rfl)) ?_
       refine n_ (q_ (g_ (s_ mv_ (s_ (x_eql_i rfl rfl) (s_ mv_ ?_)))))
       refine and_ 3 (decide (rout20 = rout79)) (fun g87 => ?_) ?_
       ·have g87r := g87
        have g87r := of_decide_eq_true g87r
        refine sg_ g87 mv_ (sg_ g87 mv_ (c0g g87 (cl_ Ty.ca6) (fun w hS => f6_ok _ _ _ _ _ _ w (rno rout20R hS) (rno rout79R hS) hy_ hy_) ?_))
        exact cr_
       refine s_ av_ (z_ (xk_ [10] ?_))
       refine n_ (rt_ ?_)
       refine JX_retsC [_] _ Tryz.results3 (fun w h => ⟨rfl, trivial⟩) rfl _ (fun _ h => h.keep [false, false, false, false, false, false] rfl) (fun _ _ h => (hB16.back _ _ (hB26.back _ _ (hB85.back _ _ h)))) ⟨?_, ?_⟩
       ·have e_x0 : ((decide (e83 = 0)) && (decide (rout20 = rout79)) : Bool) = true := by first | exact R44.law_err (by assumption) (R44.short_of i1_1 (by omega)) (by assumption) | exact R44.law_err (by assumption) (fun i => R44.sv_short (R44.short_of i1_1 (by omega)) (by assumption) i) (by assumption) | exact R44.law_top (a := a) (b := b) (by omega) (by omega) (by omega) (R44.short_of i1_1 (by omega)) (by assumption) (by assumption) (by assumption) (by assumption) (by assumption)
        exact congrArg (fun (x0 : Bool) => vB x0) e_x0
       ·rfl
     ·refine jio_ rfl (al_ Ty.ze28 fun b88 => ?_)
      refine j1_ 2 (jio_ rfl (O_buildSlice0 Tryz.underlying23 Ty.sz65 fun b90 => ?_)) (fun _ h => ⟨h.keep [false, true, true, true, true] rfl, fun _ => h.keep [false, true, true, true, true] rfl⟩)
      refine JA_weaken (E' := [(0, vL rsA rs.length rsC), (1, vL aA a.length aC), (2, vL bA b.length bC), (8, pB b1 0), (15, vI e24), (16, vL rout20A rout20.length rout20C), (69, vB (decide (e24 ≠ 0))), (74, vL rsA rs.length rsC), (75, vG [vI p.Memory, vI p.Fan]), (77, vL bA b.length bC), (79, vL aA a.length aC), (81, vG [Value.nilFunc, Value.nilFunc]), (19, pB b88 0), (76, vL (some ⟨b90, 0, none⟩) ((([] : List SortField)).length) 0)]) (L' := [Ent.row (.slice (some ⟨b90, 0, none⟩) ([] : List SortField).length 0) 65 4 ([] : List SortField).length (([] : List SortField).flatMap SortField.enc), Ent.blk b88 28 [vI 0, vI 0, vI 0], Ent.blk b28 28 [vI e21, vI e22, vI e23], Ent.blk b18 28 [vI e11, vI e12, vI e13], Ent.blk b2 25 [vI q.Memory, vI q.Fan], Ent.blk b1 25 [vI p.Memory, vI p.Fan]]) ⟨rfl, rfl, rfl, rfl, rfl, rfl, rfl, rfl, rfl, rfl, rfl, rfl, rfl, rfl, trivial⟩ (fun _ h => (St.torow (cs := []) ((((((h.front 5 _ rfl).front 5 _ rfl).front 5 _ rfl).front 5 _ rfl).front 5 _ rfl).front 5 _ rfl) 4 0 rfl (by decide)).keep [true, true, true, true, true, true] rfl) ?_
      refine j1_ 4 (jio_ rfl (O_append_f 0 SortField.enc 4 ([] : List SortField) b Tryz.underlying23 Ty.sz65 Ty.by65 Ty.ze65 rfl (by decide) rfl rfl rfl rfl SortField.enc_len SortField.enc_one (cells_ro bR) lt_ lt_ fun A93 c94 => ?_)) (fun _ h => ⟨h.keep [false, false, true, true, true, true] rfl, fun _ => h.keep [false, false, true, true, true, true] rfl⟩)
      refine j1_ 6 (jio_ rfl (O_append_f 0 SortField.enc 4 (([] : List SortField) ++ b) a Tryz.underlying23 Ty.sz65 Ty.by65 Ty.ze65 rfl (by decide) rfl rfl rfl rfl SortField.enc_len SortField.enc_one (cells_ro aR) lt_ lt_ fun A97 c98 => ?_)) (gl_ rfl (fun _ h => h.keep [false, false, true, true, true, true] rfl))
      refine j1_ 8 ?_ (gl_ rfl (fun _ h => h.keep [false, false, true, true, true, true] rfl))
      refine JI_callB [] [] [Ent.row (.slice A97 ((([] : List SortField) ++ b) ++ a).length c98) 65 4 ((([] : List SortField) ++ b) ++ a).length (((([] : List SortField) ++ b) ++ a).flatMap SortField.enc), Ent.blk b88 28 [vI 0, vI 0, vI 0], Ent.blk b28 28 [vI e21, vI e22, vI e23], Ent.blk b18 28 [vI e11, vI e12, vI e13], Ent.blk b2 25 [vI q.Memory, vI q.Fan], Ent.blk b1 25 [vI p.Memory, vI p.Fan]] rfl rfl trivial (fun _ => x_call Ty.ca5 rfl) (fun _ h => h) (fun _ h => by cases h) (fun w hS => f5_ok rs rsA rsC p.Memory p.Fan ((([] : List SortField) ++ b) ++ a) A97 c98 w (rsR.on hS (fun _ h => by cases h)) (RO.of_row hS 0 rfl) hy_ ci0_ (by first | exact q0.1 | assumption) hy_) ?_
      rintro wc _ _ wbhB105 ⟨rout99, rout99A, rout99C, e100, e101, e102, e103, rfl, rfl, rout99R, rout99L, hf104⟩ hc0 hB105
      have rsR := rsR.again hB105
      have aR := aR.again hB105
      have bR := bR.again hB105
      have routR := routR.again hB105
      have rout20R := rout20R.again hB105
      have hT := hT.again hB105
      have rout99R := rout99R.mono (lown_range hc0)
      have ha106 := R44.sv_len (by assumption)
      refine jp_ 9 rfl mv_ (jp_ 10 rfl (ex_ 0) (jp_ 11 rfl (ex_ 1) (jp_ 12 rfl (ex_ 2) (jp_ 14 rfl av_ (j1_ 15 (jio_ rfl (stG 1 Ty.sz28 ?_)) (gl_ rfl (fun _ h => h.keep [false, false, true, true, true, true] rfl)))))))
      refine jp_ 16 rfl av_ ?_
      refine JA_done (by kernel_rfl) (gl_ rfl (fun _ h => h.keep [false, false, true, true, true, true] rfl)) ?_
      refine n_ (q_ (g_ (s_ mv_ (s_ (x_eql_i rfl rfl) (s_ mv_ ?_)))))
      refine and_ 3 (decide (rout20 = rout99)) (fun g107 => ?_) ?_
      ·have g107r := g107
       have g107r := of_decide_eq_true g107r
       refine sg_ g107 mv_ (sg_ g107 mv_ (c0g g107 (cl_ Ty.ca6) (fun w hS => f6_ok _ _ _ _ _ _ w (rno rout20R hS) (rno rout99R hS) hy_ hy_) ?_))
       exact cr_
      refine s_ av_ (z_ (xk_ [10] ?_))
      refine n_ (rt_ ?_)
      refine JX_retsC [_] _ Tryz.results3 (fun w h => ⟨rfl, trivial⟩) rfl _ (fun _ h => h.keep [false, false, false, false, false, false] rfl) (fun _ _ h => (hB16.back _ _ (hB26.back _ _ (hB105.back _ _ h)))) ⟨?_, ?_⟩
      ·have e_x0 : ((decide (e103 = 0)) && (decide (rout20 = rout99)) : Bool) = true := by first | exact R44.law_err (by assumption) (R44.short_of i1_1 (by omega)) (by assumption) | exact R44.law_err (by assumption) (fun i => R44.sv_short (R44.short_of i1_1 (by omega)) (by assumption) i) (by assumption) | exact R44.law_top (a := a) (b := b) (by omega) (by omega) (by omega) (R44.short_of i1_1 (by omega)) (by assumption) (by assumption) (by assumption) (by assumption) (by assumption)
       exact congrArg (fun (x0 : Bool) => vB x0) e_x0
      ·rfl
end Go.Proofs.YtmacopacmpgieaaGreatDoor


