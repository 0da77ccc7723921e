/- Pw40h, C40n, L40r in one text. -/
import Derived.Test.YtngjdmhpljmkpaaGreatDoorCards
import Derived.Test.YtngjdmhpljmkpaaGreatDoorTie
import Derived.Test.YtngjdmhpljmkpaaGreatDoorConditionReturns16
import Derived.Test.YtngjdmhpljmkpaaGreatDoorConditionReturns8
import Derived.Test.YtngjdmhpljmkpaaGreatDoorRows
import GoSem.ClaimSeven
import Derived.LaidByTextLater
import Derived.SevenTiedAt
import Derived.LaidSub
import Derived.LaidOnce
set_option linter.unusedVariables false
set_option linter.unusedSimpArgs false
namespace Go.Proofs.YtngjdmhpljmkpaaGreatDoor
open Go.GV
namespace R40
section
variable {ts : List Test} {ws : List Bytes}
theorem parse_err (h : (parseV ws).e ≠ 0) : (parseV ws).out.length = 0 := by
  unfold parseV at *
  by_cases hw : ws = []
  · rw [if_pos hw]; rfl
  · rw [if_neg hw] at h ⊢
    split at h
    · rename_i h1; rw [if_pos h1]; rfl
    · rename_i h1; rw [if_neg h1]
      split at h
      · rename_i h2; rw [if_pos h2]; rfl
      · exact absurd rfl h
theorem parse_len (ws : List Bytes) : (parseV ws).out.length ≤ 32 := by
  unfold parseV
  split
  · exact Nat.zero_le _
  · split
    · exact Nat.zero_le _
    · split
      · exact Nat.zero_le _
      · rename_i h; exact Nat.le_of_not_lt h
theorem parse_good (h0 : (parseV ws).out ≠ []) : ∃ x, good stepV x ∧ post x = (parseV ws).out := by
  unfold parseV at *
  by_cases hw : ws = []
  · rw [if_pos hw] at h0; exact absurd rfl h0
  · rw [if_neg hw] at h0 ⊢
    by_cases h1 : (orN ws (ws.length + 1) 0).ok = false ∨ (orN ws (ws.length + 1) 0).pos < ws.length
    · rw [if_pos h1] at h0; exact absurd rfl h0
    · rw [if_neg h1] at h0 ⊢
      by_cases h2 : 32 < (orN ws (ws.length + 1) 0).out.length
      · rw [if_pos h2] at h0; exact absurd rfl h0
      · rw [if_neg h2]
        exact good_or (ws := ws) (ws.length + 1) 0 (by simpa using fun e => h1 (.inl e))
theorem step_short {s : Bytes} (h : stepV s = true) : s.length ≤ 31 := by
  unfold stepV at h
  exact (R44.name_len (Bool.and_eq_true _ _ ▸ h).1).2
theorem leaf_short {t : Test} (h : leafOk stepV t = true) : t.Step.length ≤ 31 := by
  rcases leaf_any h with h2 | h2 | h2
  · rw [h2]; exact Nat.zero_le _
  · exact step_short h2.2.2.2
  · exact step_short h2.2.2.2.2.2
theorem good_short {x : Node} (h : good stepV x) : ∀ t ∈ post x, t.Step.length ≤ 31 := fun t ht => by
  rcases post_forms x h t ht with h2 | h2 | h2 | h2
  · exact leaf_short h2
  · rw [h2]; exact Nat.zero_le _
  · rw [h2]; exact Nat.zero_le _
  · rw [h2]; exact Nat.zero_le _
theorem parse_short (ws : List Bytes) (i : Nat) : ((parseV ws).out.getD i default).Step.length ≤ 1000000 := by
  by_cases hi : i < (parseV ws).out.length
  · obtain ⟨x, hg, hp⟩ := parse_good (ws := ws) (fun e => by rw [e] at hi; simp at hi)
    rw [List.getD_eq_getElem?_getD, List.getElem?_eq_getElem hi]
    exact Nat.le_trans (good_short hg _ (by rw [hp]; exact List.getElem_mem hi)) (by decide)
  · rw [List.getD_eq_getElem?_getD, List.getElem?_eq_none (by omega)]; exact Nat.zero_le _
theorem inP_mem {b : Bool} {l : List Bytes} {w : Bytes} (h : w ∈ inP b l) : w ∈ l ∨ w = wLP ∨ w = wRP := by
  unfold inP at h
  split at h
  · simp only [List.mem_append, List.mem_singleton] at h
    rcases h with (h | h) | h
    · exact .inr (.inl h)
    · exact .inl h
    · exact .inr (.inr h)
  · exact .inl h
theorem rel_len (k : Nat) : (rels.getD k []).length ≤ 31 := by
  match k with
  | 0 => decide
  | 1 => decide
  | 2 => decide
  | 3 => decide
  | 4 => decide
  | 5 => decide
  | k + 6 => exact Nat.zero_le _
theorem leafW_short {t : Test} (h : leafOk stepV t = true) : ∀ w ∈ leafW t, w.length ≤ 31 := fun w hw => by
  have hs := leaf_short h
  have hn : t.Kind = 0 → (Lib.decDigits t.N.toNat).length ≤ 31 := fun h0 => by
    have := leaf_rng h h0
    exact Nat.le_trans (R44.dec_lenI t.N (by omega)) (by decide)
  unfold leafW at hw
  split at hw
  · rename_i h0
    simp only [List.mem_cons, List.not_mem_nil, or_false] at hw
    rcases hw with rfl | rfl | rfl | rfl
    · exact hs
    · decide
    · exact rel_len _
    · exact hn h0
  · split at hw
    · simp only [List.mem_cons, List.not_mem_nil, or_false] at hw
      rcases hw with rfl | rfl
      · exact hs
      · decide
    · split at hw
      · simp only [List.mem_cons, List.not_mem_nil, or_false] at hw
        rcases hw with rfl | rfl
        · exact hs
        · decide
      · rw [List.mem_singleton.1 hw]; decide
theorem words_short (x : Node) (h : good stepV x) : ∀ n, ∀ w ∈ wordsV x n, w.length ≤ 31 := by
  induction x with
  | leaf t i =>
    intro n w hw; rw [wordsV] at hw
    rcases inP_mem hw with hw | rfl | rfl
    · exact leafW_short h w hw
    · decide
    · decide
  | neg x ih =>
    intro n w hw; rw [wordsV] at hw
    rcases inP_mem hw with hw | rfl | rfl
    · rcases List.mem_append.1 hw with hw | hw
      · rw [List.mem_singleton.1 hw]; decide
      · exact ih h 2 w hw
    · decide
    · decide
  | pair b x y ih1 ih2 =>
    intro n w hw; rw [wordsV] at hw
    rcases inP_mem hw with hw | rfl | rfl
    · rcases List.mem_append.1 hw with hw | hw
      · rcases List.mem_append.1 hw with hw | hw
        · exact ih1 h.1 _ w hw
        · rw [List.mem_singleton.1 hw]; split <;> decide
      · exact ih2 h.2 _ w hw
    · decide
    · decide
theorem format_short (ts : List Test) (k : Nat) : ((formatV ts).getD k []).length ≤ 1000000 := by
  by_cases hk : k < (formatV ts).length
  · rw [List.getD_eq_getElem?_getD, List.getElem?_eq_getElem hk]
    have hm := List.getElem_mem hk
    cases hx : (treeV stepV ts).isSome with
    | false => rw [format_no hx] at hk; simp at hk
    | true =>
      have hg := tree_good hx
      refine Nat.le_trans (words_short _ hg.1 0 _ ?_) (by decide : 31 ≤ 1000000)
      rw [← format_yes hx]; exact hm
  · rw [List.getD_eq_getElem?_getD, List.getElem?_eq_none (by omega)]; exact Nat.zero_le _
theorem format_len (ts : List Test) : (formatV ts).length ≤ 192 := by
  cases hx : (treeV stepV ts).isSome with
  | false => rw [format_no hx]; exact Nat.zero_le _
  | true =>
    have hg := tree_good hx
    rw [format_yes hx]
    have := words_le ((treeV stepV ts).getD default) 0
    omega
theorem insl_len : ∀ (ys l : List Bytes), (ys.foldl Ord.ins l).length ≤ l.length + ys.length
  | [], l => Nat.le_refl _
  | y :: ys, l => by
    have h1 := insl_len ys (Ord.ins l y); have h2 := Ord.ins_len l y
    rw [List.foldl_cons, List.length_cons]; omega
theorem refers_len (ts : List Test) : (refersV ts).length ≤ ts.length := by
  unfold refersV Ord.insl
  refine Nat.le_trans (insl_len _ []) ?_
  rw [List.length_nil, Nat.zero_add]
  exact Nat.le_trans (List.length_filter_le _ _) (Nat.le_of_eq (List.length_map _))
theorem same_end {a b : List Test} (hl : a.length = b.length) (h : ∀ i, i < a.length → a.getD i default = b.getD i default) : true = decide (a = b) := by
  refine (decide_eq_true ?_).symm
  apply List.ext_getElem hl
  intro i h1 h2
  have := h i h1
  rwa [List.getD_eq_getElem?_getD, List.getD_eq_getElem?_getD, List.getElem?_eq_getElem h1, List.getElem?_eq_getElem h2] at this
theorem same_bad {a b : List Test} {i : Nat} (h : a.getD i default ≠ b.getD i default) : false = decide (a = b) := by
  refine (decide_eq_false fun e => ?_).symm
  rw [e] at h; exact h rfl
theorem same_len {a b : List Test} (h : a.length ≠ b.length) : false = decide (a = b) := by
  refine (decide_eq_false fun e => ?_).symm
  rw [e] at h; exact h rfl
theorem ret_1 (h : 0 < (formatV ts).length) : parseV (formatV ts) = ⟨ts, 0, 0⟩ := law_format fun e => by rw [e] at h; simp at h
theorem ret_2 (h : (parseV ws).e = 0) : ((decide ((parseV (formatV (parseV ws).out)).e = 0) && decide ((parseV ws).out = (parseV (formatV (parseV ws).out)).out)) && (onV (parseV ws).out (refersV (parseV ws).out)).isSome) = true := by
  obtain ⟨h1, h2⟩ := law_read h
  rw [h1, h2]; simp
theorem ret_no (h : 0 < (formatV ts).length) (hc : ((decide ((parseV (formatV ts)).e ≠ 0) || decide ((parseV (formatV ts)).at_ ≠ 0)) || !(decide ((parseV (formatV ts)).out = ts))) = true) : False := by
  rw [ret_1 h] at hc; simp at hc
theorem parse_dec (h : (parseV ws).e ≠ 0) : decide ((((parseV ws).out.length : Nat) : Int) = 0) = true := decide_eq_true (by rw [parse_err h]; rfl)
theorem short_of {k : Nat} (h : ∀ i, i < k → (ws.getD i []).length ≤ 40) (hk : k = ws.length) (i : Nat) : (ws.getD i []).length ≤ 1000000 := by
  by_cases hi : i < k
  · exact Nat.le_trans (h i hi) (by decide)
  · rw [List.getD_eq_getElem?_getD, List.getElem?_eq_none (by omega)]; exact Nat.zero_le _
theorem few_sh {P : Prop} (h : (∀ i, (ts.getD i default).Step.length ≤ 40) ∧ P) (i : Nat) : (ts.getD i default).Step.length ≤ 1000000 := Nat.le_trans (h.1 i) (by decide)
end
end R40
end Go.Proofs.YtngjdmhpljmkpaaGreatDoor

namespace Go.Proofs.YtngjdmhpljmkpaaGreatDoor
open Go.GV
set_option linter.unusedVariables false
set_option linter.unusedSimpArgs false
theorem c40n0_ {p : Prop} (h : p := by first | exact R40.same_len (by omega) | exact R40.same_bad (i := k) (by assumption) | exact R40.same_end i1_1 (fun i hi => i1_2 i (by omega))) : p := h
set_option maxRecDepth 20000 in
theorem f10_ok (a : List Test) (aA : Option Addr) (aC : Nat) (b : List Test) (bA : Option Addr) (bC : Nat) (w : World) (aR : RO [] w aA (a.flatMap Test.enc)) (bR : RO [] w bA (b.flatMap Test.enc)) (q0 : a.length ≤ 9223372036854775807) (q1 : b.length ≤ 9223372036854775807) : Calls Tryz.prog 10 #[vL aA a.length aC, vL bA b.length bC] w (Gives [] w fun v L => v = vB (decide (a = b)) ∧ L = []) := by
 refine calls_J [] 26 Tryz.func10 rfl Tryz.ntmps10 [(0, _), (1, _)] rfl rfl (Give.nil w) ?_
 refine q_ (g_ (s_ av_ (z_ (n_ (q_ (q_ (g_ (s_ mv_ (s_ (lnS Tryz.underlying23) (s_ mv_ (s_ (lnS Tryz.underlying23) (s_ (x_neq_i rfl rfl) (z_ (n_ ?_))))))))))))))
 refine ifd (fun h1w h1 => ?_) (fun h1w h1 => ?_)
 ·refine q_ (g_ (s_ av_ (z_ (n_ (rt_ (nr_ ?_))))))
  exact p1 Tryz.results10 rfl ⟨(eB c40n0_), rfl⟩
 ·refine sk_ (n_ (q_ (q_ (g_ (s_ av_ (z_ (n_ (k_ ?_))))))))
  refine J_loop (X := Nat) (fun (k : Nat) => (k ≤ a.length) ∧ (a.length = b.length) ∧ (∀ i, i < k → a.getD i default = b.getD i default)) (fun (k : Nat) => [(0, vL aA a.length aC), (1, vL bA b.length bC), (5, vI ((k : Nat) : Int))]) (fun (k : Nat) => []) (fun (k : Nat) => a.length - k) (0 : Nat) ?_ ⟨rfl, rfl, rfl, trivial⟩ (fun _ h => h) ?_
  ·try dsimp only
   refine ⟨?_, ?_, ?_⟩
   ·first | rfl | omega | (simp_all; done) | (simp_all; omega)
   ·omega
   ·intro i hi; omega
  intro k hI1
  obtain ⟨i1_0, i1_1, i1_2⟩ := hI1
  try dsimp only at i1_0
  try dsimp only at i1_1
  try dsimp only at i1_2
  try dsimp only
  refine q_ (q_ (g_ (s_ mv_ (s_ mv_ (s_ (lnS Tryz.underlying23) (s_ (x_lss_i rfl rfl) (z_ (n_ ?_))))))))
  refine ifd (fun h2w h2 => ?_) (fun h2w h2 => ?_)
  ·refine sk_ (n_ (q_ (k_ (q_ ?_))))
   refine drB [] 9 Ty.mixed ?_
   refine jp_ 0 rfl mv_ (jp_ 1 rfl mv_ (jq_ 2 rfl (ixF Test.enc_len (cells_ro aR) Tryz.underlying23 Ty.sz40) (jq_ 3 rfl (ldFN Test.enc_len (cells_ro aR) Ty.ag40 Ty.sz40) (jp_ 4 rfl mv_ (jp_ 5 rfl mv_ (jq_ 6 rfl (ixF Test.enc_len (cells_ro bR) Tryz.underlying23 Ty.sz40) (jq_ 7 rfl (ldFN Test.enc_len (cells_ro bR) Ty.ag40 Ty.sz40) (jp_ 8 rfl (x_neq_agg rfl rfl Ty.eg40 (Ty.eq40 9998 (a.getD k default) (b.getD k default))) ?_))))))))
   refine JA_done (by kernel_rfl) gm_ ?_
   refine n_ ?_
   refine if_ (fun h3 => ?_) (fun h3 => ?_)
   ·have h3 : (decide (((a.getD k default) : Test) = (b.getD k default))) = false := bnot_true h3
    have h3 := of_decide_eq_false h3
    refine q_ (g_ (s_ av_ (z_ (n_ (rt_ (kq_ (nr_ (rr_ (kq_ (nr_ ?_))))))))))
    exact p1 Tryz.results10 rfl ⟨(eB c40n0_), rfl⟩
   ·have h3 : (decide (((a.getD k default) : Test) = (b.getD k default))) = true := bnot_false h3
    have h3 := of_decide_eq_true h3
    refine sk_ (kx_ (n_ (g_ (s_ mv_ (s_ (x_add_n (a := k) (b := 1) rfl rfl (by omega)) (s_ av_ (z_ ?_)))))))
    refine JX_round (k + 1 : Nat) ?_ ?_ ⟨rfl, rfl, rfl, trivial⟩ (fun _ h => h)
    ·try dsimp only
     refine ⟨?_, ?_, ?_⟩
     ·first | rfl | omega | (simp_all; done) | (simp_all; omega)
     ·first | rfl | omega | (simp_all; done) | (simp_all; omega)
     ·intro i hi
      by_cases hik : i = k
      ·subst hik; simp_all
      ·exact i1_2 i (by omega)
    ·try dsimp only
     first | omega | (simp; omega) | (simp_all; omega)
  ·refine J_exit (ne_ (re_ (kh_ (n_ (q_ ?_)))))
   refine g_ (s_ av_ (z_ (n_ (rt_ ?_))))
   exact p1 Tryz.results10 rfl ⟨(eB c40n0_), rfl⟩
end Go.Proofs.YtngjdmhpljmkpaaGreatDoor

namespace Go.Proofs.YtngjdmhpljmkpaaGreatDoor
open Go.GV
set_option linter.unusedVariables false
set_option linter.unusedSimpArgs false
theorem l40r0_ {p : Prop} (h : p := by first | exact R40.format_short _ | exact R40.short_of i1_1 (by omega)) : p := h
theorem l40r1_ {p : Prop} (h : p := by first | rfl | exact R40.ret_2 (by assumption) | exact R40.ret_2 (Decidable.not_not.1 (by assumption)) | exact R40.parse_dec (by assumption)) : p := h
theorem l40r3_ {p : Prop} (h : p := by first | exact R40.parse_short _ | exact R40.few_sh (by assumption)) : p := h
set_option maxRecDepth 20000 in
theorem f5_ok (ts : List Test) (tsA : Option Addr) (tsC : Nat) (ws : List Bytes) (wsA : Option Addr) (wsC : Nat) (w : World) (tsR : RO [] w tsA (ts.flatMap Test.enc)) (wsR : RO [] w wsA (ws.map vS)) (hT : Tab [] w) (q0 : ts.length ≤ 9223372036854775807) (q1 : ws.length ≤ 9223372036854775807) : Calls Tryz.prog 5 #[vL tsA ts.length tsC, vL wsA ws.length wsC] w (Gives [] w fun v L => v = vB true ∧ L = []) := by
 refine calls_J [] 91 Tryz.func5 rfl Tryz.ntmps5 [(0, _), (1, _)] rfl rfl (Give.nil w) ?_
 refine q_ (g_ (s_ av_ (z_ (n_ (q_ (q_ (g_ (c0 (cl_ Ty.ca6) (fun w hS => f6_ok w (hT.on hS (fun _ h => by cases h))) (jr_ (vB false) (z_ (n_ (iff_ (sk_ (n_ (q_ (q_ (g_ (s_ mv_ (c0 (cl_ Ty.ca7) (fun w hS => f7_ok ts tsA tsC ([] : List Bytes) none 0 ([] : List StepEnd) none 0 w (rno tsR hS) RO.nil RO.nil hy_ hy_ hy_) (s_ (x_not rfl) ?_))))))))))))))))))))
 refine s_ mv_ ?_
 refine or_ 3 (decide ((60 : Int) < ((ws.length : Nat) : Int))) (fun g1 => ?_) ?_
 ·have g1r := g1
  have g1r : (R40.fewV ts ([] : List Bytes) ([] : List StepEnd).length) = true := bnot_false g1r
  have hi2 := R40.few_yes g1r
  refine sg_ g1 mv_ (sg_ g1 (lnS Tryz.underlying22) (sg_ g1 (x_gtr_i rfl rfl) ?_))
  exact cr_
 refine z_ (n_ ?_)
 refine if_ (fun h3 => ?_) (fun h3 => ?_)
 ·have h3w := h3
  simp only [Bool.and_eq_true, Bool.or_eq_true, Bool.and_eq_false_iff, Bool.or_eq_false_iff, Bool.not_eq_true', Bool.not_eq_false', decide_eq_true_eq, decide_eq_false_iff_not] at h3
  refine q_ (g_ (s_ av_ (z_ (n_ (rt_ (nr_ ?_))))))
  exact p1 Tryz.results5 rfl ⟨rfl, rfl⟩
 ·have h3w := h3
  have ⟨h3, h4⟩ := bor_false h3
  have h3 : (R40.fewV ts ([] : List Bytes) ([] : List StepEnd).length) = true := bnot_false h3
  have hi5 := R40.few_yes h3
  have h4 := of_decide_eq_false h4
  refine sk_ (n_ (q_ (q_ (g_ (s_ mv_ (s_ (lnS Tryz.underlying22) (s_ mv_ (z_ (n_ (k_ ?_))))))))))
  refine J_loop (X := Nat) (fun (k : Nat) => (k ≤ ws.length) ∧ (∀ i, i < k → (ws.getD i []).length ≤ 40)) (fun (k : Nat) => [(0, vL tsA ts.length tsC), (1, vL wsA ws.length wsC), (27, vL wsA ws.length wsC), (28, vI ((ws.length : Nat) : Int)), (29, vI ((k : Nat) : Int))]) (fun (k : Nat) => []) (fun (k : Nat) => ws.length - k) (0 : Nat) ?_ ⟨rfl, rfl, rfl, rfl, rfl, trivial⟩ (fun _ h => h) ?_
  ·try dsimp only
   refine ⟨?_, ?_⟩
   ·first | rfl | omega | (simp_all; done) | (simp_all; omega)
   ·intro i hi; omega
  intro k hI1
  obtain ⟨i1_0, i1_1⟩ := hI1
  try dsimp only at i1_0
  try dsimp only at i1_1
  try dsimp only
  refine q_ (g_ (s_ (x_lss_i rfl rfl) (z_ (n_ (q_ ?_)))))
  refine ifd (fun h6w h6 => ?_) (fun h6w h6 => ?_)
  ·refine sk_ (n_ (q_ (k_ (q_ (g_ (r_ (ixM (cells_ro wsR) Tryz.underlying22 Ty.sz9) (r_ (ldM vS [] (cells_ro wsR) Ty.sc9) (s_ av_ (z_ (n_ (q_ (g_ (s_ mv_ (s_ (x_len_s rfl Tryz.underlying9) (s_ (x_gtr_i rfl rfl) (z_ (n_ ?_)))))))))))))))))
   refine ifd (fun h7w h7 => ?_) (fun h7w h7 => ?_)
   ·refine q_ (g_ (s_ av_ (z_ (n_ (rt_ (kq_ (nr_ (rr_ (kq_ (nr_ ?_))))))))))
    exact p1 Tryz.results5 rfl ⟨rfl, rfl⟩
   ·refine sk_ (kx_ (n_ (g_ (s_ (x_add_n (a := k) (b := 1) rfl rfl (by omega)) (s_ mv_ (z_ ?_))))))
    refine JX_round (k + 1 : Nat) ?_ ?_ ⟨rfl, rfl, rfl, rfl, rfl, trivial⟩ (fun _ h => h)
    ·try dsimp only
     refine ⟨?_, ?_⟩
     ·first | rfl | omega | (simp_all; done) | (simp_all; omega)
     ·intro i hi
      by_cases hik : i = k
      ·subst hik; omega
      ·exact i1_1 i (by omega)
    ·try dsimp only
     first | omega | (simp; omega) | (simp_all; omega)
  ·refine J_exit (ne_ (re_ (kh_ (n_ (q_ ?_)))))
   refine g_ (s_ mv_ ?_)
   refine c1 (cl_ Ty.ca12) (fun w hS => f12_ok ts tsA tsC w (rno tsR hS) (hT.on hS (fun _ h => by cases h)) hy_ l40r3_) ?_
   rintro _ _ ⟨e8, e9, rfl, rfl⟩
   have ha10 := R40.format_len ts
   refine s_ av_ (z_ (n_ (q_ (q_ (g_ (s_ mv_ (s_ (lnS Tryz.underlying22) (s_ (x_gtr_i rfl rfl) (z_ (n_ ?_))))))))))
   refine ifd (fun h11w h11 => ?_) (fun h11w h11 => ?_)
   ·refine q_ (g_ (s_ mv_ ?_))
    refine c1 (cl_ Ty.ca8) (fun w hS => f8_ok _ e8 e9 w (RO.of_row hS 0 rfl) (hT.on hS (fun _ h => by cases h)) (by omega) l40r0_) ?_
    rintro _ _ ⟨e12, e13, rfl, rfl⟩
    have ha14 := R40.parse_len (R40.formatV ts)
    refine s_ mv_ (s_ (ex_ 0) (s_ (ex_ 1) (s_ (ex_ 2) (s_ av_ (s_ av_ (s_ av_ (z_ (xk_ [0, 1, 8, 9, 10] ?_))))))))
    refine n_ (q_ (g_ (s_ mv_ (s_ (x_neq_i rfl rfl) (s_ mv_ ?_)))))
    refine or_ 2 (decide ((R40.parseV (R40.formatV ts)).at_ ≠ 0)) (fun g15 => ?_) ?_
    ·have g15r := g15
     have g15r := of_decide_eq_false g15r
     refine sg_ g15 mv_ (sg_ g15 (x_neq_i rfl rfl) ?_)
     exact cr_
    refine s_ mv_ ?_
    refine or_ 4 (!(decide (((R40.parseV (R40.formatV ts)).out) = ts))) (fun g16 => ?_) ?_
    ·have g16r := g16
     have ⟨g16r, h17⟩ := bor_false g16r
     have g16r := of_decide_eq_false g16r
     have h17 := of_decide_eq_false h17
     refine sg_ g16 mv_ (sg_ g16 mv_ (c0g g16 (cl_ Ty.ca10) (fun w hS => f10_ok _ e12 e13 ts tsA tsC w (RO.of_row hS 0 rfl) (rno tsR hS) hy_ hy_) (sg_ g16 (x_not rfl) ?_)))
     exact cr_
    refine z_ (n_ ?_)
    refine if_ (fun h18 => ?_) (fun h18 => ?_)
    ·have h18w := h18
     simp only [Bool.and_eq_true, Bool.or_eq_true, Bool.and_eq_false_iff, Bool.or_eq_false_iff, Bool.not_eq_true', Bool.not_eq_false', decide_eq_true_eq, decide_eq_false_iff_not] at h18
     exact (R40.ret_no (ts := ts) (by omega) (by assumption)).elim
    ·have h18w := h18
     have ⟨h18, h19⟩ := bor_false h18
     have ⟨h18, h20⟩ := bor_false h18
     have h18 := of_decide_eq_false h18
     have h20 := of_decide_eq_false h20
     have h19 : (decide (((R40.parseV (R40.formatV ts)).out) = ts)) = true := bnot_false h19
     have h19 := of_decide_eq_true h19
     refine sk_ (n_ (q_ (g_ (s_ mv_ ?_))))
     refine c1 (cl_ Ty.ca8) (fun w hS => f8_ok ws wsA wsC w (rno wsR hS) (hT.on hS (fun _ h => by cases h)) (by omega) l40r0_) ?_
     rintro _ _ ⟨e21, e22, rfl, rfl⟩
     have ha23 := R40.parse_len ws
     refine s_ mv_ (s_ (ex_ 0) (s_ (ex_ 1) (s_ (ex_ 2) (s_ av_ (s_ av_ (s_ av_ (z_ (n_ (q_ (q_ (g_ (s_ mv_ (s_ (x_neq_i rfl rfl) ?_)))))))))))))
     refine z_ (xk_ [11, 67] ?_)
     refine n_ ?_
     refine ifd (fun h24w h24 => ?_) (fun h24w h24 => ?_)
     ·refine q_ (g_ (s_ mv_ (s_ (lnS Tryz.underlying23) (s_ (x_eql_i rfl rfl) (s_ av_ (z_ (n_ (rt_ (nr_ ?_)))))))))
      exact p1 Tryz.results5 rfl ⟨(eB l40r1_), rfl⟩
     ·refine sk_ (n_ (q_ (g_ (s_ mv_ ?_))))
      refine c1 (cl_ Ty.ca12) (fun w hS => f12_ok _ e21 e22 w (RO.of_row hS 0 rfl) (hT.on hS (fun _ h => by cases h)) hy_ l40r3_) ?_
      rintro _ _ ⟨e25, e26, rfl, rfl⟩
      have ha27 := R40.format_len ((R40.parseV ws).out)
      refine c1 (cl_ Ty.ca8) (fun w hS => f8_ok _ e25 e26 w (RO.of_row hS 0 rfl) (hT.on hS (fun _ h => by cases h)) (by omega) l40r0_) ?_
      rintro _ _ ⟨e28, e29, rfl, rfl⟩
      have ha30 := R40.parse_len (R40.formatV ((R40.parseV ws).out))
      refine s_ mv_ (s_ (ex_ 0) (s_ (ex_ 1) (s_ (ex_ 2) (s_ av_ (s_ av_ (s_ av_ (z_ (n_ (q_ (g_ (s_ mv_ (s_ (x_eql_i rfl rfl) ?_))))))))))))
      refine s_ mv_ ?_
      refine and_ 3 (decide (((R40.parseV ws).out) = ((R40.parseV (R40.formatV ((R40.parseV ws).out))).out))) (fun g31 => ?_) ?_
      ·have g31r := g31
       have g31r := of_decide_eq_true g31r
       refine sg_ g31 mv_ (sg_ g31 mv_ (c0g g31 (cl_ Ty.ca10) (fun w hS => f10_ok _ e21 e22 _ e28 e29 w (RO.of_row hS 2 rfl) (RO.of_row hS 0 rfl) hy_ hy_) ?_))
       exact cr_
      refine s_ mv_ ?_
      refine and_ 4 ((R40.onV ((R40.parseV ws).out) (R40.refersV ((R40.parseV ws).out))).isSome) (fun g32 => ?_) ?_
      ·have g32r := g32
       have ⟨g32r, h33⟩ := band_true g32r
       have g32r := of_decide_eq_true g32r
       have h33 := of_decide_eq_true h33
       refine sg_ g32 mv_ (sg_ g32 mv_ ?_)
       refine c1g g32 (cl_ Ty.ca18) (fun w hS => f18_ok _ e21 e22 w (RO.of_row hS 2 rfl) hy_) ?_
       rintro _ _ ⟨e34, e35, rfl, rfl⟩
       have ha36 := R40.refers_len ((R40.parseV ws).out)
       refine c0g g32 (cl_ Ty.ca14) (fun w hS => f14_ok _ e21 e22 _ e34 e35 w (RO.of_row hS 3 rfl) (RO.of_row hS 0 rfl) hy_ hy_) ?_
       exact cr_ (fun _ h => h.keep [false, true, true, true, true, true] rfl)
      refine s_ av_ (z_ (n_ (rt_ ?_)))
      exact p1 Tryz.results5 rfl ⟨(eB l40r1_), rfl⟩
   ·refine sk_ (n_ (q_ (g_ (s_ mv_ ?_))))
    refine c1 (cl_ Ty.ca8) (fun w hS => f8_ok ws wsA wsC w (rno wsR hS) (hT.on hS (fun _ h => by cases h)) (by omega) l40r0_) ?_
    rintro _ _ ⟨e37, e38, rfl, rfl⟩
    have ha39 := R40.parse_len ws
    refine s_ mv_ (s_ (ex_ 0) (s_ (ex_ 1) (s_ (ex_ 2) (s_ av_ (s_ av_ (s_ av_ (z_ (xk_ [11, 13] ?_))))))))
    refine n_ (q_ (q_ (g_ (s_ mv_ (s_ (x_neq_i rfl rfl) (z_ (n_ ?_)))))))
    refine ifd (fun h40w h40 => ?_) (fun h40w h40 => ?_)
    ·refine q_ (g_ (s_ mv_ (s_ (lnS Tryz.underlying23) (s_ (x_eql_i rfl rfl) (s_ av_ (z_ (n_ (rt_ (nr_ ?_)))))))))
     exact p1 Tryz.results5 rfl ⟨(eB l40r1_), rfl⟩
    ·refine sk_ (n_ (q_ (g_ (s_ mv_ ?_))))
     refine c1 (cl_ Ty.ca12) (fun w hS => f12_ok _ e37 e38 w (RO.of_row hS 0 rfl) (hT.on hS (fun _ h => by cases h)) hy_ l40r3_) ?_
     rintro _ _ ⟨e41, e42, rfl, rfl⟩
     have ha43 := R40.format_len ((R40.parseV ws).out)
     refine c1 (cl_ Ty.ca8) (fun w hS => f8_ok _ e41 e42 w (RO.of_row hS 0 rfl) (hT.on hS (fun _ h => by cases h)) (by omega) l40r0_) ?_
     rintro _ _ ⟨e44, e45, rfl, rfl⟩
     have ha46 := R40.parse_len (R40.formatV ((R40.parseV ws).out))
     refine s_ mv_ (s_ (ex_ 0) (s_ (ex_ 1) (s_ (ex_ 2) (s_ av_ (s_ av_ (s_ av_ (z_ (n_ (q_ (g_ (s_ mv_ (s_ (x_eql_i rfl rfl) ?_))))))))))))
     refine s_ mv_ ?_
     refine and_ 3 (decide (((R40.parseV ws).out) = ((R40.parseV (R40.formatV ((R40.parseV ws).out))).out))) (fun g47 => ?_) ?_
     ·have g47r := g47
      have g47r := of_decide_eq_true g47r
      refine sg_ g47 mv_ (sg_ g47 mv_ (c0g g47 (cl_ Ty.ca10) (fun w hS => f10_ok _ e37 e38 _ e44 e45 w (RO.of_row hS 2 rfl) (RO.of_row hS 0 rfl) hy_ hy_) ?_))
      exact cr_
     refine s_ mv_ ?_
     refine and_ 4 ((R40.onV ((R40.parseV ws).out) (R40.refersV ((R40.parseV ws).out))).isSome) (fun g48 => ?_) ?_
     ·have g48r := g48
      have ⟨g48r, h49⟩ := band_true g48r
      have g48r := of_decide_eq_true g48r
      have h49 := of_decide_eq_true h49
      refine sg_ g48 mv_ (sg_ g48 mv_ ?_)
      refine c1g g48 (cl_ Ty.ca18) (fun w hS => f18_ok _ e37 e38 w (RO.of_row hS 2 rfl) hy_) ?_
      rintro _ _ ⟨e50, e51, rfl, rfl⟩
      have ha52 := R40.refers_len ((R40.parseV ws).out)
      refine c0g g48 (cl_ Ty.ca14) (fun w hS => f14_ok _ e37 e38 _ e50 e51 w (RO.of_row hS 3 rfl) (RO.of_row hS 0 rfl) hy_ hy_) ?_
      exact cr_ (fun _ h => h.keep [false, true, true, true, true] rfl)
     refine s_ av_ (z_ (xk_ [4] ?_))
     refine n_ (rt_ ?_)
     exact p1 Tryz.results5 rfl ⟨(eB l40r1_), rfl⟩
end Go.Proofs.YtngjdmhpljmkpaaGreatDoor


