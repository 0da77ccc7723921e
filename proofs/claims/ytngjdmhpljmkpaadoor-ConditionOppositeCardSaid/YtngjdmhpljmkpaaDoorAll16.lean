/- Pw40f, C40j, C40k, Pn40b, Pw40g, Pw40h, C40l, Pw40j in one text. -/
import Derived.Test.YtngjdmhpljmkpaaDoorAll11
import Derived.Test.YtngjdmhpljmkpaaDoorAll14
import Derived.Test.YtngjdmhpljmkpaaDoorAll7
import Derived.Test.YtngjdmhpljmkpaaDoorC40i
import Derived.Test.YtngjdmhpljmkpaaDoorC40f
import Derived.Test.YtngjdmhpljmkpaaDoorAll6
set_option linter.unusedVariables false
set_option linter.unusedSimpArgs false
namespace Go.Proofs.YtngjdmhpljmkpaaDoor
open Go.GV
namespace R40
section
variable {ts : List Test} {ws : List Bytes}
theorem tree_good (h : (treeV stepV ts).isSome = true) : good stepV ((treeV stepV ts).getD default) ∧ (post ((treeV stepV ts).getD default)).length ≤ 32 := by
  obtain ⟨x, hx⟩ := Option.isSome_iff_exists.1 h
  rw [hx]
  obtain ⟨h1, h2, _, h3⟩ := tree_iff.1 hx
  exact ⟨h2, by show (post x).length ≤ 32; rw [h3]; exact h1⟩
theorem format_no (h : (treeV stepV ts).isSome = false) : formatV ts = [] := by
  unfold formatV; cases hx : treeV stepV ts with
  | none => rfl
  | some x => rw [hx] at h; cases h
theorem format_yes (h : (treeV stepV ts).isSome = true) : formatV ts = wordsV ((treeV stepV ts).getD default) 0 := by
  obtain ⟨x, hx⟩ := Option.isSome_iff_exists.1 h
  unfold formatV; rw [hx]; rfl
theorem parse_nil (h : ws.length = 0) : parseV ws = ⟨[], 0, 0⟩ := by rw [parseV, if_pos (List.length_eq_zero_iff.1 h)]
theorem parse_bad (h0 : ¬ ws.length = 0) (h : (orN ws (ws.length + 1) 0).ok = false ∨ (orN ws (ws.length + 1) 0).pos < ws.length) : parseV ws = ⟨[], (orN ws (ws.length + 1) 0).pos, 3⟩ := by
  rw [parseV, if_neg (fun e => h0 (by rw [e]; rfl)), if_pos h]
theorem parse_big (h0 : ¬ ws.length = 0) (h1 : (orN ws (ws.length + 1) 0).ok = true) (h2 : ¬ (orN ws (ws.length + 1) 0).pos < ws.length) {y : List Test} (hy : (orN ws (ws.length + 1) 0).ok = true → y = [] ++ (orN ws (ws.length + 1) 0).out) (hb : 32 < y.length) : parseV ws = ⟨[], 0, 8⟩ := by
  rw [parseV, if_neg (fun e => h0 (by rw [e]; rfl)), if_neg (by simp [h1, h2]), if_pos (by rw [hy h1] at hb; exact hb)]
theorem parse_ok (h0 : ¬ ws.length = 0) (h1 : (orN ws (ws.length + 1) 0).ok = true) (h2 : ¬ (orN ws (ws.length + 1) 0).pos < ws.length) {y : List Test} (hy : (orN ws (ws.length + 1) 0).ok = true → y = [] ++ (orN ws (ws.length + 1) 0).out) (hb : ¬ 32 < y.length) : parseV ws = ⟨y, 0, 0⟩ := by
  rw [parseV, if_neg (fun e => h0 (by rw [e]; rfl)), if_neg (by simp [h1, h2]), if_neg (by rw [hy h1] at hb; exact hb), hy h1]; rfl
end
abbrev AW : List Bytes := [[83, 49], [114, 99], [60, 61], [52], [97, 110, 100], [110, 111, 116], [83, 50], [102, 97, 105, 108, 101, 100]]
abbrev AS : List Bytes := [[83, 49], [83, 50]]
abbrev AT : List Test := [⟨0, [83, 49], 1, 4⟩, ⟨1, [83, 50], 0, 0⟩, bare 4, bare 5]
theorem aw_parse : parseV AW = ⟨AT, 0, 0⟩ := by kernel_rfl
theorem aw_on : onV AT AS = some (.pair true (.leaf ⟨0, [83, 49], 1, 4⟩ 0) (.neg (.leaf ⟨1, [83, 50], 0, 0⟩ 1))) := by rfl
theorem aw_e : (parseV AW).e = 0 := by rw [aw_parse]
theorem aw_out : (parseV AW).out = AT := by rw [aw_parse]
theorem aw_len : (parseV AW).out.length = 4 := by rw [aw_parse]; rfl
theorem aw_is : (onV (parseV AW).out AS).isSome = true := by rw [aw_parse]; rfl
theorem aw_val : evalV (parseV AW).out AS [⟨true, false, 4⟩] = true := by rw [aw_parse]; kernel_rfl
theorem aw_fmt : (formatV (parseV AW).out).length = 8 := by rw [aw_parse]; kernel_rfl
theorem aw_ops : ∀ i, ((parseV AW).out.getD i default).Step.length ≤ 1000000 := by
  rw [aw_parse]; intro i
  match i with
  | 0 => decide
  | 1 => decide
  | 2 => decide
  | 3 => decide
  | i + 4 => exact Nat.zero_le _
theorem lit_all {l : List Bytes} {n : Nat} (h : l.all (fun s => decide (s.length ≤ n)) = true) (k : Nat) : (l.getD k []).length ≤ n := by
  by_cases hk : k < l.length
  · rw [List.getD_eq_getElem?_getD, List.getElem?_eq_getElem hk]; exact of_decide_eq_true (List.all_eq_true.1 h _ (List.getElem_mem hk))
  · rw [List.getD_eq_getElem?_getD, List.getElem?_eq_none (by omega)]; exact Nat.zero_le _
theorem bit_or (s b : UInt32) (hs : s &&& 1 = 0) (hb : b &&& 1 = 0) : (s ||| b) &&& 1 = 0 := by
  have e : (s ||| b) &&& 1 = (s &&& 1) ||| (b &&& 1) := by
    apply UInt32.eq_of_toBitVec_eq
    simp only [UInt32.toBitVec_and, UInt32.toBitVec_or]
    apply BitVec.eq_of_getLsbD_eq
    intro i _
    simp only [BitVec.getLsbD_and, BitVec.getLsbD_or, Bool.and_or_distrib_right]
  rw [e, hs, hb]; rfl
theorem aw_bits (k : Nat) (e : StepEnd) (h : k < 2) (he : k = 0 → e = ⟨true, false, 8⟩) : bitsV AT AS k e &&& 1 = 0 := by
  have h3 : ∀ e, bitC AT AS k e 3 = false := fun e => rfl
  have h2 : ∀ e, bitC AT AS k e 2 = false := fun e => rfl
  have h0 : bitC AT AS k e 0 = false := by
    match k, h with
    | 0, _ => rw [he rfl]; rfl
    | 1, _ => rfl
  have hn : bitsN AT AS k e 4 &&& 1 = 0 := by
    simp only [bitsN, h3, h2, h0]
    cases bitC AT AS k e 1 <;> decide
  unfold bitsV
  show (if failed e = true then bitsN AT AS k e 4 ||| 2147483648 else bitsN AT AS k e 4) &&& 1 = 0
  split
  · exact bit_or _ _ hn (by decide)
  · exact hn
abbrev AQ : UInt32 → Prop := fun s => s &&& 1 = 0
theorem aw_step (k : Nat) (e : StepEnd) (s : UInt32) (hk : k < AS.length) (he : k < [(⟨true, false, 8⟩ : StepEnd)].length → e = [(⟨true, false, 8⟩ : StepEnd)].getD k default) (hs : AQ s) : AQ (s ||| bitsV (parseV AW).out AS k e) := by
  rw [aw_out]
  exact bit_or _ _ hs (aw_bits k e hk fun h => by subst h; exact he (by decide))
theorem aw_end (s : UInt32) (hs : AQ s) : eval (leafB s) ((onV (parseV AW).out AS).getD default) = false := by
  rw [aw_out, aw_on]
  show (leafB s ⟨0, [83, 49], 1, 4⟩ 0 && _) = false
  have : leafB s ⟨0, [83, 49], 1, 4⟩ 0 = false := by
    unfold leafB; rw [if_neg (by decide)]
    refine decide_eq_false ?_
    show ¬ (UInt32.ofBitVec (s.toBitVec >>> 0) &&& 1 = 1)
    rw [BitVec.ushiftRight_zero]
    show ¬ (s &&& 1 = 1)
    rw [hs]; decide
  rw [this]; rfl
theorem aw_all : ((((((decide ((parseV AW).e = 0) && decide (((parseV AW).out.length : Int) = 4)) && (onV (parseV AW).out AS).isSome) && evalV (parseV AW).out AS [⟨true, false, 4⟩]) && (!false)) && true) && decide (((formatV (parseV AW).out).length : Int) = 8)) = true := by
  rw [decide_eq_true aw_e, aw_is, aw_val, aw_fmt, aw_len]; rfl
def fewV (ts : List Test) (steps : List Bytes) (m : Nat) : Bool := ts.all (fun t => decide (t.Step.length ≤ 40)) && steps.all (fun s => decide (s.length ≤ 40)) && decide (ts.length ≤ 40) && decide (steps.length ≤ 8) && decide (m ≤ 10)
section
variable {ts : List Test} {steps : List Bytes} {m k : Nat}
theorem all_tests (h : ∀ i, i < k → (ts.getD i default).Step.length ≤ 40) (hk : k = ts.length) : ts.all (fun t => decide (t.Step.length ≤ 40)) = true := List.all_eq_true.2 fun t ht => by
  obtain ⟨i, hi, e⟩ := List.getElem_of_mem ht
  have := h i (by omega)
  rw [List.getD_eq_getElem?_getD, List.getElem?_eq_getElem hi] at this
  exact decide_eq_true (e ▸ this)
theorem all_steps (h : ∀ i, i < k → (steps.getD i []).length ≤ 40) (hk : k = steps.length) : steps.all (fun s => decide (s.length ≤ 40)) = true := List.all_eq_true.2 fun t ht => by
  obtain ⟨i, hi, e⟩ := List.getElem_of_mem ht
  have := h i (by omega)
  rw [List.getD_eq_getElem?_getD, List.getElem?_eq_getElem hi] at this
  exact decide_eq_true (e ▸ this)
theorem few_t (hk : k < ts.length) (h : ¬ (ts.getD k default).Step.length ≤ 40) : fewV ts steps m = false := by
  unfold fewV
  have : ts.all (fun t => decide (t.Step.length ≤ 40)) = false := by
    rw [List.all_eq_false]
    refine ⟨ts.getD k default, ?_, by simp only [decide_eq_true_eq]; exact h⟩
    rw [List.getD_eq_getElem?_getD, List.getElem?_eq_getElem hk]; exact List.getElem_mem hk
  rw [this]; rfl
theorem few_s (hk : k < steps.length) (h : ¬ (steps.getD k []).length ≤ 40) : fewV ts steps m = false := by
  unfold fewV
  have : steps.all (fun t => decide (t.length ≤ 40)) = false := by
    rw [List.all_eq_false]
    refine ⟨steps.getD k [], ?_, by simp only [decide_eq_true_eq]; exact h⟩
    rw [List.getD_eq_getElem?_getD, List.getElem?_eq_getElem hk]; exact List.getElem_mem hk
  rw [this, Bool.and_false]; rfl
theorem few_n {k2 : Nat} (h : ∀ i, i < k → (ts.getD i default).Step.length ≤ 40) (hk : k = ts.length) (h2 : ∀ i, i < k2 → (steps.getD i []).length ≤ 40) (hk2 : k2 = steps.length) : fewV ts steps m = (decide (ts.length ≤ 40) && decide (steps.length ≤ 8) && decide (m ≤ 10)) := by
  unfold fewV; rw [all_tests h hk, all_steps h2 hk2]; rfl
theorem few_i {k2 : Nat} (h : ∀ i, i < k → (ts.getD i default).Step.length ≤ 40) (hk : k = ts.length) (h2 : ∀ i, i < k2 → (steps.getD i []).length ≤ 40) (hk2 : k2 = steps.length) : (decide ((ts.length : Int) ≤ 40) && decide ((steps.length : Int) ≤ 8) && decide ((m : Int) ≤ 10)) = fewV ts steps m := by
  rw [few_n h hk h2 hk2]
  have e : ∀ a b : Nat, decide ((a : Int) ≤ (b : Int)) = decide (a ≤ b) := fun a b => decide_eq_decide.2 (by omega)
  exact congr (congrArg and (congr (congrArg and (e _ 40)) (e _ 8))) (e _ 10)
theorem few_yes (h : fewV ts steps m = true) : (∀ i, (ts.getD i default).Step.length ≤ 40) ∧ (∀ i, (steps.getD i []).length ≤ 40) ∧ ts.length ≤ 40 ∧ steps.length ≤ 8 ∧ m ≤ 10 := by
  unfold fewV at h
  simp only [Bool.and_eq_true, decide_eq_true_eq, List.all_eq_true] at h
  refine ⟨fun i => ?_, fun i => ?_, h.1.1.2, h.1.2, h.2⟩
  · by_cases hi : i < ts.length
    · rw [List.getD_eq_getElem?_getD, List.getElem?_eq_getElem hi]; exact h.1.1.1.1 _ (List.getElem_mem hi)
    · rw [List.getD_eq_getElem?_getD, List.getElem?_eq_none (by omega)]; exact Nat.zero_le _
  · by_cases hi : i < steps.length
    · rw [List.getD_eq_getElem?_getD, List.getElem?_eq_getElem hi]; exact h.1.1.1.2 _ (List.getElem_mem hi)
    · rw [List.getD_eq_getElem?_getD, List.getElem?_eq_none (by omega)]; exact Nat.zero_le _
end
def stepsV (ts : List Test) (k : Nat) : List Bytes := ((ts.take k).map (·.Step)).filter fun s => decide (s ≠ [])
section
variable {ts : List Test} {k : Nat}
end
end R40
end Go.Proofs.YtngjdmhpljmkpaaDoor

namespace Go.Proofs.YtngjdmhpljmkpaaDoor
open Go.GV
set_option linter.unusedVariables false
set_option linter.unusedSimpArgs false
theorem Tf14_ok_ {p : Prop} (h : p := by first | (have hd := R40.format_no (ts := ts) (by assumption); first | (rw [hd]; done) | (rw [hd]; rfl)) | (have hd := R40.format_yes (ts := ts) (by assumption); first | (rw [hd]; done) | (rw [hd]; rfl)) | (have hd := R40.format_no (ts := ts) (by simp_all); first | (rw [hd]; done) | (rw [hd]; rfl))) : p := h
set_option maxRecDepth 20000 in
theorem f14_ok (ts : List Test) (tsA : Option Addr) (tsC : Nat) (w : World) (tsR : RO [] w tsA (ts.flatMap Test.enc)) (hT : Tab [] w) (q0 : ts.length ≤ 9223372036854775807) (q1 : ∀ i, (ts.getD i default).Step.length ≤ 1000000) : Calls Tryd.prog 14 #[vL tsA ts.length tsC] w (Gives [] w fun v L => ∃ A2 : Option Addr, ∃ c2 : Nat, v = vL A2 ((R40.formatV ts).length) c2 ∧ L = [Ent.row (.slice A2 (R40.formatV ts).length c2) 9 1 (R40.formatV ts).length ((R40.formatV ts).map vS)]) := by
 refine calls_J [] 14 Tryd.func14 rfl Tryd.ntmps14 [(0, _)] rfl rfl (Give.nil w) ?_
 refine q_ (g_ (s_ av_ (z_ (n_ (q_ (g_ (s_ mv_ (c0 (cl_ Ty.ca24) (fun w hS => ftree_nm ts tsA tsC w (rno tsR hS) (hT.on hS (fun _ h => by cases h)) hy_ hy_) (s_ mv_ (s_ (ex_ 0) (s_ (ex_ 1) (s_ av_ (s_ av_ ?_)))))))))))))
 refine z_ (n_ (q_ (q_ (g_ (s_ mv_ (s_ (x_not rfl) (z_ (n_ ?_))))))))
 refine if_ (fun h1 => ?_) (fun h1 => ?_)
 ·have h1w := h1
  have h1 : ((R40.treeV R40.stepV ts).isSome) = false := bnot_true h1
  refine q_ (g_ (s_ av_ (z_ (n_ (rt_ (nr_ ?_))))))
  refine JX_rets [_] _ Tryd.results14 (fun w h => ⟨rfl, trivial⟩) rfl [Ent.row (.slice none ([] : List Bytes).length 0) 9 1 ([] : List Bytes).length (([] : List Bytes).map vS)] (fun _ h => (h.nilrow 9 1).keep [true] rfl) ⟨none, 0, ?_, ?_⟩
  ·have e_x0 : (0 : Nat) = ((R40.formatV ts).length) := Tf14_ok_
   exact congrArg (fun (x0 : Nat) => vL none x0 0) e_x0
  ·have e_y0 : (([] : List Bytes) : List Bytes) = (R40.formatV ts) := by
    exact Tf14_ok_
   have e_all := (congrArg (fun (y0 : List Bytes) => [Ent.row (.slice none y0.length 0) 9 1 y0.length (y0.map vS)]) e_y0)
   exact e_all
 ·have h1w := h1
  have h1 : ((R40.treeV R40.stepV ts).isSome) = true := bnot_false h1
  have hgt := R40.tree_good (by assumption : (R40.treeV R40.stepV ts).isSome = true)
  refine J_weaken (E' := [(0, vL tsA ts.length tsC), (2, vL none 0 0), (6, vL tsA ts.length tsC), (7, Value.tuple #[nodeO (R40.treeV R40.stepV ts), vB ((R40.treeV R40.stepV ts).isSome)]), (5, Value.tuple #[nodeO (R40.treeV R40.stepV ts), vB ((R40.treeV R40.stepV ts).isSome)]), (8, nodeV ((R40.treeV R40.stepV ts).getD default)), (9, vB ((R40.treeV R40.stepV ts).isSome)), (3, nodeV ((R40.treeV R40.stepV ts).getD default)), (4, vB ((R40.treeV R40.stepV ts).isSome)), (10, vB ((R40.treeV R40.stepV ts).isSome)), (11, vB (!((R40.treeV R40.stepV ts).isSome)))]) (L' := []) ⟨rfl, rfl, rfl, rfl, rfl, (congrArg some (nodeO_some (by assumption))), rfl, (congrArg some (nodeO_some (by assumption))), rfl, rfl, rfl, trivial⟩ (fun _ h => h) ?_
  refine sk_ (n_ (q_ (g_ (s_ mv_ ?_))))
  refine c1 (cl_ Ty.ca31) (fun w hS => f31_ok _ 0 w (hT.on hS (fun _ h => by cases h)) (by exact hgt.1) (by exact hgt.2) (by first | omega | (split <;> omega))) ?_
  rintro _ _ ⟨e2, e3, rfl, rfl⟩
  refine s_ av_ (z_ (n_ (rt_ ?_)))
  refine JX_rets [_] _ Tryd.results14 (fun w h => ⟨rfl, trivial⟩) rfl _ (fun _ h => h) ⟨e2, e3, ?_, ?_⟩
  ·have e_x0 : ((R40.wordsV ((R40.treeV R40.stepV ts).getD default) 0).length : Nat) = ((R40.formatV ts).length) := Tf14_ok_
   exact congrArg (fun (x0 : Nat) => vL e2 x0 e3) e_x0
  ·have e_y0 : ((R40.wordsV ((R40.treeV R40.stepV ts).getD default) 0) : List Bytes) = (R40.formatV ts) := by
    exact Tf14_ok_
   have e_all := (congrArg (fun (y0 : List Bytes) => [Ent.row (.slice e2 y0.length e3) 9 1 y0.length (y0.map vS)]) e_y0)
   exact e_all
set_option maxRecDepth 20000 in
theorem f12_ok (ws : List Bytes) (wsA : Option Addr) (wsC : Nat) (w : World) (wsR : RO [] w wsA (ws.map vS)) (hT : Tab [] w) (q0 : ws.length ≤ 1000000) (q1 : ∀ k, (ws.getD k []).length ≤ 1000000) : Calls Tryd.prog 12 #[vL wsA ws.length wsC] w (Gives [] w fun v L => ∃ A2 : Option Addr, ∃ c2 : Nat, v = Value.tuple #[vL A2 ((R40.parseV ws).out.length) c2, vI ((R40.parseV ws).at_), vI ((R40.parseV ws).e)] ∧ L = [Ent.row (.slice A2 ((R40.parseV ws).out).length c2) 30 4 ((R40.parseV ws).out).length (((R40.parseV ws).out).flatMap Test.enc)]) := by
 refine calls_J [] 38 Tryd.func12 rfl Tryd.ntmps12 [(0, _)] rfl rfl (Give.nil w) ?_
 refine q_ (g_ (s_ av_ (s_ av_ (s_ av_ (z_ (n_ (q_ (q_ (g_ (s_ mv_ (s_ (lnS Tryd.underlying23) (s_ (x_eql_i rfl rfl) (z_ (n_ ?_))))))))))))))
 refine ifd (fun h1w h1 => ?_) (fun h1w h1 => ?_)
 ·refine q_ (g_ (s_ av_ (s_ av_ (s_ av_ (z_ (n_ (rt_ (nr_ ?_))))))))
  first
   | have hd := R40.parse_nil (ws := ws) (by omega)
   | have hd := R40.parse_bad (ws := ws) (by omega) (.inl (by assumption))
   | have hd := R40.parse_bad (ws := ws) (by omega) (.inr (by omega))
   | have hd := R40.parse_bad (ws := ws) (by omega) (Or.imp_right Int.ofNat_lt.1 (by assumption))
   | have hd := R40.parse_big (ws := ws) (by omega) (by assumption) (by omega) no_such_condition (by omega)
   | have hd := R40.parse_ok (ws := ws) (by omega) (by assumption) (by omega) no_such_condition (by omega)
  refine JX_rets [_, _, _] (Value.tuple #[_, _, _]) Tryd.results12 (fun w h => ⟨rfl, rfl, rfl, trivial⟩) rfl [Ent.row (.slice none ([] : List Test).length 0) 30 4 ([] : List Test).length (([] : List Test).flatMap Test.enc)] (fun _ h => (h.nilrow 30 4).keep [true] rfl) ⟨none, 0, ?_, ?_⟩
  ·have e_x0 : (0 : Nat) = ((R40.parseV ws).out.length) := by first | (rw [hd]; done) | (rw [hd]; rfl)
   have e_x1 : (0 : Int) = ((R40.parseV ws).at_) := by first | (rw [hd]; done) | (rw [hd]; rfl)
   have e_x2 : (0 : Int) = ((R40.parseV ws).e) := by first | (rw [hd]; done) | (rw [hd]; rfl)
   have e_all := (congr (congr (congrArg (fun (x0 : Nat) (x1 : Int) (x2 : Int) => Value.tuple #[vL none x0 0, vI x1, vI x2]) e_x0) e_x1) e_x2)
   exact e_all
  ·have e_y0 : (([] : List Test) : List Test) = (R40.parseV ws).out := by
    first | (rw [hd]; done) | (rw [hd]; rfl)
   have e_all := (congrArg (fun (y0 : List Test) => [Ent.row (.slice none y0.length 0) 30 4 y0.length (y0.flatMap Test.enc)]) e_y0)
   exact e_all
 ·refine sk_ (n_ (q_ (g_ (s_ mv_ (js_ (vG [vL wsA ws.length wsC, vI 0, vL none 0 0]) (x_build (by kernel_rfl)) (o_ (bxG fun b2 => ?_)))))))
  refine s_ av_ (z_ (n_ (q_ (q_ (g_ (s_ mv_ ?_))))))
  refine JO_call (Lown [Ent.blk b2 59 [vL wsA ws.length wsC, vI ((0 : Nat) : Int), vL none 0 0], Ent.row (.slice none 0 0) 30 4 0 (([] : List Test).flatMap Test.enc)]) [Ent.blk b2 59 [vL wsA ws.length wsC, vI ((0 : Nat) : Int), vL none 0 0], Ent.row (.slice none 0 0) 30 4 0 (([] : List Test).flatMap Test.enc)] [] rfl trivial (fun _ => x_call Ty.ca27 rfl) (fun _ h => ((h.nilrow 30 4).front 1 _ rfl).keep [true, true] rfl) lown_mem (fun w hS => f27_ok b2 ws wsA wsC 0 ([] : List Test) none 0 0 ws.length w (wsR.on hS lown_mem) (hT.on hS lown_mem) hy_ hy_ hy_ hy_ hy_ (by exact or_all _) (by omega) (hS.give lown_in)) ?_
  rintro _ _ ⟨y3, yA4, yC5, rfl, rfl, hf6, hf7, hf8, hf9, hf10⟩
  try simp only [List.length_cons, List.length_nil, Nat.zero_add, Nat.reduceAdd] at hf6
  try simp only [List.length_cons, List.length_nil, Nat.zero_add, Nat.reduceAdd] at hf7
  refine s_ (x_not rfl) (s_ mv_ ?_)
  refine or_ 7 (decide ((((R40.orN ws (ws.length + 1) 0).pos : Nat) : Int) < ((ws.length : Nat) : Int))) (fun g11 => ?_) ?_
  ·have g11r := g11
   have g11r : ((R40.orN ws (ws.length + 1) 0).ok) = true := bnot_false g11r
   refine sg_ g11 mv_ (sg_ g11 (x_nilCheck rfl) (sg_ g11 (fA 1 Ty.fi59_1) (rg_ g11 (ld_ 0 Ty.sc3) (sg_ g11 mv_ (sg_ g11 (lnS Tryd.underlying23) (sg_ g11 (x_lss_i rfl rfl) ?_))))))
   exact cr_
  refine z_ (n_ ?_)
  refine if_ (fun h12 => ?_) (fun h12 => ?_)
  ·have h12w := h12
   simp only [Bool.and_eq_true, Bool.or_eq_true, Bool.and_eq_false_iff, Bool.or_eq_false_iff, Bool.not_eq_true', Bool.not_eq_false', decide_eq_true_eq, decide_eq_false_iff_not] at h12
   refine q_ ?_
   refine drB [] 7 Ty.mixed ?_
   refine jp_ 0 rfl mv_ (jp_ 1 rfl (x_nilCheck rfl) (jp_ 2 rfl (fA 1 Ty.fi59_1) (jq_ 3 rfl (ld_ 0 Ty.sc3) (jp_ 4 rfl av_ (jp_ 5 rfl av_ (jp_ 6 rfl av_ ?_))))))
   refine JA_done (by kernel_rfl) gm_ ?_
   refine n_ (rt_ (nr_ ?_))
   first
    | have hd := R40.parse_nil (ws := ws) (by omega)
    | have hd := R40.parse_bad (ws := ws) (by omega) (.inl (by assumption))
    | have hd := R40.parse_bad (ws := ws) (by omega) (.inr (by omega))
    | have hd := R40.parse_bad (ws := ws) (by omega) (Or.imp_right Int.ofNat_lt.1 (by assumption))
    | have hd := R40.parse_big (ws := ws) (by omega) (by assumption) (by omega) hf6 (by omega)
    | have hd := R40.parse_ok (ws := ws) (by omega) (by assumption) (by omega) hf6 (by omega)
   refine JX_rets [_, _, _] (Value.tuple #[_, _, _]) Tryd.results12 (fun w h => ⟨rfl, rfl, rfl, trivial⟩) rfl [Ent.row (.slice none ([] : List Test).length 0) 30 4 ([] : List Test).length (([] : List Test).flatMap Test.enc)] (fun _ h => (h.nilrow 30 4).keep [true, false, false] rfl) ⟨none, 0, ?_, ?_⟩
   ·have e_x0 : (0 : Nat) = ((R40.parseV ws).out.length) := by first | (rw [hd]; done) | (rw [hd]; rfl)
    have e_x1 : ((((R40.orN ws (ws.length + 1) 0).pos : Nat) : Int) : Int) = ((R40.parseV ws).at_) := by first | (rw [hd]; done) | (rw [hd]; rfl)
    have e_x2 : (3 : Int) = ((R40.parseV ws).e) := by first | (rw [hd]; done) | (rw [hd]; rfl)
    have e_all := (congr (congr (congrArg (fun (x0 : Nat) (x1 : Int) (x2 : Int) => Value.tuple #[vL none x0 0, vI x1, vI x2]) e_x0) e_x1) e_x2)
    exact e_all
   ·have e_y0 : (([] : List Test) : List Test) = (R40.parseV ws).out := by
     first | (rw [hd]; done) | (rw [hd]; rfl)
    have e_all := (congrArg (fun (y0 : List Test) => [Ent.row (.slice none y0.length 0) 30 4 y0.length (y0.flatMap Test.enc)]) e_y0)
    exact e_all
  ·have h12w := h12
   have ⟨h12, h13⟩ := bor_false h12
   have h12 : ((R40.orN ws (ws.length + 1) 0).ok) = true := bnot_false h12
   have h13 := of_decide_eq_false h13
   refine sk_ (n_ (q_ (q_ (g_ (s_ mv_ (s_ (x_nilCheck rfl) (s_ (fA 2 Ty.fi59_2) (r_ (ld_ 0 Ty.sc22) (s_ (lnS Tryd.underlying22) (s_ (x_gtr_i rfl rfl) (z_ (xk_ [2, 3, 4, 5, 33] ?_))))))))))))
   refine n_ ?_
   refine ifd (fun h14w h14 => ?_) (fun h14w h14 => ?_)
   ·refine q_ (g_ (s_ av_ (s_ av_ (s_ av_ (z_ (n_ (rt_ (nr_ ?_))))))))
    first
     | have hd := R40.parse_nil (ws := ws) (by omega)
     | have hd := R40.parse_bad (ws := ws) (by omega) (.inl (by assumption))
     | have hd := R40.parse_bad (ws := ws) (by omega) (.inr (by omega))
     | have hd := R40.parse_bad (ws := ws) (by omega) (Or.imp_right Int.ofNat_lt.1 (by assumption))
     | have hd := R40.parse_big (ws := ws) (by omega) (by assumption) (by omega) hf6 (by omega)
     | have hd := R40.parse_ok (ws := ws) (by omega) (by assumption) (by omega) hf6 (by omega)
    refine JX_rets [_, _, _] (Value.tuple #[_, _, _]) Tryd.results12 (fun w h => ⟨rfl, rfl, rfl, trivial⟩) rfl [Ent.row (.slice none ([] : List Test).length 0) 30 4 ([] : List Test).length (([] : List Test).flatMap Test.enc)] (fun _ h => (h.nilrow 30 4).keep [true, false, false] rfl) ⟨none, 0, ?_, ?_⟩
    ·have e_x0 : (0 : Nat) = ((R40.parseV ws).out.length) := by first | (rw [hd]; done) | (rw [hd]; rfl)
     have e_x1 : (0 : Int) = ((R40.parseV ws).at_) := by first | (rw [hd]; done) | (rw [hd]; rfl)
     have e_x2 : (8 : Int) = ((R40.parseV ws).e) := by first | (rw [hd]; done) | (rw [hd]; rfl)
     have e_all := (congr (congr (congrArg (fun (x0 : Nat) (x1 : Int) (x2 : Int) => Value.tuple #[vL none x0 0, vI x1, vI x2]) e_x0) e_x1) e_x2)
     exact e_all
    ·have e_y0 : (([] : List Test) : List Test) = (R40.parseV ws).out := by
      first | (rw [hd]; done) | (rw [hd]; rfl)
     have e_all := (congrArg (fun (y0 : List Test) => [Ent.row (.slice none y0.length 0) 30 4 y0.length (y0.flatMap Test.enc)]) e_y0)
     exact e_all
   ·refine sk_ (n_ (q_ (g_ (s_ mv_ (s_ (x_nilCheck rfl) (s_ (fA 2 Ty.fi59_2) (r_ (ld_ 0 Ty.sc22) (s_ av_ (s_ av_ (s_ av_ (z_ (n_ (rt_ ?_)))))))))))))
    first
     | have hd := R40.parse_nil (ws := ws) (by omega)
     | have hd := R40.parse_bad (ws := ws) (by omega) (.inl (by assumption))
     | have hd := R40.parse_bad (ws := ws) (by omega) (.inr (by omega))
     | have hd := R40.parse_bad (ws := ws) (by omega) (Or.imp_right Int.ofNat_lt.1 (by assumption))
     | have hd := R40.parse_big (ws := ws) (by omega) (by assumption) (by omega) hf6 (by omega)
     | have hd := R40.parse_ok (ws := ws) (by omega) (by assumption) (by omega) hf6 (by omega)
    refine JX_rets [_, _, _] (Value.tuple #[_, _, _]) Tryd.results12 (fun w h => ⟨rfl, rfl, rfl, trivial⟩) rfl _ (fun _ h => h.keep [false, true] rfl) ⟨yA4, yC5, ?_, ?_⟩
    ·have e_x0 : (y3.length : Nat) = ((R40.parseV ws).out.length) := by first | (rw [hd]; done) | (rw [hd]; rfl)
     have e_x1 : (0 : Int) = ((R40.parseV ws).at_) := by first | (rw [hd]; done) | (rw [hd]; rfl)
     have e_x2 : (0 : Int) = ((R40.parseV ws).e) := by first | (rw [hd]; done) | (rw [hd]; rfl)
     have e_all := (congr (congr (congrArg (fun (x0 : Nat) (x1 : Int) (x2 : Int) => Value.tuple #[vL yA4 x0 yC5, vI x1, vI x2]) e_x0) e_x1) e_x2)
     exact e_all
    ·have e_y0 : (y3 : List Test) = (R40.parseV ws).out := by
      first | (rw [hd]; done) | (rw [hd]; rfl)
     have e_all := (congrArg (fun (y0 : List Test) => [Ent.row (.slice yA4 y0.length yC5) 30 4 y0.length (y0.flatMap Test.enc)]) e_y0)
     exact e_all
end Go.Proofs.YtngjdmhpljmkpaaDoor

namespace Go.Proofs.YtngjdmhpljmkpaaDoor
open Go.GV
set_option linter.unusedVariables false
set_option linter.unusedSimpArgs false
theorem c40k0_ {p : Prop} (h : p := by first | exact (R40.few_t (k := k) (by omega) (by omega)).symm | exact (R40.few_s (k := k2) (by omega) (by omega)).symm | exact R40.few_i i1_1 (by omega) i2_1 (by omega)) : p := h
set_option maxRecDepth 20000 in
theorem f6_ok (ts : List Test) (tsA : Option Addr) (tsC : Nat) (steps : List Bytes) (stepsA : Option Addr) (stepsC : Nat) (E : List StepEnd) (EA : Option Addr) (EC : Nat) (w : World) (tsR : RO [] w tsA (ts.flatMap Test.enc)) (stepsR : RO [] w stepsA (steps.map vS)) (ER : RO [] w EA (E.flatMap StepEnd.enc)) (q0 : ts.length ≤ 9223372036854775807) (q1 : steps.length ≤ 9223372036854775807) (q2 : E.length ≤ 9223372036854775807) : Calls Tryd.prog 6 #[vL tsA ts.length tsC, vL stepsA steps.length stepsC, vL EA E.length EC] w (Gives [] w fun v L => v = vB (R40.fewV ts steps E.length) ∧ L = []) := by
 refine calls_J [] 45 Tryd.func6 rfl Tryd.ntmps6 [(0, _), (1, _), (2, _)] rfl rfl (Give.nil w) ?_
 refine q_ (g_ (s_ av_ (z_ (n_ (q_ (q_ (g_ (s_ mv_ (s_ (lnS Tryd.underlying22) (s_ mv_ (z_ (n_ (k_ ?_)))))))))))))
 refine J_loop (X := Nat) (fun (k : Nat) => (k ≤ ts.length) ∧ (∀ i, i < k → (ts.getD i default).Step.length ≤ 40)) (fun (k : Nat) => [(0, vL tsA ts.length tsC), (1, vL stepsA steps.length stepsC), (2, vL EA E.length EC), (11, vL tsA ts.length tsC), (12, vI ((ts.length : Nat) : Int)), (13, vI ((k : Nat) : Int))]) (fun (k : Nat) => []) (fun (k : Nat) => ts.length - k) (0 : Nat) ?_ ⟨rfl, rfl, rfl, rfl, rfl, rfl, trivial⟩ (fun _ h => h) ?_
 ·try dsimp only
  refine ⟨?_, ?_⟩
  ·first | rfl | omega | (simp_all; done) | (simp_all; omega)
  ·intro i hi; omega
 intro k hI1
 obtain ⟨i1_0, i1_1⟩ := hI1
 try dsimp only at i1_0
 try dsimp only at i1_1
 try dsimp only
 refine q_ (g_ (s_ (x_lss_i rfl rfl) (z_ (n_ (q_ ?_)))))
 refine ifd (fun h1w h1 => ?_) (fun h1w h1 => ?_)
 ·refine sk_ (n_ (q_ (k_ (q_ (g_ (r_ (ixF Test.enc_len (cells_ro tsR) Tryd.underlying22 Ty.sz30) (r_ (ldFN Test.enc_len (cells_ro tsR) Ty.ag30 Ty.sz30) (o_ (al_ Ty.ze30 fun b2 => ?_)))))))))
  refine o_ (stG 0 Ty.sz30 ?_)
  refine z_ (n_ (q_ (g_ (s_ (fA 1 Ty.fi30_1) (r_ (ld_ 0 Ty.sc9) (s_ (x_len_s rfl Tryd.underlying9) (s_ (x_gtr_i rfl rfl) (z_ (n_ ?_)))))))))
  refine ifd (fun h3w h3 => ?_) (fun h3w h3 => ?_)
  ·refine q_ (g_ (s_ av_ (z_ (n_ (rt_ (kq_ (nr_ (rr_ (kq_ (nr_ ?_))))))))))
   exact p1 Tryd.results6 rfl ⟨(eB c40k0_), rfl⟩
  ·refine sk_ (kx_ (n_ (g_ (s_ (x_add_n (a := k) (b := 1) rfl rfl (by omega)) (s_ mv_ (z_ ?_))))))
   refine JX_round (k + 1 : Nat) ?_ ?_ ⟨rfl, rfl, rfl, rfl, rfl, rfl, trivial⟩ (fun _ h => h.keep [false] rfl)
   ·try dsimp only
    refine ⟨?_, ?_⟩
    ·first | rfl | omega | (simp_all; done) | (simp_all; omega)
    ·intro i hi
     by_cases hik : i = k
     ·subst hik; omega
     ·exact i1_1 i (by omega)
   ·try dsimp only
    first | omega | (simp; omega) | (simp_all; omega)
 ·refine J_exit (ne_ (re_ (kh_ (n_ (q_ ?_)))))
  refine q_ (g_ (s_ mv_ (s_ (lnS Tryd.underlying23) (s_ mv_ (z_ (n_ (k_ ?_)))))))
  refine J_loop (X := Nat) (fun (k2 : Nat) => (k2 ≤ steps.length) ∧ (∀ i, i < k2 → (steps.getD i []).length ≤ 40)) (fun (k2 : Nat) => [(0, vL tsA ts.length tsC), (1, vL stepsA steps.length stepsC), (2, vL EA E.length EC), (22, vL stepsA steps.length stepsC), (23, vI ((steps.length : Nat) : Int)), (24, vI ((k2 : Nat) : Int))]) (fun (k2 : Nat) => []) (fun (k2 : Nat) => steps.length - k2) (0 : Nat) ?_ ⟨rfl, rfl, rfl, rfl, rfl, rfl, trivial⟩ (fun _ h => h) ?_
  ·try dsimp only
   refine ⟨?_, ?_⟩
   ·first | rfl | omega | (simp_all; done) | (simp_all; omega)
   ·intro i hi; omega
  intro k2 hI2
  obtain ⟨i2_0, i2_1⟩ := hI2
  try dsimp only at i2_0
  try dsimp only at i2_1
  try dsimp only
  refine q_ (g_ (s_ (x_lss_i rfl rfl) (z_ (n_ (q_ ?_)))))
  refine ifd (fun h4w h4 => ?_) (fun h4w h4 => ?_)
  ·refine sk_ (n_ (q_ (k_ (q_ (g_ (r_ (ixM (cells_ro stepsR) Tryd.underlying23 Ty.sz9) (r_ (ldM vS [] (cells_ro stepsR) Ty.sc9) (s_ av_ (z_ (n_ (q_ (g_ (s_ mv_ (s_ (x_len_s rfl Tryd.underlying9) (s_ (x_gtr_i rfl rfl) (z_ (n_ ?_)))))))))))))))))
   refine ifd (fun h5w h5 => ?_) (fun h5w h5 => ?_)
   ·refine q_ (g_ (s_ av_ (z_ (n_ (rt_ (kq_ (nr_ (rr_ (kq_ (nr_ ?_))))))))))
    exact p1 Tryd.results6 rfl ⟨(eB c40k0_), rfl⟩
   ·refine sk_ (kx_ (n_ (g_ (s_ (x_add_n (a := k2) (b := 1) rfl rfl (by omega)) (s_ mv_ (z_ ?_))))))
    refine JX_round (k2 + 1 : Nat) ?_ ?_ ⟨rfl, rfl, rfl, rfl, rfl, rfl, trivial⟩ (fun _ h => h)
    ·try dsimp only
     refine ⟨?_, ?_⟩
     ·first | rfl | omega | (simp_all; done) | (simp_all; omega)
     ·intro i hi
      by_cases hik : i = k2
      ·subst hik; omega
      ·exact i2_1 i (by omega)
    ·try dsimp only
     first | omega | (simp; omega) | (simp_all; omega)
  ·refine J_exit (ne_ (re_ (kh_ (n_ (q_ ?_)))))
   refine g_ (s_ mv_ (s_ (lnS Tryd.underlying22) (s_ (x_leq_i rfl rfl) (s_ mv_ ?_))))
   refine and_ 3 (decide (((steps.length : Nat) : Int) ≤ 8)) (fun g6 => ?_) ?_
   ·have g6r := g6
    have g6r := of_decide_eq_true g6r
    refine sg_ g6 mv_ (sg_ g6 (lnS Tryd.underlying23) (sg_ g6 (x_leq_i rfl rfl) ?_))
    exact cr_
   refine s_ mv_ ?_
   refine and_ 3 (decide (((E.length : Nat) : Int) ≤ 10)) (fun g7 => ?_) ?_
   ·have g7r := g7
    have ⟨g7r, h8⟩ := band_true g7r
    have g7r := of_decide_eq_true g7r
    have h8 := of_decide_eq_true h8
    refine sg_ g7 mv_ (sg_ g7 (lnS Tryd.underlying24) (sg_ g7 (x_leq_i rfl rfl) ?_))
    exact cr_
   refine s_ av_ (z_ (n_ (rt_ ?_)))
   exact p1 Tryd.results6 rfl ⟨(eB c40k0_), rfl⟩
end Go.Proofs.YtngjdmhpljmkpaaDoor

namespace Go.Proofs.YtngjdmhpljmkpaaDoor
open Go.GV
namespace R44
def SplJ (b : UInt8) (s : Bytes) (k : Nat) (out : List Bytes) : Prop := ∃ pre cur, out = pre ++ [cur] ∧ splitC b s = pre ++ splitGo b cur (s.drop k)
section
variable {b : UInt8} {s : Bytes} {k : Nat} {out : List Bytes}
theorem SplJ.start : SplJ b s 0 [[]] := ⟨[], [], rfl, rfl⟩
theorem SplJ.ne (h : SplJ b s k out) : 0 < out.length := by obtain ⟨pre, cur, rfl, _⟩ := h; simp
theorem SplJ.cut (h : SplJ b s k out) (hk : k < s.length) (hb : s.getD k 0 = b) : SplJ b s (k + 1) (out ++ [[]]) := by
  obtain ⟨pre, cur, rfl, h2⟩ := h
  refine ⟨pre ++ [cur], [], rfl, ?_⟩
  rw [h2, drop_cons (d := 0) hk, splitGo, if_pos hb]; simp
theorem SplJ.add (h : SplJ b s k out) (hk : k < s.length) (hb : ¬ s.getD k 0 = b) : SplJ b s (k + 1) (out.set (out.length - 1) (out.getD (out.length - 1) [] ++ sub s k (k + 1))) := by
  obtain ⟨pre, cur, rfl, h2⟩ := h
  refine ⟨pre, cur ++ [s.getD k 0], ?_, ?_⟩
  · rw [List.length_append, List.length_singleton, Nat.add_sub_cancel, List.set_append_right _ _ (Nat.le_refl _), Nat.sub_self, List.getD_eq_getElem?_getD, List.getElem?_append_right (Nat.le_refl _), Nat.sub_self, sub_snoc (Nat.le_refl k) hk, sub_none]; rfl
  · rw [h2, drop_cons (d := 0) hk, splitGo, if_neg hb]
theorem SplJ.done (h : SplJ b s k out) (hk : s.length ≤ k) : out = splitC b s := by
  obtain ⟨pre, cur, rfl, h2⟩ := h
  rw [h2, List.drop_of_length_le hk]; rfl
theorem SplJ.short (h : SplJ b s k out) (i : Nat) : (out.getD i []).length ≤ s.length := by
  obtain ⟨pre, cur, rfl, h2⟩ := h
  have key : ∀ x ∈ pre ++ [cur], x.length ≤ s.length := by
    intro x hx
    rcases List.mem_append.1 hx with hx | hx
    · have := splitGo_len b s [] x (by show x ∈ splitC b s; rw [h2]; exact List.mem_append_left _ hx)
      simpa using this
    · rw [List.mem_singleton.1 hx]
      have h3 : (splitGo b cur (s.drop k)).getD 0 [] ∈ splitC b s := by
        rw [h2]
        exact List.mem_append_right _ (getD_mem (List.length_pos_iff.2 (splitGo_ne b _ _)))
      have h4 := splitGo_len b s [] _ h3
      have h5 : cur.length ≤ ((splitGo b cur (s.drop k)).getD 0 []).length := by
        rw [splitGo_pre]
        cases hs : splitGo b [] (s.drop k) with
        | nil => exact absurd hs (splitGo_ne b _ _)
        | cons y r => simp
      rw [List.length_nil, Nat.zero_add] at h4; omega
  by_cases hi : i < (pre ++ [cur]).length
  · exact key _ (getD_mem hi)
  · rw [List.getD_eq_getElem?_getD, List.getElem?_eq_none (by omega)]; exact Nat.zero_le _
theorem SplJ.few (h : SplJ b s k out) : out.length ≤ s.length + 1 := by
  obtain ⟨pre, cur, rfl, h2⟩ := h
  have := splitC_count b s
  rw [h2, List.length_append] at this
  have := List.length_pos_iff.2 (splitGo_ne b (s.drop k) cur)
  rw [List.length_append, List.length_singleton]; omega
end
end R44
end Go.Proofs.YtngjdmhpljmkpaaDoor

namespace Go.Proofs.YtngjdmhpljmkpaaDoor
open Go.GV
namespace R40
open R44
section
variable {s : Bytes} {k : Nat}
theorem up_not_dg {c : UInt8} (h : isUp c = true) : isDg c = false := by
  unfold isUp at h; unfold isDg
  simp only [Bool.and_eq_true, decide_eq_true_eq] at h
  have h1 : (48 : UInt8) ≤ c → ¬ c ≤ 57 := fun _ hc => by
    have h2 := UInt8.le_iff_toNat_le.1 h.1; have h3 := UInt8.le_iff_toNat_le.1 hc
    have : (65 : UInt8).toNat = 65 := rfl
    have : (57 : UInt8).toNat = 57 := rfl
    omega
  by_cases hb : (48 : UInt8) ≤ c
  · rw [decide_eq_true hb, decide_eq_false (h1 hb)]; rfl
  · rw [decide_eq_false hb]; rfl
theorem ref_part0 (h : ((s.length : Int) < 1 ∨ (8 : Int) < (s.length : Int)) ∨ isDg (s.getD 0 0) = true) : false = qualV isUp isPl s := by
  have : ((decide (1 ≤ s.length) && decide (s.length ≤ 8)) && isUp (s.getD 0 0)) = false := by
    rcases h with h | h
    · have : (decide (1 ≤ s.length) && decide (s.length ≤ 8)) = false := by
        rw [Bool.and_eq_false_iff, decide_eq_false_iff_not, decide_eq_false_iff_not]; omega
      rw [this]; rfl
    · cases hu : isUp (s.getD 0 0) with
      | false => simp
      | true => rw [up_not_dg hu] at h; cases h
  unfold qualV; rw [this]; rfl
theorem ref_partB (hk : k < s.length) (h : isUp (s.getD k 0) = false ∧ isDg (s.getD k 0) = false) : false = qualV isUp isPl s := by
  obtain ⟨h1, h2⟩ := h
  by_cases h0 : k = 0
  · subst h0; unfold qualV; rw [h1, Bool.and_false]; rfl
  · exact qual_bad (k := k) (by omega) hk (by unfold isPl; rw [h1, h2]; rfl)
theorem or_tf {a : Prop} (h : a ∨ true = false) : a := h.resolve_right (by simp)
theorem and_tf {a b : Prop} (h : (a ∧ b) ∧ True ∨ false = true) : a ∧ b := (h.resolve_right (by simp)).1
theorem ref_partE (h1 : ¬ (s.length : Int) < 1) (h2 : ¬ (8 : Int) < (s.length : Int)) (h : isDg (s.getD 0 0) = false) (hk : k = s.length) (ha : ∀ i, i < k → isPl (s.getD i 0) = true) : true = qualV isUp isPl s := by
  have h0 := ha 0 (by omega)
  have hu : isUp (s.getD 0 0) = true := by
    unfold isPl at h0
    cases hd : isDg (s.getD 0 0) with
    | true => rw [h] at hd; cases hd
    | false => rw [hd, Bool.or_false] at h0; exact h0
  refine qual_end ?_ (fun i _ hi => ha i (by omega))
  rw [hu, decide_eq_false (by omega), decide_eq_false (by omega)]; rfl
theorem ref_pstep (h : ∀ i, i < k → isPl (s.getD i 0) = true) (hk : isUp (s.getD k 0) = true ∨ isDg (s.getD k 0) = true) : ∀ i, i < k + 1 → isPl (s.getD i 0) = true := fun i h2 => by
  by_cases e : i = k
  · subst e; unfold isPl; exact Bool.or_eq_true _ _ ▸ hk
  · exact h i (by omega)
theorem splitGo_cnt (b : UInt8) : ∀ (l cur : Bytes), (splitGo b cur l).length = l.count b + 1
  | [], cur => by rw [splitGo]; rfl
  | c :: r, cur => by
    rw [splitGo, List.count_cons]
    split
    · rename_i h; rw [List.length_cons, splitGo_cnt b r [], if_pos (by simpa using h)]
    · rename_i h; rw [splitGo_cnt b r _, if_neg (by simpa using h)]
theorem ref_step {s : Bytes} : (nameV (qualV isUp isPl) s && decide (((splitC 46 s).length : Int) ≤ 2)) = stepV s := by
  unfold stepV
  congr 1
  refine decide_eq_decide.2 ?_
  have := splitGo_cnt 46 s []
  show (((splitGo 46 [] s).length : Nat) : Int) ≤ 2 ↔ _
  omega
end
end R40
end Go.Proofs.YtngjdmhpljmkpaaDoor

namespace Go.Proofs.YtngjdmhpljmkpaaDoor
open Go.GV
namespace R40
section
variable {ts : List Test} {ws : List Bytes}
theorem parse_len (ws : List Bytes) : (parseV ws).out.length ≤ 32 := by
  unfold parseV
  split
  · exact Nat.zero_le _
  · split
    · exact Nat.zero_le _
    · split
      · exact Nat.zero_le _
      · rename_i h; exact Nat.le_of_not_lt h
theorem step_short {s : Bytes} (h : stepV s = true) : s.length ≤ 31 := by
  unfold stepV at h
  exact (R44.name_len (Bool.and_eq_true _ _ ▸ h).1).2
theorem leaf_short {t : Test} (h : leafOk stepV t = true) : t.Step.length ≤ 31 := by
  rcases leaf_any h with h2 | h2 | h2
  · rw [h2]; exact Nat.zero_le _
  · exact step_short h2.2.2.2
  · exact step_short h2.2.2.2.2.2
theorem good_short {x : Node} (h : good stepV x) : ∀ t ∈ post x, t.Step.length ≤ 31 := fun t ht => by
  rcases post_forms x h t ht with h2 | h2 | h2 | h2
  · exact leaf_short h2
  · rw [h2]; exact Nat.zero_le _
  · rw [h2]; exact Nat.zero_le _
  · rw [h2]; exact Nat.zero_le _
theorem format_len (ts : List Test) : (formatV ts).length ≤ 192 := by
  cases hx : (treeV stepV ts).isSome with
  | false => rw [format_no hx]; exact Nat.zero_le _
  | true =>
    have hg := tree_good hx
    rw [format_yes hx]
    have := words_le ((treeV stepV ts).getD default) 0
    omega
theorem few_sh {P : Prop} (h : (∀ i, (ts.getD i default).Step.length ≤ 40) ∧ P) (i : Nat) : (ts.getD i default).Step.length ≤ 1000000 := Nat.le_trans (h.1 i) (by decide)
end
end R40
end Go.Proofs.YtngjdmhpljmkpaaDoor

namespace Go.Proofs.YtngjdmhpljmkpaaDoor
open Go.GV
set_option linter.unusedVariables false
set_option linter.unusedSimpArgs false
set_option maxRecDepth 20000 in
theorem f5_ok (w : World) (hT : Tab [] w) : Calls Tryd.prog 5 #[] w (Gives [] w fun v L => v = vB true ∧ L = []) := by
 refine calls_J [] 54 Tryd.func5 rfl Tryd.ntmps5 [] rfl rfl (Give.nil w) ?_
 refine q_ (g_ (s_ av_ (z_ (n_ (q_ (g_ (o_ (O_buildSlice (cs := [vS [83, 49], vS [114, 99], vS [60, 61], vS [52], vS [97, 110, 100], vS [110, 111, 116], vS [83, 50], vS [102, 97, 105, 108, 101, 100]]) Tryd.underlying23 Ty.sz9 Ty.ze9 (by decide) (by decide) (by kernel_rfl) fun b1 => ?_))))))))
 refine c1 (cl_ Ty.ca12) (fun w hS => f12_ok [[83, 49], [114, 99], [60, 61], [52], [97, 110, 100], [110, 111, 116], [83, 50], [102, 97, 105, 108, 101, 100]] _ 8 w (RO.of_blk hS 0 (off := 0) (m := 8) rfl rfl) (hT.on hS (fun _ h => by cases h)) hy_ (by exact R40.lit_all (by decide))) ?_
 rintro _ _ ⟨e2, e3, rfl, rfl⟩
 have ha4 := R40.parse_len [[83, 49], [114, 99], [60, 61], [52], [97, 110, 100], [110, 111, 116], [83, 50], [102, 97, 105, 108, 101, 100]]
 try simp only [List.length_cons, List.length_nil, Nat.zero_add, Nat.reduceAdd, Nat.reduceMul] at ha4
 refine s_ mv_ (s_ (ex_ 0) (s_ (ex_ 1) (s_ (ex_ 2) (s_ av_ (s_ av_ (s_ av_ (z_ (n_ (q_ (g_ (o_ (O_buildSlice (cs := [vS [83, 49], vS [83, 50]]) Tryd.underlying23 Ty.sz9 Ty.ze9 (by decide) (by decide) (by kernel_rfl) fun b5 => ?_))))))))))))
 refine s_ av_ (z_ (n_ (q_ (g_ (s_ mv_ (s_ mv_ (js_ (vG [vB true, vB false, vI 8]) (x_build (by kernel_rfl)) (o_ (O_buildSlice (cs := [vB true, vB false, vI 8]) Tryd.underlying24 Ty.sz28 Ty.ze28 (by decide) (by decide) (by kernel_rfl) fun b6 => ?_)))))))))
 refine c0 (cl_ Ty.ca13) (fun w hS => f13_ok R40.AQ false _ e2 e3 [[83, 49], [83, 50]] _ 2 [(StepEnd.mk true false 8)] _ 1 w (RO.of_row hS 2 rfl) (RO.of_blk hS 1 (off := 0) (m := 2) rfl rfl) (RO.of_blk hS 0 (off := 0) (m := 3) rfl rfl) hy_ (by rw [R40.aw_len]; decide) hy_ (by exact R40.aw_is) (by rfl) (by exact R40.aw_step) (by exact R40.aw_end)) (s_ mv_ (s_ (ex_ 0) (s_ (ex_ 1) (s_ av_ (s_ av_ (z_ (xk_ [0, 1, 3, 4, 5, 6] ?_)))))))
 refine n_ (q_ (g_ (s_ mv_ (s_ (x_eql_i rfl rfl) (s_ mv_ ?_)))))
 refine and_ 3 (decide ((((R40.parseV [[83, 49], [114, 99], [60, 61], [52], [97, 110, 100], [110, 111, 116], [83, 50], [102, 97, 105, 108, 101, 100]]).out.length : Nat) : Int) = 4)) (fun g7 => ?_) ?_
 ·have g7r := g7
  have g7r := of_decide_eq_true g7r
  refine sg_ g7 mv_ (sg_ g7 (lnS Tryd.underlying22) (sg_ g7 (x_eql_i rfl rfl) ?_))
  exact cr_
 refine s_ mv_ ?_
 refine and_ 3 ((R40.onV ((R40.parseV [[83, 49], [114, 99], [60, 61], [52], [97, 110, 100], [110, 111, 116], [83, 50], [102, 97, 105, 108, 101, 100]]).out) [[83, 49], [83, 50]]).isSome) (fun g8 => ?_) ?_
 ·have g8r := g8
  have ⟨g8r, h9⟩ := band_true g8r
  have g8r := of_decide_eq_true g8r
  have h9 := of_decide_eq_true h9
  refine sg_ g8 mv_ (sg_ g8 mv_ (c0g g8 (cl_ Ty.ca8) (fun w hS => f8_ok _ e2 e3 [[83, 49], [83, 50]] _ 2 w (RO.of_row hS 2 rfl) (RO.of_blk hS 1 (off := 0) (m := 2) rfl rfl) hy_ (by rw [R40.aw_len]; decide)) ?_))
  exact cr_
 refine s_ mv_ ?_
 refine and_ 5 (R40.evalV ((R40.parseV [[83, 49], [114, 99], [60, 61], [52], [97, 110, 100], [110, 111, 116], [83, 50], [102, 97, 105, 108, 101, 100]]).out) [[83, 49], [83, 50]] [(StepEnd.mk true false 4)]) (fun g10 => ?_) ?_
 ·have g10r := g10
  have ⟨g10r, h11⟩ := band_true g10r
  have ⟨g10r, h12⟩ := band_true g10r
  have g10r := of_decide_eq_true g10r
  have h12 := of_decide_eq_true h12
  refine sg_ g10 mv_ (sg_ g10 mv_ (jg_ g10 (vG [vB true, vB false, vI 4]) (x_build (by kernel_rfl)) (og_ g10 (O_buildSlice (cs := [vB true, vB false, vI 4]) Tryd.underlying24 Ty.sz28 Ty.ze28 (by decide) (by decide) (by kernel_rfl) fun b13 => ?_))))
  refine c0g g10 (cl_ Ty.ca7) (fun w hS => f7_ok _ e2 e3 [[83, 49], [83, 50]] _ 2 [(StepEnd.mk true false 4)] _ 1 w (RO.of_row hS 3 rfl) (RO.of_blk hS 2 (off := 0) (m := 2) rfl rfl) (RO.of_blk hS 0 (off := 0) (m := 3) rfl rfl) hy_ (by rw [R40.aw_len]; decide) hy_) ?_
  exact cr_ (fun _ h => h.keep [false, true, true, true, true] rfl)
 refine s_ mv_ ?_
 refine and_ 2 (!false) (fun g14 => ?_) ?_
 ·have g14r := g14
  have ⟨g14r, h15⟩ := band_true g14r
  have ⟨g14r, h16⟩ := band_true g14r
  have ⟨g14r, h17⟩ := band_true g14r
  have g14r := of_decide_eq_true g14r
  have h17 := of_decide_eq_true h17
  refine sg_ g14 mv_ (sg_ g14 (x_not rfl) ?_)
  exact cr_
 refine s_ mv_ ?_
 refine and_ 1 (true) (fun g18 => ?_) ?_
 ·have g18r := g18
  have ⟨g18r, h19⟩ := band_true g18r
  have ⟨g18r, h20⟩ := band_true g18r
  have ⟨g18r, h21⟩ := band_true g18r
  have ⟨g18r, h22⟩ := band_true g18r
  have g18r := of_decide_eq_true g18r
  have h22 := of_decide_eq_true h22
  have h19 : (false) = false := bnot_true h19
  refine sg_ g18 mv_ ?_
  exact cr_
 refine s_ mv_ ?_
 refine and_ 4 (decide ((((R40.formatV ((R40.parseV [[83, 49], [114, 99], [60, 61], [52], [97, 110, 100], [110, 111, 116], [83, 50], [102, 97, 105, 108, 101, 100]]).out)).length : Nat) : Int) = 8)) (fun g23 => ?_) ?_
 ·have g23r := g23
  have ⟨g23r, h24⟩ := band_true g23r
  have ⟨g23r, h25⟩ := band_true g23r
  have ⟨g23r, h26⟩ := band_true g23r
  have ⟨g23r, h27⟩ := band_true g23r
  have ⟨g23r, h28⟩ := band_true g23r
  have g23r := of_decide_eq_true g23r
  have h28 := of_decide_eq_true h28
  have h25 : (false) = false := bnot_true h25
  refine sg_ g23 mv_ ?_
  refine c1g g23 (cl_ Ty.ca14) (fun w hS => f14_ok _ e2 e3 w (RO.of_row hS 2 rfl) (hT.on hS (fun _ h => by cases h)) (by rw [R40.aw_len]; decide) (by exact R40.aw_ops)) ?_
  rintro _ _ ⟨e29, e30, rfl, rfl⟩
  have ha31 := R40.format_len ((R40.parseV [[83, 49], [114, 99], [60, 61], [52], [97, 110, 100], [110, 111, 116], [83, 50], [102, 97, 105, 108, 101, 100]]).out)
  try simp only [List.length_cons, List.length_nil, Nat.zero_add, Nat.reduceAdd, Nat.reduceMul] at ha31
  refine sg_ g23 (lnS Tryd.underlying23) (sg_ g23 (x_eql_i rfl rfl) ?_)
  exact cr_ (fun _ h => h.keep [false, true, true, true, true] rfl)
 refine s_ av_ (z_ (n_ (rt_ ?_)))
 exact p1 Tryd.results5 rfl ⟨(eB (R40.aw_all)), rfl⟩
end Go.Proofs.YtngjdmhpljmkpaaDoor

namespace Go.Proofs.YtngjdmhpljmkpaaDoor
open Go.GV
namespace R40
section
variable {t : Test} {i : Int} {x y : Node} {b o : Bool}
theorem pu_f (ho : o = false) : pushT (.leaf t i) o = [t] := by rw [pushT, if_pos ho]
theorem pu_c (ho : o = true) (hk : t.Kind = 0) {z : Int} (hz : opp t.Op = z) : pushT (.leaf t i) o = [Test.mk t.Kind t.Step z t.N, Test.mk 1 t.Step 0 0, Test.mk 6 [] 0 0, Test.mk 2 t.Step 0 0, Test.mk 4 [] 0 0, Test.mk 6 [] 0 0] := by
  rw [pushT, if_neg (by rw [ho]; decide), if_pos hk, hz]; rfl
theorem pu_n (ho : o = true) (hk : ¬ t.Kind = 0) : pushT (.leaf t i) o = [t, Test.mk 4 [] 0 0] := by
  rw [pushT, if_neg (by rw [ho]; decide), if_neg hk]; rfl
theorem pu_neg : pushT (.neg x) o = pushT x (!o) := by rw [pushT]
theorem pu_t (h : b ≠ o) : pushT (.pair b x y) o = (pushT x o ++ pushT y o) ++ [Test.mk 5 [] 0 0] := by rw [pushT, if_pos (bne_iff_ne.2 h)]; rfl
theorem pu_e (h : ¬ b ≠ o) : pushT (.pair b x y) o = (pushT x o ++ pushT y o) ++ [Test.mk 6 [] 0 0] := by rw [pushT, if_neg (fun e => h (bne_iff_ne.1 e))]; rfl
theorem op_0 {o : Int} (h : o = 0) : opp o = 4 := by rw [h]; rfl
theorem op_1 {o : Int} (h : o = 1) : opp o = 5 := by rw [h]; rfl
theorem op_2 {o : Int} (h : o = 2) : opp o = 3 := by rw [h]; rfl
theorem op_3 {o : Int} (h : o = 3) : opp o = 2 := by rw [h]; rfl
theorem op_4 {o : Int} (h : o = 4) : opp o = 0 := by rw [h]; rfl
theorem op_5 {o : Int} (h : o = 5) : opp o = 1 := by rw [h]; rfl
theorem op_6 {o : Int} (h0 : ¬ o = 0) (h1 : ¬ o = 1) (h2 : ¬ o = 2) (h3 : ¬ o = 3) (h4 : ¬ o = 4) (h5 : ¬ o = 5) : opp o = o := by
  unfold opp; rw [if_neg h0, if_neg h1, if_neg h2, if_neg h3, if_neg h4, if_neg h5]
theorem push_big (x : Node) (o : Bool) : (pushT x o).length ≤ 4 * (post x).length + 4 := by
  have h1 := push_len x o; have h2 := post_leaves x; omega
section
variable {ts : List Test}
theorem not_nil (h : ts.length = 0) : notV ts = [Test.mk 3 [] 0 0] := by unfold notV; rw [if_pos (List.length_eq_zero_iff.1 h)]; rfl
theorem not_no (h0 : ¬ ts.length = 0) (h : (treeV stepV ts).isSome = false) : notV ts = [] := by
  unfold notV; rw [if_neg (fun e => h0 (by rw [e]; rfl))]
  cases hx : treeV stepV ts with
  | none => rfl
  | some x => rw [hx] at h; cases h
theorem not_big (h0 : ¬ ts.length = 0) (h : (treeV stepV ts).isSome = true) (hl : 32 < (pushT ((treeV stepV ts).getD default) true).length) : notV ts = [] := by
  obtain ⟨x, hx⟩ := Option.isSome_iff_exists.1 h
  unfold notV; rw [if_neg (fun e => h0 (by rw [e]; rfl))]
  rw [hx] at hl ⊢
  exact if_pos hl
theorem not_yes (h0 : ¬ ts.length = 0) (h : (treeV stepV ts).isSome = true) (hl : ¬ 32 < (pushT ((treeV stepV ts).getD default) true).length) : notV ts = pushT ((treeV stepV ts).getD default) true := by
  obtain ⟨x, hx⟩ := Option.isSome_iff_exists.1 h
  unfold notV; rw [if_neg (fun e => h0 (by rw [e]; rfl))]
  rw [hx] at hl ⊢
  exact if_neg hl
end
end
section
variable {ts : List Test} {steps : List Bytes} {ends : List StepEnd}
theorem not_good (h0 : notV ts ≠ []) : ∃ x, good stepV x ∧ post x = notV ts ∧ (notV ts).length ≤ 32 := by
  by_cases hn : ts.length = 0
  · rw [not_nil hn]; exact ⟨.leaf (bare 3) 0, by show leafOk _ _ = true; unfold leafOk; simp, rfl, by simp⟩
  · cases hx : (treeV stepV ts).isSome with
    | false => rw [not_no hn hx] at h0; exact absurd rfl h0
    | true =>
      by_cases hl : 32 < (pushT ((treeV stepV ts).getD default) true).length
      · rw [not_big hn hx hl] at h0; exact absurd rfl h0
      · rw [not_yes hn hx hl]
        exact ⟨pushN ((treeV stepV ts).getD default) true, push_good _ _ (tree_good hx).1, push_post _ _, by omega⟩
theorem not_len (ts : List Test) : (notV ts).length ≤ 32 := by
  by_cases h : notV ts = []
  · rw [h]; exact Nat.zero_le _
  · obtain ⟨_, _, _, h3⟩ := not_good h; exact h3
theorem not_short (ts : List Test) (i : Nat) : ((notV ts).getD i default).Step.length ≤ 1000000 := by
  by_cases hi : i < (notV ts).length
  · obtain ⟨x, hg, hp, _⟩ := not_good (ts := ts) (fun e => by rw [e] at hi; simp at hi)
    rw [List.getD_eq_getElem?_getD, List.getElem?_eq_getElem hi]
    exact Nat.le_trans (good_short hg _ (by rw [hp]; exact List.getElem_mem hi)) (by decide)
  · rw [List.getD_eq_getElem?_getD, List.getElem?_eq_none (by omega)]; exact Nat.zero_le _
theorem names_of {k : Nat} (h : ∀ i, i < k → stepV (steps.getD i []) = true) (hk : k = steps.length) : ∀ s ∈ steps, stepV s = true := fun s hs => by
  obtain ⟨i, hi, rfl⟩ := List.getElem_of_mem hs
  have := h i (by omega)
  rwa [List.getD_eq_getElem?_getD, List.getElem?_eq_getElem hi] at this
theorem opp_1 (h : ts.length ≤ 5 → notV ts ≠ []) (hc : (decide ((ts.length : Int) ≤ 5) && decide (((notV ts).length : Int) = 0)) = true) : False := by
  simp only [Bool.and_eq_true, decide_eq_true_eq] at hc
  exact h (by omega) (List.length_eq_zero_iff.1 (by omega))
theorem opp_2 {l : List Test} (h : NotsOk l) {k : Nat} (hk : k < l.length) (hc : (decide ((l.getD k default).Kind = 4) && (decide ((k : Int) = 0) || ((decide ((l.getD (k - 1) default).Kind ≠ 1) && decide ((l.getD (k - 1) default).Kind ≠ 2)) && decide ((l.getD (k - 1) default).Kind ≠ 3)))) = true) : False := by
  simp only [Bool.and_eq_true, Bool.or_eq_true, decide_eq_true_eq] at hc
  obtain ⟨h1, h2⟩ := h k hk hc.1
  rcases hc.2 with h3 | ⟨⟨h3, h4⟩, h5⟩
  · omega
  · exact h2.elim h3 (fun h2 => h2.elim h4 h5)
theorem opp_3 (h : NotsOk (notV ts) ∧ (notV ts).length ≤ 32 ∧ (onV (notV ts) steps).isSome = true ∧ evalV (notV ts) steps ends = !evalV ts steps ends ∧ (notV (notV ts) = [] ∨ evalV (notV (notV ts)) steps ends = evalV ts steps ends)) :
    (((decide (((notV ts).length : Int) ≤ 32) && (onV (notV ts) steps).isSome) && decide (evalV (notV ts) steps ends = (!evalV ts steps ends))) && (decide (((notV (notV ts)).length : Int) = 0) || decide (evalV (notV (notV ts)) steps ends = evalV ts steps ends))) = true := by
  obtain ⟨_, h1, h2, h3, h4⟩ := h
  rw [decide_eq_true (show ((notV ts).length : Int) ≤ 32 by omega), h2, decide_eq_true h3]
  rcases h4 with h4 | h4
  · rw [h4]; rfl
  · rw [decide_eq_true h4]; simp
theorem par_1 {f : Bool} (h : f = (cutE steps ends).any failed) (hc : (decide (evalV [] steps ends ≠ (!f)) || decide (evalV [Test.mk 3 [] 0 0] steps ends ≠ f)) = true) : False := by
  rw [show evalV [Test.mk 3 [] 0 0] steps ends = f from evalV_any.trans h.symm, show evalV [] steps ends = !f from evalV_nil.trans (by rw [h])] at hc
  simp at hc
theorem par_2 {a b : List Test} (h : evalV (a ++ b ++ [bare 5]) steps ends = (evalV a steps ends && evalV b steps ends) ∧ evalV (a ++ b ++ [bare 6]) steps ends = (evalV a steps ends || evalV b steps ends) ∧ evalV (a ++ [bare 4]) steps ends = (!evalV a steps ends) ∧ (onV (a ++ b) steps).isSome = false) :
    (((decide (evalV ((([] ++ a) ++ b) ++ [Test.mk 5 [] 0 0]) steps ends = (evalV a steps ends && evalV b steps ends)) && decide (evalV ((([] ++ a) ++ b) ++ [Test.mk 6 [] 0 0]) steps ends = (evalV a steps ends || evalV b steps ends))) && decide (evalV (a ++ [Test.mk 4 [] 0 0]) steps ends = (!evalV a steps ends))) && (!(onV (([] ++ a) ++ b) steps).isSome)) = true := by
  obtain ⟨h1, h2, h3, h4⟩ := h
  have e1 : decide (evalV ((([] ++ a) ++ b) ++ [Test.mk 5 [] 0 0]) steps ends = (evalV a steps ends && evalV b steps ends)) = true := decide_eq_true h1
  have e2 : decide (evalV ((([] ++ a) ++ b) ++ [Test.mk 6 [] 0 0]) steps ends = (evalV a steps ends || evalV b steps ends)) = true := decide_eq_true h2
  have e3 : decide (evalV (a ++ [Test.mk 4 [] 0 0]) steps ends = (!evalV a steps ends)) = true := decide_eq_true h3
  have e4 : (onV (([] ++ a) ++ b) steps).isSome = false := h4
  rw [e1, e2, e3, e4]; rfl
def anyK (steps : List Bytes) (ends : List StepEnd) (k : Nat) : Bool := ((ends.take k).take steps.length).any failed
theorem any_0 : false = anyK steps ends 0 := by simp [anyK]
theorem any_step {k : Nat} (hk : k < ends.length) : (anyK steps ends k || ((decide ((k : Int) < (steps.length : Int)) && (ends.getD k default).Ran) && (ends.getD k default).Failed)) = anyK steps ends (k + 1) := by
  unfold anyK
  rw [R44.take_snoc (d := default) hk]
  by_cases h : k < steps.length
  · have e1 : (ends.take k).take steps.length = ends.take k := List.take_of_length_le (by rw [List.length_take]; omega)
    have e2 : (ends.take k ++ [ends.getD k default]).take steps.length = ends.take k ++ [ends.getD k default] := List.take_of_length_le (by rw [List.length_append, List.length_take, List.length_singleton]; omega)
    rw [e1, e2, decide_eq_true (by omega), List.any_append]
    simp [failed]
  · rw [decide_eq_false (by omega), List.take_append_of_le_length (by rw [List.length_take]; omega)]; simp
theorem any_end {k : Nat} (hk : k = ends.length) : anyK steps ends k = (cutE steps ends).any failed := by
  unfold anyK cutE
  rw [hk, List.take_length]
  by_cases h : steps.length ≤ ends.length
  · rw [Nat.min_eq_right h]
  · rw [Nat.min_eq_left (by omega), List.take_length, List.take_of_length_le (by omega)]
end
end R40
end Go.Proofs.YtngjdmhpljmkpaaDoor
