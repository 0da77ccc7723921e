/- Pw40b, Pw40f, Pn40b, Pw40g, C40m, Pw40h in one text. -/
import Derived.Test.YtngjdmhpljmkpaaGreatDoorConditionWords8
import Derived.Test.YtngjdmhpljmkpaaGreatDoorConditionWords4
import Derived.Test.YtngjdmhpljmkpaaGreatDoorConditionWords7
import Derived.Test.YtngjdmhpljmkpaaGreatDoorConditionWords6
set_option linter.unusedVariables false
set_option linter.unusedSimpArgs false
namespace Go.Proofs.YtngjdmhpljmkpaaGreatDoor
open Go.GV
namespace R40
def bitC (ts : List Test) (steps : List Bytes) (k : Int) (e : StepEnd) (i : Nat) : Bool := (decide ((ts.getD i default).Step ≠ ([] : Bytes)) && decide (idx steps (ts.getD i default).Step = k)) && holds (ts.getD i default) e
def bitsN (ts : List Test) (steps : List Bytes) (k : Int) (e : StepEnd) : Nat → UInt32
  | 0 => 0
  | i + 1 => if bitC ts steps k e i = true then bitsN ts steps k e i ||| UInt32.ofBitVec ((1 : UInt32).toBitVec <<< (i : Nat)) else bitsN ts steps k e i
def bitsV (ts : List Test) (steps : List Bytes) (k : Int) (e : StepEnd) : UInt32 := if failed e = true then bitsN ts steps k e ts.length ||| 2147483648 else bitsN ts steps k e ts.length
def leafB (s : UInt32) (t : Test) (i : Int) : Bool := if t.Kind = 3 then decide (s &&& 2147483648 ≠ (0 : UInt32)) else decide (UInt32.ofBitVec (s.toBitVec >>> (i.toNat : Nat)) &&& 1 = (1 : UInt32))
def ixOk : Node → Prop
  | .leaf _ i => 0 ≤ i ∧ i < 32
  | .neg x => ixOk x
  | .pair _ x y => ixOk x ∧ ixOk y
theorem ix_of {x : Node} : ∀ {i : Nat}, at_ i x → i + (post x).length ≤ 32 → ixOk x := by
  induction x with
  | leaf t j => intro i h hl; have h : j = (i : Int) := h; simp [post] at hl; exact ⟨by omega, by omega⟩
  | neg x ih => intro i h hl; simp [post] at hl; exact ih h (by omega)
  | pair b x y ih1 ih2 => intro i h hl; simp [post] at hl; exact ⟨ih1 h.1 (by omega), ih2 h.2 (by omega)⟩
section
variable {ts : List Test} {steps : List Bytes} {ends l : List StepEnd} {k : Int} {e : StepEnd} {i : Nat}
theorem on_ix (h : (onV ts steps).isSome = true) : ixOk ((onV ts steps).getD default) := by
  obtain ⟨x, hx⟩ := Option.isSome_iff_exists.1 h
  rw [hx]
  by_cases h0 : ts = []
  · subst h0; cases hx; exact ⟨by decide, by decide⟩
  · obtain ⟨h1, _, h2, h3⟩ := (onV_some h0).1 hx
    exact ix_of h2 (by show 0 + (post x).length ≤ 32; rw [h3]; omega)
theorem post_forms {P : Bytes → Bool} (x : Node) : good P x → ∀ t ∈ post x, leafOk P t = true ∨ t = bare 4 ∨ t = bare 5 ∨ t = bare 6 := by
  induction x with
  | leaf t i => intro h u hu; rw [List.mem_singleton.1 hu]; exact .inl h
  | neg x ih =>
    intro h u hu
    rcases List.mem_append.1 hu with hu | hu
    · exact ih h u hu
    · rw [List.mem_singleton.1 hu]; exact .inr (.inl rfl)
  | pair b x y ih1 ih2 =>
    intro h u hu
    rcases List.mem_append.1 hu with hu | hu
    · exact ih1 h.1 u hu
    · rcases List.mem_append.1 hu with hu | hu
      · exact ih2 h.2 u hu
      · rw [List.mem_singleton.1 hu]; cases b <;> simp
theorem on_forms (h : (onV ts steps).isSome = true) (i : Nat) : ((ts.getD i default).Kind = 0 → 0 ≤ (ts.getD i default).Op ∧ (ts.getD i default).Op ≤ 5) ∧ 0 ≤ (ts.getD i default).N ∧ (ts.getD i default).N ≤ 4095 := by
  by_cases hi : i < ts.length
  · have h0 : ts ≠ [] := fun e => by rw [e] at hi; exact absurd hi (Nat.not_lt_zero _)
    obtain ⟨x, hx⟩ := Option.isSome_iff_exists.1 h
    obtain ⟨_, hg, _, hp⟩ := (onV_some h0).1 hx
    have hm := post_forms x hg (ts.getD i default) (by rw [hp]; exact R44.getD_mem hi)
    rcases hm with hm | hm | hm | hm
    · refine ⟨leaf_code hm, ?_⟩
      rcases leaf_any hm with h2 | h2 | h2
      · rw [h2]; exact ⟨by decide, by decide⟩
      · omega
      · omega
    · rw [hm]; exact ⟨fun h => (by cases h), by decide, by decide⟩
    · rw [hm]; exact ⟨fun h => (by cases h), by decide, by decide⟩
    · rw [hm]; exact ⟨fun h => (by cases h), by decide, by decide⟩
  · rw [List.getD_eq_getElem?_getD, List.getElem?_eq_none (by omega)]
    exact ⟨fun _ => ⟨by decide, by decide⟩, by decide, by decide⟩
theorem bits_y (h : bitC ts steps k e i = true) : bitsN ts steps k e i ||| UInt32.ofBitVec ((1 : UInt32).toBitVec <<< (i : Nat)) = bitsN ts steps k e (i + 1) := by rw [bitsN, if_pos h]
theorem bits_n (h : bitC ts steps k e i = false) : bitsN ts steps k e i = bitsN ts steps k e (i + 1) := by rw [bitsN, if_neg (by rw [h]; decide)]
theorem bits_t {s : UInt32} (hi : i = ts.length) (hs : s = bitsN ts steps k e i) (h : failed e = true) : s ||| 2147483648 = bitsV ts steps k e := by unfold bitsV; rw [if_pos h, hs, hi]
theorem bits_f {s : UInt32} (hi : i = ts.length) (hs : s = bitsN ts steps k e i) (h : failed e = false) : s = bitsV ts steps k e := by unfold bitsV; rw [if_neg (by rw [h]; decide), hs, hi]
theorem leafB_any {s : UInt32} {t : Test} {j : Int} (h : t.Kind = 3) : decide (s &&& 2147483648 ≠ (0 : UInt32)) = leafB s t j := by unfold leafB; rw [if_pos h]
theorem leafB_ix {s : UInt32} {t : Test} {j : Int} (h : ¬ t.Kind = 3) : decide (UInt32.ofBitVec (s.toBitVec >>> (j.toNat : Nat)) &&& 1 = (1 : UInt32)) = leafB s t j := by unfold leafB; rw [if_neg h]
end
theorem ends_at {ends : List StepEnd} {k j : Nat} (h : j < ((ends.drop k).take ((k + 1) - k)).length) : ((ends.drop k).take ((k + 1) - k)).getD j default = ends.getD k default := by
  rw [List.length_take] at h
  have : j = 0 := by omega
  subst this
  rw [List.getD_eq_getElem?_getD, List.getElem?_take, if_pos (by omega), List.getElem?_drop, List.getD_eq_getElem?_getD]; rfl
theorem ends_len {ends : List StepEnd} {k : Nat} (h : k < ends.length) : ((ends.drop k).take ((k + 1) - k)).length = 1 := by rw [List.length_take, List.length_drop]; omega
section
variable {α : Type} [DecidableEq α] {Q : α → Prop} {X : List α} {s : α}
theorem all_add (h : ∀ x ∈ X, Q x) (hs : Q s) : ∀ x ∈ addK X s, Q x := fun x hx => by
  rcases addK_mem.1 hx with h2 | rfl
  · exact h x h2
  · exact hs
theorem add_ne : addK X s ≠ [] := fun e => by have := (addK_mem (l := X) (s := s) (x := s)).2 (.inr rfl); rw [e] at this; cases this
omit [DecidableEq α] in
theorem all_erase {n : Nat} (h : ∀ x ∈ X, Q x) : ∀ x ∈ X.eraseIdx n, Q x := fun x hx => h x (List.mem_of_mem_eraseIdx hx)
theorem vals_one {v : Bool} {vs : List Bool} (hn : vs.Nodup) (ha : ∀ b ∈ vs, b = v) (hne : vs ≠ []) : vs = [v] := by
  match vs, hne with
  | [b], _ => rw [ha b (by simp)]
  | b :: c :: r, _ =>
    exfalso
    have h1 := ha b (by simp); have h2 := ha c (by simp)
    rw [List.nodup_cons] at hn
    exact hn.1 (by rw [h1, h2]; simp)
theorem vals_len {v : Bool} {vs : List Bool} (hn : vs.Nodup) (ha : ∀ b ∈ vs, b = v) (hne : vs ≠ []) : vs.length = 1 := by rw [vals_one hn ha hne]; rfl
theorem vals_has {v : Bool} {vs : List Bool} (hn : vs.Nodup) (ha : ∀ b ∈ vs, b = v) (hne : vs ≠ []) : hasK vs true = v := by rw [vals_one hn ha hne]; cases v <;> rfl
end
end R40
end Go.Proofs.YtngjdmhpljmkpaaGreatDoor

namespace Go.Proofs.YtngjdmhpljmkpaaGreatDoor
open Go.GV
namespace R40
section
variable {ts : List Test} {ws : List Bytes}
theorem tree_good (h : (treeV stepV ts).isSome = true) : good stepV ((treeV stepV ts).getD default) ∧ (post ((treeV stepV ts).getD default)).length ≤ 32 := by
  obtain ⟨x, hx⟩ := Option.isSome_iff_exists.1 h
  rw [hx]
  obtain ⟨h1, h2, _, h3⟩ := tree_iff.1 hx
  exact ⟨h2, by show (post x).length ≤ 32; rw [h3]; exact h1⟩
theorem format_no (h : (treeV stepV ts).isSome = false) : formatV ts = [] := by
  unfold formatV; cases hx : treeV stepV ts with
  | none => rfl
  | some x => rw [hx] at h; cases h
theorem format_yes (h : (treeV stepV ts).isSome = true) : formatV ts = wordsV ((treeV stepV ts).getD default) 0 := by
  obtain ⟨x, hx⟩ := Option.isSome_iff_exists.1 h
  unfold formatV; rw [hx]; rfl
theorem parse_nil (h : ws.length = 0) : parseV ws = ⟨[], 0, 0⟩ := by rw [parseV, if_pos (List.length_eq_zero_iff.1 h)]
theorem parse_bad (h0 : ¬ ws.length = 0) (h : (orN ws (ws.length + 1) 0).ok = false ∨ (orN ws (ws.length + 1) 0).pos < ws.length) : parseV ws = ⟨[], (orN ws (ws.length + 1) 0).pos, 3⟩ := by
  rw [parseV, if_neg (fun e => h0 (by rw [e]; rfl)), if_pos h]
theorem parse_big (h0 : ¬ ws.length = 0) (h1 : (orN ws (ws.length + 1) 0).ok = true) (h2 : ¬ (orN ws (ws.length + 1) 0).pos < ws.length) {y : List Test} (hy : (orN ws (ws.length + 1) 0).ok = true → y = [] ++ (orN ws (ws.length + 1) 0).out) (hb : 32 < y.length) : parseV ws = ⟨[], 0, 8⟩ := by
  rw [parseV, if_neg (fun e => h0 (by rw [e]; rfl)), if_neg (by simp [h1, h2]), if_pos (by rw [hy h1] at hb; exact hb)]
theorem parse_ok (h0 : ¬ ws.length = 0) (h1 : (orN ws (ws.length + 1) 0).ok = true) (h2 : ¬ (orN ws (ws.length + 1) 0).pos < ws.length) {y : List Test} (hy : (orN ws (ws.length + 1) 0).ok = true → y = [] ++ (orN ws (ws.length + 1) 0).out) (hb : ¬ 32 < y.length) : parseV ws = ⟨y, 0, 0⟩ := by
  rw [parseV, if_neg (fun e => h0 (by rw [e]; rfl)), if_neg (by simp [h1, h2]), if_neg (by rw [hy h1] at hb; exact hb), hy h1]; rfl
end
abbrev AW : List Bytes := [[83, 49], [114, 99], [60, 61], [52], [97, 110, 100], [110, 111, 116], [83, 50], [102, 97, 105, 108, 101, 100]]
abbrev AS : List Bytes := [[83, 49], [83, 50]]
abbrev AT : List Test := [⟨0, [83, 49], 1, 4⟩, ⟨1, [83, 50], 0, 0⟩, bare 4, bare 5]
theorem aw_parse : parseV AW = ⟨AT, 0, 0⟩ := by kernel_rfl
theorem aw_on : onV AT AS = some (.pair true (.leaf ⟨0, [83, 49], 1, 4⟩ 0) (.neg (.leaf ⟨1, [83, 50], 0, 0⟩ 1))) := by rfl
theorem aw_e : (parseV AW).e = 0 := by rw [aw_parse]
theorem aw_out : (parseV AW).out = AT := by rw [aw_parse]
theorem aw_len : (parseV AW).out.length = 4 := by rw [aw_parse]; rfl
theorem aw_is : (onV (parseV AW).out AS).isSome = true := by rw [aw_parse]; rfl
theorem aw_val : evalV (parseV AW).out AS [⟨true, false, 4⟩] = true := by rw [aw_parse]; kernel_rfl
theorem aw_fmt : (formatV (parseV AW).out).length = 8 := by rw [aw_parse]; kernel_rfl
theorem aw_ops : ∀ i, ((parseV AW).out.getD i default).Step.length ≤ 1000000 := by
  rw [aw_parse]; intro i
  match i with
  | 0 => decide
  | 1 => decide
  | 2 => decide
  | 3 => decide
  | i + 4 => exact Nat.zero_le _
theorem lit_all {l : List Bytes} {n : Nat} (h : l.all (fun s => decide (s.length ≤ n)) = true) (k : Nat) : (l.getD k []).length ≤ n := by
  by_cases hk : k < l.length
  · rw [List.getD_eq_getElem?_getD, List.getElem?_eq_getElem hk]; exact of_decide_eq_true (List.all_eq_true.1 h _ (List.getElem_mem hk))
  · rw [List.getD_eq_getElem?_getD, List.getElem?_eq_none (by omega)]; exact Nat.zero_le _
theorem bit_or (s b : UInt32) (hs : s &&& 1 = 0) (hb : b &&& 1 = 0) : (s ||| b) &&& 1 = 0 := by
  have e : (s ||| b) &&& 1 = (s &&& 1) ||| (b &&& 1) := by
    apply UInt32.eq_of_toBitVec_eq
    simp only [UInt32.toBitVec_and, UInt32.toBitVec_or]
    apply BitVec.eq_of_getLsbD_eq
    intro i _
    simp only [BitVec.getLsbD_and, BitVec.getLsbD_or, Bool.and_or_distrib_right]
  rw [e, hs, hb]; rfl
theorem aw_bits (k : Nat) (e : StepEnd) (h : k < 2) (he : k = 0 → e = ⟨true, false, 8⟩) : bitsV AT AS k e &&& 1 = 0 := by
  have h3 : ∀ e, bitC AT AS k e 3 = false := fun e => rfl
  have h2 : ∀ e, bitC AT AS k e 2 = false := fun e => rfl
  have h0 : bitC AT AS k e 0 = false := by
    match k, h with
    | 0, _ => rw [he rfl]; rfl
    | 1, _ => rfl
  have hn : bitsN AT AS k e 4 &&& 1 = 0 := by
    simp only [bitsN, h3, h2, h0]
    cases bitC AT AS k e 1 <;> decide
  unfold bitsV
  show (if failed e = true then bitsN AT AS k e 4 ||| 2147483648 else bitsN AT AS k e 4) &&& 1 = 0
  split
  · exact bit_or _ _ hn (by decide)
  · exact hn
abbrev AQ : UInt32 → Prop := fun s => s &&& 1 = 0
theorem aw_step (k : Nat) (e : StepEnd) (s : UInt32) (hk : k < AS.length) (he : k < [(⟨true, false, 8⟩ : StepEnd)].length → e = [(⟨true, false, 8⟩ : StepEnd)].getD k default) (hs : AQ s) : AQ (s ||| bitsV (parseV AW).out AS k e) := by
  rw [aw_out]
  exact bit_or _ _ hs (aw_bits k e hk fun h => by subst h; exact he (by decide))
theorem aw_end (s : UInt32) (hs : AQ s) : eval (leafB s) ((onV (parseV AW).out AS).getD default) = false := by
  rw [aw_out, aw_on]
  show (leafB s ⟨0, [83, 49], 1, 4⟩ 0 && _) = false
  have : leafB s ⟨0, [83, 49], 1, 4⟩ 0 = false := by
    unfold leafB; rw [if_neg (by decide)]
    refine decide_eq_false ?_
    show ¬ (UInt32.ofBitVec (s.toBitVec >>> 0) &&& 1 = 1)
    rw [BitVec.ushiftRight_zero]
    show ¬ (s &&& 1 = 1)
    rw [hs]; decide
  rw [this]; rfl
theorem aw_all : ((((((decide ((parseV AW).e = 0) && decide (((parseV AW).out.length : Int) = 4)) && (onV (parseV AW).out AS).isSome) && evalV (parseV AW).out AS [⟨true, false, 4⟩]) && (!false)) && true) && decide (((formatV (parseV AW).out).length : Int) = 8)) = true := by
  rw [decide_eq_true aw_e, aw_is, aw_val, aw_fmt, aw_len]; rfl
def fewV (ts : List Test) (steps : List Bytes) (m : Nat) : Bool := ts.all (fun t => decide (t.Step.length ≤ 40)) && steps.all (fun s => decide (s.length ≤ 40)) && decide (ts.length ≤ 40) && decide (steps.length ≤ 8) && decide (m ≤ 10)
section
variable {ts : List Test} {steps : List Bytes} {m k : Nat}
theorem all_tests (h : ∀ i, i < k → (ts.getD i default).Step.length ≤ 40) (hk : k = ts.length) : ts.all (fun t => decide (t.Step.length ≤ 40)) = true := List.all_eq_true.2 fun t ht => by
  obtain ⟨i, hi, e⟩ := List.getElem_of_mem ht
  have := h i (by omega)
  rw [List.getD_eq_getElem?_getD, List.getElem?_eq_getElem hi] at this
  exact decide_eq_true (e ▸ this)
theorem all_steps (h : ∀ i, i < k → (steps.getD i []).length ≤ 40) (hk : k = steps.length) : steps.all (fun s => decide (s.length ≤ 40)) = true := List.all_eq_true.2 fun t ht => by
  obtain ⟨i, hi, e⟩ := List.getElem_of_mem ht
  have := h i (by omega)
  rw [List.getD_eq_getElem?_getD, List.getElem?_eq_getElem hi] at this
  exact decide_eq_true (e ▸ this)
theorem few_t (hk : k < ts.length) (h : ¬ (ts.getD k default).Step.length ≤ 40) : fewV ts steps m = false := by
  unfold fewV
  have : ts.all (fun t => decide (t.Step.length ≤ 40)) = false := by
    rw [List.all_eq_false]
    refine ⟨ts.getD k default, ?_, by simp only [decide_eq_true_eq]; exact h⟩
    rw [List.getD_eq_getElem?_getD, List.getElem?_eq_getElem hk]; exact List.getElem_mem hk
  rw [this]; rfl
theorem few_s (hk : k < steps.length) (h : ¬ (steps.getD k []).length ≤ 40) : fewV ts steps m = false := by
  unfold fewV
  have : steps.all (fun t => decide (t.length ≤ 40)) = false := by
    rw [List.all_eq_false]
    refine ⟨steps.getD k [], ?_, by simp only [decide_eq_true_eq]; exact h⟩
    rw [List.getD_eq_getElem?_getD, List.getElem?_eq_getElem hk]; exact List.getElem_mem hk
  rw [this, Bool.and_false]; rfl
theorem few_n {k2 : Nat} (h : ∀ i, i < k → (ts.getD i default).Step.length ≤ 40) (hk : k = ts.length) (h2 : ∀ i, i < k2 → (steps.getD i []).length ≤ 40) (hk2 : k2 = steps.length) : fewV ts steps m = (decide (ts.length ≤ 40) && decide (steps.length ≤ 8) && decide (m ≤ 10)) := by
  unfold fewV; rw [all_tests h hk, all_steps h2 hk2]; rfl
theorem few_i {k2 : Nat} (h : ∀ i, i < k → (ts.getD i default).Step.length ≤ 40) (hk : k = ts.length) (h2 : ∀ i, i < k2 → (steps.getD i []).length ≤ 40) (hk2 : k2 = steps.length) : (decide ((ts.length : Int) ≤ 40) && decide ((steps.length : Int) ≤ 8) && decide ((m : Int) ≤ 10)) = fewV ts steps m := by
  rw [few_n h hk h2 hk2]
  have e : ∀ a b : Nat, decide ((a : Int) ≤ (b : Int)) = decide (a ≤ b) := fun a b => decide_eq_decide.2 (by omega)
  exact congr (congrArg and (congr (congrArg and (e _ 40)) (e _ 8))) (e _ 10)
theorem few_yes (h : fewV ts steps m = true) : (∀ i, (ts.getD i default).Step.length ≤ 40) ∧ (∀ i, (steps.getD i []).length ≤ 40) ∧ ts.length ≤ 40 ∧ steps.length ≤ 8 ∧ m ≤ 10 := by
  unfold fewV at h
  simp only [Bool.and_eq_true, decide_eq_true_eq, List.all_eq_true] at h
  refine ⟨fun i => ?_, fun i => ?_, h.1.1.2, h.1.2, h.2⟩
  · by_cases hi : i < ts.length
    · rw [List.getD_eq_getElem?_getD, List.getElem?_eq_getElem hi]; exact h.1.1.1.1 _ (List.getElem_mem hi)
    · rw [List.getD_eq_getElem?_getD, List.getElem?_eq_none (by omega)]; exact Nat.zero_le _
  · by_cases hi : i < steps.length
    · rw [List.getD_eq_getElem?_getD, List.getElem?_eq_getElem hi]; exact h.1.1.1.2 _ (List.getElem_mem hi)
    · rw [List.getD_eq_getElem?_getD, List.getElem?_eq_none (by omega)]; exact Nat.zero_le _
end
def stepsV (ts : List Test) (k : Nat) : List Bytes := ((ts.take k).map (·.Step)).filter fun s => decide (s ≠ [])
section
variable {ts : List Test} {k : Nat}
end
end R40
end Go.Proofs.YtngjdmhpljmkpaaGreatDoor

namespace Go.Proofs.YtngjdmhpljmkpaaGreatDoor
open Go.GV
namespace R44
def SplJ (b : UInt8) (s : Bytes) (k : Nat) (out : List Bytes) : Prop := ∃ pre cur, out = pre ++ [cur] ∧ splitC b s = pre ++ splitGo b cur (s.drop k)
section
variable {b : UInt8} {s : Bytes} {k : Nat} {out : List Bytes}
theorem SplJ.start : SplJ b s 0 [[]] := ⟨[], [], rfl, rfl⟩
theorem SplJ.ne (h : SplJ b s k out) : 0 < out.length := by obtain ⟨pre, cur, rfl, _⟩ := h; simp
theorem SplJ.cut (h : SplJ b s k out) (hk : k < s.length) (hb : s.getD k 0 = b) : SplJ b s (k + 1) (out ++ [[]]) := by
  obtain ⟨pre, cur, rfl, h2⟩ := h
  refine ⟨pre ++ [cur], [], rfl, ?_⟩
  rw [h2, drop_cons (d := 0) hk, splitGo, if_pos hb]; simp
theorem SplJ.add (h : SplJ b s k out) (hk : k < s.length) (hb : ¬ s.getD k 0 = b) : SplJ b s (k + 1) (out.set (out.length - 1) (out.getD (out.length - 1) [] ++ sub s k (k + 1))) := by
  obtain ⟨pre, cur, rfl, h2⟩ := h
  refine ⟨pre, cur ++ [s.getD k 0], ?_, ?_⟩
  · rw [List.length_append, List.length_singleton, Nat.add_sub_cancel, List.set_append_right _ _ (Nat.le_refl _), Nat.sub_self, List.getD_eq_getElem?_getD, List.getElem?_append_right (Nat.le_refl _), Nat.sub_self, sub_snoc (Nat.le_refl k) hk, sub_none]; rfl
  · rw [h2, drop_cons (d := 0) hk, splitGo, if_neg hb]
theorem SplJ.done (h : SplJ b s k out) (hk : s.length ≤ k) : out = splitC b s := by
  obtain ⟨pre, cur, rfl, h2⟩ := h
  rw [h2, List.drop_of_length_le hk]; rfl
theorem SplJ.short (h : SplJ b s k out) (i : Nat) : (out.getD i []).length ≤ s.length := by
  obtain ⟨pre, cur, rfl, h2⟩ := h
  have key : ∀ x ∈ pre ++ [cur], x.length ≤ s.length := by
    intro x hx
    rcases List.mem_append.1 hx with hx | hx
    · have := splitGo_len b s [] x (by show x ∈ splitC b s; rw [h2]; exact List.mem_append_left _ hx)
      simpa using this
    · rw [List.mem_singleton.1 hx]
      have h3 : (splitGo b cur (s.drop k)).getD 0 [] ∈ splitC b s := by
        rw [h2]
        exact List.mem_append_right _ (getD_mem (List.length_pos_iff.2 (splitGo_ne b _ _)))
      have h4 := splitGo_len b s [] _ h3
      have h5 : cur.length ≤ ((splitGo b cur (s.drop k)).getD 0 []).length := by
        rw [splitGo_pre]
        cases hs : splitGo b [] (s.drop k) with
        | nil => exact absurd hs (splitGo_ne b _ _)
        | cons y r => simp
      rw [List.length_nil, Nat.zero_add] at h4; omega
  by_cases hi : i < (pre ++ [cur]).length
  · exact key _ (getD_mem hi)
  · rw [List.getD_eq_getElem?_getD, List.getElem?_eq_none (by omega)]; exact Nat.zero_le _
theorem SplJ.few (h : SplJ b s k out) : out.length ≤ s.length + 1 := by
  obtain ⟨pre, cur, rfl, h2⟩ := h
  have := splitC_count b s
  rw [h2, List.length_append] at this
  have := List.length_pos_iff.2 (splitGo_ne b (s.drop k) cur)
  rw [List.length_append, List.length_singleton]; omega
end
theorem texts_end {a b : List Bytes} (hl : a.length = b.length) (h : ∀ i, i < a.length → a.getD i [] = b.getD i []) : true = decide (a = b) := by
  refine (decide_eq_true ?_).symm
  apply List.ext_getElem hl
  intro i h1 h2
  have := h i h1
  rwa [List.getD_eq_getElem?_getD, List.getD_eq_getElem?_getD, List.getElem?_eq_getElem h1, List.getElem?_eq_getElem h2] at this
theorem texts_bad {a b : List Bytes} {i : Nat} (h : a.getD i [] ≠ b.getD i []) : false = decide (a = b) := by
  refine (decide_eq_false fun e => ?_).symm
  rw [e] at h; exact h rfl
theorem texts_len {a b : List Bytes} (h : a.length ≠ b.length) : false = decide (a = b) := by
  refine (decide_eq_false fun e => ?_).symm
  rw [e] at h; exact h rfl
end R44
end Go.Proofs.YtngjdmhpljmkpaaGreatDoor

namespace Go.Proofs.YtngjdmhpljmkpaaGreatDoor
open Go.GV
namespace R40
open R44
section
variable {s : Bytes} {k : Nat}
theorem up_not_dg {c : UInt8} (h : isUp c = true) : isDg c = false := by
  unfold isUp at h; unfold isDg
  simp only [Bool.and_eq_true, decide_eq_true_eq] at h
  have h1 : (48 : UInt8) ≤ c → ¬ c ≤ 57 := fun _ hc => by
    have h2 := UInt8.le_iff_toNat_le.1 h.1; have h3 := UInt8.le_iff_toNat_le.1 hc
    have : (65 : UInt8).toNat = 65 := rfl
    have : (57 : UInt8).toNat = 57 := rfl
    omega
  by_cases hb : (48 : UInt8) ≤ c
  · rw [decide_eq_true hb, decide_eq_false (h1 hb)]; rfl
  · rw [decide_eq_false hb]; rfl
theorem ref_part0 (h : ((s.length : Int) < 1 ∨ (8 : Int) < (s.length : Int)) ∨ isDg (s.getD 0 0) = true) : false = qualV isUp isPl s := by
  have : ((decide (1 ≤ s.length) && decide (s.length ≤ 8)) && isUp (s.getD 0 0)) = false := by
    rcases h with h | h
    · have : (decide (1 ≤ s.length) && decide (s.length ≤ 8)) = false := by
        rw [Bool.and_eq_false_iff, decide_eq_false_iff_not, decide_eq_false_iff_not]; omega
      rw [this]; rfl
    · cases hu : isUp (s.getD 0 0) with
      | false => simp
      | true => rw [up_not_dg hu] at h; cases h
  unfold qualV; rw [this]; rfl
theorem ref_partB (hk : k < s.length) (h : isUp (s.getD k 0) = false ∧ isDg (s.getD k 0) = false) : false = qualV isUp isPl s := by
  obtain ⟨h1, h2⟩ := h
  by_cases h0 : k = 0
  · subst h0; unfold qualV; rw [h1, Bool.and_false]; rfl
  · exact qual_bad (k := k) (by omega) hk (by unfold isPl; rw [h1, h2]; rfl)
theorem or_tf {a : Prop} (h : a ∨ true = false) : a := h.resolve_right (by simp)
theorem and_tf {a b : Prop} (h : (a ∧ b) ∧ True ∨ false = true) : a ∧ b := (h.resolve_right (by simp)).1
theorem ref_partE (h1 : ¬ (s.length : Int) < 1) (h2 : ¬ (8 : Int) < (s.length : Int)) (h : isDg (s.getD 0 0) = false) (hk : k = s.length) (ha : ∀ i, i < k → isPl (s.getD i 0) = true) : true = qualV isUp isPl s := by
  have h0 := ha 0 (by omega)
  have hu : isUp (s.getD 0 0) = true := by
    unfold isPl at h0
    cases hd : isDg (s.getD 0 0) with
    | true => rw [h] at hd; cases hd
    | false => rw [hd, Bool.or_false] at h0; exact h0
  refine qual_end ?_ (fun i _ hi => ha i (by omega))
  rw [hu, decide_eq_false (by omega), decide_eq_false (by omega)]; rfl
theorem ref_pstep (h : ∀ i, i < k → isPl (s.getD i 0) = true) (hk : isUp (s.getD k 0) = true ∨ isDg (s.getD k 0) = true) : ∀ i, i < k + 1 → isPl (s.getD i 0) = true := fun i h2 => by
  by_cases e : i = k
  · subst e; unfold isPl; exact Bool.or_eq_true _ _ ▸ hk
  · exact h i (by omega)
theorem splitGo_cnt (b : UInt8) : ∀ (l cur : Bytes), (splitGo b cur l).length = l.count b + 1
  | [], cur => by rw [splitGo]; rfl
  | c :: r, cur => by
    rw [splitGo, List.count_cons]
    split
    · rename_i h; rw [List.length_cons, splitGo_cnt b r [], if_pos (by simpa using h)]
    · rename_i h; rw [splitGo_cnt b r _, if_neg (by simpa using h)]
theorem ref_step {s : Bytes} : (nameV (qualV isUp isPl) s && decide (((splitC 46 s).length : Int) ≤ 2)) = stepV s := by
  unfold stepV
  congr 1
  refine decide_eq_decide.2 ?_
  have := splitGo_cnt 46 s []
  show (((splitGo 46 [] s).length : Nat) : Int) ≤ 2 ↔ _
  omega
end
end R40
end Go.Proofs.YtngjdmhpljmkpaaGreatDoor

namespace Go.Proofs.YtngjdmhpljmkpaaGreatDoor
open Go.GV
set_option linter.unusedVariables false
set_option linter.unusedSimpArgs false
theorem c40m0_ {p : Prop} (h : p := by first | exact R40.ref_part0 (by assumption) | exact R40.ref_partB (k := k) (by omega) (R40.and_tf (by assumption)) | exact R40.ref_partE (by assumption) (by assumption) (by assumption) (by omega) i1_1) : p := h
theorem c40m1_ {p : Prop} (h : p := by first | exact R44.name_0 (by assumption) | exact R44.name_bad (k := k) (by omega) (by assumption) | exact R44.name_end (by assumption) (fun i h2 => i1_1 i (by omega))) : p := h
theorem c40m2_ {p : Prop} (h : p := by first | exact R44.texts_len (by omega) | exact R44.texts_bad (i := k) (by assumption) | exact R44.texts_end i1_1 (fun i hi => i1_2 i (by omega))) : p := h
theorem c40m6_ {p : Prop} (h : p := by rw [List.length_map]; first | omega | (simp only [List.length_append, List.length_cons, List.length_nil]; omega) | (simp; omega) | (simp_all; omega) | (simp_all; done)) : p := h
theorem c40m7_ {p : Prop} (h : p := by first | omega | (simp only [List.length_append, List.length_cons, List.length_nil]; omega) | (simp; omega) | (simp_all; omega)) : p := h
theorem c40m8_ {p : Prop} (h : p := by first | exact i1_1.cut (by omega) (by assumption) | exact i1_1.add (by omega) (by assumption)) : p := h
set_option maxRecDepth 20000 in
theorem f103_ok (c : UInt8) (w : World) : Calls Tryz.prog 103 #[vU8 c] w (Gives [] w fun v L => v = vB (R44.isUp c) ∧ L = []) := by
 refine calls_J [] 9 Tryz.func103 rfl Tryz.ntmps103 [(0, _)] rfl rfl (Give.nil w) ?_
 refine q_ (g_ (s_ av_ (z_ (n_ (q_ (g_ (s_ mv_ (js_ (vB (decide ((65 : UInt8) ≤ c))) (x_geq_u8 rfl rfl) (s_ mv_ ?_)))))))))
 refine and_ 2 (decide (c ≤ (90 : UInt8))) (fun g1 => ?_) ?_
 ·have g1r := g1
  have g1r := of_decide_eq_true g1r
  have g1ru := g1r
  try simp only [UInt8.lt_iff_toNat_lt, UInt8.le_iff_toNat_le, UInt8.reduceToNat, UInt32.lt_iff_toNat_lt, UInt32.le_iff_toNat_le, UInt32.reduceToNat, UInt64.lt_iff_toNat_lt, UInt64.le_iff_toNat_le, UInt64.reduceToNat] at g1ru
  refine sg_ g1 mv_ (jg_ g1 (vB (decide (c ≤ (90 : UInt8)))) (x_leq_u8 rfl rfl) ?_)
  exact cr_
 refine s_ av_ (z_ (n_ (rt_ ?_)))
 exact p1 Tryz.results103 rfl ⟨(eB (by rfl)), rfl⟩
set_option maxRecDepth 20000 in
theorem f102_ok (c : UInt8) (w : World) : Calls Tryz.prog 102 #[vU8 c] w (Gives [] w fun v L => v = vB (R44.isDg c) ∧ L = []) := by
 refine calls_J [] 9 Tryz.func102 rfl Tryz.ntmps102 [(0, _)] rfl rfl (Give.nil w) ?_
 refine q_ (g_ (s_ av_ (z_ (n_ (q_ (g_ (s_ mv_ (js_ (vB (decide ((48 : UInt8) ≤ c))) (x_geq_u8 rfl rfl) (s_ mv_ ?_)))))))))
 refine and_ 2 (decide (c ≤ (57 : UInt8))) (fun g1 => ?_) ?_
 ·have g1r := g1
  have g1r := of_decide_eq_true g1r
  have g1ru := g1r
  try simp only [UInt8.lt_iff_toNat_lt, UInt8.le_iff_toNat_le, UInt8.reduceToNat, UInt32.lt_iff_toNat_lt, UInt32.le_iff_toNat_le, UInt32.reduceToNat, UInt64.lt_iff_toNat_lt, UInt64.le_iff_toNat_le, UInt64.reduceToNat] at g1ru
  refine sg_ g1 mv_ (jg_ g1 (vB (decide (c ≤ (57 : UInt8)))) (x_leq_u8 rfl rfl) ?_)
  exact cr_
 refine s_ av_ (z_ (n_ (rt_ ?_)))
 exact p1 Tryz.results102 rfl ⟨(eB (by rfl)), rfl⟩
set_option maxRecDepth 20000 in
theorem f90_ok (s : Bytes) (w : World) (q0 : s.length ≤ 9223372036854775807) : Calls Tryz.prog 90 #[vS s, vB false] w (Gives [] w fun v L => v = vB ((R44.qualV R44.isUp R44.isPl) s) ∧ L = []) := by
 refine calls_J [] 68 Tryz.func90 rfl Tryz.ntmps90 [(0, _), (1, _)] rfl rfl (Give.nil w) ?_
 refine q_ (g_ (s_ av_ (z_ (n_ (q_ (q_ (g_ (s_ mv_ (s_ mv_ (sh_ rfl (sh_ rfl (jr_ (vB false) (z_ (n_ (iff_ (sk_ (n_ (q_ (q_ (g_ ?_))))))))))))))))))))
 refine s_ mv_ (s_ (x_len_s rfl Tryz.underlying9) (s_ (x_lss_i rfl rfl) (s_ mv_ ?_)))
 refine or_ 3 (decide ((8 : Int) < ((s.length : Nat) : Int))) (fun g1 => ?_) ?_
 ·have g1r := g1
  have g1r := of_decide_eq_false g1r
  refine sg_ g1 mv_ (sg_ g1 (x_len_s rfl Tryz.underlying9) (sg_ g1 (x_gtr_i rfl rfl) ?_))
  exact cr_
 refine s_ mv_ ?_
 refine or_ 3 (R44.isDg (s.getD 0 0)) (fun g2 => ?_) ?_
 ·have g2r := g2
  have ⟨g2r, h3⟩ := bor_false g2r
  have g2r := of_decide_eq_false g2r
  have h3 := of_decide_eq_false h3
  refine sg_ g2 mv_ (sg_ g2 (x_idx_s (k := 0) rfl rfl Tryz.underlying9 (by omega)) (c0g g2 (cl_ Ty.ca102) (fun w hS => f102_ok _ w) ?_))
  exact cr_
 refine z_ (n_ ?_)
 refine if_ (fun h4 => ?_) (fun h4 => ?_)
 ·have h4w := h4
  simp only [Bool.and_eq_true, Bool.or_eq_true, Bool.and_eq_false_iff, Bool.or_eq_false_iff, Bool.not_eq_true', Bool.not_eq_false', decide_eq_true_eq, decide_eq_false_iff_not] at h4
  refine q_ (g_ (s_ av_ (z_ (n_ (rt_ (nr_ ?_))))))
  exact p1 Tryz.results90 rfl ⟨(eB c40m0_), rfl⟩
 ·have h4w := h4
  have ⟨h4, h5⟩ := bor_false h4
  have ⟨h4, h6⟩ := bor_false h4
  have h4 := of_decide_eq_false h4
  have h6 := of_decide_eq_false h6
  refine sk_ (n_ (q_ (q_ (g_ (s_ av_ (z_ (n_ (k_ ?_))))))))
  refine J_loop (X := Nat) (fun (k : Nat) => (k ≤ s.length) ∧ (∀ i, i < k → R44.isPl (s.getD i 0) = true)) (fun (k : Nat) => [(0, vS s), (1, vB false), (5, vI ((k : Nat) : Int))]) (fun (k : Nat) => []) (fun (k : Nat) => s.length - k) (0 : Nat) ?_ ⟨rfl, rfl, rfl, trivial⟩ (fun _ h => h) ?_
  ·try dsimp only
   refine ⟨?_, ?_⟩
   ·first | rfl | omega | (simp_all; done) | (simp_all; omega)
   ·intro i h2; omega
  intro k hI1
  obtain ⟨i1_0, i1_1⟩ := hI1
  try dsimp only at i1_0
  try dsimp only at i1_1
  try dsimp only
  refine q_ (q_ (g_ (s_ mv_ (s_ mv_ (s_ (x_len_s rfl Tryz.underlying9) (s_ (x_lss_i rfl rfl) (z_ (n_ ?_))))))))
  refine ifd (fun h7w h7 => ?_) (fun h7w h7 => ?_)
  ·refine sk_ (n_ (q_ (k_ (q_ (g_ (s_ mv_ (s_ mv_ (sh_ rfl (sh_ rfl (sh_ rfl (sh_ rfl (jr_ (vB false) (s_ av_ (z_ (n_ (q_ (g_ ?_)))))))))))))))))
   refine s_ mv_ (s_ mv_ (s_ (x_idx_s (k := k) rfl rfl Tryz.underlying9 (by omega)) (c0 (cl_ Ty.ca103) (fun w hS => f103_ok _ w) (s_ (x_not rfl) (s_ mv_ ?_)))))
   refine and_ 5 (!(R44.isDg (s.getD k 0))) (fun g8 => ?_) ?_
   ·have g8r := g8
    have g8r : (R44.isUp (s.getD k 0)) = false := bnot_true g8r
    refine sg_ g8 mv_ (sg_ g8 mv_ (sg_ g8 (x_idx_s (k := k) rfl rfl Tryz.underlying9 (by omega)) (c0g g8 (cl_ Ty.ca102) (fun w hS => f102_ok _ w) (sg_ g8 (x_not rfl) ?_))))
    exact cr_
   refine s_ mv_ ?_
   refine and_ 2 (true) (fun g9 => ?_) ?_
   ·have g9r := g9
    have ⟨g9r, h10⟩ := band_true g9r
    have g9r : (R44.isUp (s.getD k 0)) = false := bnot_true g9r
    have h10 : (R44.isDg (s.getD k 0)) = false := bnot_true h10
    refine sg_ g9 mv_ (jg_ g9 (vB true) (rfl) ?_)
    exact cr_
   refine s_ mv_ ?_
   refine or_ 12 (false) (fun g11 => ?_) ?_
   ·have g11r := g11
    simp only [Bool.and_eq_true, Bool.or_eq_true, Bool.and_eq_false_iff, Bool.or_eq_false_iff, Bool.not_eq_true', Bool.not_eq_false', decide_eq_true_eq, decide_eq_false_iff_not] at g11r
    refine sg_ g11 mv_ (sg_ g11 mv_ (sh_ rfl (sh_ rfl (jg_ g11 (vB false) (rfl) (sg_ g11 mv_ (sh_ rfl (sh_ rfl (sh_ rfl (sh_ rfl ?_)))))))))
    refine sh_ rfl (jg_ g11 (vB false) (rfl) ?_)
    exact cr_
   refine z_ (xk_ [0, 1, 5, 67] ?_)
   refine n_ ?_
   refine if_ (fun h12 => ?_) (fun h12 => ?_)
   ·have h12w := h12
    simp only [Bool.and_eq_true, Bool.or_eq_true, Bool.and_eq_false_iff, Bool.or_eq_false_iff, Bool.not_eq_true', Bool.not_eq_false', decide_eq_true_eq, decide_eq_false_iff_not] at h12
    refine q_ (g_ (s_ av_ (z_ (n_ (rt_ (kq_ (nr_ (rr_ (kq_ (nr_ ?_))))))))))
    exact p1 Tryz.results90 rfl ⟨(eB c40m0_), rfl⟩
   ·have h12w := h12
    have ⟨h12, h13⟩ := bor_false h12
    simp only [Bool.and_eq_true, Bool.or_eq_true, Bool.and_eq_false_iff, Bool.or_eq_false_iff, Bool.not_eq_true', Bool.not_eq_false', decide_eq_true_eq, decide_eq_false_iff_not] at h12
    refine sk_ (kx_ (n_ (g_ (s_ mv_ (s_ (x_add_n (a := k) (b := 1) rfl rfl (by omega)) (s_ av_ (z_ ?_)))))))
    refine JX_round (k + 1 : Nat) ?_ ?_ ⟨rfl, rfl, rfl, trivial⟩ (fun _ h => h)
    ·try dsimp only
     refine ⟨?_, ?_⟩
     ·first | rfl | omega | (simp_all; done) | (simp_all; omega)
     ·exact R40.ref_pstep i1_1 (R40.or_tf (by assumption))
    ·try dsimp only
     first | omega | (simp; omega) | (simp_all; omega)
  ·refine J_exit (ne_ (re_ (kh_ (n_ (q_ ?_)))))
   refine g_ (s_ av_ (z_ (n_ (rt_ ?_))))
   exact p1 Tryz.results90 rfl ⟨(eB c40m0_), rfl⟩
set_option maxRecDepth 20000 in
theorem f48_ok (s : Bytes) (w : World) (q0 : s.length ≤ 1000000) : Calls Tryz.prog 48 #[vS s] w (Gives [] w fun v L => ∃ A2 : Option Addr, ∃ c2 : Nat, v = vL A2 ((R44.splitC 46 s).length) c2 ∧ L = [Ent.row (.slice A2 (R44.splitC 46 s).length c2) 9 1 (R44.splitC 46 s).length ((R44.splitC 46 s).map vS)]) := by
 refine calls_J [] 37 Tryz.func48 rfl Tryz.ntmps48 [(0, _)] rfl rfl (Give.nil w) ?_
 refine q_ (g_ (s_ av_ (z_ (n_ (q_ (g_ (o_ (O_buildSlice (cs := [vS []]) Tryz.underlying22 Ty.sz9 Ty.ze9 (by decide) (by decide) (by kernel_rfl) fun b1 => ?_))))))))
 refine s_ av_ (z_ (n_ (q_ (q_ (g_ (s_ av_ (z_ (n_ (k_ ?_)))))))))
 refine J_loop (X := Nat × (List Bytes) × (Option Addr) × Nat) (fun (⟨k, out, outA, outC⟩ : Nat × (List Bytes) × (Option Addr) × Nat) => (k ≤ s.length) ∧ (R44.SplJ 46 s k out)) (fun (⟨k, out, outA, outC⟩ : Nat × (List Bytes) × (Option Addr) × Nat) => [(0, vS s), (2, vL none 0 0), (3, vL outA out.length outC), (4, vI ((k : Nat) : Int))]) (fun (⟨k, out, outA, outC⟩ : Nat × (List Bytes) × (Option Addr) × Nat) => [Ent.row (.slice outA out.length outC) 9 1 out.length (out.map vS)]) (fun (⟨k, out, outA, outC⟩ : Nat × (List Bytes) × (Option Addr) × Nat) => s.length - k) ((0, [[]], (some ⟨b1, 0, none⟩), 1) : Nat × (List Bytes) × (Option Addr) × Nat) ?_ ⟨rfl, rfl, rfl, rfl, trivial⟩ (fun _ h => (St.torow (cs := [vS []]) h 1 1 rfl (by decide)).keep [true] rfl) ?_
 ·try dsimp only
  refine ⟨?_, ?_⟩
  ·first | rfl | omega | (simp_all; done) | (simp_all; omega)
  ·exact R44.SplJ.start
 rintro ⟨k, out, outA, outC⟩ hI1
 obtain ⟨i1_0, i1_1⟩ := hI1
 try dsimp only at i1_0
 try dsimp only at i1_1
 have hne := i1_1.ne
 have hsh := i1_1.short (out.length - 1)
 have hfw := i1_1.few
 have hsu := fun h => sub_length s k (k + 1) h
 try dsimp only
 refine q_ (q_ (g_ (s_ mv_ (s_ mv_ (s_ (x_len_s rfl Tryz.underlying9) (s_ (x_lss_i rfl rfl) (z_ (n_ ?_))))))))
 refine ifd (fun h2w h2 => ?_) (fun h2w h2 => ?_)
 ·refine sk_ (n_ (q_ (k_ (q_ (g_ (s_ mv_ (s_ mv_ (s_ (x_idx_s (k := k) rfl rfl Tryz.underlying9 (by omega)) (js_ (vB (decide (s.getD k 0 = (46 : UInt8)))) (x_eql_u8 rfl rfl) (z_ (n_ ?_)))))))))))
  refine ifd (fun h3w h3 => ?_) (fun h3w h3 => ?_)
  ·refine g_ (s_ mv_ (o_ (O_buildSlice (cs := [vS []]) Tryz.underlying22 Ty.sz9 Ty.ze9 (by decide) (by decide) (by kernel_rfl) fun b4 => ?_)))
   refine o_ (O_append_m 1 vS out [[]] Tryz.underlying22 Ty.sz9 Ty.by9 Ty.ze9 rfl rfl rfl rfl rfl (fun _ => rfl) (cells_blk 0 (off := 0) (m := 1) rfl rfl) lt_ lt_ fun A5 c6 => ?_)
   refine s_ av_ (z_ (kx_ (n_ (g_ (s_ mv_ (s_ (x_add_n (a := k) (b := 1) rfl rfl (by omega)) (s_ av_ (z_ ?_))))))))
   refine JX_round ((k + 1, out ++ [[]], A5, c6) : Nat × (List Bytes) × (Option Addr) × Nat) ?_ ?_ ⟨rfl, rfl, rfl, rfl, trivial⟩ (fun _ h => h.keep [false, true] rfl)
   ·try dsimp only
    refine ⟨?_, ?_⟩
    ·first | rfl | omega | (simp_all; done) | (simp_all; omega)
    ·exact c40m8_
   ·try dsimp only
    first | omega | (simp; omega) | (simp_all; omega)
  ·refine drU [] [17] 18 Ty.mixed ?_
   refine jp_ 0 rfl mv_ (jp_ 1 rfl mv_ (jp_ 2 rfl (lnS Tryz.underlying22) (jp_ 3 rfl (x_sub_i (a := ((out.length : Nat) : Int)) (b := 1) rfl rfl (by omega) (by omega)) (jp_ 4 rfl mv_ (jp_ 5 rfl mv_ (jp_ 6 rfl (lnS Tryz.underlying22) (jp_ 7 rfl (x_sub_i (a := ((out.length : Nat) : Int)) (b := 1) rfl rfl (by omega) (by omega)) ?_)))))))
   refine JA_early 8 (pA outA (out.length - 1)) rfl (by kernel_rfl) (by kernel_rfl) (by kernel_rfl) rfl (by kernel_rfl) (fun _ _ _ h => h) rfl trivial (x_indexAddr_at (k := (out.length - 1)) (off := (out.length - 1)) (cells_row 0 rfl) Tryz.underlying22 Ty.sz9 rfl (ix_nat rfl (by omega)) lt_ c40m6_ (Nat.mul_one _)) ?_
   refine JA_early 9 (vS (out.getD (out.length - 1) [])) rfl (by kernel_rfl) (by kernel_rfl) (by kernel_rfl) rfl (by kernel_rfl) (fun _ _ _ h => h) rfl trivial (x_load_at (cells_row 0 rfl) rfl Ty.sc9 (map_at vS out [] lt_)) ?_
   refine jp_ 10 rfl mv_ (jp_ 11 rfl mv_ (jp_ 12 rfl mv_ (jp_ 13 rfl (x_add_n (a := k) (b := 1) rfl rfl (by omega)) (jp_ 14 rfl (x_sub_s (lo := k) (hi := k + 1) rfl Tryz.underlying9 (.inl rfl) (.inl rfl) lt_ (by first | omega | (simp only [sub, List.length_drop, List.length_take]; omega) | (simp; omega) | (simp_all; omega))) (jp_ 15 rfl (x_cat_s rfl rfl c40m7_) ?_)))))
   refine JA_early 16 (pA outA (out.length - 1)) rfl (by kernel_rfl) (by kernel_rfl) (by kernel_rfl) rfl (by kernel_rfl) (fun _ _ _ h => h) rfl trivial (x_indexAddr_at (k := (out.length - 1)) (off := (out.length - 1)) (cells_row 0 rfl) Tryz.underlying22 Ty.sz9 rfl (ix_nat rfl (by omega)) lt_ c40m6_ (Nat.mul_one _)) ?_
   refine j1_ 17 (jio_ rfl (O_store_row_1 (a := (out.getD (out.length - 1) []) ++ (sub s k (k + 1))) (xs := out) (k := (out.length - 1)) 0 vS [Ent.row (.slice outA (out.set (out.length - 1) ((out.getD (out.length - 1) []) ++ (sub s k (k + 1)))).length outC) 9 1 (out.set (out.length - 1) ((out.getD (out.length - 1) []) ++ (sub s k (k + 1)))).length ((out.set (out.length - 1) ((out.getD (out.length - 1) []) ++ (sub s k (k + 1)))).map vS)] rfl rfl rfl Ty.sz9 rfl (fun _ => rfl) lt_ rfl ?_)) (fun _ h => ⟨h.keep [false] rfl, fun _ => h⟩)
   refine JA_weaken (E' := [(0, vS s), (2, vL none 0 0), (3, vL outA ((out.set (out.length - 1) ((out.getD (out.length - 1) []) ++ (sub s k (k + 1)))).length) outC), (4, vI ((k : Nat) : Int)), (6, vI ((k : Nat) : Int)), (7, vS s), (8, vI ((s.length : Nat) : Int)), (9, vB (decide (((k : Nat) : Int) < ((s.length : Nat) : Int)))), (12, vS s), (13, vI ((k : Nat) : Int)), (14, vU8 (s.getD k 0)), (15, vB (decide (s.getD k 0 = (46 : UInt8)))), (19, vL outA ((out.set (out.length - 1) ((out.getD (out.length - 1) []) ++ (sub s k (k + 1)))).length) outC), (20, vL outA ((out.set (out.length - 1) ((out.getD (out.length - 1) []) ++ (sub s k (k + 1)))).length) outC), (21, vI ((out.length : Nat) : Int)), (22, vI (((out.length : Nat) : Int) - 1)), (23, vL outA ((out.set (out.length - 1) ((out.getD (out.length - 1) []) ++ (sub s k (k + 1)))).length) outC), (24, vL outA ((out.set (out.length - 1) ((out.getD (out.length - 1) []) ++ (sub s k (k + 1)))).length) outC), (25, vI ((out.length : Nat) : Int)), (26, vI (((out.length : Nat) : Int) - 1)), (27, pA outA (out.length - 1)), (28, vS (out.getD (out.length - 1) [])), (29, vS s), (30, vI ((k : Nat) : Int)), (31, vI ((k : Nat) : Int)), (32, vI ((k + 1 : Nat) : Int)), (33, vS (sub s k (k + 1))), (34, vS ((out.getD (out.length - 1) []) ++ (sub s k (k + 1)))), (35, pA outA (out.length - 1))]) (L' := [Ent.row (.slice outA (out.set (out.length - 1) ((out.getD (out.length - 1) []) ++ (sub s k (k + 1)))).length outC) 9 1 (out.set (out.length - 1) ((out.getD (out.length - 1) []) ++ (sub s k (k + 1)))).length ((out.set (out.length - 1) ((out.getD (out.length - 1) []) ++ (sub s k (k + 1)))).map vS)]) ⟨rfl, rfl, (congrArg (fun n : Nat => some (Value.slice outA n outC)) (set_len out (out.length - 1) ((out.getD (out.length - 1) []) ++ (sub s k (k + 1)))).symm), rfl, rfl, rfl, rfl, rfl, rfl, rfl, rfl, rfl, (congrArg (fun n : Nat => some (Value.slice outA n outC)) (set_len out (out.length - 1) ((out.getD (out.length - 1) []) ++ (sub s k (k + 1)))).symm), (congrArg (fun n : Nat => some (Value.slice outA n outC)) (set_len out (out.length - 1) ((out.getD (out.length - 1) []) ++ (sub s k (k + 1)))).symm), rfl, rfl, (congrArg (fun n : Nat => some (Value.slice outA n outC)) (set_len out (out.length - 1) ((out.getD (out.length - 1) []) ++ (sub s k (k + 1)))).symm), (congrArg (fun n : Nat => some (Value.slice outA n outC)) (set_len out (out.length - 1) ((out.getD (out.length - 1) []) ++ (sub s k (k + 1)))).symm), rfl, rfl, rfl, rfl, rfl, rfl, rfl, rfl, rfl, rfl, rfl, trivial⟩ (fun _ h => h) ?_
   refine JA_done (by kernel_rfl) (gl_ rfl (fun _ h => h.keep [false] rfl)) ?_
   refine kx_ (n_ (g_ (s_ mv_ (s_ (x_add_n (a := k) (b := 1) rfl rfl (by omega)) (s_ av_ (z_ ?_))))))
   refine JX_round ((k + 1, (out.set (out.length - 1) ((out.getD (out.length - 1) []) ++ (sub s k (k + 1)))), outA, outC) : Nat × (List Bytes) × (Option Addr) × Nat) ?_ ?_ ⟨rfl, rfl, rfl, rfl, trivial⟩ (fun _ h => h)
   ·try dsimp only
    refine ⟨?_, ?_⟩
    ·first | rfl | omega | (simp_all; done) | (simp_all; omega)
    ·exact c40m8_
   ·try dsimp only
    first | omega | (simp; omega) | (simp_all; omega)
 ·refine J_exit (ne_ (re_ (kh_ (n_ (q_ ?_)))))
  refine g_ (s_ mv_ (s_ av_ (z_ (n_ (rt_ ?_)))))
  refine JX_rets [_] _ Tryz.results48 (fun w h => ⟨rfl, trivial⟩) rfl _ (fun _ h => h) ⟨outA, outC, ?_, ?_⟩
  ·have e_x0 : (out.length : Nat) = ((R44.splitC 46 s).length) := congrArg List.length (i1_1.done (by omega))
   exact congrArg (fun (x0 : Nat) => vL outA x0 outC) e_x0
  ·have e_y0 : (out : List Bytes) = (R44.splitC 46 s) := by
    exact i1_1.done (by omega)
   have e_all := (congrArg (fun (y0 : List Bytes) => [Ent.row (.slice outA y0.length outC) 9 1 y0.length (y0.map vS)]) e_y0)
   exact e_all
set_option maxRecDepth 20000 in
theorem f67_ok (s : Bytes) (w : World) (q0 : s.length ≤ 140737488355328) : Calls Tryz.prog 67 #[vS s, vB false] w (Gives [] w fun v L => v = vB (R44.nameV (R44.qualV R44.isUp R44.isPl) s) ∧ L = []) := by
 refine calls_J [] 30 Tryz.func67 rfl Tryz.ntmps67 [(0, _), (1, _)] rfl rfl (Give.nil w) ?_
 refine q_ (g_ (s_ av_ (z_ (n_ (q_ (q_ (g_ (s_ mv_ (s_ (x_len_s rfl Tryz.underlying9) (s_ (x_lss_i rfl rfl) (s_ mv_ ?_)))))))))))
 refine or_ 3 (decide ((31 : Int) < ((s.length : Nat) : Int))) (fun g1 => ?_) ?_
 ·have g1r := g1
  have g1r := of_decide_eq_false g1r
  refine sg_ g1 mv_ (sg_ g1 (x_len_s rfl Tryz.underlying9) (sg_ g1 (x_gtr_i rfl rfl) ?_))
  exact cr_
 refine z_ (n_ ?_)
 refine if_ (fun h2 => ?_) (fun h2 => ?_)
 ·have h2w := h2
  simp only [Bool.and_eq_true, Bool.or_eq_true, Bool.and_eq_false_iff, Bool.or_eq_false_iff, Bool.not_eq_true', Bool.not_eq_false', decide_eq_true_eq, decide_eq_false_iff_not] at h2
  refine q_ (g_ (s_ av_ (z_ (n_ (rt_ (nr_ ?_))))))
  exact p1 Tryz.results67 rfl ⟨(eB c40m1_), rfl⟩
 ·have h2w := h2
  have ⟨h2, h3⟩ := bor_false h2
  have h2 := of_decide_eq_false h2
  have h3 := of_decide_eq_false h3
  refine sk_ (n_ (q_ (g_ (s_ mv_ ?_))))
  refine c1 (cl_ Ty.ca48) (fun w hS => f48_ok s w hy_) ?_
  rintro _ _ ⟨e4, e5, rfl, rfl⟩
  have ha6 := R44.splitC_count 46 s
  refine s_ av_ (z_ (n_ (q_ (q_ (g_ (s_ av_ (z_ (n_ (k_ ?_)))))))))
  refine J_loop (X := Nat) (fun (k : Nat) => (k ≤ (R44.splitC 46 s).length) ∧ (∀ i, i < k → (R44.qualV R44.isUp R44.isPl) ((R44.splitC 46 s).getD i []) = true)) (fun (k : Nat) => [(1, vB false), (5, vL e4 ((R44.splitC 46 s).length) e5), (6, vI ((k : Nat) : Int))]) (fun (k : Nat) => [Ent.row (.slice e4 (R44.splitC 46 s).length e5) 9 1 (R44.splitC 46 s).length ((R44.splitC 46 s).map vS)]) (fun (k : Nat) => (R44.splitC 46 s).length - k) (0 : Nat) ?_ ⟨rfl, rfl, rfl, trivial⟩ (fun _ h => h) ?_
  ·try dsimp only
   refine ⟨?_, ?_⟩
   ·first | rfl | omega | (simp_all; done) | (simp_all; omega)
   ·intro i h2; omega
  intro k hI1
  obtain ⟨i1_0, i1_1⟩ := hI1
  try dsimp only at i1_0
  try dsimp only at i1_1
  have hpl := R44.splitC_len 46 s k
  try dsimp only
  refine q_ (q_ (g_ (s_ mv_ (s_ mv_ (s_ (lnS Tryz.underlying22) (s_ (x_lss_i rfl rfl) (z_ (n_ ?_))))))))
  refine ifd (fun h7w h7 => ?_) (fun h7w h7 => ?_)
  ·refine sk_ (n_ (q_ (k_ (q_ (g_ (s_ mv_ (s_ mv_ (r_ (ixM (cells_row 0 rfl) Tryz.underlying22 Ty.sz9) (r_ (ldM vS [] (cells_row 0 rfl) Ty.sc9) (s_ mv_ (c0 (cl_ Ty.ca90) (fun w hS => f90_ok _ w hy_) (s_ (x_not rfl) (z_ (n_ ?_))))))))))))))
   refine if_ (fun h8 => ?_) (fun h8 => ?_)
   ·have h8w := h8
    have h8 : ((R44.qualV R44.isUp R44.isPl) ((R44.splitC 46 s).getD k [])) = false := bnot_true h8
    refine q_ (g_ (s_ av_ (z_ (n_ (rt_ (kq_ (nr_ (rr_ (kq_ (nr_ ?_))))))))))
    exact p1 Tryz.results67 rfl ⟨(eB c40m1_), rfl⟩
   ·have h8w := h8
    have h8 : ((R44.qualV R44.isUp R44.isPl) ((R44.splitC 46 s).getD k [])) = true := bnot_false h8
    refine sk_ (kx_ (n_ (g_ (s_ mv_ (s_ (x_add_n (a := k) (b := 1) rfl rfl (by omega)) (s_ av_ (z_ ?_)))))))
    refine JX_round (k + 1 : Nat) ?_ ?_ ⟨rfl, rfl, rfl, trivial⟩ (fun _ h => h)
    ·try dsimp only
     refine ⟨?_, ?_⟩
     ·first | rfl | omega | (simp_all; done) | (simp_all; omega)
     ·exact R44.all_step i1_1 (by assumption)
    ·try dsimp only
     first | omega | (simp; omega) | (simp_all; omega)
  ·refine J_exit (ne_ (re_ (kh_ (n_ (q_ ?_)))))
   refine g_ (s_ av_ (z_ (n_ (rt_ ?_))))
   exact p1 Tryz.results67 rfl ⟨(eB c40m1_), rfl⟩
set_option maxRecDepth 20000 in
theorem f47_ok (s : Bytes) (w : World) (q0 : s.length ≤ 140737488355328) : Calls Tryz.prog 47 #[vS s] w (Gives [] w fun v L => v = vB (R44.nameV (R44.qualV R44.isUp R44.isPl) s) ∧ L = []) := by
 refine calls_J [] 5 Tryz.func47 rfl Tryz.ntmps47 [(0, _)] rfl rfl (Give.nil w) ?_
 refine q_ (g_ (s_ av_ (z_ (n_ (q_ (g_ (s_ mv_ (c0 (cl_ Ty.ca67) (fun w hS => f67_ok s w hy_) (s_ av_ (z_ (n_ (rt_ ?_))))))))))))
 exact p1 Tryz.results47 rfl ⟨rfl, rfl⟩
set_option maxRecDepth 20000 in
theorem f22_ok (s : Bytes) (w : World) (q0 : s.length ≤ 140737488355328) : Calls Tryz.prog 22 #[vS s] w (Gives [] w fun v L => v = vB (R40.stepV s) ∧ L = []) := by
 refine calls_J [] 11 Tryz.func22 rfl Tryz.ntmps22 [(0, _)] rfl rfl (Give.nil w) ?_
 refine q_ (g_ (s_ av_ (z_ (n_ (q_ (g_ (s_ mv_ (c0 (cl_ Ty.ca47) (fun w hS => f47_ok s w hy_) (s_ mv_ ?_)))))))))
 refine and_ 4 (decide ((((R44.splitC 46 s).length : Nat) : Int) ≤ 2)) (fun g1 => ?_) ?_
 ·have g1r := g1
  have hg2 := R44.name_len g1
  refine sg_ g1 mv_ ?_
  refine c1g g1 (cl_ Ty.ca48) (fun w hS => f48_ok s w hy_) ?_
  rintro _ _ ⟨e3, e4, rfl, rfl⟩
  have ha5 := R44.splitC_count 46 s
  refine sg_ g1 (lnS Tryz.underlying22) (sg_ g1 (x_leq_i rfl rfl) ?_)
  exact cr_ (fun _ h => h.keep [false] rfl)
 refine s_ av_ (z_ (n_ (rt_ ?_)))
 exact p1 Tryz.results22 rfl ⟨(eB (R40.ref_step)), rfl⟩
set_option maxRecDepth 20000 in
theorem f29_ok (n : Int) (w : World) (q0 : n ≤ 1000000) (q1 : 0 ≤ n) : Calls Tryz.prog 29 #[vI n, vI 1] w (Gives [] w fun v L => v = vS (Lib.decDigits n.toNat) ∧ L = []) := by
 refine calls_J [] 25 Tryz.func29 rfl Tryz.ntmps29 [(0, _), (1, _)] rfl rfl (Give.nil w) ?_
 refine q_ (g_ (s_ av_ (z_ (n_ (q_ (g_ (s_ av_ (z_ (n_ (q_ (k_ ?_)))))))))))
 refine J_loop (X := Nat × Bytes) (fun (⟨m, s⟩ : Nat × Bytes) => (R44.DigJ n.toNat m s) ∧ (m ≤ n.toNat) ∧ (s.length ≤ 1000000 - m)) (fun (⟨m, s⟩ : Nat × Bytes) => [(0, vI ((m : Nat) : Int)), (1, vI 1), (4, vS []), (5, vS s)]) (fun (⟨m, s⟩ : Nat × Bytes) => []) (fun (⟨m, s⟩ : Nat × Bytes) => 2 * m + (1 - s.length)) ((n.toNat, []) : Nat × Bytes) ?_ ⟨(sE_ (by omega)), rfl, rfl, rfl, trivial⟩ (fun _ h => h) ?_
 ·try dsimp only
  refine ⟨?_, ?_, ?_⟩
  ·exact R44.DigJ.start _
  ·omega
  ·exact Nat.zero_le _
 rintro ⟨m, s⟩ hI1
 obtain ⟨i1_0, i1_1, i1_2⟩ := hI1
 try dsimp only at i1_0
 try dsimp only at i1_1
 try dsimp only at i1_2
 try dsimp only
 refine q_ (q_ (g_ (s_ mv_ (s_ (x_gtr_i rfl rfl) (s_ mv_ ?_)))))
 refine or_ 4 (decide (((s.length : Nat) : Int) < 1)) (fun g1 => ?_) ?_
 ·have g1r := g1
  have g1r := of_decide_eq_false g1r
  refine sg_ g1 mv_ (sg_ g1 (x_len_s rfl Tryz.underlying9) (sg_ g1 mv_ (sg_ g1 (x_lss_i rfl rfl) ?_)))
  exact cr_
 refine z_ (n_ ?_)
 refine if_ (fun h2 => ?_) (fun h2 => ?_)
 ·simp only [Bool.and_eq_true, Bool.or_eq_true, Bool.and_eq_false_iff, Bool.or_eq_false_iff, Bool.not_eq_true', Bool.not_eq_false', decide_eq_true_eq, decide_eq_false_iff_not] at h2
  refine sk_ (n_ (k_ (q_ (g_ (s_ mv_ (s_ (x_rem_n (a := m) (b := 10) rfl rfl (by omega) (by omega)) (s_ (x_add_n (a := 48) (b := m % 10) rfl rfl (by omega)) (s_ (x_conv_n_u8 (a := 48 + (m % 10)) rfl Tryz.underlying3 Tryz.underlying5) (o_ (O_buildSlice (cs := [vU8 (UInt8.ofNat (48 + (m % 10)))]) Tryz.underlying94 Ty.sz5 Ty.ze5 (by decide) (by decide) (by kernel_rfl) fun b3 => ?_))))))))))
  refine JO_read (vS [UInt8.ofNat (48 + (m % 10))]) rfl trivial (x_str_blk 0 (l := [UInt8.ofNat (48 + (m % 10))]) rfl Tryz.underlying94 Tryz.underlying5 Tryz.underlying9 rfl rfl rfl) ?_
  refine s_ mv_ (s_ (x_cat_s rfl rfl c40m7_) (s_ av_ (z_ (n_ (g_ (s_ mv_ (s_ (x_quo_n (a := m) (b := 10) rfl rfl (by omega) (by omega)) (s_ av_ (z_ (kx_ ?_))))))))))
  refine JX_round ((m / 10, [UInt8.ofNat (48 + (m % 10))] ++ s) : Nat × Bytes) ?_ ?_ ⟨rfl, rfl, rfl, rfl, trivial⟩ (fun _ h => h.keep [false] rfl)
  ·try dsimp only
   refine ⟨?_, ?_, ?_⟩
   ·exact i1_0.stepI (by omega)
   ·first | rfl | omega | (simp_all; done) | (simp_all; omega)
   ·simp only [List.length_append, List.length_cons, List.length_nil]; omega
  ·try dsimp only
   simp only [List.length_append, List.length_cons, List.length_nil]; omega
 ·have ⟨h2, h4⟩ := bor_false h2
  have h2 := of_decide_eq_false h2
  have h4 := of_decide_eq_false h4
  refine J_exit (ne_ (re_ (kh_ (n_ (q_ ?_)))))
  refine g_ (s_ mv_ (s_ av_ (z_ (n_ (rt_ ?_)))))
  exact p1 Tryz.results29 rfl ⟨(eS (i1_0.done (by omega) (List.length_pos_iff.1 (by omega)))), rfl⟩
set_option maxRecDepth 20000 in
theorem f11_ok (a : List Bytes) (aA : Option Addr) (aC : Nat) (b : List Bytes) (bA : Option Addr) (bC : Nat) (w : World) (aR : RO [] w aA (a.map vS)) (bR : RO [] w bA (b.map vS)) (q0 : a.length ≤ 9223372036854775807) (q1 : b.length ≤ 9223372036854775807) : Calls Tryz.prog 11 #[vL aA a.length aC, vL bA b.length bC] w (Gives [] w fun v L => v = vB (decide (a = b)) ∧ L = []) := by
 refine calls_J [] 26 Tryz.func11 rfl Tryz.ntmps11 [(0, _), (1, _)] rfl rfl (Give.nil w) ?_
 refine q_ (g_ (s_ av_ (z_ (n_ (q_ (q_ (g_ (s_ mv_ (s_ (lnS Tryz.underlying22) (s_ mv_ (s_ (lnS Tryz.underlying22) (s_ (x_neq_i rfl rfl) (z_ (n_ ?_))))))))))))))
 refine ifd (fun h1w h1 => ?_) (fun h1w h1 => ?_)
 ·refine q_ (g_ (s_ av_ (z_ (n_ (rt_ (nr_ ?_))))))
  exact p1 Tryz.results11 rfl ⟨(eB c40m2_), rfl⟩
 ·refine sk_ (n_ (q_ (q_ (g_ (s_ av_ (z_ (n_ (k_ ?_))))))))
  refine J_loop (X := Nat) (fun (k : Nat) => (k ≤ a.length) ∧ (a.length = b.length) ∧ (∀ i, i < k → a.getD i [] = b.getD i [])) (fun (k : Nat) => [(0, vL aA a.length aC), (1, vL bA b.length bC), (5, vI ((k : Nat) : Int))]) (fun (k : Nat) => []) (fun (k : Nat) => a.length - k) (0 : Nat) ?_ ⟨rfl, rfl, rfl, trivial⟩ (fun _ h => h) ?_
  ·try dsimp only
   refine ⟨?_, ?_, ?_⟩
   ·first | rfl | omega | (simp_all; done) | (simp_all; omega)
   ·omega
   ·intro i hi; omega
  intro k hI1
  obtain ⟨i1_0, i1_1, i1_2⟩ := hI1
  try dsimp only at i1_0
  try dsimp only at i1_1
  try dsimp only at i1_2
  try dsimp only
  refine q_ (q_ (g_ (s_ mv_ (s_ mv_ (s_ (lnS Tryz.underlying22) (s_ (x_lss_i rfl rfl) (z_ (n_ ?_))))))))
  refine ifd (fun h2w h2 => ?_) (fun h2w h2 => ?_)
  ·refine sk_ (n_ (q_ (k_ (q_ ?_))))
   refine drB [] 9 Ty.mixed ?_
   refine jp_ 0 rfl mv_ (jp_ 1 rfl mv_ (jq_ 2 rfl (ixM (cells_ro aR) Tryz.underlying22 Ty.sz9) (jq_ 3 rfl (ldM vS [] (cells_ro aR) Ty.sc9) (jp_ 4 rfl mv_ (jp_ 5 rfl mv_ (jq_ 6 rfl (ixM (cells_ro bR) Tryz.underlying22 Ty.sz9) (jq_ 7 rfl (ldM vS [] (cells_ro bR) Ty.sc9) (jp_ 8 rfl (x_neq_s rfl rfl) ?_))))))))
   refine JA_done (by kernel_rfl) gm_ ?_
   refine n_ ?_
   refine ifd (fun h3w h3 => ?_) (fun h3w h3 => ?_)
   ·refine q_ (g_ (s_ av_ (z_ (n_ (rt_ (kq_ (nr_ (rr_ (kq_ (nr_ ?_))))))))))
    exact p1 Tryz.results11 rfl ⟨(eB c40m2_), rfl⟩
   ·refine sk_ (kx_ (n_ (g_ (s_ mv_ (s_ (x_add_n (a := k) (b := 1) rfl rfl (by omega)) (s_ av_ (z_ ?_)))))))
    refine JX_round (k + 1 : Nat) ?_ ?_ ⟨rfl, rfl, rfl, trivial⟩ (fun _ h => h)
    ·try dsimp only
     refine ⟨?_, ?_, ?_⟩
     ·first | rfl | omega | (simp_all; done) | (simp_all; omega)
     ·first | rfl | omega | (simp_all; done) | (simp_all; omega)
     ·intro i hi
      by_cases hik : i = k
      ·subst hik; simp_all
      ·exact i1_2 i (by omega)
    ·try dsimp only
     first | omega | (simp; omega) | (simp_all; omega)
  ·refine J_exit (ne_ (re_ (kh_ (n_ (q_ ?_)))))
   refine g_ (s_ av_ (z_ (n_ (rt_ ?_))))
   exact p1 Tryz.results11 rfl ⟨(eB c40m2_), rfl⟩
end Go.Proofs.YtngjdmhpljmkpaaGreatDoor

namespace Go.Proofs.YtngjdmhpljmkpaaGreatDoor
open Go.GV
namespace R40
section
variable {ts : List Test} {ws : List Bytes}
theorem parse_len (ws : List Bytes) : (parseV ws).out.length ≤ 32 := by
  unfold parseV
  split
  · exact Nat.zero_le _
  · split
    · exact Nat.zero_le _
    · split
      · exact Nat.zero_le _
      · rename_i h; exact Nat.le_of_not_lt h
theorem format_len (ts : List Test) : (formatV ts).length ≤ 192 := by
  cases hx : (treeV stepV ts).isSome with
  | false => rw [format_no hx]; exact Nat.zero_le _
  | true =>
    have hg := tree_good hx
    rw [format_yes hx]
    have := words_le ((treeV stepV ts).getD default) 0
    omega
theorem same_end {a b : List Test} (hl : a.length = b.length) (h : ∀ i, i < a.length → a.getD i default = b.getD i default) : true = decide (a = b) := by
  refine (decide_eq_true ?_).symm
  apply List.ext_getElem hl
  intro i h1 h2
  have := h i h1
  rwa [List.getD_eq_getElem?_getD, List.getD_eq_getElem?_getD, List.getElem?_eq_getElem h1, List.getElem?_eq_getElem h2] at this
theorem same_bad {a b : List Test} {i : Nat} (h : a.getD i default ≠ b.getD i default) : false = decide (a = b) := by
  refine (decide_eq_false fun e => ?_).symm
  rw [e] at h; exact h rfl
theorem same_len {a b : List Test} (h : a.length ≠ b.length) : false = decide (a = b) := by
  refine (decide_eq_false fun e => ?_).symm
  rw [e] at h; exact h rfl
theorem few_sh {P : Prop} (h : (∀ i, (ts.getD i default).Step.length ≤ 40) ∧ P) (i : Nat) : (ts.getD i default).Step.length ≤ 1000000 := Nat.le_trans (h.1 i) (by decide)
end
end R40
end Go.Proofs.YtngjdmhpljmkpaaGreatDoor
