/- Pw40f, Sh40b, Ss40, C40j, C40k, C40l, Pn40b, Pw40g in one text. -/
import Derived.Test.YtngjdmhpljmkpaaGreatDoorConditionValues12
import Derived.Test.YtngjdmhpljmkpaaGreatDoorConditionValues15
import Derived.Test.YtngjdmhpljmkpaaGreatDoorConditionValues8
import Derived.Shelf.Small.Bits
import Derived.Shelf.Utf8.RuneCount
import Derived.Shelf.Strconv.Atoi
import Derived.Shelf.Strconv.Itoa0
import Derived.Shelf.Strconv.Itoa1
import Derived.Shelf.LaysM
import Derived.Shelf.Strconv.Itoa2
import Derived.Shelf.Strconv.Itoa3
import Derived.Shelf.Strconv.AtoiErrFast
import Derived.Shelf.Strconv.ParseIntEmpty
import Derived.Shelf.Strconv.AtoiFail
import Derived.Shelf.Strconv.Clone
import Derived.Shelf.Strconv.SyntaxError
import Derived.Shelf.LaysC
import Derived.Shelf.Strconv.ToError
import Derived.Shelf.Strconv.AtoiErr
import Derived.Shelf.Strconv.Lower
import Derived.Shelf.Strconv.ParseUint10
import Derived.Shelf.Strconv.ParseUint10Empty
import Derived.Shelf.Strconv.ParseUint10Any
import Derived.Shelf.Strconv.ParseInt10
import Derived.Shelf.Strconv.AtoiLong
import Derived.Shelf.Strconv.AtoiInnerAll
import Derived.Shelf.Strconv.RangeError
import Derived.Shelf.Strconv.ToErrorRange
import Derived.Shelf.Strconv.AtoiAll
import Derived.Shelf.Strconv.ErrVarAll
import Derived.Shelf.Strings.Search1
import Derived.Shelf.Strings.Search2
import Derived.Shelf.Strings.Search3
import Derived.Shelf.Strings.Count
import Derived.Shelf.Strings.Shaped
import Derived.Shelf.Sort.Plain
import Derived.Shelf.Strings.Split
import Derived.Shelf.Strings.SplitShaped
import Derived.Shelf.Unicode.Decode
import Derived.Shelf.Strings.RuneCount
import Derived.Shelf.Strings.Explode
import Derived.Shelf.Unicode.DecodeSlow
import Derived.Shelf.Unicode.DecodeAny
import Derived.Shelf.Slices.Turned
import Derived.Shelf.Slices.CompactS
import Derived.Shelf.Slices.Cells
import Derived.Shelf.Slices.In.SortNone
import Derived.Test.YtngjdmhpljmkpaaGreatDoorRows
import Derived.Test.YtngjdmhpljmkpaaGreatDoorConditionValues5
import Derived.Test.YtngjdmhpljmkpaaGreatDoorC40i
import Derived.Test.YtngjdmhpljmkpaaGreatDoorC40f
import Derived.Test.YtngjdmhpljmkpaaGreatDoorConditionValues7
import Derived.Test.YtngjdmhpljmkpaaGreatDoorConditionValues6
set_option linter.unusedVariables false
set_option linter.unusedSimpArgs false
namespace Go.Proofs.YtngjdmhpljmkpaaGreatDoor
open Go.GV
namespace R40
section
variable {ts : List Test} {ws : List Bytes}
theorem tree_good (h : (treeV stepV ts).isSome = true) : good stepV ((treeV stepV ts).getD default) ∧ (post ((treeV stepV ts).getD default)).length ≤ 32 := by
  obtain ⟨x, hx⟩ := Option.isSome_iff_exists.1 h
  rw [hx]
  obtain ⟨h1, h2, _, h3⟩ := tree_iff.1 hx
  exact ⟨h2, by show (post x).length ≤ 32; rw [h3]; exact h1⟩
theorem format_no (h : (treeV stepV ts).isSome = false) : formatV ts = [] := by
  unfold formatV; cases hx : treeV stepV ts with
  | none => rfl
  | some x => rw [hx] at h; cases h
theorem format_yes (h : (treeV stepV ts).isSome = true) : formatV ts = wordsV ((treeV stepV ts).getD default) 0 := by
  obtain ⟨x, hx⟩ := Option.isSome_iff_exists.1 h
  unfold formatV; rw [hx]; rfl
theorem parse_nil (h : ws.length = 0) : parseV ws = ⟨[], 0, 0⟩ := by rw [parseV, if_pos (List.length_eq_zero_iff.1 h)]
theorem parse_bad (h0 : ¬ ws.length = 0) (h : (orN ws (ws.length + 1) 0).ok = false ∨ (orN ws (ws.length + 1) 0).pos < ws.length) : parseV ws = ⟨[], (orN ws (ws.length + 1) 0).pos, 3⟩ := by
  rw [parseV, if_neg (fun e => h0 (by rw [e]; rfl)), if_pos h]
theorem parse_big (h0 : ¬ ws.length = 0) (h1 : (orN ws (ws.length + 1) 0).ok = true) (h2 : ¬ (orN ws (ws.length + 1) 0).pos < ws.length) {y : List Test} (hy : (orN ws (ws.length + 1) 0).ok = true → y = [] ++ (orN ws (ws.length + 1) 0).out) (hb : 32 < y.length) : parseV ws = ⟨[], 0, 8⟩ := by
  rw [parseV, if_neg (fun e => h0 (by rw [e]; rfl)), if_neg (by simp [h1, h2]), if_pos (by rw [hy h1] at hb; exact hb)]
theorem parse_ok (h0 : ¬ ws.length = 0) (h1 : (orN ws (ws.length + 1) 0).ok = true) (h2 : ¬ (orN ws (ws.length + 1) 0).pos < ws.length) {y : List Test} (hy : (orN ws (ws.length + 1) 0).ok = true → y = [] ++ (orN ws (ws.length + 1) 0).out) (hb : ¬ 32 < y.length) : parseV ws = ⟨y, 0, 0⟩ := by
  rw [parseV, if_neg (fun e => h0 (by rw [e]; rfl)), if_neg (by simp [h1, h2]), if_neg (by rw [hy h1] at hb; exact hb), hy h1]; rfl
end
abbrev AW : List Bytes := [[83, 49], [114, 99], [60, 61], [52], [97, 110, 100], [110, 111, 116], [83, 50], [102, 97, 105, 108, 101, 100]]
abbrev AS : List Bytes := [[83, 49], [83, 50]]
abbrev AT : List Test := [⟨0, [83, 49], 1, 4⟩, ⟨1, [83, 50], 0, 0⟩, bare 4, bare 5]
theorem aw_parse : parseV AW = ⟨AT, 0, 0⟩ := by kernel_rfl
theorem aw_on : onV AT AS = some (.pair true (.leaf ⟨0, [83, 49], 1, 4⟩ 0) (.neg (.leaf ⟨1, [83, 50], 0, 0⟩ 1))) := by rfl
theorem aw_e : (parseV AW).e = 0 := by rw [aw_parse]
theorem aw_out : (parseV AW).out = AT := by rw [aw_parse]
theorem aw_len : (parseV AW).out.length = 4 := by rw [aw_parse]; rfl
theorem aw_is : (onV (parseV AW).out AS).isSome = true := by rw [aw_parse]; rfl
theorem aw_val : evalV (parseV AW).out AS [⟨true, false, 4⟩] = true := by rw [aw_parse]; kernel_rfl
theorem aw_fmt : (formatV (parseV AW).out).length = 8 := by rw [aw_parse]; kernel_rfl
theorem aw_ops : ∀ i, ((parseV AW).out.getD i default).Step.length ≤ 1000000 := by
  rw [aw_parse]; intro i
  match i with
  | 0 => decide
  | 1 => decide
  | 2 => decide
  | 3 => decide
  | i + 4 => exact Nat.zero_le _
theorem lit_all {l : List Bytes} {n : Nat} (h : l.all (fun s => decide (s.length ≤ n)) = true) (k : Nat) : (l.getD k []).length ≤ n := by
  by_cases hk : k < l.length
  · rw [List.getD_eq_getElem?_getD, List.getElem?_eq_getElem hk]; exact of_decide_eq_true (List.all_eq_true.1 h _ (List.getElem_mem hk))
  · rw [List.getD_eq_getElem?_getD, List.getElem?_eq_none (by omega)]; exact Nat.zero_le _
theorem bit_or (s b : UInt32) (hs : s &&& 1 = 0) (hb : b &&& 1 = 0) : (s ||| b) &&& 1 = 0 := by
  have e : (s ||| b) &&& 1 = (s &&& 1) ||| (b &&& 1) := by
    apply UInt32.eq_of_toBitVec_eq
    simp only [UInt32.toBitVec_and, UInt32.toBitVec_or]
    apply BitVec.eq_of_getLsbD_eq
    intro i _
    simp only [BitVec.getLsbD_and, BitVec.getLsbD_or, Bool.and_or_distrib_right]
  rw [e, hs, hb]; rfl
theorem aw_bits (k : Nat) (e : StepEnd) (h : k < 2) (he : k = 0 → e = ⟨true, false, 8⟩) : bitsV AT AS k e &&& 1 = 0 := by
  have h3 : ∀ e, bitC AT AS k e 3 = false := fun e => rfl
  have h2 : ∀ e, bitC AT AS k e 2 = false := fun e => rfl
  have h0 : bitC AT AS k e 0 = false := by
    match k, h with
    | 0, _ => rw [he rfl]; rfl
    | 1, _ => rfl
  have hn : bitsN AT AS k e 4 &&& 1 = 0 := by
    simp only [bitsN, h3, h2, h0]
    cases bitC AT AS k e 1 <;> decide
  unfold bitsV
  show (if failed e = true then bitsN AT AS k e 4 ||| 2147483648 else bitsN AT AS k e 4) &&& 1 = 0
  split
  · exact bit_or _ _ hn (by decide)
  · exact hn
abbrev AQ : UInt32 → Prop := fun s => s &&& 1 = 0
theorem aw_step (k : Nat) (e : StepEnd) (s : UInt32) (hk : k < AS.length) (he : k < [(⟨true, false, 8⟩ : StepEnd)].length → e = [(⟨true, false, 8⟩ : StepEnd)].getD k default) (hs : AQ s) : AQ (s ||| bitsV (parseV AW).out AS k e) := by
  rw [aw_out]
  exact bit_or _ _ hs (aw_bits k e hk fun h => by subst h; exact he (by decide))
theorem aw_end (s : UInt32) (hs : AQ s) : eval (leafB s) ((onV (parseV AW).out AS).getD default) = false := by
  rw [aw_out, aw_on]
  show (leafB s ⟨0, [83, 49], 1, 4⟩ 0 && _) = false
  have : leafB s ⟨0, [83, 49], 1, 4⟩ 0 = false := by
    unfold leafB; rw [if_neg (by decide)]
    refine decide_eq_false ?_
    show ¬ (UInt32.ofBitVec (s.toBitVec >>> 0) &&& 1 = 1)
    rw [BitVec.ushiftRight_zero]
    show ¬ (s &&& 1 = 1)
    rw [hs]; decide
  rw [this]; rfl
theorem aw_all : ((((((decide ((parseV AW).e = 0) && decide (((parseV AW).out.length : Int) = 4)) && (onV (parseV AW).out AS).isSome) && evalV (parseV AW).out AS [⟨true, false, 4⟩]) && (!false)) && true) && decide (((formatV (parseV AW).out).length : Int) = 8)) = true := by
  rw [decide_eq_true aw_e, aw_is, aw_val, aw_fmt, aw_len]; rfl
def fewV (ts : List Test) (steps : List Bytes) (m : Nat) : Bool := ts.all (fun t => decide (t.Step.length ≤ 40)) && steps.all (fun s => decide (s.length ≤ 40)) && decide (ts.length ≤ 40) && decide (steps.length ≤ 8) && decide (m ≤ 10)
section
variable {ts : List Test} {steps : List Bytes} {m k : Nat}
theorem all_tests (h : ∀ i, i < k → (ts.getD i default).Step.length ≤ 40) (hk : k = ts.length) : ts.all (fun t => decide (t.Step.length ≤ 40)) = true := List.all_eq_true.2 fun t ht => by
  obtain ⟨i, hi, e⟩ := List.getElem_of_mem ht
  have := h i (by omega)
  rw [List.getD_eq_getElem?_getD, List.getElem?_eq_getElem hi] at this
  exact decide_eq_true (e ▸ this)
theorem all_steps (h : ∀ i, i < k → (steps.getD i []).length ≤ 40) (hk : k = steps.length) : steps.all (fun s => decide (s.length ≤ 40)) = true := List.all_eq_true.2 fun t ht => by
  obtain ⟨i, hi, e⟩ := List.getElem_of_mem ht
  have := h i (by omega)
  rw [List.getD_eq_getElem?_getD, List.getElem?_eq_getElem hi] at this
  exact decide_eq_true (e ▸ this)
theorem few_t (hk : k < ts.length) (h : ¬ (ts.getD k default).Step.length ≤ 40) : fewV ts steps m = false := by
  unfold fewV
  have : ts.all (fun t => decide (t.Step.length ≤ 40)) = false := by
    rw [List.all_eq_false]
    refine ⟨ts.getD k default, ?_, by simp only [decide_eq_true_eq]; exact h⟩
    rw [List.getD_eq_getElem?_getD, List.getElem?_eq_getElem hk]; exact List.getElem_mem hk
  rw [this]; rfl
theorem few_s (hk : k < steps.length) (h : ¬ (steps.getD k []).length ≤ 40) : fewV ts steps m = false := by
  unfold fewV
  have : steps.all (fun t => decide (t.length ≤ 40)) = false := by
    rw [List.all_eq_false]
    refine ⟨steps.getD k [], ?_, by simp only [decide_eq_true_eq]; exact h⟩
    rw [List.getD_eq_getElem?_getD, List.getElem?_eq_getElem hk]; exact List.getElem_mem hk
  rw [this, Bool.and_false]; rfl
theorem few_n {k2 : Nat} (h : ∀ i, i < k → (ts.getD i default).Step.length ≤ 40) (hk : k = ts.length) (h2 : ∀ i, i < k2 → (steps.getD i []).length ≤ 40) (hk2 : k2 = steps.length) : fewV ts steps m = (decide (ts.length ≤ 40) && decide (steps.length ≤ 8) && decide (m ≤ 10)) := by
  unfold fewV; rw [all_tests h hk, all_steps h2 hk2]; rfl
theorem few_i {k2 : Nat} (h : ∀ i, i < k → (ts.getD i default).Step.length ≤ 40) (hk : k = ts.length) (h2 : ∀ i, i < k2 → (steps.getD i []).length ≤ 40) (hk2 : k2 = steps.length) : (decide ((ts.length : Int) ≤ 40) && decide ((steps.length : Int) ≤ 8) && decide ((m : Int) ≤ 10)) = fewV ts steps m := by
  rw [few_n h hk h2 hk2]
  have e : ∀ a b : Nat, decide ((a : Int) ≤ (b : Int)) = decide (a ≤ b) := fun a b => decide_eq_decide.2 (by omega)
  exact congr (congrArg and (congr (congrArg and (e _ 40)) (e _ 8))) (e _ 10)
theorem few_yes (h : fewV ts steps m = true) : (∀ i, (ts.getD i default).Step.length ≤ 40) ∧ (∀ i, (steps.getD i []).length ≤ 40) ∧ ts.length ≤ 40 ∧ steps.length ≤ 8 ∧ m ≤ 10 := by
  unfold fewV at h
  simp only [Bool.and_eq_true, decide_eq_true_eq, List.all_eq_true] at h
  refine ⟨fun i => ?_, fun i => ?_, h.1.1.2, h.1.2, h.2⟩
  · by_cases hi : i < ts.length
    · rw [List.getD_eq_getElem?_getD, List.getElem?_eq_getElem hi]; exact h.1.1.1.1 _ (List.getElem_mem hi)
    · rw [List.getD_eq_getElem?_getD, List.getElem?_eq_none (by omega)]; exact Nat.zero_le _
  · by_cases hi : i < steps.length
    · rw [List.getD_eq_getElem?_getD, List.getElem?_eq_getElem hi]; exact h.1.1.1.2 _ (List.getElem_mem hi)
    · rw [List.getD_eq_getElem?_getD, List.getElem?_eq_none (by omega)]; exact Nat.zero_le _
end
def stepsV (ts : List Test) (k : Nat) : List Bytes := ((ts.take k).map (·.Step)).filter fun s => decide (s ≠ [])
section
variable {ts : List Test} {k : Nat}
theorem steps_t (hk : k < ts.length) (h : (ts.getD k default).Step ≠ []) : stepsV ts (k + 1) = stepsV ts k ++ [(ts.getD k default).Step] := by
  unfold stepsV; rw [R44.take_snoc (d := default) hk, List.map_append, List.filter_append]
  congr 1
  show [(ts.getD k default).Step].filter _ = _
  rw [List.filter_cons_of_pos (p := fun s => decide (s ≠ [])) (decide_eq_true h)]; rfl
theorem steps_f (hk : k < ts.length) (h : (ts.getD k default).Step = []) : stepsV ts (k + 1) = stepsV ts k := by
  unfold stepsV; rw [R44.take_snoc (d := default) hk, List.map_append, List.filter_append]
  show _ ++ [(ts.getD k default).Step].filter _ = _
  rw [h]; exact List.append_nil _
theorem refers_end (hk : k = ts.length) {out : List Bytes} (h : out = stepsV ts k) : cmp (srt out) = refersV ts := by
  rw [h, Ord.same]; unfold stepsV refersV; rw [List.take_of_length_le (by omega)]
end
end R40
end Go.Proofs.YtngjdmhpljmkpaaGreatDoor

namespace Go.Proofs
open Go.Shelf
open Go.RowKit Go.Lib Go.Sort
def Tryz.lays190_ren : Go.Shelf.Ren := ⟨fun | 190 => 40 | 125 => 64 | 258 => 63 | 128 => 87 | 129 => 88 | 302 => 78 | 303 => 79 | 304 => 80 | 305 => 81 | 306 => 82 | 307 => 83 | 308 => 84 | 309 => 85 | 310 => 86 | 333 => 95 | 329 => 96 | 330 => 97 | 334 => 98 | 335 => 99 | 336 => 100 | 344 => 113 | n => n, fun | 31 => 22 | 9 => 9 | 3 => 3 | 46 => 100 | 0 => 0 | 51 => 74 | 53 => 119 | 4 => 4 | 183 => 111 | 182 => 110 | 131 => 81 | 5 => 5 | 218 => 122 | 222 => 126 | 228 => 138 | 229 => 139 | n => n, fun | n => n⟩
theorem Tryz.lays190 : Go.Proofs.Lays.n190 Tryz.prog Tryz.lays190_ren := {
  mixed := by kernel_rfl
  f125 := Tryz.func64.trans (congrArg some (by kernel_rfl))
  f128 := Tryz.func87.trans (congrArg some (by kernel_rfl))
  f129 := Tryz.func88.trans (congrArg some (by kernel_rfl))
  f190 := Tryz.func40.trans (congrArg some (by kernel_rfl))
  f258 := Tryz.func63.trans (congrArg some (by kernel_rfl))
  f302 := Tryz.func78.trans (congrArg some (by kernel_rfl))
  f303 := Tryz.func79.trans (congrArg some (by kernel_rfl))
  f304 := Tryz.func80.trans (congrArg some (by kernel_rfl))
  f305 := Tryz.func81.trans (congrArg some (by kernel_rfl))
  f306 := Tryz.func82.trans (congrArg some (by kernel_rfl))
  f307 := Tryz.func83.trans (congrArg some (by kernel_rfl))
  f308 := Tryz.func84.trans (congrArg some (by kernel_rfl))
  f309 := Tryz.func85.trans (congrArg some (by kernel_rfl))
  f310 := Tryz.func86.trans (congrArg some (by kernel_rfl))
  f329 := Tryz.func96.trans (congrArg some (by kernel_rfl))
  f330 := Tryz.func97.trans (congrArg some (by kernel_rfl))
  f333 := Tryz.func95.trans (congrArg some (by kernel_rfl))
  f334 := Tryz.func98.trans (congrArg some (by kernel_rfl))
  f335 := Tryz.func99.trans (congrArg some (by kernel_rfl))
  f336 := Tryz.func100.trans (congrArg some (by kernel_rfl))
  f344 := Tryz.func113.trans (congrArg some (by kernel_rfl))
  t0 := Tryz.underlying0
  a0 := Tryz.isAgg0
  z0 := Tryz.sizeOf0
  v0 := Tryz.zeroValue0
  t3 := Tryz.underlying3
  a3 := Tryz.isAgg3
  z3 := Tryz.sizeOf3
  v3 := Tryz.zeroValue3
  t4 := Tryz.underlying4
  a4 := Tryz.isAgg4
  z4 := Tryz.sizeOf4
  v4 := Tryz.zeroValue4
  t5 := Tryz.underlying5
  a5 := Tryz.isAgg5
  z5 := Tryz.sizeOf5
  v5 := Tryz.zeroValue5
  t9 := Tryz.underlying9
  a9 := Tryz.isAgg9
  z9 := Tryz.sizeOf9
  v9 := Tryz.zeroValue9
  t31 := Tryz.underlying22
  a31 := Tryz.isAgg22
  z31 := Tryz.sizeOf22
  v31 := Tryz.zeroValue22
  t46 := Tryz.underlying100
  a46 := Tryz.isAgg100
  z46 := Tryz.sizeOf100
  v46 := Tryz.zeroValue100
  t51 := Tryz.underlying74
  a51 := Tryz.isAgg74
  z51 := Tryz.sizeOf74
  v51 := Tryz.zeroValue74
  t53 := Tryz.underlying119
  a53 := Tryz.isAgg119
  z53 := Tryz.sizeOf119
  v53 := Tryz.zeroValue119
  t131 := Tryz.underlying81
  a131 := Tryz.isAgg81
  z131 := Tryz.sizeOf81
  v131 := Tryz.zeroValue81
  t182 := Tryz.underlying110
  a182 := Tryz.isAgg110
  z182 := Tryz.sizeOf110
  v182 := Tryz.zeroValue110
  t183 := Tryz.underlying111
  a183 := Tryz.isAgg111
  z183 := Tryz.sizeOf111
  v183 := Tryz.zeroValue111
  t218 := Tryz.underlying122
  a218 := Tryz.isAgg122
  z218 := Tryz.sizeOf122
  v218 := Tryz.zeroValue122
  t222 := Tryz.underlying126
  a222 := Tryz.isAgg126
  z222 := Tryz.sizeOf126
  v222 := Tryz.zeroValue126
  t228 := Tryz.underlying138
  a228 := Tryz.isAgg138
  z228 := Tryz.sizeOf138
  v228 := Tryz.zeroValue138
  t229 := Tryz.underlying139
  a229 := Tryz.isAgg139
  z229 := Tryz.sizeOf139
  v229 := Tryz.zeroValue139 }
theorem Tryz.slices_Sort_string (blk off cap : Nat) (ss : List (List UInt8)) (w : World) (hH : Holds encStr w blk off ss.toArray) (hblk : blk < w.heap.size) (hsz : ss.length < 4611686018427387904) :
    Calls Tryz.prog 40 #[.slice (some ⟨blk, off, none⟩) ss.length cap] w fun e w' =>
      e = .returned (.tuple #[]) ∧ ∃ n os, w' = grow (putRow encStr (Sort.ahead w n) blk off (ss.mergeSort fun x y => decide (x ≤ y)).toArray) os := Any.slices_Sort_string Tryz.lays190 blk off cap ss w hH hblk hsz
def Tryz.lays194_ren : Go.Shelf.Ren := ⟨fun | 194 => 41 | n => n, fun | 31 => 22 | 9 => 9 | 3 => 3 | 4 => 4 | 0 => 0 | n => n, fun | n => n⟩
theorem Tryz.lays194 : Go.Proofs.Lays.n194 Tryz.prog Tryz.lays194_ren := {
  mixed := by kernel_rfl
  f194 := Tryz.func41.trans (congrArg some (by kernel_rfl))
  t0 := Tryz.underlying0
  a0 := Tryz.isAgg0
  z0 := Tryz.sizeOf0
  v0 := Tryz.zeroValue0
  t3 := Tryz.underlying3
  a3 := Tryz.isAgg3
  z3 := Tryz.sizeOf3
  v3 := Tryz.zeroValue3
  t4 := Tryz.underlying4
  a4 := Tryz.isAgg4
  z4 := Tryz.sizeOf4
  v4 := Tryz.zeroValue4
  t9 := Tryz.underlying9
  a9 := Tryz.isAgg9
  z9 := Tryz.sizeOf9
  v9 := Tryz.zeroValue9
  t31 := Tryz.underlying22
  a31 := Tryz.isAgg22
  z31 := Tryz.sizeOf22
  v31 := Tryz.zeroValue22 }
theorem Tryz.slices_Compact_string (blk off cap : Nat) (zs : List (List UInt8)) (w : World) (hH : Holds encStr w blk off zs.toArray) (hsz : zs.length ≤ 9223372036854775807) (hcap : zs.length ≤ cap) :
    Calls Tryz.prog 41 #[.slice (some ⟨blk, off, none⟩) zs.length cap] w fun e w' => e = .returned (.slice (some ⟨blk, off, none⟩) (Lib.compact zs).length cap) ∧ ∃ q, w' = putRow encStr (Sort.ahead w q) blk off (Lib.compact zs ++ List.replicate (zs.length - (Lib.compact zs).length) []).toArray := Any.slices_Compact_string Tryz.lays194 blk off cap zs w hH hsz hcap
theorem Tryz.slices_Compact_string_empty (a : Option Addr) (cap : Nat) (w : World) :
    Calls Tryz.prog 41 #[.slice a 0 cap] w fun e w' => e = .returned (.slice a 0 cap) ∧ w' = w := Any.slices_Compact_string_empty Tryz.lays194 a cap w
theorem Tryz.slices_Sort_string_none (p : Option Addr) (cap : Nat) (w : World) :
    Calls Tryz.prog 40 #[.slice p 0 cap] w fun e w' => e = .returned (.tuple #[]) ∧ w' = w := Any.slices_Sort_string_none Tryz.lays190 p cap w
end Go.Proofs

namespace Go.Proofs.YtngjdmhpljmkpaaGreatDoor
open Go.GV Go.RowKit Go.Sort
theorem sort_ok (xs : List Bytes) (xsA : Option Addr) (xsC xsN : Nat) (w : World) (hN : xsN = xs.length) (q0 : xs.length ≤ 1000000000) (hg : Give (Lown [Ent.row (.slice xsA xsN xsC) 9 1 xsN (xs.map vS)]) w [Ent.row (.slice xsA xsN xsC) 9 1 xsN (xs.map vS)]) :
    Calls Tryz.prog 40 #[Value.slice xsA xsN xsC] w (Gives (Lown [Ent.row (.slice xsA xsN xsC) 9 1 xsN (xs.map vS)]) w fun v L => v = Value.tuple #[] ∧ L = [Ent.row (.slice xsA xsN xsC) 9 1 xsN ((srt xs).map vS)]) := by
  subst hN
  have hat := give_one hg
  by_cases hx : xs = []
  · subst hx
    refine (Tryz.slices_Sort_string_none xsA xsC w).mono ?_
    rintro e w' ⟨rfl, rfl⟩
    refine ⟨_, _, rfl, ⟨rfl, rfl⟩, ?_⟩
    rw [show srt [] = [] by simp [srt]]
    exact st_same hg
  · obtain ⟨g, hA, cur, ho, _, _, _, _⟩ := row_some hat hx
    subst hA
    refine (Tryz.slices_Sort_string g 0 xsC xs w (row_holds hat hx) (Array.getElem?_eq_some_iff.1 ho).1 (by omega)).mono ?_
    rintro e w' ⟨rfl, k, os, hw⟩
    have hl := srt_length xs
    obtain ⟨h1, h2⟩ := row_put hat rfl hx hw hl xs.length (by rw [← hl]; exact Nat.le_refl _) (ys := srt xs) (by rw [← hl]; exact List.take_length)
    exact ⟨_, _, rfl, ⟨rfl, rfl⟩, st_one rfl rfl h1 h2⟩
theorem compact_ok (xs : List Bytes) (xsA : Option Addr) (xsC xsN : Nat) (w : World) (hN : xsN = xs.length) (q0 : xs.length ≤ 1000000000) (hg : Give (Lown [Ent.row (.slice xsA xsN xsC) 9 1 xsN (xs.map vS)]) w [Ent.row (.slice xsA xsN xsC) 9 1 xsN (xs.map vS)]) :
    Calls Tryz.prog 41 #[Value.slice xsA xsN xsC] w (Gives (Lown [Ent.row (.slice xsA xsN xsC) 9 1 xsN (xs.map vS)]) w fun v L => v = Value.slice xsA (cmp xs).length xsC ∧ L = [Ent.row (.slice xsA (cmp xs).length xsC) 9 1 (cmp xs).length ((cmp xs).map vS)]) := by
  subst hN
  have hat := give_one hg
  by_cases hx : xs = []
  · subst hx
    refine (Tryz.slices_Compact_string_empty xsA xsC w).mono ?_
    rintro e w' ⟨rfl, rfl⟩
    exact ⟨_, _, rfl, ⟨rfl, rfl⟩, st_same hg⟩
  · obtain ⟨g, hA, cur, ho, hcap, _, _, _⟩ := row_some hat hx
    subst hA
    refine (Tryz.slices_Compact_string g 0 xsC xs w (row_holds hat hx) (by omega) hcap).mono ?_
    rintro e w' ⟨rfl, q, hw⟩
    have hc := cmp_length xs
    have hl : (cmp xs ++ List.replicate (xs.length - (cmp xs).length) []).length = xs.length := by rw [List.length_append, List.length_replicate]; omega
    obtain ⟨h1, h2⟩ := row_put (k := q) (os := #[]) hat rfl hx (hw.trans (grow_empty _).symm) hl (cmp xs).length (by show (cmp xs).length ≤ (cmp xs ++ List.replicate (xs.length - (cmp xs).length) []).length; rw [hl]; exact hc) (ys := cmp xs) (List.take_left' rfl)
    exact ⟨_, _, rfl, ⟨rfl, rfl⟩, st_one rfl rfl h1 h2⟩
end Go.Proofs.YtngjdmhpljmkpaaGreatDoor

namespace Go.Proofs.YtngjdmhpljmkpaaGreatDoor
open Go.GV
set_option linter.unusedVariables false
set_option linter.unusedSimpArgs false
theorem Tf12_ok_ {p : Prop} (h : p := by first | (have hd := R40.format_no (ts := ts) (by assumption); first | (rw [hd]; done) | (rw [hd]; rfl)) | (have hd := R40.format_yes (ts := ts) (by assumption); first | (rw [hd]; done) | (rw [hd]; rfl)) | (have hd := R40.format_no (ts := ts) (by simp_all); first | (rw [hd]; done) | (rw [hd]; rfl))) : p := h
set_option maxRecDepth 20000 in
theorem f12_ok (ts : List Test) (tsA : Option Addr) (tsC : Nat) (w : World) (tsR : RO [] w tsA (ts.flatMap Test.enc)) (hT : Tab [] w) (q0 : ts.length ≤ 9223372036854775807) (q1 : ∀ i, (ts.getD i default).Step.length ≤ 1000000) : Calls Tryz.prog 12 #[vL tsA ts.length tsC] w (Gives [] w fun v L => ∃ A2 : Option Addr, ∃ c2 : Nat, v = vL A2 ((R40.formatV ts).length) c2 ∧ L = [Ent.row (.slice A2 (R40.formatV ts).length c2) 9 1 (R40.formatV ts).length ((R40.formatV ts).map vS)]) := by
 refine calls_J [] 14 Tryz.func12 rfl Tryz.ntmps12 [(0, _)] rfl rfl (Give.nil w) ?_
 refine q_ (g_ (s_ av_ (z_ (n_ (q_ (g_ (s_ mv_ (c0 (cl_ Ty.ca25) (fun w hS => ftree_nm ts tsA tsC w (rno tsR hS) (hT.on hS (fun _ h => by cases h)) hy_ hy_) (s_ mv_ (s_ (ex_ 0) (s_ (ex_ 1) (s_ av_ (s_ av_ ?_)))))))))))))
 refine z_ (n_ (q_ (q_ (g_ (s_ mv_ (s_ (x_not rfl) (z_ (n_ ?_))))))))
 refine if_ (fun h1 => ?_) (fun h1 => ?_)
 ·have h1w := h1
  have h1 : ((R40.treeV R40.stepV ts).isSome) = false := bnot_true h1
  refine q_ (g_ (s_ av_ (z_ (n_ (rt_ (nr_ ?_))))))
  refine JX_rets [_] _ Tryz.results12 (fun w h => ⟨rfl, trivial⟩) rfl [Ent.row (.slice none ([] : List Bytes).length 0) 9 1 ([] : List Bytes).length (([] : List Bytes).map vS)] (fun _ h => (h.nilrow 9 1).keep [true] rfl) ⟨none, 0, ?_, ?_⟩
  ·have e_x0 : (0 : Nat) = ((R40.formatV ts).length) := Tf12_ok_
   exact congrArg (fun (x0 : Nat) => vL none x0 0) e_x0
  ·have e_y0 : (([] : List Bytes) : List Bytes) = (R40.formatV ts) := by
    exact Tf12_ok_
   have e_all := (congrArg (fun (y0 : List Bytes) => [Ent.row (.slice none y0.length 0) 9 1 y0.length (y0.map vS)]) e_y0)
   exact e_all
 ·have h1w := h1
  have h1 : ((R40.treeV R40.stepV ts).isSome) = true := bnot_false h1
  have hgt := R40.tree_good (by assumption : (R40.treeV R40.stepV ts).isSome = true)
  refine J_weaken (E' := [(0, vL tsA ts.length tsC), (2, vL none 0 0), (6, vL tsA ts.length tsC), (7, Value.tuple #[nodeO (R40.treeV R40.stepV ts), vB ((R40.treeV R40.stepV ts).isSome)]), (5, Value.tuple #[nodeO (R40.treeV R40.stepV ts), vB ((R40.treeV R40.stepV ts).isSome)]), (8, nodeV ((R40.treeV R40.stepV ts).getD default)), (9, vB ((R40.treeV R40.stepV ts).isSome)), (3, nodeV ((R40.treeV R40.stepV ts).getD default)), (4, vB ((R40.treeV R40.stepV ts).isSome)), (10, vB ((R40.treeV R40.stepV ts).isSome)), (11, vB (!((R40.treeV R40.stepV ts).isSome)))]) (L' := []) ⟨rfl, rfl, rfl, rfl, rfl, (congrArg some (nodeO_some (by assumption))), rfl, (congrArg some (nodeO_some (by assumption))), rfl, rfl, rfl, trivial⟩ (fun _ h => h) ?_
  refine sk_ (n_ (q_ (g_ (s_ mv_ ?_))))
  refine c1 (cl_ Ty.ca27) (fun w hS => f27_ok _ 0 w (hT.on hS (fun _ h => by cases h)) (by exact hgt.1) (by exact hgt.2) (by first | omega | (split <;> omega))) ?_
  rintro _ _ ⟨e2, e3, rfl, rfl⟩
  refine s_ av_ (z_ (n_ (rt_ ?_)))
  refine JX_rets [_] _ Tryz.results12 (fun w h => ⟨rfl, trivial⟩) rfl _ (fun _ h => h) ⟨e2, e3, ?_, ?_⟩
  ·have e_x0 : ((R40.wordsV ((R40.treeV R40.stepV ts).getD default) 0).length : Nat) = ((R40.formatV ts).length) := Tf12_ok_
   exact congrArg (fun (x0 : Nat) => vL e2 x0 e3) e_x0
  ·have e_y0 : ((R40.wordsV ((R40.treeV R40.stepV ts).getD default) 0) : List Bytes) = (R40.formatV ts) := by
    exact Tf12_ok_
   have e_all := (congrArg (fun (y0 : List Bytes) => [Ent.row (.slice e2 y0.length e3) 9 1 y0.length (y0.map vS)]) e_y0)
   exact e_all
set_option maxRecDepth 20000 in
theorem f8_ok (ws : List Bytes) (wsA : Option Addr) (wsC : Nat) (w : World) (wsR : RO [] w wsA (ws.map vS)) (hT : Tab [] w) (q0 : ws.length ≤ 1000000) (q1 : ∀ k, (ws.getD k []).length ≤ 1000000) : Calls Tryz.prog 8 #[vL wsA ws.length wsC] w (Gives [] w fun v L => ∃ A2 : Option Addr, ∃ c2 : Nat, v = Value.tuple #[vL A2 ((R40.parseV ws).out.length) c2, vI ((R40.parseV ws).at_), vI ((R40.parseV ws).e)] ∧ L = [Ent.row (.slice A2 ((R40.parseV ws).out).length c2) 40 4 ((R40.parseV ws).out).length (((R40.parseV ws).out).flatMap Test.enc)]) := by
 refine calls_J [] 38 Tryz.func8 rfl Tryz.ntmps8 [(0, _)] rfl rfl (Give.nil w) ?_
 refine q_ (g_ (s_ av_ (s_ av_ (s_ av_ (z_ (n_ (q_ (q_ (g_ (s_ mv_ (s_ (lnS Tryz.underlying22) (s_ (x_eql_i rfl rfl) (z_ (n_ ?_))))))))))))))
 refine ifd (fun h1w h1 => ?_) (fun h1w h1 => ?_)
 ·refine q_ (g_ (s_ av_ (s_ av_ (s_ av_ (z_ (n_ (rt_ (nr_ ?_))))))))
  first
   | have hd := R40.parse_nil (ws := ws) (by omega)
   | have hd := R40.parse_bad (ws := ws) (by omega) (.inl (by assumption))
   | have hd := R40.parse_bad (ws := ws) (by omega) (.inr (by omega))
   | have hd := R40.parse_bad (ws := ws) (by omega) (Or.imp_right Int.ofNat_lt.1 (by assumption))
   | have hd := R40.parse_big (ws := ws) (by omega) (by assumption) (by omega) no_such_condition (by omega)
   | have hd := R40.parse_ok (ws := ws) (by omega) (by assumption) (by omega) no_such_condition (by omega)
  refine JX_rets [_, _, _] (Value.tuple #[_, _, _]) Tryz.results8 (fun w h => ⟨rfl, rfl, rfl, trivial⟩) rfl [Ent.row (.slice none ([] : List Test).length 0) 40 4 ([] : List Test).length (([] : List Test).flatMap Test.enc)] (fun _ h => (h.nilrow 40 4).keep [true] rfl) ⟨none, 0, ?_, ?_⟩
  ·have e_x0 : (0 : Nat) = ((R40.parseV ws).out.length) := by first | (rw [hd]; done) | (rw [hd]; rfl)
   have e_x1 : (0 : Int) = ((R40.parseV ws).at_) := by first | (rw [hd]; done) | (rw [hd]; rfl)
   have e_x2 : (0 : Int) = ((R40.parseV ws).e) := by first | (rw [hd]; done) | (rw [hd]; rfl)
   have e_all := (congr (congr (congrArg (fun (x0 : Nat) (x1 : Int) (x2 : Int) => Value.tuple #[vL none x0 0, vI x1, vI x2]) e_x0) e_x1) e_x2)
   exact e_all
  ·have e_y0 : (([] : List Test) : List Test) = (R40.parseV ws).out := by
    first | (rw [hd]; done) | (rw [hd]; rfl)
   have e_all := (congrArg (fun (y0 : List Test) => [Ent.row (.slice none y0.length 0) 40 4 y0.length (y0.flatMap Test.enc)]) e_y0)
   exact e_all
 ·refine sk_ (n_ (q_ (g_ (s_ mv_ (js_ (vG [vL wsA ws.length wsC, vI 0, vL none 0 0]) (x_build (by kernel_rfl)) (o_ (bxG fun b2 => ?_)))))))
  refine s_ av_ (z_ (n_ (q_ (q_ (g_ (s_ mv_ ?_))))))
  refine JO_call (Lown [Ent.blk b2 43 [vL wsA ws.length wsC, vI ((0 : Nat) : Int), vL none 0 0], Ent.row (.slice none 0 0) 40 4 0 (([] : List Test).flatMap Test.enc)]) [Ent.blk b2 43 [vL wsA ws.length wsC, vI ((0 : Nat) : Int), vL none 0 0], Ent.row (.slice none 0 0) 40 4 0 (([] : List Test).flatMap Test.enc)] [] rfl trivial (fun _ => x_call Ty.ca21 rfl) (fun _ h => ((h.nilrow 40 4).front 1 _ rfl).keep [true, true] rfl) lown_mem (fun w hS => f21_ok b2 ws wsA wsC 0 ([] : List Test) none 0 0 ws.length w (wsR.on hS lown_mem) (hT.on hS lown_mem) hy_ hy_ hy_ hy_ hy_ (by exact or_all _) (by omega) (hS.give lown_in)) ?_
  rintro _ _ ⟨y3, yA4, yC5, rfl, rfl, hf6, hf7, hf8, hf9, hf10⟩
  try simp only [List.length_cons, List.length_nil, Nat.zero_add, Nat.reduceAdd] at hf6
  try simp only [List.length_cons, List.length_nil, Nat.zero_add, Nat.reduceAdd] at hf7
  refine s_ (x_not rfl) (s_ mv_ ?_)
  refine or_ 7 (decide ((((R40.orN ws (ws.length + 1) 0).pos : Nat) : Int) < ((ws.length : Nat) : Int))) (fun g11 => ?_) ?_
  ·have g11r := g11
   have g11r : ((R40.orN ws (ws.length + 1) 0).ok) = true := bnot_false g11r
   refine sg_ g11 mv_ (sg_ g11 (x_nilCheck rfl) (sg_ g11 (fA 1 Ty.fi43_1) (rg_ g11 (ld_ 0 Ty.sc3) (sg_ g11 mv_ (sg_ g11 (lnS Tryz.underlying22) (sg_ g11 (x_lss_i rfl rfl) ?_))))))
   exact cr_
  refine z_ (n_ ?_)
  refine if_ (fun h12 => ?_) (fun h12 => ?_)
  ·have h12w := h12
   simp only [Bool.and_eq_true, Bool.or_eq_true, Bool.and_eq_false_iff, Bool.or_eq_false_iff, Bool.not_eq_true', Bool.not_eq_false', decide_eq_true_eq, decide_eq_false_iff_not] at h12
   refine q_ ?_
   refine drB [] 7 Ty.mixed ?_
   refine jp_ 0 rfl mv_ (jp_ 1 rfl (x_nilCheck rfl) (jp_ 2 rfl (fA 1 Ty.fi43_1) (jq_ 3 rfl (ld_ 0 Ty.sc3) (jp_ 4 rfl av_ (jp_ 5 rfl av_ (jp_ 6 rfl av_ ?_))))))
   refine JA_done (by kernel_rfl) gm_ ?_
   refine n_ (rt_ (nr_ ?_))
   first
    | have hd := R40.parse_nil (ws := ws) (by omega)
    | have hd := R40.parse_bad (ws := ws) (by omega) (.inl (by assumption))
    | have hd := R40.parse_bad (ws := ws) (by omega) (.inr (by omega))
    | have hd := R40.parse_bad (ws := ws) (by omega) (Or.imp_right Int.ofNat_lt.1 (by assumption))
    | have hd := R40.parse_big (ws := ws) (by omega) (by assumption) (by omega) hf6 (by omega)
    | have hd := R40.parse_ok (ws := ws) (by omega) (by assumption) (by omega) hf6 (by omega)
   refine JX_rets [_, _, _] (Value.tuple #[_, _, _]) Tryz.results8 (fun w h => ⟨rfl, rfl, rfl, trivial⟩) rfl [Ent.row (.slice none ([] : List Test).length 0) 40 4 ([] : List Test).length (([] : List Test).flatMap Test.enc)] (fun _ h => (h.nilrow 40 4).keep [true, false, false] rfl) ⟨none, 0, ?_, ?_⟩
   ·have e_x0 : (0 : Nat) = ((R40.parseV ws).out.length) := by first | (rw [hd]; done) | (rw [hd]; rfl)
    have e_x1 : ((((R40.orN ws (ws.length + 1) 0).pos : Nat) : Int) : Int) = ((R40.parseV ws).at_) := by first | (rw [hd]; done) | (rw [hd]; rfl)
    have e_x2 : (3 : Int) = ((R40.parseV ws).e) := by first | (rw [hd]; done) | (rw [hd]; rfl)
    have e_all := (congr (congr (congrArg (fun (x0 : Nat) (x1 : Int) (x2 : Int) => Value.tuple #[vL none x0 0, vI x1, vI x2]) e_x0) e_x1) e_x2)
    exact e_all
   ·have e_y0 : (([] : List Test) : List Test) = (R40.parseV ws).out := by
     first | (rw [hd]; done) | (rw [hd]; rfl)
    have e_all := (congrArg (fun (y0 : List Test) => [Ent.row (.slice none y0.length 0) 40 4 y0.length (y0.flatMap Test.enc)]) e_y0)
    exact e_all
  ·have h12w := h12
   have ⟨h12, h13⟩ := bor_false h12
   have h12 : ((R40.orN ws (ws.length + 1) 0).ok) = true := bnot_false h12
   have h13 := of_decide_eq_false h13
   refine sk_ (n_ (q_ (q_ (g_ (s_ mv_ (s_ (x_nilCheck rfl) (s_ (fA 2 Ty.fi43_2) (r_ (ld_ 0 Ty.sc23) (s_ (lnS Tryz.underlying23) (s_ (x_gtr_i rfl rfl) (z_ (xk_ [2, 3, 4, 5, 33] ?_))))))))))))
   refine n_ ?_
   refine ifd (fun h14w h14 => ?_) (fun h14w h14 => ?_)
   ·refine q_ (g_ (s_ av_ (s_ av_ (s_ av_ (z_ (n_ (rt_ (nr_ ?_))))))))
    first
     | have hd := R40.parse_nil (ws := ws) (by omega)
     | have hd := R40.parse_bad (ws := ws) (by omega) (.inl (by assumption))
     | have hd := R40.parse_bad (ws := ws) (by omega) (.inr (by omega))
     | have hd := R40.parse_bad (ws := ws) (by omega) (Or.imp_right Int.ofNat_lt.1 (by assumption))
     | have hd := R40.parse_big (ws := ws) (by omega) (by assumption) (by omega) hf6 (by omega)
     | have hd := R40.parse_ok (ws := ws) (by omega) (by assumption) (by omega) hf6 (by omega)
    refine JX_rets [_, _, _] (Value.tuple #[_, _, _]) Tryz.results8 (fun w h => ⟨rfl, rfl, rfl, trivial⟩) rfl [Ent.row (.slice none ([] : List Test).length 0) 40 4 ([] : List Test).length (([] : List Test).flatMap Test.enc)] (fun _ h => (h.nilrow 40 4).keep [true, false, false] rfl) ⟨none, 0, ?_, ?_⟩
    ·have e_x0 : (0 : Nat) = ((R40.parseV ws).out.length) := by first | (rw [hd]; done) | (rw [hd]; rfl)
     have e_x1 : (0 : Int) = ((R40.parseV ws).at_) := by first | (rw [hd]; done) | (rw [hd]; rfl)
     have e_x2 : (8 : Int) = ((R40.parseV ws).e) := by first | (rw [hd]; done) | (rw [hd]; rfl)
     have e_all := (congr (congr (congrArg (fun (x0 : Nat) (x1 : Int) (x2 : Int) => Value.tuple #[vL none x0 0, vI x1, vI x2]) e_x0) e_x1) e_x2)
     exact e_all
    ·have e_y0 : (([] : List Test) : List Test) = (R40.parseV ws).out := by
      first | (rw [hd]; done) | (rw [hd]; rfl)
     have e_all := (congrArg (fun (y0 : List Test) => [Ent.row (.slice none y0.length 0) 40 4 y0.length (y0.flatMap Test.enc)]) e_y0)
     exact e_all
   ·refine sk_ (n_ (q_ (g_ (s_ mv_ (s_ (x_nilCheck rfl) (s_ (fA 2 Ty.fi43_2) (r_ (ld_ 0 Ty.sc23) (s_ av_ (s_ av_ (s_ av_ (z_ (n_ (rt_ ?_)))))))))))))
    first
     | have hd := R40.parse_nil (ws := ws) (by omega)
     | have hd := R40.parse_bad (ws := ws) (by omega) (.inl (by assumption))
     | have hd := R40.parse_bad (ws := ws) (by omega) (.inr (by omega))
     | have hd := R40.parse_bad (ws := ws) (by omega) (Or.imp_right Int.ofNat_lt.1 (by assumption))
     | have hd := R40.parse_big (ws := ws) (by omega) (by assumption) (by omega) hf6 (by omega)
     | have hd := R40.parse_ok (ws := ws) (by omega) (by assumption) (by omega) hf6 (by omega)
    refine JX_rets [_, _, _] (Value.tuple #[_, _, _]) Tryz.results8 (fun w h => ⟨rfl, rfl, rfl, trivial⟩) rfl _ (fun _ h => h.keep [false, true] rfl) ⟨yA4, yC5, ?_, ?_⟩
    ·have e_x0 : (y3.length : Nat) = ((R40.parseV ws).out.length) := by first | (rw [hd]; done) | (rw [hd]; rfl)
     have e_x1 : (0 : Int) = ((R40.parseV ws).at_) := by first | (rw [hd]; done) | (rw [hd]; rfl)
     have e_x2 : (0 : Int) = ((R40.parseV ws).e) := by first | (rw [hd]; done) | (rw [hd]; rfl)
     have e_all := (congr (congr (congrArg (fun (x0 : Nat) (x1 : Int) (x2 : Int) => Value.tuple #[vL yA4 x0 yC5, vI x1, vI x2]) e_x0) e_x1) e_x2)
     exact e_all
    ·have e_y0 : (y3 : List Test) = (R40.parseV ws).out := by
      first | (rw [hd]; done) | (rw [hd]; rfl)
     have e_all := (congrArg (fun (y0 : List Test) => [Ent.row (.slice yA4 y0.length yC5) 40 4 y0.length (y0.flatMap Test.enc)]) e_y0)
     exact e_all
end Go.Proofs.YtngjdmhpljmkpaaGreatDoor

namespace Go.Proofs.YtngjdmhpljmkpaaGreatDoor
open Go.GV
set_option linter.unusedVariables false
set_option linter.unusedSimpArgs false
theorem c40k0_ {p : Prop} (h : p := by first | exact (R40.few_t (k := k) (by omega) (by omega)).symm | exact (R40.few_s (k := k2) (by omega) (by omega)).symm | exact R40.few_i i1_1 (by omega) i2_1 (by omega)) : p := h
theorem c40k2_ {p : Prop} (h : p := by first | (rw [i1_1]; exact (R40.steps_t (by omega) (by assumption)).symm) | (rw [i1_1]; exact (R40.steps_f (by omega) (Decidable.not_not.1 (by assumption))).symm)) : p := h
set_option maxRecDepth 20000 in
theorem f18_ok (ts : List Test) (tsA : Option Addr) (tsC : Nat) (w : World) (tsR : RO [] w tsA (ts.flatMap Test.enc)) (q0 : ts.length ≤ 1000000) : Calls Tryz.prog 18 #[vL tsA ts.length tsC] w (Gives [] w fun v L => ∃ A2 : Option Addr, ∃ c2 : Nat, v = vL A2 ((R40.refersV ts).length) c2 ∧ L = [Ent.row (.slice A2 (R40.refersV ts).length c2) 9 1 (R40.refersV ts).length ((R40.refersV ts).map vS)]) := by
 refine calls_J [] 25 Tryz.func18 rfl Tryz.ntmps18 [(0, _)] rfl rfl (Give.nil w) ?_
 refine q_ (g_ (s_ av_ (z_ (n_ (q_ (g_ (s_ av_ (z_ (n_ (q_ (q_ (g_ (s_ mv_ (s_ (lnS Tryz.underlying23) (s_ mv_ (z_ (n_ (k_ ?_))))))))))))))))))
 refine J_loop (X := Nat × (List Bytes) × (Option Addr) × Nat) (fun (⟨k, out, outA, outC⟩ : Nat × (List Bytes) × (Option Addr) × Nat) => (k ≤ ts.length) ∧ (out = R40.stepsV ts k) ∧ (out.length ≤ k)) (fun (⟨k, out, outA, outC⟩ : Nat × (List Bytes) × (Option Addr) × Nat) => [(2, vL none 0 0), (3, vL outA out.length outC), (6, vL tsA ts.length tsC), (7, vI ((ts.length : Nat) : Int)), (8, vI ((k : Nat) : Int))]) (fun (⟨k, out, outA, outC⟩ : Nat × (List Bytes) × (Option Addr) × Nat) => [Ent.row (.slice outA out.length outC) 9 1 out.length (out.map vS)]) (fun (⟨k, out, outA, outC⟩ : Nat × (List Bytes) × (Option Addr) × Nat) => ts.length - k) ((0, ([] : List Bytes), none, 0) : Nat × (List Bytes) × (Option Addr) × Nat) ?_ ⟨rfl, rfl, rfl, rfl, rfl, trivial⟩ (fun _ h => (h.nilrow 9 1).keep [true] rfl) ?_
 ·try dsimp only
  refine ⟨?_, ?_, ?_⟩
  ·first | rfl | omega | (simp_all; done) | (simp_all; omega)
  ·rfl
  ·exact Nat.le_refl _
 rintro ⟨k, out, outA, outC⟩ hI1
 obtain ⟨i1_0, i1_1, i1_2⟩ := hI1
 try dsimp only at i1_0
 try dsimp only at i1_1
 try dsimp only at i1_2
 try dsimp only
 refine q_ (g_ (s_ (x_lss_i rfl rfl) (z_ (n_ (q_ ?_)))))
 refine ifd (fun h1w h1 => ?_) (fun h1w h1 => ?_)
 ·refine sk_ (n_ (q_ (k_ (q_ (g_ (r_ (ixF Test.enc_len (cells_ro tsR) Tryz.underlying23 Ty.sz40) (r_ (ldFN Test.enc_len (cells_ro tsR) Ty.ag40 Ty.sz40) (o_ (al_ Ty.ze40 fun b2 => ?_)))))))))
  refine o_ (stG 0 Ty.sz40 ?_)
  refine z_ (n_ (q_ (g_ (s_ (fA 1 Ty.fi40_1) (r_ (ld_ 0 Ty.sc9) (js_ (vB (decide ((ts.getD k default).Step ≠ ([] : Bytes)))) (x_neq_s rfl rfl) (z_ (n_ ?_))))))))
  refine ifd (fun h3w h3 => ?_) (fun h3w h3 => ?_)
  ·have h3l := List.length_pos_iff.2 h3
   refine g_ (s_ mv_ (s_ (fA 1 Ty.fi40_1) (r_ (ld_ 0 Ty.sc9) (o_ (O_buildSlice (cs := [vS ((ts.getD k default).Step)]) Tryz.underlying22 Ty.sz9 Ty.ze9 (by decide) (by decide) (by kernel_rfl) fun b4 => ?_)))))
   refine o_ (O_append_m 2 vS out [(ts.getD k default).Step] Tryz.underlying22 Ty.sz9 Ty.by9 Ty.ze9 rfl rfl rfl rfl rfl (fun _ => rfl) (cells_blk 0 (off := 0) (m := 1) rfl rfl) lt_ lt_ fun A5 c6 => ?_)
   refine s_ av_ (z_ (kx_ (n_ (g_ (s_ (x_add_n (a := k) (b := 1) rfl rfl (by omega)) (s_ mv_ (z_ ?_)))))))
   refine JX_round ((k + 1, out ++ [(ts.getD k default).Step], A5, c6) : Nat × (List Bytes) × (Option Addr) × Nat) ?_ ?_ ⟨rfl, rfl, rfl, rfl, rfl, trivial⟩ (fun _ h => h.keep [false, false, true] rfl)
   ·try dsimp only
    refine ⟨?_, ?_, ?_⟩
    ·first | rfl | omega | (simp_all; done) | (simp_all; omega)
    ·exact c40k2_
    ·first | omega | (rw [List.length_append, List.length_singleton]; omega)
   ·try dsimp only
    first | omega | (simp; omega) | (simp_all; omega)
  ·refine sk_ (kx_ (n_ (g_ (s_ (x_add_n (a := k) (b := 1) rfl rfl (by omega)) (s_ mv_ (z_ ?_))))))
   refine JX_round ((k + 1, out, outA, outC) : Nat × (List Bytes) × (Option Addr) × Nat) ?_ ?_ ⟨rfl, rfl, rfl, rfl, rfl, trivial⟩ (fun _ h => h.keep [false, true] rfl)
   ·try dsimp only
    refine ⟨?_, ?_, ?_⟩
    ·first | rfl | omega | (simp_all; done) | (simp_all; omega)
    ·exact c40k2_
    ·first | omega | (rw [List.length_append, List.length_singleton]; omega)
   ·try dsimp only
    first | omega | (simp; omega) | (simp_all; omega)
 ·refine J_exit (ne_ (re_ (kh_ (n_ (q_ ?_)))))
  refine g_ (s_ mv_ ?_)
  refine JO_call (Lown [Ent.row (.slice outA out.length outC) 9 1 out.length (out.map vS)]) [Ent.row (.slice outA out.length outC) 9 1 out.length (out.map vS)] [] rfl trivial (fun _ => x_call Ty.ca40 rfl) (fun _ h => h) lown_mem (fun w hS => sort_ok out outA outC out.length w (by first | rfl | exact (srt_length _).symm) (by first | omega | (rw [srt_length]; omega)) (hS.give lown_in)) ?_
  rintro _ _ ⟨rfl, rfl⟩
  refine z_ (n_ (q_ (g_ (s_ mv_ ?_))))
  refine JO_call (Lown [Ent.row (.slice outA out.length outC) 9 1 out.length ((srt out).map vS)]) [Ent.row (.slice outA out.length outC) 9 1 out.length ((srt out).map vS)] [] rfl trivial (fun _ => x_call Ty.ca41 rfl) (fun _ h => h) lown_mem (fun w hS => compact_ok (srt out) outA outC out.length w (by first | rfl | exact (srt_length _).symm) (by first | omega | (rw [srt_length]; omega)) (hS.give lown_in)) ?_
  rintro _ _ ⟨rfl, rfl⟩
  refine s_ av_ (z_ (n_ (rt_ ?_)))
  refine JX_rets [_] _ Tryz.results18 (fun w h => ⟨rfl, trivial⟩) rfl _ (fun _ h => h) ⟨outA, outC, ?_, ?_⟩
  ·have e_x0 : ((cmp (srt out)).length : Nat) = ((R40.refersV ts).length) := by first | exact congrArg List.length (R40.refers_end (by omega) i1_1) | exact R40.refers_end (by omega) i1_1
   exact congrArg (fun (x0 : Nat) => vL outA x0 outC) e_x0
  ·have e_y0 : (cmp (srt out) : List Bytes) = (R40.refersV ts) := by
    first | exact congrArg List.length (R40.refers_end (by omega) i1_1) | exact R40.refers_end (by omega) i1_1
   have e_all := (congrArg (fun (y0 : List Bytes) => [Ent.row (.slice outA y0.length outC) 9 1 y0.length (y0.map vS)]) e_y0)
   exact e_all
set_option maxRecDepth 20000 in
theorem f7_ok (ts : List Test) (tsA : Option Addr) (tsC : Nat) (steps : List Bytes) (stepsA : Option Addr) (stepsC : Nat) (E : List StepEnd) (EA : Option Addr) (EC : Nat) (w : World) (tsR : RO [] w tsA (ts.flatMap Test.enc)) (stepsR : RO [] w stepsA (steps.map vS)) (ER : RO [] w EA (E.flatMap StepEnd.enc)) (q0 : ts.length ≤ 9223372036854775807) (q1 : steps.length ≤ 9223372036854775807) (q2 : E.length ≤ 9223372036854775807) : Calls Tryz.prog 7 #[vL tsA ts.length tsC, vL stepsA steps.length stepsC, vL EA E.length EC] w (Gives [] w fun v L => v = vB (R40.fewV ts steps E.length) ∧ L = []) := by
 refine calls_J [] 45 Tryz.func7 rfl Tryz.ntmps7 [(0, _), (1, _), (2, _)] rfl rfl (Give.nil w) ?_
 refine q_ (g_ (s_ av_ (z_ (n_ (q_ (q_ (g_ (s_ mv_ (s_ (lnS Tryz.underlying23) (s_ mv_ (z_ (n_ (k_ ?_)))))))))))))
 refine J_loop (X := Nat) (fun (k : Nat) => (k ≤ ts.length) ∧ (∀ i, i < k → (ts.getD i default).Step.length ≤ 40)) (fun (k : Nat) => [(0, vL tsA ts.length tsC), (1, vL stepsA steps.length stepsC), (2, vL EA E.length EC), (11, vL tsA ts.length tsC), (12, vI ((ts.length : Nat) : Int)), (13, vI ((k : Nat) : Int))]) (fun (k : Nat) => []) (fun (k : Nat) => ts.length - k) (0 : Nat) ?_ ⟨rfl, rfl, rfl, rfl, rfl, rfl, trivial⟩ (fun _ h => h) ?_
 ·try dsimp only
  refine ⟨?_, ?_⟩
  ·first | rfl | omega | (simp_all; done) | (simp_all; omega)
  ·intro i hi; omega
 intro k hI1
 obtain ⟨i1_0, i1_1⟩ := hI1
 try dsimp only at i1_0
 try dsimp only at i1_1
 try dsimp only
 refine q_ (g_ (s_ (x_lss_i rfl rfl) (z_ (n_ (q_ ?_)))))
 refine ifd (fun h1w h1 => ?_) (fun h1w h1 => ?_)
 ·refine sk_ (n_ (q_ (k_ (q_ (g_ (r_ (ixF Test.enc_len (cells_ro tsR) Tryz.underlying23 Ty.sz40) (r_ (ldFN Test.enc_len (cells_ro tsR) Ty.ag40 Ty.sz40) (o_ (al_ Ty.ze40 fun b2 => ?_)))))))))
  refine o_ (stG 0 Ty.sz40 ?_)
  refine z_ (n_ (q_ (g_ (s_ (fA 1 Ty.fi40_1) (r_ (ld_ 0 Ty.sc9) (s_ (x_len_s rfl Tryz.underlying9) (s_ (x_gtr_i rfl rfl) (z_ (n_ ?_)))))))))
  refine ifd (fun h3w h3 => ?_) (fun h3w h3 => ?_)
  ·refine q_ (g_ (s_ av_ (z_ (n_ (rt_ (kq_ (nr_ (rr_ (kq_ (nr_ ?_))))))))))
   exact p1 Tryz.results7 rfl ⟨(eB c40k0_), rfl⟩
  ·refine sk_ (kx_ (n_ (g_ (s_ (x_add_n (a := k) (b := 1) rfl rfl (by omega)) (s_ mv_ (z_ ?_))))))
   refine JX_round (k + 1 : Nat) ?_ ?_ ⟨rfl, rfl, rfl, rfl, rfl, rfl, trivial⟩ (fun _ h => h.keep [false] rfl)
   ·try dsimp only
    refine ⟨?_, ?_⟩
    ·first | rfl | omega | (simp_all; done) | (simp_all; omega)
    ·intro i hi
     by_cases hik : i = k
     ·subst hik; omega
     ·exact i1_1 i (by omega)
   ·try dsimp only
    first | omega | (simp; omega) | (simp_all; omega)
 ·refine J_exit (ne_ (re_ (kh_ (n_ (q_ ?_)))))
  refine q_ (g_ (s_ mv_ (s_ (lnS Tryz.underlying22) (s_ mv_ (z_ (n_ (k_ ?_)))))))
  refine J_loop (X := Nat) (fun (k2 : Nat) => (k2 ≤ steps.length) ∧ (∀ i, i < k2 → (steps.getD i []).length ≤ 40)) (fun (k2 : Nat) => [(0, vL tsA ts.length tsC), (1, vL stepsA steps.length stepsC), (2, vL EA E.length EC), (22, vL stepsA steps.length stepsC), (23, vI ((steps.length : Nat) : Int)), (24, vI ((k2 : Nat) : Int))]) (fun (k2 : Nat) => []) (fun (k2 : Nat) => steps.length - k2) (0 : Nat) ?_ ⟨rfl, rfl, rfl, rfl, rfl, rfl, trivial⟩ (fun _ h => h) ?_
  ·try dsimp only
   refine ⟨?_, ?_⟩
   ·first | rfl | omega | (simp_all; done) | (simp_all; omega)
   ·intro i hi; omega
  intro k2 hI2
  obtain ⟨i2_0, i2_1⟩ := hI2
  try dsimp only at i2_0
  try dsimp only at i2_1
  try dsimp only
  refine q_ (g_ (s_ (x_lss_i rfl rfl) (z_ (n_ (q_ ?_)))))
  refine ifd (fun h4w h4 => ?_) (fun h4w h4 => ?_)
  ·refine sk_ (n_ (q_ (k_ (q_ (g_ (r_ (ixM (cells_ro stepsR) Tryz.underlying22 Ty.sz9) (r_ (ldM vS [] (cells_ro stepsR) Ty.sc9) (s_ av_ (z_ (n_ (q_ (g_ (s_ mv_ (s_ (x_len_s rfl Tryz.underlying9) (s_ (x_gtr_i rfl rfl) (z_ (n_ ?_)))))))))))))))))
   refine ifd (fun h5w h5 => ?_) (fun h5w h5 => ?_)
   ·refine q_ (g_ (s_ av_ (z_ (n_ (rt_ (kq_ (nr_ (rr_ (kq_ (nr_ ?_))))))))))
    exact p1 Tryz.results7 rfl ⟨(eB c40k0_), rfl⟩
   ·refine sk_ (kx_ (n_ (g_ (s_ (x_add_n (a := k2) (b := 1) rfl rfl (by omega)) (s_ mv_ (z_ ?_))))))
    refine JX_round (k2 + 1 : Nat) ?_ ?_ ⟨rfl, rfl, rfl, rfl, rfl, rfl, trivial⟩ (fun _ h => h)
    ·try dsimp only
     refine ⟨?_, ?_⟩
     ·first | rfl | omega | (simp_all; done) | (simp_all; omega)
     ·intro i hi
      by_cases hik : i = k2
      ·subst hik; omega
      ·exact i2_1 i (by omega)
    ·try dsimp only
     first | omega | (simp; omega) | (simp_all; omega)
  ·refine J_exit (ne_ (re_ (kh_ (n_ (q_ ?_)))))
   refine g_ (s_ mv_ (s_ (lnS Tryz.underlying23) (s_ (x_leq_i rfl rfl) (s_ mv_ ?_))))
   refine and_ 3 (decide (((steps.length : Nat) : Int) ≤ 8)) (fun g6 => ?_) ?_
   ·have g6r := g6
    have g6r := of_decide_eq_true g6r
    refine sg_ g6 mv_ (sg_ g6 (lnS Tryz.underlying22) (sg_ g6 (x_leq_i rfl rfl) ?_))
    exact cr_
   refine s_ mv_ ?_
   refine and_ 3 (decide (((E.length : Nat) : Int) ≤ 10)) (fun g7 => ?_) ?_
   ·have g7r := g7
    have ⟨g7r, h8⟩ := band_true g7r
    have g7r := of_decide_eq_true g7r
    have h8 := of_decide_eq_true h8
    refine sg_ g7 mv_ (sg_ g7 (lnS Tryz.underlying33) (sg_ g7 (x_leq_i rfl rfl) ?_))
    exact cr_
   refine s_ av_ (z_ (n_ (rt_ ?_)))
   exact p1 Tryz.results7 rfl ⟨(eB c40k0_), rfl⟩
end Go.Proofs.YtngjdmhpljmkpaaGreatDoor

namespace Go.Proofs.YtngjdmhpljmkpaaGreatDoor
open Go.GV
set_option linter.unusedVariables false
set_option linter.unusedSimpArgs false
set_option maxRecDepth 20000 in
theorem f6_ok (w : World) (hT : Tab [] w) : Calls Tryz.prog 6 #[] w (Gives [] w fun v L => v = vB true ∧ L = []) := by
 refine calls_J [] 54 Tryz.func6 rfl Tryz.ntmps6 [] rfl rfl (Give.nil w) ?_
 refine q_ (g_ (s_ av_ (z_ (n_ (q_ (g_ (o_ (O_buildSlice (cs := [vS [83, 49], vS [114, 99], vS [60, 61], vS [52], vS [97, 110, 100], vS [110, 111, 116], vS [83, 50], vS [102, 97, 105, 108, 101, 100]]) Tryz.underlying22 Ty.sz9 Ty.ze9 (by decide) (by decide) (by kernel_rfl) fun b1 => ?_))))))))
 refine c1 (cl_ Ty.ca8) (fun w hS => f8_ok [[83, 49], [114, 99], [60, 61], [52], [97, 110, 100], [110, 111, 116], [83, 50], [102, 97, 105, 108, 101, 100]] _ 8 w (RO.of_blk hS 0 (off := 0) (m := 8) rfl rfl) (hT.on hS (fun _ h => by cases h)) hy_ (by exact R40.lit_all (by decide))) ?_
 rintro _ _ ⟨e2, e3, rfl, rfl⟩
 refine s_ mv_ (s_ (ex_ 0) (s_ (ex_ 1) (s_ (ex_ 2) (s_ av_ (s_ av_ (s_ av_ (z_ (n_ (q_ (g_ (o_ (O_buildSlice (cs := [vS [83, 49], vS [83, 50]]) Tryz.underlying22 Ty.sz9 Ty.ze9 (by decide) (by decide) (by kernel_rfl) fun b4 => ?_))))))))))))
 refine s_ av_ (z_ (n_ (q_ (g_ (s_ mv_ (s_ mv_ (js_ (vG [vB true, vB false, vI 8]) (x_build (by kernel_rfl)) (o_ (O_buildSlice (cs := [vB true, vB false, vI 8]) Tryz.underlying33 Ty.sz38 Ty.ze38 (by decide) (by decide) (by kernel_rfl) fun b5 => ?_)))))))))
 refine c0 (cl_ Ty.ca20) (fun w hS => f20_ok R40.AQ false _ e2 e3 [[83, 49], [83, 50]] _ 2 [(StepEnd.mk true false 8)] _ 1 w (RO.of_row hS 2 rfl) (RO.of_blk hS 1 (off := 0) (m := 2) rfl rfl) (RO.of_blk hS 0 (off := 0) (m := 3) rfl rfl) hy_ (by rw [R40.aw_len]; decide) hy_ (by exact R40.aw_is) (by rfl) (by exact R40.aw_step) (by exact R40.aw_end)) (s_ mv_ (s_ (ex_ 0) (s_ (ex_ 1) (s_ av_ (s_ av_ (z_ (xk_ [0, 1, 3, 4, 5, 6] ?_)))))))
 refine n_ (q_ (g_ (s_ mv_ (s_ (x_eql_i rfl rfl) (s_ mv_ ?_)))))
 refine and_ 3 (decide ((((R40.parseV [[83, 49], [114, 99], [60, 61], [52], [97, 110, 100], [110, 111, 116], [83, 50], [102, 97, 105, 108, 101, 100]]).out.length : Nat) : Int) = 4)) (fun g6 => ?_) ?_
 ·have g6r := g6
  have g6r := of_decide_eq_true g6r
  refine sg_ g6 mv_ (sg_ g6 (lnS Tryz.underlying23) (sg_ g6 (x_eql_i rfl rfl) ?_))
  exact cr_
 refine s_ mv_ ?_
 refine and_ 3 ((R40.onV ((R40.parseV [[83, 49], [114, 99], [60, 61], [52], [97, 110, 100], [110, 111, 116], [83, 50], [102, 97, 105, 108, 101, 100]]).out) [[83, 49], [83, 50]]).isSome) (fun g7 => ?_) ?_
 ·have g7r := g7
  have ⟨g7r, h8⟩ := band_true g7r
  have g7r := of_decide_eq_true g7r
  have h8 := of_decide_eq_true h8
  refine sg_ g7 mv_ (sg_ g7 mv_ (c0g g7 (cl_ Ty.ca14) (fun w hS => f14_ok _ e2 e3 [[83, 49], [83, 50]] _ 2 w (RO.of_row hS 2 rfl) (RO.of_blk hS 1 (off := 0) (m := 2) rfl rfl) hy_ (by rw [R40.aw_len]; decide)) ?_))
  exact cr_
 refine s_ mv_ ?_
 refine and_ 5 (R40.evalV ((R40.parseV [[83, 49], [114, 99], [60, 61], [52], [97, 110, 100], [110, 111, 116], [83, 50], [102, 97, 105, 108, 101, 100]]).out) [[83, 49], [83, 50]] [(StepEnd.mk true false 4)]) (fun g9 => ?_) ?_
 ·have g9r := g9
  have ⟨g9r, h10⟩ := band_true g9r
  have ⟨g9r, h11⟩ := band_true g9r
  have g9r := of_decide_eq_true g9r
  have h11 := of_decide_eq_true h11
  refine sg_ g9 mv_ (sg_ g9 mv_ (jg_ g9 (vG [vB true, vB false, vI 4]) (x_build (by kernel_rfl)) (og_ g9 (O_buildSlice (cs := [vB true, vB false, vI 4]) Tryz.underlying33 Ty.sz38 Ty.ze38 (by decide) (by decide) (by kernel_rfl) fun b12 => ?_))))
  refine c0g g9 (cl_ Ty.ca16) (fun w hS => f16_ok _ e2 e3 [[83, 49], [83, 50]] _ 2 [(StepEnd.mk true false 4)] _ 1 w (RO.of_row hS 3 rfl) (RO.of_blk hS 2 (off := 0) (m := 2) rfl rfl) (RO.of_blk hS 0 (off := 0) (m := 3) rfl rfl) hy_ (by rw [R40.aw_len]; decide) hy_) ?_
  exact cr_ (fun _ h => h.keep [false, true, true, true, true] rfl)
 refine s_ mv_ ?_
 refine and_ 2 (!false) (fun g13 => ?_) ?_
 ·have g13r := g13
  have ⟨g13r, h14⟩ := band_true g13r
  have ⟨g13r, h15⟩ := band_true g13r
  have ⟨g13r, h16⟩ := band_true g13r
  have g13r := of_decide_eq_true g13r
  have h16 := of_decide_eq_true h16
  refine sg_ g13 mv_ (sg_ g13 (x_not rfl) ?_)
  exact cr_
 refine s_ mv_ ?_
 refine and_ 1 (true) (fun g17 => ?_) ?_
 ·have g17r := g17
  have ⟨g17r, h18⟩ := band_true g17r
  have ⟨g17r, h19⟩ := band_true g17r
  have ⟨g17r, h20⟩ := band_true g17r
  have ⟨g17r, h21⟩ := band_true g17r
  have g17r := of_decide_eq_true g17r
  have h21 := of_decide_eq_true h21
  have h18 : (false) = false := bnot_true h18
  refine sg_ g17 mv_ ?_
  exact cr_
 refine s_ mv_ ?_
 refine and_ 4 (decide ((((R40.formatV ((R40.parseV [[83, 49], [114, 99], [60, 61], [52], [97, 110, 100], [110, 111, 116], [83, 50], [102, 97, 105, 108, 101, 100]]).out)).length : Nat) : Int) = 8)) (fun g22 => ?_) ?_
 ·have g22r := g22
  have ⟨g22r, h23⟩ := band_true g22r
  have ⟨g22r, h24⟩ := band_true g22r
  have ⟨g22r, h25⟩ := band_true g22r
  have ⟨g22r, h26⟩ := band_true g22r
  have ⟨g22r, h27⟩ := band_true g22r
  have g22r := of_decide_eq_true g22r
  have h27 := of_decide_eq_true h27
  have h24 : (false) = false := bnot_true h24
  refine sg_ g22 mv_ ?_
  refine c1g g22 (cl_ Ty.ca12) (fun w hS => f12_ok _ e2 e3 w (RO.of_row hS 2 rfl) (hT.on hS (fun _ h => by cases h)) (by rw [R40.aw_len]; decide) (by exact R40.aw_ops)) ?_
  rintro _ _ ⟨e28, e29, rfl, rfl⟩
  refine sg_ g22 (lnS Tryz.underlying22) (sg_ g22 (x_eql_i rfl rfl) ?_)
  exact cr_ (fun _ h => h.keep [false, true, true, true, true] rfl)
 refine s_ av_ (z_ (n_ (rt_ ?_)))
 exact p1 Tryz.results6 rfl ⟨(eB (R40.aw_all)), rfl⟩
end Go.Proofs.YtngjdmhpljmkpaaGreatDoor

namespace Go.Proofs.YtngjdmhpljmkpaaGreatDoor
open Go.GV
namespace R44
def SplJ (b : UInt8) (s : Bytes) (k : Nat) (out : List Bytes) : Prop := ∃ pre cur, out = pre ++ [cur] ∧ splitC b s = pre ++ splitGo b cur (s.drop k)
section
variable {b : UInt8} {s : Bytes} {k : Nat} {out : List Bytes}
theorem SplJ.start : SplJ b s 0 [[]] := ⟨[], [], rfl, rfl⟩
theorem SplJ.ne (h : SplJ b s k out) : 0 < out.length := by obtain ⟨pre, cur, rfl, _⟩ := h; simp
theorem SplJ.cut (h : SplJ b s k out) (hk : k < s.length) (hb : s.getD k 0 = b) : SplJ b s (k + 1) (out ++ [[]]) := by
  obtain ⟨pre, cur, rfl, h2⟩ := h
  refine ⟨pre ++ [cur], [], rfl, ?_⟩
  rw [h2, drop_cons (d := 0) hk, splitGo, if_pos hb]; simp
theorem SplJ.add (h : SplJ b s k out) (hk : k < s.length) (hb : ¬ s.getD k 0 = b) : SplJ b s (k + 1) (out.set (out.length - 1) (out.getD (out.length - 1) [] ++ sub s k (k + 1))) := by
  obtain ⟨pre, cur, rfl, h2⟩ := h
  refine ⟨pre, cur ++ [s.getD k 0], ?_, ?_⟩
  · rw [List.length_append, List.length_singleton, Nat.add_sub_cancel, List.set_append_right _ _ (Nat.le_refl _), Nat.sub_self, List.getD_eq_getElem?_getD, List.getElem?_append_right (Nat.le_refl _), Nat.sub_self, sub_snoc (Nat.le_refl k) hk, sub_none]; rfl
  · rw [h2, drop_cons (d := 0) hk, splitGo, if_neg hb]
theorem SplJ.done (h : SplJ b s k out) (hk : s.length ≤ k) : out = splitC b s := by
  obtain ⟨pre, cur, rfl, h2⟩ := h
  rw [h2, List.drop_of_length_le hk]; rfl
theorem SplJ.short (h : SplJ b s k out) (i : Nat) : (out.getD i []).length ≤ s.length := by
  obtain ⟨pre, cur, rfl, h2⟩ := h
  have key : ∀ x ∈ pre ++ [cur], x.length ≤ s.length := by
    intro x hx
    rcases List.mem_append.1 hx with hx | hx
    · have := splitGo_len b s [] x (by show x ∈ splitC b s; rw [h2]; exact List.mem_append_left _ hx)
      simpa using this
    · rw [List.mem_singleton.1 hx]
      have h3 : (splitGo b cur (s.drop k)).getD 0 [] ∈ splitC b s := by
        rw [h2]
        exact List.mem_append_right _ (getD_mem (List.length_pos_iff.2 (splitGo_ne b _ _)))
      have h4 := splitGo_len b s [] _ h3
      have h5 : cur.length ≤ ((splitGo b cur (s.drop k)).getD 0 []).length := by
        rw [splitGo_pre]
        cases hs : splitGo b [] (s.drop k) with
        | nil => exact absurd hs (splitGo_ne b _ _)
        | cons y r => simp
      rw [List.length_nil, Nat.zero_add] at h4; omega
  by_cases hi : i < (pre ++ [cur]).length
  · exact key _ (getD_mem hi)
  · rw [List.getD_eq_getElem?_getD, List.getElem?_eq_none (by omega)]; exact Nat.zero_le _
theorem SplJ.few (h : SplJ b s k out) : out.length ≤ s.length + 1 := by
  obtain ⟨pre, cur, rfl, h2⟩ := h
  have := splitC_count b s
  rw [h2, List.length_append] at this
  have := List.length_pos_iff.2 (splitGo_ne b (s.drop k) cur)
  rw [List.length_append, List.length_singleton]; omega
end
theorem texts_end {a b : List Bytes} (hl : a.length = b.length) (h : ∀ i, i < a.length → a.getD i [] = b.getD i []) : true = decide (a = b) := by
  refine (decide_eq_true ?_).symm
  apply List.ext_getElem hl
  intro i h1 h2
  have := h i h1
  rwa [List.getD_eq_getElem?_getD, List.getD_eq_getElem?_getD, List.getElem?_eq_getElem h1, List.getElem?_eq_getElem h2] at this
theorem texts_bad {a b : List Bytes} {i : Nat} (h : a.getD i [] ≠ b.getD i []) : false = decide (a = b) := by
  refine (decide_eq_false fun e => ?_).symm
  rw [e] at h; exact h rfl
theorem texts_len {a b : List Bytes} (h : a.length ≠ b.length) : false = decide (a = b) := by
  refine (decide_eq_false fun e => ?_).symm
  rw [e] at h; exact h rfl
end R44
end Go.Proofs.YtngjdmhpljmkpaaGreatDoor

namespace Go.Proofs.YtngjdmhpljmkpaaGreatDoor
open Go.GV
namespace R40
open R44
section
variable {s : Bytes} {k : Nat}
end
end R40
end Go.Proofs.YtngjdmhpljmkpaaGreatDoor
