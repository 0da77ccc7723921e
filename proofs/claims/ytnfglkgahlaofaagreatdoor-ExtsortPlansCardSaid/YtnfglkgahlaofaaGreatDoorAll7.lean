/- Wd44, Nm44, Ad44b, Tc44, C44p, Ad44c in one text. -/
import Derived.Lib.FieldsP
import Derived.Lib.TrimUEq
import Derived.Lib.SplitLaws
import Derived.Lib.IndexBytes
import Derived.Lib.ItoaNum
import Derived.Lib.AtoiAllCases
import Derived.Test.YtnfglkgahlaofaaGreatDoorAll4
import Derived.Test.YtnfglkgahlaofaaGreatDoorAll3
import Derived.Test.YtnfglkgahlaofaaGreatDoorAll6
import Derived.Lib.AppendIntMem
import Derived.Lib.SmallJoins
import Derived.Test.YtnfglkgahlaofaaGreatDoorRows
import Derived.ProofKit
import Derived.LaidMore
import Derived.Stop.Joined
import Derived.Lib.LaidTab
import Derived.Shelf.Vars
import Derived.Handed
import Derived.Lay
import Derived.Test.YtnfglkgahlaofaaGreatDoorAll5
namespace Go.Proofs.YtnfglkgahlaofaaGreatDoor
namespace R44
open Go.Lib
abbrev Bs := List UInt8
def wordsGo : Bs → Bs → List Bs
  | cur, [] => if cur = [] then [] else [cur]
  | cur, c :: r => if c = 32 then (if cur = [] then wordsGo [] r else cur :: wordsGo [] r) else wordsGo (cur ++ [c]) r
def words (s : Bs) : List Bs := wordsGo [] s
theorem wordsGo_run : ∀ (m cur rest : Bs), (∀ c ∈ m, c ≠ 32) → wordsGo cur (m ++ rest) = wordsGo (cur ++ m) rest
  | [], cur, rest, _ => by simp
  | c :: m, cur, rest, h => by
    rw [List.cons_append, wordsGo, if_neg (h c List.mem_cons_self), wordsGo_run m _ rest fun x hx => h x (List.mem_cons_of_mem _ hx)]
    simp
theorem decode_blank (s : ByteArray) (pos : Nat) (h : pos < s.data.toList.length) :
    (s.data.toList.getD pos 0 = 32 → Utf8.decode s pos = (32, 1)) ∧ (s.data.toList.getD pos 0 ≠ 32 → (Utf8.decode s pos).1 ≠ 32 ∧ 1 ≤ (Utf8.decode s pos).2 ∧ pos + (Utf8.decode s pos).2 ≤ s.data.toList.length ∧ ∀ k, k < (Utf8.decode s pos).2 → s.data.toList.getD (pos + k) 0 ≠ 32) := by
  rw [decode_N]
  generalize hL : s.data.toList = L at *
  have key : ∀ x : UInt8, x = 32 ↔ x.toNat = 32 := fun x => ⟨fun e => by rw [e]; rfl, fun e => UInt8.toNat_inj.1 e⟩
  constructor
  · intro h0
    rw [(key _).1 h0]; rfl
  · intro h0
    rw [ne_eq, key] at h0
    have h1 := UInt8.toNat_lt (L.getD pos 0)
    generalize hb0 : (L.getD pos 0).toNat = b0 at *
    generalize hb1 : (L.getD (pos + 1) 0).toNat = b1
    generalize hb2 : (L.getD (pos + 2) 0).toNat = b2
    generalize hb3 : (L.getD (pos + 3) 0).toNat = b3
    have fin : ∀ w r : Nat, r ≠ 32 → 1 ≤ w → w ≤ 4 → w ≤ L.length - pos → (2 ≤ w → b1 ≠ 32) → (3 ≤ w → b2 ≠ 32) → (4 ≤ w → b3 ≠ 32) → ((r, w) : Nat × Nat).1 ≠ 32 ∧ 1 ≤ ((r, w) : Nat × Nat).2 ∧ pos + ((r, w) : Nat × Nat).2 ≤ L.length ∧ ∀ k, k < ((r, w) : Nat × Nat).2 → L.getD (pos + k) 0 ≠ 32 := by
      intro w r hr hw hw4 hl h2 h3 h4
      refine ⟨hr, hw, by simp only; omega, fun k hk => ?_⟩
      simp only at hk
      rw [ne_eq, key]
      rcases k with _ | _ | _ | _ | k
      · rw [Nat.add_zero, hb0]; exact h0
      · rw [Nat.zero_add, hb1]; exact h2 (by omega)
      · rw [Nat.zero_add, hb2]; exact h3 (by omega)
      · rw [Nat.zero_add, hb3]; exact h4 (by omega)
      · omega
    unfold decodeN
    split
    · exact fin 1 b0 h0 (by omega) (by omega) (by omega) (by omega) (by omega) (by omega)
    · split
      · rename_i c1
        split
        · exact fin 2 _ (by omega) (by omega) (by omega) (by omega) (by omega) (by omega) (by omega)
        · exact fin 1 _ (by omega) (by omega) (by omega) (by omega) (by omega) (by omega) (by omega)
      · split
        · rename_i c1
          split
          · exact fin 3 _ (by omega) (by omega) (by omega) (by omega) (by omega) (by omega) (by omega)
          · exact fin 1 _ (by omega) (by omega) (by omega) (by omega) (by omega) (by omega) (by omega)
        · split
          · rename_i c1
            split
            · exact fin 4 _ (by omega) (by omega) (by omega) (by omega) (by omega) (by omega) (by omega)
            · exact fin 1 _ (by omega) (by omega) (by omega) (by omega) (by omega) (by omega) (by omega)
          · exact fin 1 _ (by omega) (by omega) (by omega) (by omega) (by omega) (by omega) (by omega)
def piece (L : Bs) (x : Nat × Nat) : Bs := (L.drop x.1).take (x.2 - x.1)
theorem extract_piece (s : ByteArray) (x : Nat × Nat) : (s.extract x.1 x.2).data.toList = piece s.data.toList x := by
  unfold piece
  rw [ByteArray.data_extract, Array.toList_extract]
theorem size_len (s : ByteArray) : s.size = s.data.toList.length := rfl
theorem drop_at {L : Bs} {k : Nat} (h : k < L.length) : L.drop k = L.getD k 0 :: L.drop (k + 1) := by
  rw [List.drop_eq_getElem_cons h, List.getD_eq_getElem?_getD, List.getElem?_eq_getElem h]; rfl
theorem run_of {L : Bs} {pos w : Nat} (h : pos + w ≤ L.length) (hn : ∀ k, k < w → L.getD (pos + k) 0 ≠ 32) : ∀ c ∈ (L.drop pos).take w, c ≠ 32 := fun c hc => by
  obtain ⟨i, hi, e⟩ := List.mem_iff_getElem.1 hc
  rw [List.length_take, List.length_drop] at hi
  have := hn i (by omega)
  rw [List.getD_eq_getElem?_getD, List.getElem?_eq_getElem (by omega)] at this
  rw [← e, List.getElem_take, List.getElem_drop]; exact this
theorem step_run {L : Bs} {pos w : Nat} (cur : Bs) (h : pos + w ≤ L.length) (hn : ∀ k, k < w → L.getD (pos + k) 0 ≠ 32) : wordsGo cur (L.drop pos) = wordsGo (cur ++ (L.drop pos).take w) (L.drop (pos + w)) := by
  conv => lhs; rw [← List.take_append_drop w (L.drop pos), List.drop_drop]
  exact wordsGo_run _ _ _ (run_of h hn)
theorem grow {L : Bs} {a pos w : Nat} (h : a ≤ pos) : (L.drop a).take (pos - a) ++ (L.drop pos).take w = (L.drop a).take (pos + w - a) := by
  have e : pos + w - a = (pos - a) + w := by omega
  rw [e, List.take_add, List.drop_drop, show a + (pos - a) = pos by omega]
theorem spans_words (s : ByteArray) : ∀ (f pos : Nat) (acc : List (Nat × Nat)), s.size - pos ≤ f →
    ((closeSpans s (spansFromP (fun n => n == 32) s f pos none acc)).map (piece s.data.toList) = acc.map (piece s.data.toList) ++ wordsGo [] (s.data.toList.drop pos)) ∧
    ∀ a, a < pos → pos ≤ s.size → (closeSpans s (spansFromP (fun n => n == 32) s f pos (some a) acc)).map (piece s.data.toList) = acc.map (piece s.data.toList) ++ wordsGo ((s.data.toList.drop a).take (pos - a)) (s.data.toList.drop pos) := by
  intro f
  have done : ∀ (pos : Nat) (acc : List (Nat × Nat)), s.size ≤ pos → ((closeSpans s (acc, none)).map (piece s.data.toList) = acc.map (piece s.data.toList) ++ wordsGo [] (s.data.toList.drop pos)) ∧
      ∀ a, a < pos → pos ≤ s.size → (closeSpans s (acc, some a)).map (piece s.data.toList) = acc.map (piece s.data.toList) ++ wordsGo ((s.data.toList.drop a).take (pos - a)) (s.data.toList.drop pos) := by
    intro pos acc hp
    rw [size_len] at hp
    rw [List.drop_of_length_le hp]
    refine ⟨by simp [closeSpans, wordsGo], fun a ha hps => ?_⟩
    have hps' : pos = s.size := by rw [size_len] at *; omega
    have hne : (s.data.toList.drop a).take (pos - a) ≠ [] := by
      intro e
      have := congrArg List.length e
      rw [List.length_take, List.length_drop, ← size_len] at this
      simp at this; omega
    rw [wordsGo, if_neg hne]
    simp [closeSpans, piece, hps']
  induction f with
  | zero =>
    intro pos acc h
    exact done pos acc (by omega)
  | succ f ih =>
    intro pos acc h
    unfold spansFromP
    by_cases hp : pos < s.size
    · simp only [if_pos hp]
      have hd := decode_blank s pos hp
      by_cases h32 : s.data.toList.getD pos 0 = 32
      · have e := hd.1 h32
        have hr : ((Utf8.decode s pos).1 == 32) = true := by rw [e]; rfl
        simp only [if_pos hr]
        rw [e]
        have hdrop := drop_at (L := s.data.toList) (k := pos) hp
        refine ⟨?_, fun a ha _ => ?_⟩
        · show (closeSpans s (spansFromP _ s f (pos + 1) none acc)).map _ = _
          rw [(ih (pos + 1) acc (by omega)).1, hdrop, wordsGo, if_pos h32, if_pos rfl]
        · show (closeSpans s (spansFromP _ s f (pos + 1) none (acc ++ [(a, pos)]))).map _ = _
          have hne : (s.data.toList.drop a).take (pos - a) ≠ [] := by
            intro e
            have := congrArg List.length e
            rw [List.length_take, List.length_drop, ← size_len] at this
            simp at this; omega
          rw [(ih (pos + 1) (acc ++ [(a, pos)]) (by omega)).1, hdrop, wordsGo, if_pos h32, if_neg hne, List.map_append, List.append_assoc]; rfl
      · obtain ⟨e1, e2, e3, e4⟩ := hd.2 h32
        have hr : ¬ ((Utf8.decode s pos).1 == 32) = true := by simpa using e1
        simp only [if_neg hr]
        have ih2 := (ih (pos + (Utf8.decode s pos).2) acc (by omega)).2
        refine ⟨?_, fun a ha _ => ?_⟩
        · show (closeSpans s (spansFromP _ s f (pos + (Utf8.decode s pos).2) (some pos) acc)).map _ = _
          rw [ih2 pos (by omega) e3, step_run [] e3 e4, List.nil_append, Nat.add_sub_cancel_left]
        · show (closeSpans s (spansFromP _ s f (pos + (Utf8.decode s pos).2) (some a) acc)).map _ = _
          rw [ih2 a (by omega) e3, step_run _ e3 e4, grow (by omega)]
    · simp only [if_neg hp]
      exact done pos acc (by omega)
theorem fields_words (s : ByteArray) : (goFieldsP (fun n => n == 32) s).map (·.data.toList) = words s.data.toList := by
  unfold goFieldsP spansOfP
  rw [List.map_map]
  have h := (spans_words s s.size 0 [] (by omega)).1
  rw [List.map_nil, List.nil_append, List.drop_zero] at h
  unfold words
  rw [← h]
  exact List.map_congr_left fun x _ => extract_piece s x
def splitGo (b : UInt8) : Bs → Bs → List Bs
  | cur, [] => [cur]
  | cur, c :: r => if c = b then cur :: splitGo b [] r else splitGo b (cur ++ [c]) r
def splitC (b : UInt8) (s : Bs) : List Bs := splitGo b [] s
theorem splitGo_pre (b : UInt8) : ∀ (s cur : Bs), splitGo b cur s = (match splitGo b [] s with | [] => [] | x :: r => (cur ++ x) :: r)
  | [], cur => by simp [splitGo]
  | c :: r, cur => by
    rw [splitGo, splitGo]
    split
    · simp
    · rw [splitGo_pre b r (cur ++ [c]), splitGo_pre b r ([] ++ [c])]
      cases splitGo b [] r <;> simp
theorem splitGo_ne (b : UInt8) : ∀ (s cur : Bs), splitGo b cur s ≠ []
  | [], cur => by simp [splitGo]
  | c :: r, cur => by
    rw [splitGo]; split
    · exact List.cons_ne_nil _ _
    · exact splitGo_ne b r _
theorem splitK_go (b : UInt8) : ∀ (s : Bs) (k : Nat), s.count b ≤ k → splitK [b] 0 k s = splitC b s
  | [], 0, _ => rfl
  | [], k + 1, _ => rfl
  | c :: r, k, hk => by
    have hi : index (c :: r) [b] = if c = b then 0 else if index r [b] == -1 then -1 else index r [b] + 1 := by
      rw [index]
      by_cases h : c = b
      · subst h; rw [if_pos rfl, if_pos (by simp [List.isPrefixOf])]
      · rw [if_neg h, if_neg (by simp [List.isPrefixOf]; exact fun e => h e.symm)]
    by_cases h : c = b
    · subst h
      rw [List.count_cons_self] at hk
      obtain ⟨k, rfl⟩ : ∃ j, k = j + 1 := ⟨k - 1, by omega⟩
      rw [splitK, hi, if_pos rfl]
      show [] :: splitK [c] 0 k r = _
      rw [splitK_go c r k (by omega)]
      unfold splitC
      rw [splitGo, if_pos rfl]
    · rw [List.count_cons_of_ne (by simpa using h)] at hk
      unfold splitC
      rw [splitGo, if_neg h, splitGo_pre]
      have ih := splitK_go b r k hk
      unfold splitC at ih
      rw [← ih]
      cases k with
      | zero => rfl
      | succ k =>
        rw [splitK, splitK, hi, if_neg h]
        by_cases hm : index r [b] = -1
        · simp [hm]
        · have h0 := index_ge r [b]
          have e1 : (index r [b] == -1) = false := by simpa using hm
          have e2 : (index r [b] + 1 == -1) = false := by simp; omega
          have e3 : (index r [b] + 1).toNat = (index r [b]).toNat + 1 := by omega
          rw [e1]
          simp only [Bool.false_eq_true, if_false, e2, e3]
          simp
theorem split_lib (s : ByteArray) (b : UInt8) : (splitB ⟨#[b]⟩ 0 (countB s ⟨#[b]⟩) s).map (·.data.toList) = splitC b s.data.toList := by
  rw [splitB_data]
  refine splitK_go b _ _ ?_
  have : countB s ⟨#[b]⟩ = count s.data.toList [b] := rfl
  rw [this, count_one]; exact Nat.le_refl _
end R44
end Go.Proofs.YtnfglkgahlaofaaGreatDoor

namespace Go.Proofs.YtnfglkgahlaofaaGreatDoor
namespace R44
open Go.Lib
def vN (s : List UInt8) : Nat := s.foldl (fun n c => 10 * n + (c.toNat - 48)) 0
def isD (c : UInt8) : Bool := decide (48 ≤ c.toNat) && decide (c.toNat ≤ 57)
def numV (s : List UInt8) : Option Nat := if (s.length ≤ 4 ∧ s.all isD = true) ∧ decDigits (vN s) = s then some (vN s) else none
theorem dig_nat {k : Nat} (h : k < 10) : (UInt8.ofNat (48 + k)).toNat = 48 + k := by simp; omega
theorem dec_small {n : Nat} (h : n < 10) : decDigits n = [UInt8.ofNat (48 + n)] := by rw [decDigits, dif_pos h]
theorem dec_big {n : Nat} (h : ¬ n < 10) : decDigits n = decDigits (n / 10) ++ [UInt8.ofNat (48 + n % 10)] := by rw [decDigits, dif_neg h]
theorem dec_val (n : Nat) : vN (decDigits n) = n := by
  induction n using Nat.strongRecOn with
  | _ n ih =>
    by_cases h : n < 10
    · rw [dec_small h]; unfold vN; simp only [List.foldl_cons, List.foldl_nil]; rw [dig_nat h]; omega
    · rw [dec_big h]
      have := ih (n / 10) (by omega)
      unfold vN at *
      rw [List.foldl_append, this]
      simp only [List.foldl_cons, List.foldl_nil]
      rw [dig_nat (by omega)]; omega
theorem dec_all (n : Nat) : (decDigits n).all isD = true := by
  induction n using Nat.strongRecOn with
  | _ n ih =>
    by_cases h : n < 10
    · rw [dec_small h]; simp [isD]; omega
    · rw [dec_big h, List.all_append, ih (n / 10) (by omega)]; simp [isD]; omega
theorem dec_ne (n : Nat) : decDigits n ≠ [] := by
  by_cases h : n < 10
  · rw [dec_small h]; exact List.cons_ne_nil _ _
  · rw [dec_big h]; simp
theorem dec_len_aux : ∀ (k n : Nat), n < 10 ^ (k + 1) → (decDigits n).length ≤ k + 1
  | 0, n, h => by rw [dec_small (by simpa using h)]; exact Nat.le_refl _
  | k + 1, n, h => by
    by_cases h2 : n < 10
    · rw [dec_small h2]; simp
    · rw [dec_big h2, List.length_append]
      have := dec_len_aux k (n / 10) (by rw [Nat.pow_succ] at h; omega)
      simp; omega
theorem dec_len4 {n : Nat} (h : n ≤ 9999) : (decDigits n).length ≤ 4 := dec_len_aux 3 n (by omega)
theorem dec_len19 {n : Nat} (h : n ≤ 9223372036854775807) : (decDigits n).length ≤ 19 := dec_len_aux 18 _ (by omega)
theorem vN_bound : ∀ (s : List UInt8) (a k : Nat), s.all isD = true → a < 10 ^ k → s.foldl (fun n c => 10 * n + (c.toNat - 48)) a < 10 ^ (k + s.length)
  | [], a, k, _, h => h
  | c :: r, a, k, hd, h => by
    rw [List.all_cons, Bool.and_eq_true] at hd
    have hc := hd.1
    unfold isD at hc
    simp only [Bool.and_eq_true, decide_eq_true_eq] at hc
    have := vN_bound r (10 * a + (c.toNat - 48)) (k + 1) hd.2 (by rw [Nat.pow_succ]; omega)
    rw [List.foldl_cons, List.length_cons]
    rwa [show k + 1 + r.length = k + (r.length + 1) by omega] at this
theorem numV_dec {n : Nat} (h : n ≤ 9999) : numV (decDigits n) = some n := by
  unfold numV
  rw [dec_val, if_pos ⟨⟨dec_len4 h, dec_all n⟩, rfl⟩]
theorem numV_some {s : List UInt8} {n : Nat} (h : numV s = some n) : n ≤ 9999 ∧ s = decDigits n := by
  unfold numV at h
  split at h
  · rename_i h1
    cases h
    have := vN_bound s 0 0 h1.1.2 (by decide)
    have h2 : 10 ^ (0 + s.length) ≤ 10 ^ 4 := Nat.pow_le_pow_right (by decide) (by omega)
    refine ⟨?_, h1.2.symm⟩
    unfold vN; omega
  · cases h
theorem parse_digits : ∀ (s : List UInt8) (a : Nat), s.all isD = true → a < 10000 → s.foldl (fun n c => 10 * n + (c.toNat - 48)) a < 100000 → parseUint10 a s = .ok (s.foldl (fun n c => 10 * n + (c.toNat - 48)) a)
  | [], a, _, _, _ => rfl
  | c :: r, a, hd, ha, hb => by
    rw [List.all_cons, Bool.and_eq_true] at hd
    have hc := hd.1
    unfold isD at hc
    simp only [Bool.and_eq_true, decide_eq_true_eq] at hc
    rw [List.foldl_cons] at hb ⊢
    have hge : ∀ (l : List UInt8) (x : Nat), x ≤ l.foldl (fun n c => 10 * n + (c.toNat - 48)) x := by
      intro l
      induction l with
      | nil => intro x; exact Nat.le_refl _
      | cons d l ih => intro x; rw [List.foldl_cons]; have := ih (10 * x + (d.toNat - 48)); omega
    have h1 := hge r (10 * a + (c.toNat - 48))
    rw [parseUint10, if_pos hc, if_neg (by omega), if_neg (by omega), Nat.mul_comm a 10]
    by_cases hs : 10 * a + (c.toNat - 48) < 10000
    · exact parse_digits r _ hd.2 hs hb
    · cases r with
      | nil => rfl
      | cons d r =>
        exfalso
        have h2 := hge r (10 * (10 * a + (c.toNat - 48)) + (d.toNat - 48))
        rw [List.foldl_cons] at hb
        omega
theorem atoi_dec {n : Nat} (h : n ≤ 9999) : atoiAll (decDigits n) = .ok (n : Int) := by
  have hp : parseMag (decDigits n) = .ok n := by
    unfold parseMag
    rw [if_neg (dec_ne n)]
    have hv := dec_val n
    unfold vN at hv
    rw [parse_digits _ 0 (dec_all n) (by decide) (by rw [hv]; omega), hv]
  cases hd : decDigits n with
  | nil => exact absurd hd (dec_ne n)
  | cons c r =>
    have ha := dec_all n
    rw [hd, List.all_cons, Bool.and_eq_true] at ha
    have hc := ha.1
    unfold isD at hc
    simp only [Bool.and_eq_true, decide_eq_true_eq] at hc
    rw [atoiAll_plain c r (by omega) (by omega), ← hd, hp]
    unfold signless
    simp only
    rw [if_neg (by omega)]
def AtoiJ (s : List UInt8) (n : Int) (er : Bool) : Prop := (er = true → atoiAll s = .ok n) ∧ (er = false → ∀ v, atoiAll s ≠ .ok v) ∧ -9223372036854775808 ≤ n ∧ n ≤ 9223372036854775807
def SmallJ (s : List UInt8) (n : Int) (ok : Bool) : Prop := (ok = true → numV s = some n.toNat ∧ 0 ≤ n ∧ n ≤ 9999) ∧ (ok = false → numV s = none)
theorem small_of {s : List UInt8} {n : Int} {er : Bool} (h : AtoiJ s n er) : SmallJ s n (((er && decide (0 ≤ n)) && decide (n ≤ 9999)) && decide (decDigits n.toNat = s)) := by
  refine ⟨fun hk => ?_, fun hk => ?_⟩
  · simp only [Bool.and_eq_true, decide_eq_true_eq] at hk
    obtain ⟨⟨⟨_, h0⟩, h9⟩, he⟩ := hk
    rw [← he, numV_dec (by omega)]
    exact ⟨rfl, h0, h9⟩
  · cases hn : numV s with
    | none => rfl
    | some m =>
      exfalso
      obtain ⟨hm, hs⟩ := numV_some hn
      have ha := atoi_dec hm
      rw [← hs] at ha
      cases her : er with
      | false => exact h.2.1 her _ ha
      | true =>
        have := h.1 her
        rw [ha] at this
        injection this with this
        subst this
        rw [her] at hk
        have e : decDigits (((m : Nat) : Int)).toNat = s := by rw [Int.toNat_natCast]; exact hs.symm
        have e1 : decide (0 ≤ ((m : Nat) : Int)) = true := decide_eq_true (by omega)
        have e2 : decide (((m : Nat) : Int) ≤ 9999) = true := decide_eq_true (by omega)
        have e3 : decide (decDigits (((m : Nat) : Int)).toNat = s) = true := decide_eq_true e
        rw [e1, e2, e3] at hk
        cases hk
theorem atoi_bd {s : List UInt8} {n : Int} {er : Bool} (h : AtoiJ s n er) : -9223372036854775808 ≤ n ∧ n ≤ 9223372036854775807 := h.2.2
def restD (m : Nat) : List UInt8 := if m = 0 then [] else decDigits m
def DigJ (n m : Nat) (s : List UInt8) : Prop := (s = [] ∧ m = n) ∨ (s ≠ [] ∧ decDigits n = restD m ++ s)
theorem DigJ.start (n : Nat) : DigJ n n [] := .inl ⟨rfl, rfl⟩
theorem dig_split {m : Nat} : decDigits m = restD (m / 10) ++ [UInt8.ofNat (48 + m % 10)] := by
  by_cases h : m < 10
  · rw [dec_small h]; unfold restD; rw [if_pos (by omega)]; simp; congr 2; omega
  · rw [dec_big h]; unfold restD; rw [if_neg (by omega)]
theorem DigJ.step {n m : Nat} {s : List UInt8} (h : DigJ n m s) (hc : 0 < m ∨ s = []) : DigJ n (m / 10) ([UInt8.ofNat (48 + m % 10)] ++ s) := by
  refine .inr ⟨by simp, ?_⟩
  rw [← List.append_assoc, ← dig_split]
  rcases h with ⟨h1, h2⟩ | ⟨h1, h2⟩
  · rw [h1, h2, List.append_nil]
  · rw [h2]
    rcases hc with hc | hc
    · unfold restD; rw [if_neg (by omega)]
    · exact absurd hc h1
theorem DigJ.done {n m : Nat} {s : List UInt8} (h : DigJ n m s) (h0 : m = 0) (hs : s ≠ []) : s = decDigits n := by
  rcases h with ⟨h1, _⟩ | ⟨_, h2⟩
  · exact absurd h1 hs
  · rw [h2, h0]; rfl
end R44
end Go.Proofs.YtnfglkgahlaofaaGreatDoor

namespace Go.Proofs.YtnfglkgahlaofaaGreatDoor
open Go.GV Go.RowKit Go.Op
def TabP (S : List Nat) (w : World) : Prop := 1 ∉ S ∧ 1 < w.heap.size ∧ ∃ t f, w.heap[1]? = some (.cells (Lib.pow10Tab.map fun z => Value.int .u64 z).toArray t f)
theorem TabP.on {S Sc : List Nat} {w0 w : World} {Lc Lr : List Ent} (h : TabP S w0) (hS : St S w0 w (Lc ++ Lr)) (hSc : ∀ b ∈ Sc, ∃ e ∈ Lc, e.own = some b) : TabP Sc w := by
  obtain ⟨h1, h2, t, f, h3⟩ := h
  refine ⟨fun hc => ?_, Nat.lt_of_lt_of_le h2 hS.fr.size, t, f, (hS.fr.block _ h2 h1).trans h3⟩
  obtain ⟨e, he, ho⟩ := hSc _ hc
  rcases hS.own e (List.mem_append_left _ he) _ ho with h4 | h4
  · exact h1 h4
  · omega
def IsIfc (v : Value) : Prop := v = .nilIface ∨ ∃ te pe, v = .iface te pe
structure Tab (S : List Nat) (w : World) : Prop where
  pow : TabP S w
  mx : ∃ m, RO S w (some ⟨0, 0, none⟩) [vI m]
  es : ∃ v, IsIfc v ∧ RO S w (some ⟨2, 0, none⟩) [v]
  er : ∃ v, IsIfc v ∧ RO S w (some ⟨3, 0, none⟩) [v]
theorem Tab.on {S Sc : List Nat} {w0 w : World} {Lc Lr : List Ent} (h : Tab S w0) (hS : St S w0 w (Lc ++ Lr)) (hSc : ∀ b ∈ Sc, ∃ e ∈ Lc, e.own = some b) : Tab Sc w :=
  ⟨h.pow.on hS hSc, h.mx.imp fun _ k => k.on hS hSc, h.es.imp fun _ k => ⟨k.1, k.2.on hS hSc⟩, h.er.imp fun _ k => ⟨k.1, k.2.on hS hSc⟩⟩
theorem Tab.again {S : List Nat} {w0 w : World} {L : List Ent} (h : Tab S w0) (hS : St S w0 w L) : Tab (Lown L) w :=
  h.on (Lc := L) (Lr := []) (by rw [List.append_nil]; exact hS) lown_mem
theorem cell_of {S : List Nat} {w : World} {b : Nat} {v : Value} (h : RO S w (some ⟨b, 0, none⟩) [v]) : w.cell? ⟨b, 0, none⟩ = some v := h.cell (Fr.refl S w) (j := 0) rfl
theorem st_new {w w' : World} {A n c : Nat} {e : TypeId} {sz : Nat} {cs : List Value} (hb : Below w.heap.size w w') (hA : w.heap.size ≤ A) (h : (Ent.row (.slice (some ⟨A, 0, none⟩) n c) e sz n cs).at w') : St [] w w' [Ent.row (.slice (some ⟨A, 0, none⟩) n c) e sz n cs] :=
  ⟨Fr.of_below hb, fun x hx => by rw [List.mem_singleton.1 hx]; exact h, List.pairwise_singleton _ _, fun x hx b hbb => by rw [List.mem_singleton.1 hx] at hbb; cases hbb; exact .inr hA⟩
section
variable {P : Program} {E : Env} {w : World} {x y : Operand} {dst : Option Nat} {t t' ty : TypeId} {pos : String} {af : Array Edge} {g : Option (Nat × Bool)}
abbrev vR (n : Int) : Value := .int .i32 n
theorem x_eql_i32 {a b : Int} (hx : ev E x = vR a) (hy : ev E y = vR b) : (execOp (ev E) ⟨dst, .binOp .eql t x y t', ty, pos, af, g⟩).run P w = .ok (.value (vB (decide (a = b)))) w := by
  have h : decide (a = b) = (a == b) := by by_cases e : a = b <;> simp [e]
  rw [h]; simp only [execOp, hx, hy]; rfl
def errV (ok : Bool) (N : Nat) : Value := match ok with
  | true => .nilIface
  | false => .iface 162 (.pointer (some ⟨N, 0, none⟩))
theorem run_eq_nn {m : Array (String × TypeId)} (ht : P.underlying t = some (.interface m)) : (Op.equal t .nilIface .nilIface).run P w = .ok true w := by
  show Sem.run P (Op.equalIn Op.maxDepth t .nilIface .nilIface) w = _
  have hd : Op.maxDepth = (Op.maxDepth - 1) + 1 := by decide
  rw [hd]
  unfold Op.equalIn
  rw [Sem.run_bind, run_underlying ht]; rfl
theorem run_eq_in {m : Array (String × TypeId)} {a : TypeId} {v : Value} (ht : P.underlying t = some (.interface m)) : (Op.equal t (.iface a v) .nilIface).run P w = .ok false w := by
  show Sem.run P (Op.equalIn Op.maxDepth t (.iface a v) .nilIface) w = _
  have hd : Op.maxDepth = (Op.maxDepth - 1) + 1 := by decide
  rw [hd]
  unfold Op.equalIn
  rw [Sem.run_bind, run_underlying ht]; rfl
theorem x_eql_err {m : Array (String × TypeId)} {b : Bool} {N : Nat} (hx : ev E x = errV b N) (ht : P.underlying t = some (.interface m)) : (execOp (ev E) ⟨dst, .binOp .eql t x (.const .nilIface) t', ty, pos, af, g⟩).run P w = .ok (.value (vB b)) w := by
  cases b with
  | true =>
    have hx' : ev E x = .nilIface := hx
    have hb : (binOp .eql t .nilIface .nilIface).run P w = .ok (vB true) w := by
      show Sem.run P (do pure (Value.bool (← Op.equal t .nilIface .nilIface))) w = _
      rw [Sem.run_bind, run_eq_nn ht]; rfl
    have hg : eqGuard .eql t x (.const .nilIface) .nilIface .nilIface = pure () := by cases x <;> rfl
    simp only [execOp, hx']
    show Sem.run P (do let v ← (do eqGuard .eql t x (.const .nilIface) .nilIface .nilIface; binOp .eql t .nilIface .nilIface); pure (Next.value v)) w = _
    rw [hg]
    show Sem.run P (do let v ← binOp .eql t .nilIface .nilIface; pure (Next.value v)) w = _
    rw [Sem.run_bind, hb]; rfl
  | false =>
    have hx' : ev E x = .iface 162 (.pointer (some ⟨N, 0, none⟩)) := hx
    have hb : (binOp .eql t (.iface 162 (.pointer (some ⟨N, 0, none⟩))) .nilIface).run P w = .ok (vB false) w := by
      show Sem.run P (do pure (Value.bool (← Op.equal t (.iface 162 (.pointer (some ⟨N, 0, none⟩))) .nilIface))) w = _
      rw [Sem.run_bind, run_eq_in ht]; rfl
    simp only [execOp, hx']
    show Sem.run P (do let v ← binOp .eql t (.iface 162 (.pointer (some ⟨N, 0, none⟩))) .nilIface; pure (Next.value v)) w = _
    rw [Sem.run_bind, hb]; rfl
end
theorem itoa_ok (n : Int) (w : World) (hT : Tab [] w) (q0 : 0 ≤ n) (q1 : n ≤ 9223372036854775807) : Calls Tryz.prog 50 #[vI n] w (Gives [] w fun v L => v = vS (Lib.decDigits n.toNat) ∧ L = []) := by
  obtain ⟨h1, h2, t, f, h3⟩ := hT.pow
  have htab : Lib.TabIs Tryz.prog w "internal/strconv.uint64pow10" .u64 Lib.pow10Tab := by
    have hg : Tryz.prog.globalNamed "internal/strconv.uint64pow10" = some 1 := by kernel_rfl
    unfold Lib.TabIs World.var?
    rw [hg]
    simp only [Option.bind_some, h3]
  refine (Tryz.strconv_Itoa n (by omega) q1 w htab).mono ?_
  rintro e w' ⟨rfl, k, os, rfl⟩
  refine ⟨_, _, rfl, ⟨?_, rfl⟩, St.nil ?_⟩
  · rw [Lib.itoa, if_neg (by omega)]
  · exact Fr.of_below (Lib.below_grow _ _ (Nat.le_refl _) k os)
theorem split_ok (s : Bytes) (w : World) (hT : Tab [] w) (q0 : s.length ≤ 1000000) : Calls Tryz.prog 54 #[vS s, vS [44]] w (Gives [] w fun v L => ∃ (A2 : Option Addr) (c2 : Nat), v = vL A2 (R44.splitC 44 s).length c2 ∧ L = [Ent.row (.slice A2 (R44.splitC 44 s).length c2) 9 1 (R44.splitC 44 s).length ((R44.splitC 44 s).map vS)]) := by
  obtain ⟨m, hm⟩ := hT.mx
  refine (Tryz.strings_Split ⟨s.toArray⟩ ⟨#[44]⟩ m w (by show s.toArray.size < _; simp; omega) (cell_of hm) (by decide)).mono ?_
  rintro e w' ⟨rfl, rfl⟩
  have hl := R44.split_lib ⟨s.toArray⟩ 44
  have hlen := congrArg List.length hl
  rw [List.length_map, Lib.splitB_all _ (by decide) 0 _ _ rfl] at hlen
  have hsz : s.length = (⟨s.toArray⟩ : ByteArray).size := by show _ = s.toArray.size; simp
  have hc := Lib.countB_le ⟨#[44]⟩ (by decide) _ ⟨s.toArray⟩ (Nat.le_refl _)
  have hcells : (Lib.splitB ⟨#[44]⟩ 0 (Lib.countB ⟨s.toArray⟩ ⟨#[44]⟩) ⟨s.toArray⟩).map Value.string = (R44.splitC 44 s).map vS := by
    rw [show R44.splitC 44 s = R44.splitC 44 (⟨s.toArray⟩ : ByteArray).data.toList from rfl, ← hl, List.map_map]
    exact List.map_congr_left fun x _ => rfl
  refine ⟨_, _, rfl, ⟨some ⟨w.heap.size, 0, none⟩, (R44.splitC 44 s).length, ?_, rfl⟩, ?_⟩
  · rw [hlen]
  · refine (St.nil (Fr.refl [] w)).alloc _ _ rfl ⟨by simp, .inr ⟨w.heap.size, (R44.splitC 44 s).length, ((R44.splitC 44 s).map vS).toArray, rfl, ?_, Nat.le_refl _, ?_, by simp, ?_⟩⟩
    · rw [hcells]
    · rw [← hlen]; simp only [maxLen]; omega
    · exact List.take_of_length_le (by simp)
theorem fields_ok (hp : ∀ (x : Nat) (w : World), Calls Tryz.prog 79 #[vR x] w (Gives [] w fun v L => v = vB (decide ((x : Int) = 32)) ∧ L = [])) (s : Bytes) (w : World) (q0 : s.length ≤ 1000000) : Calls Tryz.prog 78 #[vS s, Value.func (.func 79) #[] #[]] w (Gives [] w fun v L => ∃ (A2 : Option Addr) (c2 : Nat), v = vL A2 (R44.words s).length c2 ∧ L = [Ent.row (.slice A2 (R44.words s).length c2) 9 1 (R44.words s).length ((R44.words s).map vS)]) := by
  refine (Tryz.strings_FieldsFunc_grows 79 #[] (fun args w => run_callFunc_enter Ty.ca79) (fun n => n == 32) ⟨s.toArray⟩ w (by show s.toArray.size ≤ _; simp; omega) (fun W x _ _ => ?_)).mono ?_
  · refine (hp x W).mono ?_
    rintro e w' ⟨v, L, rfl, ⟨rfl, rfl⟩, hS⟩
    refine ⟨?_, hS.fr.below⟩
    have : decide (((x : Nat) : Int) = 32) = (x == 32) := by
      by_cases h : x = 32
      · subst h; rfl
      · rw [decide_eq_false (by omega)]; exact (beq_eq_false_iff_ne.2 h).symm
    rw [this]
  · rintro e w' ⟨A, rfl, hA, hrow, hb⟩
    have hl := R44.fields_words ⟨s.toArray⟩
    have hlen := congrArg List.length hl
    rw [List.length_map] at hlen
    have hcells : (Lib.goFieldsP (fun n => n == 32) ⟨s.toArray⟩).map Value.string = (R44.words s).map vS := by
      rw [show R44.words s = R44.words (⟨s.toArray⟩ : ByteArray).data.toList from rfl, ← hl, List.map_map]
      exact List.map_congr_left fun x _ => rfl
    have hlen' : (Lib.goFieldsP (fun n => n == 32) ⟨s.toArray⟩).length = (R44.words s).length := hlen
    rw [hcells, hlen'] at hrow
    refine ⟨_, _, rfl, ⟨some ⟨A, 0, none⟩, (R44.words s).length, ?_, rfl⟩, st_new hb hA (owns_row hrow)⟩
    rw [hlen']
theorem atoi_ok (s : Bytes) (w : World) (hT : Tab [] w) (q0 : s.length ≤ 1000000) : Calls Tryz.prog 81 #[vS s] w (Gives [] w fun v L => ∃ (n : Int) (er : Bool) (N : Nat), v = Value.tuple #[vI n, errV er N] ∧ L = [] ∧ R44.AtoiJ s n er) := by
  obtain ⟨v2, hv2, hr2⟩ := hT.es
  obtain ⟨v3, hv3, hr3⟩ := hT.er
  have hsz : (⟨s.toArray⟩ : ByteArray).size = s.length := by show s.toArray.size = _; simp
  cases ha : Lib.atoiAll s with
  | ok n =>
    refine (Tryz.strconv_Atoi_ok ⟨s.toArray⟩ (by rw [hsz]; omega) n ha w).mono ?_
    rintro e w' ⟨rfl, hw⟩
    refine ⟨_, _, rfl, ⟨n, true, 0, rfl, rfl, fun _ => ha, fun h => (by cases h), ?_⟩, St.nil ?_⟩
    · have := Lib.atoiAll_bounds ha; omega
    · rcases hw with rfl | ⟨t, rfl⟩
      · exact Fr.refl _ _
      · exact Fr.of_below (Joins.below_bytesWorld _ _ _ _ (Nat.le_refl _))
  | range =>
    refine (Tryz.strconv_Atoi_range ⟨s.toArray⟩ (by rw [hsz]; omega) ha v3 w (cell_of hr3) hv3).mono ?_
    rintro e w' ⟨N, rfl, _, _, hb⟩
    have := Lib.atoiSat_bounds s
    exact ⟨_, _, rfl, ⟨Lib.atoiSat s, false, N, rfl, rfl, fun h => (by cases h), fun _ v => (by rw [ha]; exact fun h => (by cases h)), by omega, by omega⟩, St.nil (Fr.of_below hb)⟩
  | _ =>
    refine (Tryz.strconv_Atoi_syntax ⟨s.toArray⟩ (by rw [hsz]; omega) (show (∀ v, Lib.atoiAll s ≠ .ok v) ∧ Lib.atoiAll s ≠ .range from by rw [ha]; exact ⟨fun v h => (by cases h), fun h => (by cases h)⟩) v2 w (cell_of hr2) hv2).mono ?_
    rintro e w' ⟨N, rfl, _, _, hb⟩
    exact ⟨_, _, rfl, ⟨0, false, N, rfl, rfl, fun h => (by cases h), fun _ v => (by rw [ha]; exact fun h => (by cases h)), by omega, by omega⟩, St.nil (Fr.of_below hb)⟩
end Go.Proofs.YtnfglkgahlaofaaGreatDoor

namespace Go.GV
open Go.RowKit
theorem iface_of {H : Type} {enc : TypeId × Value → H} {P : Program} {w : World} {base : Nat} {sp : Nat → Bool} {held : Bool} {fuel : Nat} {t : TypeId} {m : Array (String × TypeId)} {cs : List Value} {nm : String} {d : DataW H} {p : List MemPlace}
    (ht : P.underlying t = some (.interface m)) (h : DataW.trod enc P w base sp held fuel t cs = some (.iface nm d, p)) : ∃ te pe, cs = [.iface te pe] := by
  cases fuel with
  | zero => cases h
  | succ fuel =>
    unfold DataW.trod at h
    rw [ht] at h
    match cs, h with
    | [.iface te pe], _ => exact ⟨te, pe, rfl⟩
    | [.nilIface], h => cases h
section
variable {P : Program} {t : TypeId}
theorem open_cap {e : TypeId} (ht : P.underlying t = some (.slice e)) : OpenAt P t fun _ cs => ∃ (A : Option Addr) (l c : Nat), cs = [.slice A l c] ∧ l ≤ c := by
  intro H enc w fuel cs x hx
  rcases Deep.open_slice ht hx with ⟨rfl, _⟩ | ⟨a, len, cap, m, n, D, Pl, rfl, _, hlc, _⟩
  · exact ⟨none, 0, 0, rfl, Nat.le_refl _⟩
  · exact ⟨some a, len, cap, rfl, hlc⟩
theorem open_slW2 {α : Type} [Inhabited α] {e : TypeId} {N : Nat} {f : α → List Value} {B : World → α → Prop} (ht : P.underlying t = some (.slice e)) (hc : P.cellsOf e = N) (hN : ∀ a, (f a).length = N) (he : OpenAt P e fun w cs => ∃ a, cs = f a ∧ B w a) :
    OpenAt P t fun w cs => ∃ (A : Option Addr) (c : Nat) (xs : List α), cs = [.slice A xs.length c] ∧ RO [] w A (xs.flatMap f) ∧ (xs.length ≤ c ∧ xs.length ≤ 9223372036854775807) ∧ ∀ a ∈ xs, B w a := by
  intro H enc w fuel cs x hx
  obtain ⟨A, c, xs, rfl, hR, hl, hB⟩ := open_slW ht hc hN he H enc w fuel cs x hx
  obtain ⟨A2, l2, c2, e2, hle⟩ := open_cap ht H enc w fuel _ x hx
  cases e2
  exact ⟨A, c, xs, rfl, hR, ⟨hle, hl⟩, hB⟩
theorem open_sl2 {α : Type} [Inhabited α] {e : TypeId} {N : Nat} {f : α → List Value} {B : α → Prop} (ht : P.underlying t = some (.slice e)) (hc : P.cellsOf e = N) (hN : ∀ a, (f a).length = N) (he : OpenAt P e fun _ cs => ∃ a, cs = f a ∧ B a) :
    OpenAt P t fun w cs => ∃ (A : Option Addr) (c : Nat) (xs : List α), cs = [.slice A xs.length c] ∧ RO [] w A (xs.flatMap f) ∧ (xs.length ≤ c ∧ xs.length ≤ 9223372036854775807) ∧ ∀ a ∈ xs, B a :=
  open_slW2 (B := fun _ => B) ht hc hN he
end
theorem ro_one {w : World} {b : Nat} {v : Value} (h : w.cell? ⟨b, 0, none⟩ = some v) (hb : b < w.heap.size) : RO [] w (some ⟨b, 0, none⟩) [v] := fun j u hj => by
  cases j with
  | zero => cases hj; exact ⟨_, rfl, hb, List.not_mem_nil, h⟩
  | succ j => cases hj
end Go.GV
namespace Go
theorem returnsInHanded_of_change_and_shaped {H : Type} {enc : TypeId × Value → H} {a : Assume} {C : Checked} {os : Os} {f : FuncId} {fn : Func} {s : ChangeSpec} {conds : List PathCond} {apart fresh handsOn again : Bool} {X : World → Array Value → Prop}
    (hX : ∀ (w w' : World) (args : Array Value), w.heap = w'.heap → X w args → X w' args)
    (own : ownKnob C.prog.godebug = none) (started : os.Started) (noInit : C.prog.inits.idxOf? f = none) (hfn : C.prog.funcs[f]? = some fn)
    (witness : ∃ (w : World) (tape : Tape) (i : Input), w.os = os ∧ (w.forCall tape i).Shaped C.prog ∧ i.vars = [] ∧ Input.okWide C.prog (w.forCall tape i) .any w.heap.size f i ∧
      ((s.pre enc C.prog fn conds apart (w.forCall tape i).memory i.args ∧ X (w.forCall tape i).memory i.args) ∧ sizedMet enc C.prog fn (OpenSpec.ofChange s) apart (w.forCall tape i).memory i.args) ∧ a.holds C.prog (lone (Frame.enter C.prog f i.args .normal) [] (w.forCall tape i)))
    (contract : ∀ (W : World) (base : Nat) (args : Array Value) (ds gs : List (DataW H)) (before : List MemPlace),
      (∀ (j : Nat) t v, fn.params[j]? = some t → args[j]? = some v → Value.okWide C.prog W .any base t v) →
      DataW.Whole enc C.prog fn.params.toList s.vars apart W args.toList ds gs before →
      X W args → W.ShapedOpen C.prog →
      Calls C.prog f args W fun e W' => ∃ v, e = .returned v ∧ s.post enc C.prog fn apart fresh handsOn again W args v W') :
    ReturnsInHanded a C os f .any (fun w args => (s.pre enc C.prog fn conds apart w args ∧ X w args) ∧ sizedMet enc C.prog fn (OpenSpec.ofChange s) apart w args) (s.post enc C.prog fn apart fresh handsOn again) := by
  refine returnsInHanded_of_calls own started noInit witness ?_
  intro w tape i _ hsh _ hok hpre _
  obtain ⟨_, _, _, fn', hfn', _, _, _, _, hval⟩ := hok
  obtain rfl : fn' = fn := Option.some.inj (hfn'.symm.trans hfn)
  obtain ⟨⟨⟨ds, gs, before, hw, _⟩, hx⟩, _⟩ := hpre
  refine (contract (w.forCall tape i) w.heap.size i.args ds gs before hval (DataW.Whole.of_heap (w' := w.forCall tape i) (by rfl) hw) (hX _ _ _ (by rfl) hx) hsh).mono fun e W' ⟨v, he, hp⟩ => ?_
  subst he
  exact ChangeSpec.post_blind hp
end Go
namespace Go.Proofs.YtnfglkgahlaofaaGreatDoor
open Go.GV Go.RowKit
theorem own : ownKnob Tryz.prog.godebug = none := by kernel_rfl
theorem gN1 : Tryz.prog.globalNamed Rows.extsortComparesRow.laid[2].1 = some 1 := by kernel_rfl
theorem gN2 : Tryz.prog.globalNamed Rows.extsortComparesRow.laid[5].1 = some 2 := by kernel_rfl
theorem gN3 : Tryz.prog.globalNamed Rows.extsortComparesRow.laid[4].1 = some 3 := by kernel_rfl
theorem gT1 : (Tryz.prog.globals[1]?).map (·.type) = some 178 := by kernel_rfl
theorem gT2 : (Tryz.prog.globals[2]?).map (·.type) = some 125 := by kernel_rfl
theorem gT3 : (Tryz.prog.globals[3]?).map (·.type) = some 125 := by kernel_rfl
theorem gMax {w : World} (h : w.ShapedOpen Tryz.prog) : ∃ m, w.cell? ⟨0, 0, none⟩ = some (.int .i64 m) :=
  Go.Proofs.cell_of_shapedOpen_int (zero := #[.int .i64 0]) (t := 3) h (of_decide_eq_true (by kernel_rfl)) (by kernel_rfl) rfl (by kernel_rfl) (by kernel_rfl) Tryz.underlying3
theorem dTab : (Rows.laid_internal_strconv_uint64pow10 : DataW Unit) = Lib.tabData .u64 Lib.pow10Tab := by kernel_rfl
theorem var_cells {W : World} {g : Nat} {cs : Array Value} {l : List Value} {nm : String} (hg : Tryz.prog.globalNamed nm = some g) (hv : W.var? Tryz.prog nm = some cs) (hc : cs.toList = l) : g < W.heap.size ∧ ∃ t f, W.heap[g]? = some (.cells l.toArray t f) := by
  unfold World.var? at hv
  rw [hg] at hv
  simp only [Option.bind_some] at hv
  cases ho : W.heap[g]? with
  | none => rw [ho] at hv; cases hv
  | some o =>
    rw [ho] at hv
    cases o with
    | cells c t f =>
      have hv : some c = some cs := hv
      obtain rfl := Option.some.inj hv
      exact ⟨(Array.getElem?_eq_some_iff.1 ho).1, t, f, by rw [← hc]⟩
    | _ => cases hv
theorem cell_at {W : World} {g : Nat} {v : Value} {t : TypeId} {f : Nat × Nat} (h : W.heap[g]? = some (.cells [v].toArray t f)) : W.cell? ⟨g, 0, none⟩ = some v := by
  simp [World.cell?, h]
noncomputable abbrev start (os : Os) : World := World.laidAll Tryz.prog os Rows.extsortComparesRow.laid
theorem door_met (os : Os) (args : Array Value) : laidMetH Tryz.prog Rows.extsortComparesRow.laid ((start os).forCall (fun _ _ => 0) ⟨#[], args, []⟩).memory := by
  rw [MakeChecks.laidMetH_plain _ _ _ (by kernel_rfl)]
  exact laidMet_laidAll args (by kernel_rfl) (by kernel_rfl)
theorem start_os (os : Os) : (start os).os = os := World.laidAll_os _ _ _
theorem tab_of {W : World} (hs : W.ShapedOpen Tryz.prog) (h : laidMetH Tryz.prog Rows.extsortComparesRow.laid W) : Tab [] W := by
  rw [MakeChecks.laidMetH_plain _ _ _ (by kernel_rfl)] at h
  obtain ⟨ps, ⟨g0, t0, cs0, f0, p0, q0, hg0, ht0, hv0, hd0, ⟨g1, t1, cs1, f1, p1, q1, hg1, ht1, hv1, hd1, ⟨g2, t2, cs2, f2, p2, q2, hg2, ht2, hv2, hd2, ⟨g3, t3, cs3, f3, p3, q3, hg3, ht3, hv3, hd3, ⟨g4, t4, cs4, f4, p4, q4, hg4, ht4, hv4, hd4, ⟨g5, t5, cs5, f5, p5, q5, hg5, ht5, hv5, hd5, ⟨g6, t6, cs6, f6, p6, q6, hg6, ht6, hv6, hd6, _, _⟩, _⟩, _⟩, _⟩, _⟩, _⟩, _⟩, _, _⟩ := h
  obtain rfl := Option.some.inj (gN1.symm.trans hg2)
  obtain rfl := Option.some.inj (gN2.symm.trans hg5)
  obtain rfl := Option.some.inj (gN3.symm.trans hg4)
  obtain rfl := Option.some.inj (gT1.symm.trans ht2)
  obtain rfl := Option.some.inj (gT2.symm.trans ht5)
  obtain rfl := Option.some.inj (gT3.symm.trans ht4)
  rw [dTab] at hd2
  have hc := Lib.cells_of_tab Tryz.underlying178 Tryz.underlying147 (by kernel_rfl) (by kernel_rfl) hd2
  obtain ⟨h1, k1, k2, k3⟩ := var_cells hg2 hv2 hc
  obtain ⟨e5, f5', hc5⟩ := iface_of Tryz.underlying125 hd5
  obtain ⟨e4, f4', hc4⟩ := iface_of Tryz.underlying125 hd4
  obtain ⟨h5, _, _, y5⟩ := var_cells hg5 hv5 hc5
  obtain ⟨h4, _, _, y4⟩ := var_cells hg4 hv4 hc4
  obtain ⟨m, hm⟩ := gMax hs
  exact ⟨⟨List.not_mem_nil, h1, k1, k2, k3⟩, ⟨m, ro_one hm (by omega)⟩, ⟨_, .inr ⟨e5, f5', rfl⟩, ro_one (cell_at y5) h5⟩, ⟨_, .inr ⟨e4, f4', rfl⟩, ro_one (cell_at y4) h4⟩⟩
def Rw.okW (w : World) (a : Rw) : Prop := RO [] w a.sA (a.s.map vS) ∧ (a.s.length ≤ a.sC ∧ a.s.length ≤ 9223372036854775807)
theorem Ty.op22 : OpenAt Tryz.prog 22 fun w cs => ∃ a : Rw, cs = Rw.enc a ∧ Rw.okW w a := by
  intro H enc w fuel cs x h
  obtain ⟨A, c, xs, rfl, hR, hl, _⟩ := (open_sl2 (f := fun s : Bytes => [vS s]) Tryz.underlying22 (by kernel_rfl) (fun _ => rfl) (open_s Tryz.underlying9)) H enc w fuel cs x h
  exact ⟨Rw.mk xs A c, rfl, by simpa only [map_flat] using hR, hl⟩
theorem Rw.ros {W : World} {xs : List Rw} (hB : ∀ a ∈ xs, Rw.okW W a) (i : Nat) : RO [] W (xs.getD i default).sA ((xs.getD i default).s.map vS) ∧ ((xs.getD i default).s.length ≤ (xs.getD i default).sC ∧ (xs.getD i default).s.length ≤ 9223372036854775807) := by
  by_cases hi : i < xs.length
  · rw [List.getD_eq_getElem?_getD, List.getElem?_eq_getElem hi]
    exact hB _ (List.getElem_mem hi)
  · rw [List.getD_eq_getElem?_getD, List.getElem?_eq_none (by omega)]
    exact ⟨RO.nil, Nat.le_refl _, Nat.zero_le _⟩
end Go.Proofs.YtnfglkgahlaofaaGreatDoor

namespace Go.Proofs.YtnfglkgahlaofaaGreatDoor
open Go.GV
set_option linter.unusedVariables false
set_option linter.unusedSimpArgs false
set_option maxRecDepth 20000 in
theorem f79_ok (x : Nat) (w : World) : Calls Tryz.prog 79 #[vR ((x : Nat) : Int)] w (Gives [] w fun v L => v = vB (decide (((x : Nat) : Int) = (32 : Int))) ∧ L = []) := by
 refine calls_J [] 5 Tryz.func79 rfl Tryz.ntmps79 [(0, _)] rfl rfl (Give.nil w) ?_
 refine q_ (g_ (s_ av_ (z_ (n_ (q_ (g_ (s_ mv_ (js_ (vB (decide (((x : Nat) : Int) = (32 : Int)))) (x_eql_i32 rfl rfl) (s_ av_ (z_ (n_ (rt_ ?_))))))))))))
 exact p1 Tryz.results79 rfl ⟨rfl, rfl⟩
end Go.Proofs.YtnfglkgahlaofaaGreatDoor

namespace Go.Proofs.YtnfglkgahlaofaaGreatDoor
open Go.GV
theorem fields1_ok (s : Bytes) (w : World) (q0 : s.length ≤ 1000000) : Calls Tryz.prog 78 #[vS s, Value.func (.func 79) #[] #[]] w (Gives [] w fun v L => ∃ (A2 : Option Addr) (c2 : Nat), v = vL A2 (R44.words s).length c2 ∧ L = [Ent.row (.slice A2 (R44.words s).length c2) 9 1 (R44.words s).length ((R44.words s).map vS)]) :=
  fields_ok (fun x w => f79_ok x w) s w q0
end Go.Proofs.YtnfglkgahlaofaaGreatDoor
