/- Pl26: the plain functions of chapters 16, 26. -/
import Derived.Test.YtmbinhhlfbgiaaaSt26
import Derived.Test.YtmbinhhlfbgiaaaRp
namespace Go.Proofs.Ytmbinhhlfbgiaaa
open Go.GV
namespace R16
def zeros (l : List Int) : Bool := l.all fun n => decide (n = 0)
theorem zeros_bad {l : List Int} {k : Nat} (hk : k < l.length) (h : l.getD k 0 ≠ 0) : false = zeros l := by
  symm
  rw [Bool.eq_false_iff]
  intro h2
  unfold zeros at h2
  rw [List.all_eq_true] at h2
  have := h2 (l.getD k 0) (by rw [List.getD_eq_getElem?_getD, List.getElem?_eq_getElem hk]; exact List.getElem_mem _)
  exact h (by simpa using this)
theorem zeros_end {l : List Int} {k : Nat} (hk : k ≤ l.length) (hk2 : ¬ (k : Int) < l.length) (h : ∀ i, i < k → l.getD i 0 = 0) : true = zeros l := by
  symm
  unfold zeros
  rw [List.all_eq_true]
  intro x hx
  obtain ⟨i, hi, rfl⟩ := List.getElem_of_mem hx
  have := h i (by omega)
  rw [List.getD_eq_getElem?_getD, List.getElem?_eq_getElem hi] at this
  simpa using this
def bet (n lo hi : Int) : Bool := decide (lo ≤ n) && decide (n ≤ hi)
def valid (d : DataSet) : Bool :=
  bet d.Org 1 3 && (decide (d.Interval = 128) || decide (d.Interval = 256) || decide (d.Interval = 512)) && bet d.Length 1 (min 200 (d.Interval - 7)) && decide (d.Format = 0) && decide (d.Block = 0) &&
  (if d.Org = 3 then decide (d.Length ≤ d.Interval / 2 - 8) && bet d.KeyAt 0 d.Length && bet d.KeyLength 1 (d.Interval / 16) && decide (d.KeyAt + d.KeyLength ≤ d.Length) && bet d.Area 2 8 && bet d.FreeInterval 0 90 && bet d.FreeArea 0 (d.Area - 1)
   else decide (d.KeyAt = 0) && decide (d.KeyLength = 0) && decide (d.Area = 0) && decide (d.FreeInterval = 0) && decide (d.FreeArea = 0))
theorem known_step {x : Int} {k : Nat} (hk : k < 3) : (((([128, 256, 512] : List Int).take k).any fun n => decide (x = n)) || decide (x = ([128, 256, 512] : List Int).getD k 0)) = (([128, 256, 512] : List Int).take (k + 1)).any fun n => decide (x = n) := by
  match k, hk with
  | 0, _ => simp
  | 1, _ => simp
  | 2, _ => simp [Bool.or_assoc]
theorem known3 {x : Int} : ((([128, 256, 512] : List Int).take 3).any fun n => decide (x = n)) = (decide (x = 128) || decide (x = 256) || decide (x = 512)) := by simp [Bool.or_assoc]
theorem valid_facts {d : DataSet} (h : valid d = true) : 1 ≤ d.Org ∧ d.Org ≤ 3 ∧ (d.Interval = 128 ∨ d.Interval = 256 ∨ d.Interval = 512) ∧ 1 ≤ d.Length ∧ d.Length ≤ 200 ∧ d.Length ≤ d.Interval - 7 ∧ (d.Org = 3 → 0 ≤ d.KeyAt ∧ 1 ≤ d.KeyLength ∧ d.KeyLength ≤ 32 ∧ d.KeyAt + d.KeyLength ≤ d.Length ∧ 2 ≤ d.Area ∧ d.Area ≤ 8) ∧ (d.Org ≠ 3 → d.KeyAt = 0 ∧ d.KeyLength = 0) := by
  unfold valid bet at h
  simp only [Bool.and_eq_true, Bool.or_eq_true, decide_eq_true_eq] at h
  by_cases hO : d.Org = 3
  · rw [if_pos hO] at h; simp only [Bool.and_eq_true, decide_eq_true_eq] at h; omega
  · rw [if_neg hO] at h; simp only [Bool.and_eq_true, decide_eq_true_eq] at h; omega
end R16
namespace R26
def isId (n : Int) : Bool := decide (1 ≤ n) && decide (n ≤ 1099511627776)
def isBase (d : DataSet) : Bool := R16.valid d && isId d.Id && decide (d.Base = 0) && (decide (d.Org = 3) || decide (d.Org = 1))
def keys (d : DataSet) : Int := if d.Org = 3 then d.KeyLength else 8
def shaped (a : DataSet) (n : Int) : Bool := R16.valid a && decide (a.Org = 3) && isId a.Id && isId a.Base && decide (a.Base ≠ a.Id) && (decide (1 ≤ a.AltLength) && decide (0 ≤ a.AltAt) && decide (a.AltLength ≤ n) && decide (a.AltAt ≤ n - a.AltLength)) && decide (a.KeyAt = 0) && decide (a.Length = a.KeyLength)
def isAlt (a : DataSet) : Bool := shaped a 200 && decide (a.AltLength < a.KeyLength)
def valid (b a : DataSet) : Bool := isBase b && decide (a.Base = b.Id) && shaped a b.Length && decide (a.KeyLength = a.AltLength + keys b)
theorem isBase_facts {d : DataSet} (h : isBase d = true) : R16.valid d = true ∧ 1 ≤ d.Id ∧ d.Id ≤ 1099511627776 ∧ d.Base = 0 ∧ (d.Org = 3 ∨ d.Org = 1) ∧ (d.Interval = 128 ∨ d.Interval = 256 ∨ d.Interval = 512) ∧ 1 ≤ d.Length ∧ d.Length ≤ 200 ∧ d.Length ≤ d.Interval - 7 ∧ (d.Org = 3 → 1 ≤ d.KeyLength ∧ d.KeyLength ≤ 32 ∧ 2 ≤ d.Area ∧ d.Area ≤ 8) ∧ 1 ≤ keys d ∧ keys d ≤ 32 := by
  unfold isBase isId at h
  simp only [Bool.and_eq_true, Bool.or_eq_true, decide_eq_true_eq] at h
  have hv := R16.valid_facts h.1.1.1
  have hk : keys d = d.KeyLength ∨ keys d = 8 := by unfold keys; split <;> simp
  have hk2 : d.Org = 3 → keys d = d.KeyLength := by intro h; unfold keys; rw [if_pos h]
  have hk3 : d.Org ≠ 3 → keys d = 8 := by intro h; unfold keys; rw [if_neg h]
  refine ⟨h.1.1.1, ?_⟩
  omega
theorem shaped_facts {a : DataSet} {n : Int} (h : shaped a n = true) : R16.valid a = true ∧ a.Org = 3 ∧ 1 ≤ a.Id ∧ 1 ≤ a.Base ∧ 1 ≤ a.AltLength ∧ 0 ≤ a.AltAt ∧ a.AltLength ≤ n ∧ a.AltAt + a.AltLength ≤ n ∧ 1 ≤ a.KeyLength ∧ a.KeyLength ≤ 32 ∧ a.KeyAt = 0 ∧ a.Length = a.KeyLength := by
  unfold shaped isId at h
  simp only [Bool.and_eq_true, Bool.or_eq_true, decide_eq_true_eq] at h
  have hv := R16.valid_facts h.1.1.1.1.1.1.1
  refine ⟨h.1.1.1.1.1.1.1, ?_⟩
  omega
theorem isAlt_facts {a : DataSet} (h : isAlt a = true) : R16.valid a = true ∧ a.Org = 3 ∧ 1 ≤ a.Id ∧ 1 ≤ a.Base ∧ 1 ≤ a.AltLength ∧ a.AltLength < a.KeyLength ∧ 0 ≤ a.AltAt ∧ a.AltAt + a.AltLength ≤ 200 ∧ a.KeyLength ≤ 32 ∧ a.KeyAt = 0 ∧ a.Length = a.KeyLength := by
  unfold isAlt at h
  simp only [Bool.and_eq_true, decide_eq_true_eq] at h
  have := shaped_facts h.1
  refine ⟨this.1, ?_⟩
  omega
def pick (ok : Int → Bool) (iv : Int) : Option Int :=
  if iv ≤ 512 ∧ ok iv = true then some iv else if 2 * iv ≤ 512 ∧ ok (2 * iv) = true then some (2 * iv) else if 4 * iv ≤ 512 ∧ ok (4 * iv) = true then some (4 * iv) else none
theorem pick_hit {ok : Int → Bool} {iv : Int} (h1 : iv ≤ 512) (h2 : ok iv = true) : pick ok iv = some iv := if_pos ⟨h1, h2⟩
theorem pick_end {ok : Int → Bool} {iv : Int} (h : 512 < iv) : pick ok iv = none := by
  unfold pick; rw [if_neg (by omega), if_neg (by omega), if_neg (by omega)]
theorem pick_last {ok : Int → Bool} {iv : Int} (h : 512 ≤ iv) (h2 : ok iv = false) : pick ok iv = none := by
  unfold pick; rw [if_neg (by simp [h2]), if_neg (by omega), if_neg (by omega)]
theorem pick_step {ok : Int → Bool} {iv : Int} (h : 128 ≤ iv) (h2 : ok iv = false) : pick ok iv = pick ok (iv * 2) := by
  rw [Int.mul_comm]
  show _ = pick ok (2 * iv)
  unfold pick
  rw [if_neg (c := iv ≤ 512 ∧ ok iv = true) (by simp [h2])]
  have e : 2 * (2 * iv) = 4 * iv := by omega
  rw [e, if_neg (c := 4 * (2 * iv) ≤ 512 ∧ _) (by omega)]
def mk (base : DataSet) (id pos len : Int) (u : Bool) (iv : Int) : DataSet :=
  { Id := id, Org := 3, Format := 0, Length := len + keys base, Block := 0, KeyAt := 0, KeyLength := len + keys base, Interval := iv, Area := if base.Org = 1 then 4 else base.Area, FreeInterval := base.FreeInterval, FreeArea := base.FreeArea, Base := base.Id, AltAt := pos, AltLength := len, Unique := u, Class := base.Class, Volume := base.Volume, Owner := base.Owner, Created := base.Created, Expires := base.Expires, Archived := false }
def zero : DataSet := DataSet.mk 0 0 0 0 0 0 0 0 0 0 0 0 0 0 false 0 [] [] 0 0 false
def good (base : DataSet) (id pos len : Int) : Bool := isBase base && isId id && decide (id ≠ base.Id) && decide (0 ≤ pos) && decide (1 ≤ len) && decide (pos + len ≤ base.Length)
def describe (base : DataSet) (id pos len : Int) (u : Bool) : DataSet × Int :=
  if good base id pos len = true then
    match pick (fun iv => R16.valid (mk base id pos len u iv)) base.Interval with
    | none => (zero, 8)
    | some iv => (mk base id pos len u iv, 0)
  else (zero, 1)
theorem good_facts {base : DataSet} {id pos len : Int} (h : good base id pos len = true) : isBase base = true ∧ isId id = true ∧ id ≠ base.Id ∧ 0 ≤ pos ∧ 1 ≤ len ∧ pos + len ≤ base.Length := by
  unfold good at h
  simp only [Bool.and_eq_true, decide_eq_true_eq] at h
  refine ⟨h.1.1.1.1.1, h.1.1.1.1.2, ?_⟩
  omega
theorem describe_bad {base : DataSet} {id pos len : Int} {u : Bool} (h : good base id pos len = false) : describe base id pos len u = (zero, 1) := by
  unfold describe; rw [if_neg (by simp [h])]
theorem describe_none {base : DataSet} {id pos len : Int} {u : Bool} (h : good base id pos len = true) (hp : pick (fun iv => R16.valid (mk base id pos len u iv)) base.Interval = none) : describe base id pos len u = (zero, 8) := by
  unfold describe; rw [if_pos h, hp]
theorem describe_some {base : DataSet} {id pos len iv : Int} {u : Bool} (h : good base id pos len = true) (hp : pick (fun iv => R16.valid (mk base id pos len u iv)) base.Interval = some iv) : describe base id pos len u = (mk base id pos len u iv, 0) := by
  unfold describe; rw [if_pos h, hp]
theorem isId_facts {n : Int} (h : isId n = true) : 1 ≤ n ∧ n ≤ 1099511627776 := by
  unfold isId at h; simpa using h
def key (a : DataSet) (r : Bytes) : Bytes × Bool := if isAlt a = true ∧ a.AltAt + a.AltLength ≤ r.length then (sub r a.AltAt.toNat (a.AltAt + a.AltLength).toNat, true) else ([], false)
def record (a : DataSet) (k b : Bytes) : Bytes × Int := if isAlt a = true then (if (k.length : Int) = a.AltLength ∧ (b.length : Int) = a.KeyLength - a.AltLength then (k ++ b, 0) else ([], 2)) else ([], 1)
def parts (a : DataSet) (r : Bytes) : Bytes × Bytes × Int := if isAlt a = true then (if (r.length : Int) = a.KeyLength then (sub r 0 a.AltLength.toNat, sub r a.AltLength.toNat r.length, 0) else ([], [], 2)) else ([], [], 1)
def span (a : DataSet) (k : Bytes) : Range × Int := if isAlt a = true then (if (k.length : Int) = a.AltLength then (⟨k, k ++ rep [255] (a.KeyLength - a.AltLength).toNat, false⟩, 0) else (⟨[], [], false⟩, 2)) else (⟨[], [], false⟩, 1)
theorem sub_sub {r : Bytes} {i n : Nat} (h : i + n ≤ r.length) : sub (sub r i r.length) 0 n = sub r i (i + n) := by
  unfold sub
  rw [List.take_length, List.drop_zero, List.take_drop]
theorem ite2 {α : Type} {p q : Prop} [Decidable p] [Decidable q] {x y z : α} (h : p) (g : q) : (if p then (if q then x else y) else z) = x := by rw [if_pos h, if_pos g]
theorem ite1 {α : Type} {p q : Prop} [Decidable p] [Decidable q] {x y z : α} (h : p) (g : ¬ q) : (if p then (if q then x else y) else z) = y := by rw [if_pos h, if_neg g]
theorem shaped_iff (a : DataSet) (n : Int) : shaped a n = true ↔ (R16.valid a = true ∧ a.Org = 3 ∧ isId a.Id = true ∧ isId a.Base = true ∧ a.Base ≠ a.Id ∧ 1 ≤ a.AltLength ∧ 0 ≤ a.AltAt ∧ a.AltLength ≤ n ∧ a.AltAt ≤ n - a.AltLength ∧ a.KeyAt = 0 ∧ a.Length = a.KeyLength) := by
  unfold shaped
  simp only [Bool.and_eq_true, decide_eq_true_eq, and_assoc]
theorem valid_iff (b a : DataSet) : valid b a = (isBase b && isAlt a && decide (a.Base = b.Id) && decide (a.AltAt + a.AltLength ≤ b.Length) && decide (a.KeyLength = a.AltLength + keys b)) := by
  rw [Bool.eq_iff_iff]
  unfold valid isAlt
  simp only [Bool.and_eq_true, decide_eq_true_eq]
  constructor
  · rintro ⟨⟨⟨h1, h2⟩, h3⟩, h4⟩
    have f1 := isBase_facts h1
    have f3 := shaped_facts h3
    refine ⟨⟨⟨⟨h1, ?_, ?_⟩, h2⟩, ?_⟩, h4⟩
    · rw [shaped_iff] at h3 ⊢
      obtain ⟨x1, x2, x3, x4, x5, x6⟩ := h3
      exact ⟨x1, x2, x3, x4, x5, by omega⟩
    · omega
    · omega
  · rintro ⟨⟨⟨⟨h1, h3, h5⟩, h2⟩, h6⟩, h4⟩
    refine ⟨⟨⟨h1, h2⟩, ?_⟩, h4⟩
    rw [shaped_iff] at h3 ⊢
    obtain ⟨x1, x2, x3, x4, x5, x6⟩ := h3
    exact ⟨x1, x2, x3, x4, x5, by omega⟩
theorem area_eq {base : DataSet} {id pos len : Int} (h : good base id pos len = true) : (if base.Org ≠ 3 then (4 : Int) else base.Area) = if base.Org = 1 then 4 else base.Area := by
  have := isBase_facts (good_facts h).1
  by_cases h3 : base.Org = 3
  · rw [if_neg (by omega), if_neg (by omega)]
  · rw [if_pos h3, if_pos (by omega)]
theorem valid_facts {b a : DataSet} (h : valid b a = true) : (a.Interval = 128 ∨ a.Interval = 256 ∨ a.Interval = 512) ∧ 1 ≤ a.AltLength ∧ 0 ≤ a.AltAt ∧ a.KeyLength ≤ 32 := by
  unfold valid at h
  simp only [Bool.and_eq_true, decide_eq_true_eq] at h
  have f := shaped_facts h.1.2
  have g := R16.valid_facts f.1
  omega
end R26
end Go.Proofs.Ytmbinhhlfbgiaaa
