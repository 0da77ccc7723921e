/- Pl14: the plain functions of chapters 1, 2, 14. -/
import Derived.Test.YtodfebhimadaiaaSt14
namespace Go.Proofs.Ytodfebhimadaiaa
open Go.GV
namespace R02
def shift (c : UInt32) : UInt32 := if c % 2 = 1 then c / 2 ^^^ 2197175160 else c / 2
def iter : Nat → UInt32 → UInt32
  | 0, c => c
  | k + 1, c => shift (iter k c)
def byte (c : UInt32) (b : UInt8) : UInt32 := iter 8 (c ^^^ b.toUInt32)
def bytes (c : UInt32) (l : Bytes) : UInt32 := l.foldl byte c
def update (sum : UInt32) (l : Bytes) : UInt32 := ~~~(bytes (~~~sum) l)
theorem fold_take_succ {α β : Type} (f : β → α → β) (c : β) (s : List α) (d : α) (k : Nat) (h : k < s.length) : (s.take (k + 1)).foldl f c = f ((s.take k).foldl f c) (s.getD k d) := by
  rw [List.take_succ_eq_append_getElem h, List.foldl_append]
  simp [List.getD_eq_getElem?_getD, List.getElem?_eq_getElem h]
def le (n : UInt32) : Bytes := [n.toUInt8, (UInt32.ofBitVec (n.toBitVec >>> 8)).toUInt8, (UInt32.ofBitVec (n.toBitVec >>> 16)).toUInt8, (UInt32.ofBitVec (n.toBitVec >>> 24)).toUInt8]
theorem le_length (n : UInt32) : (le n).length = 4 := rfl
attribute [simp] le_length
theorem shr1 (c : UInt32) : UInt32.ofBitVec (c.toBitVec >>> 1) = c / 2 := by
  apply UInt32.toNat_inj.1
  show (c.toBitVec >>> 1).toNat = _
  rw [BitVec.toNat_ushiftRight, UInt32.toNat_div]; rfl
theorem and1 (c : UInt32) : (c &&& 1 = 1) ↔ (c % 2 = 1) := by
  rw [← UInt32.toNat_inj, ← UInt32.toNat_inj, UInt32.toNat_and, UInt32.toNat_mod]
  show c.toNat &&& 1 = 1 ↔ c.toNat % 2 = 1
  rw [Nat.and_one_is_mod]
theorem shift_and (c : UInt32) : (if c &&& 1 = (1 : UInt32) then (UInt32.ofBitVec (c.toBitVec >>> 1)) ^^^ 2197175160 else UInt32.ofBitVec (c.toBitVec >>> 1)) = shift c := by
  unfold shift
  simp only [shr1, and1]
def tab : List UInt32 := (List.range 16).map fun i => iter 4 (UInt32.ofNat i)
def nib (ts : List UInt32) (x b : UInt32) : UInt32 := UInt32.ofBitVec (x.toBitVec >>> 4) ^^^ ts.getD ((x ^^^ b) &&& 15).toNat 0
def byteN (x : UInt32) (b : UInt8) : UInt32 := nib tab (nib tab x (b.toUInt32 &&& 15)) (UInt32.ofBitVec (b.toUInt32.toBitVec >>> 4))
def updateN (sum : UInt32) (l : Bytes) : UInt32 := ~~~(l.foldl byteN (~~~sum))
theorem and15_lt (x : UInt32) : (x &&& 15).toNat < 16 := by
  rw [UInt32.toNat_and]
  exact Nat.lt_of_le_of_lt Nat.and_le_right (by decide)
end R02
namespace R01
def padded (s : Bytes) (n : Int) : Bytes := s ++ List.replicate (n.toNat - s.length) 0
theorem padded_length (s : Bytes) (n : Int) : (padded s n).length = max s.length n.toNat := by
  unfold padded; simp; omega
attribute [simp] padded_length
end R01
end Go.Proofs.Ytodfebhimadaiaa
namespace Go.Proofs.Ytodfebhimadaiaa
open Go.GV
namespace R02
theorem tab_step {ts : List UInt32} {k : Nat} (hl : ts.length = 16) (hk : k < 16) (h : ∀ i, i < k → ts.getD i 0 = iter 4 (UInt32.ofNat i)) : ∀ i, i < k + 1 → (ts.set k (iter 4 (UInt32.ofNat k))).getD i 0 = iter 4 (UInt32.ofNat i) := by
  intro i hi
  by_cases hik : i = k
  · subst hik; simp [List.getD_eq_getElem?_getD, hl, hk]
  · rw [← h i (by omega)]; simp [List.getD_eq_getElem?_getD, Ne.symm hik]
theorem tab_done {ts : List UInt32} (hl : ts.length = 16) (h : ∀ i, i < 16 → ts.getD i 0 = iter 4 (UInt32.ofNat i)) : ts = tab := by
  apply List.ext_getElem?
  intro i
  by_cases hi : i < 16
  · have h1 := h i hi
    rw [List.getD_eq_getElem?_getD, List.getElem?_eq_getElem (by omega)] at h1
    simp only [Option.getD_some] at h1
    rw [List.getElem?_eq_getElem (by omega), h1]
    simp [tab, hi]
  · rw [List.getElem?_eq_none (by omega), List.getElem?_eq_none (by simp [tab]; omega)]
end R02
end Go.Proofs.Ytodfebhimadaiaa
namespace Go.Proofs.Ytodfebhimadaiaa
open Go.GV
namespace R01
def num (n : Nat) : Bytes := if h : n < 128 then [UInt8.ofNat n] else UInt8.ofNat (n % 128 + 128) :: num (n / 128)
termination_by n
decreasing_by omega
theorem num_lt {n : Nat} (h : n < 128) : num n = [UInt8.ofNat n] := by rw [num]; simp [h]
theorem num_ge {n : Nat} (h : ¬ n < 128) : num n = UInt8.ofNat (n % 128 + 128) :: num (n / 128) := by rw [num]; simp [h]
theorem num_len_aux : ∀ (k n : Nat), n < 2 ^ (7 * (k + 1)) → (num n).length ≤ k + 1
  | 0, n, h => by rw [num_lt (by simpa using h)]; simp
  | k + 1, n, h => by
    by_cases hn : n < 128
    · rw [num_lt hn]; simp
    · rw [num_ge hn, List.length_cons]
      have := num_len_aux k (n / 128) (by
        rw [Nat.div_lt_iff_lt_mul (by decide)]
        have e : 2 ^ (7 * (k + 1 + 1)) = 2 ^ (7 * (k + 1)) * 128 := by rw [show 7 * (k + 1 + 1) = 7 * (k + 1) + 7 by omega, Nat.pow_add]
        omega)
      omega
theorem num_len (x : UInt64) : (num x.toNat).length ≤ 10 := num_len_aux 9 _ (Nat.lt_of_lt_of_le x.toNat_lt (by decide))
def text (s : Bytes) : Bytes := num s.length ++ s
theorem text_len (s : Bytes) (h : s.length ≤ 1073741824) : (text s).length ≤ s.length + 10 := by
  unfold text
  have := num_len (UInt64.ofNat s.length)
  rw [show (UInt64.ofNat s.length).toNat = s.length by simp; omega] at this
  rw [List.length_append]; omega
def bool (b : Bool) : Bytes := if b then [1] else [0]
theorem bool_len (b : Bool) : (bool b).length = 1 := by cases b <;> rfl
attribute [simp] bool_len
set_option maxRecDepth 8192 in
theorem or128 : ∀ q : Nat, q < 256 → q ||| 128 = q % 128 + 128 := by decide
theorem text_eq {t : Bytes} (h : t.length ≤ 1073741824) : num (UInt64.ofNat t.length).toNat ++ t = text t := by
  unfold text; rw [show (UInt64.ofNat t.length).toNat = t.length by simp; omega]
theorem app_step {bs : Bytes} {m n : UInt64} {k : Nat} (hl : bs.length = 10) (hk : k ≤ 9) (h : bs.take k ++ num m.toNat = num n.toNat) (hm : m.toNat < 2 ^ (64 - 7 * k)) (h128 : (128 : UInt64) ≤ m) :
    k + 1 ≤ 9 ∧ (bs.set k (m.toUInt8 ||| 128)).take (k + 1) ++ num (UInt64.ofBitVec (m.toBitVec >>> 7)).toNat = num n.toNat ∧ (UInt64.ofBitVec (m.toBitVec >>> 7)).toNat < 2 ^ (64 - 7 * (k + 1)) ∧ (UInt64.ofBitVec (m.toBitVec >>> 7)).toNat < m.toNat := by
  have h1 : 128 ≤ m.toNat := by rw [UInt64.le_iff_toNat_le] at h128; simpa using h128
  have hd : (UInt64.ofBitVec (m.toBitVec >>> 7)).toNat = m.toNat / 128 := by
    show (m.toBitVec >>> 7).toNat = _
    rw [BitVec.toNat_ushiftRight, Nat.shiftRight_eq_div_pow]; rfl
  have hk9 : k + 1 ≤ 9 := by
    rcases Nat.lt_or_ge k 9 with h9 | h9
    · omega
    · exfalso
      have : k = 9 := by omega
      subst this
      have : m.toNat < 2 := by simpa using hm
      omega
  refine ⟨hk9, ?_, ?_, by rw [hd]; omega⟩
  · rw [hd, ← h, num_ge (n := m.toNat) (by omega)]
    have e : (bs.set k (m.toUInt8 ||| 128)).take (k + 1) = bs.take k ++ [m.toUInt8 ||| 128] := by
      rw [List.take_succ_eq_append_getElem (by simp; omega), List.take_set_of_le (Nat.le_refl _)]
      simp
    rw [e, List.append_assoc]
    congr 1
    rw [List.singleton_append]
    congr 1
    apply UInt8.toNat_inj.1
    rw [UInt8.toNat_or]
    have e2 : m.toUInt8.toNat = m.toNat % 256 := by simp
    rw [e2]
    show m.toNat % 256 ||| 128 = _
    have h2 : m.toNat % 256 < 256 := Nat.mod_lt _ (by decide)
    have h3 : m.toNat % 128 = m.toNat % 256 % 128 := by omega
    rw [h3]
    generalize m.toNat % 256 = q at h2
    rw [show UInt8.toNat (UInt8.ofNat (q % 128 + 128)) = q % 128 + 128 by simp; omega]
    exact or128 q h2
  · rw [hd, Nat.div_lt_iff_lt_mul (by decide)]
    have e : 2 ^ (64 - 7 * k) = 2 ^ (64 - 7 * (k + 1)) * 128 := by
      rw [show 64 - 7 * k = (64 - 7 * (k + 1)) + 7 by omega, Nat.pow_add]
    omega
theorem app_done {bs s : Bytes} {m n : UInt64} {k : Nat} (hl : bs.length = 10) (hk : k ≤ 9) (h : bs.take k ++ num m.toNat = num n.toNat) (h128 : ¬ (128 : UInt64) ≤ m) :
    s ++ (((bs.set k m.toUInt8).drop 0).take (k + 1)) = s ++ num n.toNat := by
  have h1 : m.toNat < 128 := by rw [UInt64.le_iff_toNat_le] at h128; simpa using h128
  rw [← h, num_lt h1, List.drop_zero]
  congr 1
  rw [List.take_succ_eq_append_getElem (by simp; omega), List.take_set_of_le (Nat.le_refl _)]
  congr 1
  simp only [List.getElem_set_self]
  apply congrArg (· :: [])
  apply UInt8.toNat_inj.1; simp
end R01
namespace R14
def idx {α : Type} (p : α → Bool) (l : List α) : Int := match l.findIdx? p with
  | some i => (i : Int)
  | none => -1
theorem idx_hit {α : Type} {p : α → Bool} {l : List α} {d : α} {k : Nat} (hk : k < l.length) (h : ∀ i, i < k → p (l.getD i d) = false) (hp : p (l.getD k d) = true) : (k : Int) = idx p l := by
  have : l.findIdx? p = some k := by
    rw [List.findIdx?_eq_some_iff_getElem]
    refine ⟨hk, by simpa [List.getD_eq_getElem?_getD, List.getElem?_eq_getElem hk] using hp, fun j hj => ?_⟩
    have := h j hj
    rw [List.getD_eq_getElem?_getD, List.getElem?_eq_getElem (by omega)] at this
    simpa using this
  simp [idx, this]
theorem idx_miss {α : Type} {p : α → Bool} {l : List α} {d : α} (h : ∀ i, i < l.length → p (l.getD i d) = false) : (-1 : Int) = idx p l := by
  have : l.findIdx? p = none := by
    rw [List.findIdx?_eq_none_iff]
    intro x hx
    obtain ⟨i, hi, rfl⟩ := List.getElem_of_mem hx
    have := h i hi
    rwa [List.getD_eq_getElem?_getD, List.getElem?_eq_getElem hi] at this
  simp [idx, this]
theorem idx_any {α : Type} {p : α → Bool} {l : List α} : decide ((0 : Int) ≤ idx p l) = l.any p := by
  unfold idx
  cases h : l.findIdx? p with
  | none =>
    have : l.any p = false := by rw [List.findIdx?_eq_none_iff] at h; simpa using h
    simp [this]
  | some i =>
    have : l.any p = true := by
      rw [List.findIdx?_eq_some_iff_getElem] at h
      obtain ⟨hi, hp, _⟩ := h
      exact List.any_eq_true.2 ⟨_, List.getElem_mem hi, hp⟩
    simp [this]
def okN (n : Int) : Bool := decide (0 ≤ n) && decide (n ≤ 1099511627776)
def badP (p : Pair) : Bool := decide (32 < (p.key.length : Int)) || decide (1000 < (p.record.length : Int))
def nums (d : DataSet) : List Int := [d.Id, d.Org, d.Format, d.Length, d.Block, d.KeyAt, d.KeyLength, d.Interval, d.Area, d.FreeInterval, d.FreeArea, d.Base, d.AltAt, d.AltLength]
def nums17 (d : DataSet) : List Int := [d.Id, d.Org, d.Format, d.Length, d.Block, d.KeyAt, d.KeyLength, d.Interval, d.Area, d.FreeInterval, d.FreeArea, d.Base, d.AltAt, d.AltLength, d.Class, d.Created, d.Expires]
def valid (d : DataSet) (n : Int) (ps : List Pair) : Bool :=
  !((nums17 d ++ [n]).any fun x => !okN x) && decide (d.Owner.length ≤ 31) && decide (d.Volume.length ≤ 31) && decide (ps.length ≤ 1024) && !(ps.any badP)
def enc (n : Int) : Bytes := R01.num (UInt64.ofInt n).toNat
theorem enc_len (n : Int) : (enc n).length ≤ 10 := R01.num_len _
theorem encs_len (l : List Int) : (l.flatMap enc).length ≤ 10 * l.length := by
  induction l with
  | nil => simp
  | cons a l ih => have := enc_len a; simp only [List.flatMap_cons, List.length_append, List.length_cons]; omega
def first (d : DataSet) (n c : Int) : Bytes :=
  (nums d).flatMap enc ++ R01.bool d.Unique ++ enc d.Class ++ R01.text d.Volume ++ R01.text d.Owner ++ enc d.Created ++ enc d.Expires ++ R01.bool d.Archived ++ enc n ++ enc c
def pair (p : Pair) : Bytes := R01.text p.key ++ R01.text p.record
def items (d : DataSet) (n : Int) (ps : List Pair) : List Bytes := first d n ps.length :: ps.map pair
end R14
end Go.Proofs.Ytodfebhimadaiaa
namespace Go.Proofs.Ytodfebhimadaiaa
open Go.GV
namespace R14
def marks (a b : Bool) : UInt8 := (if a then 1 else 0) + (if b then 2 else 0)
def frame (up : UInt32 → Bytes → UInt32) (n : Int) (a b : Bool) (d : Bytes) : Bytes :=
  if n < 0 ∨ 65535 < n ∨ d.length < 1 ∨ 56 < d.length then [] else
    R01.padded ([UInt8.ofInt n, UInt8.ofInt (n / 256), marks a b, UInt8.ofNat d.length] ++ d) 60 ++ R02.le (up 0 (R01.padded ([UInt8.ofInt n, UInt8.ofInt (n / 256), marks a b, UInt8.ofNat d.length] ++ d) 60))
theorem marks_or (a b : Bool) : (if b = true then (if a = true then 0 ||| 1 else 0) ||| 2 else if a = true then 0 ||| 1 else 0) = marks a b := by cases a <;> cases b <;> rfl
theorem frame_bad {up : UInt32 → Bytes → UInt32} {n : Int} {a b : Bool} {d : Bytes} (h : n < 0 ∨ 65535 < n ∨ d.length < 1 ∨ 56 < d.length) : [] = frame up n a b d := by unfold frame; rw [if_pos h]
theorem frame_of {up : UInt32 → Bytes → UInt32} {n : Int} {a b : Bool} {d f : Bytes} (h : ¬ (n < 0 ∨ 65535 < n ∨ d.length < 1 ∨ 56 < d.length)) (hf : f = R01.padded ([UInt8.ofInt n, UInt8.ofInt (n / 256), marks a b, UInt8.ofNat d.length] ++ d) 60) : f ++ R02.le (up 0 f) = frame up n a b d := by
  unfold frame; rw [if_neg h, hf]
theorem frame_buf {l d : Bytes} (hl : l.length = 4) (hd : d.length ≤ 56) : splice (splice (List.replicate 60 0) 0 (List.take (min 4 60) (List.drop 0 l))) 4 (List.take 56 d) = R01.padded (l ++ d) 60 := by
  have h1 : List.take (min 4 60) (List.drop 0 l) = l := by rw [List.drop_zero, List.take_of_length_le (by omega)]
  rw [h1, List.take_of_length_le hd]
  have h2 : (splice (List.replicate 60 (0 : UInt8)) 0 l).length = 60 := by rw [splice_length, List.length_replicate]
  rw [splice_eq _ _ _ (by omega), splice_eq _ _ _ (by rw [List.length_replicate]; omega)]
  unfold R01.padded
  simp only [List.drop_replicate, List.take_zero, List.nil_append, hl, List.length_append]
  rw [List.take_append_of_le_length (by omega), List.take_of_length_le (by omega), List.drop_append, List.drop_of_length_le (l := l) (by omega)]
  simp only [List.nil_append, List.drop_replicate, hl]
  congr 2
  show _ = (60 : Int).toNat - (4 + d.length)
  omega
theorem frame_buf60 {l d : Bytes} (hl : l.length = 4) (hd : d.length ≤ 56) : ((splice (splice (List.replicate 60 0) 0 (List.take (min 4 60) (List.drop 0 l))) 4 (List.take 56 d)).drop 0).take 60 = R01.padded (l ++ d) 60 := by
  rw [frame_buf hl hd, List.drop_zero, List.take_of_length_le]
  rw [R01.padded_length, List.length_append]; omega
theorem valid_bad1 {d : DataSet} {n : Int} {ps : List Pair} (h : (nums17 d ++ [n]).any (fun x => !okN x) = true) : false = valid d n ps := by simp only [valid, h]; rfl
theorem valid_bad2 {d : DataSet} {n : Int} {ps : List Pair} (h : 31 < (d.Owner.length : Int) ∨ 31 < (d.Volume.length : Int) ∨ 1024 < (ps.length : Int)) : false = valid d n ps := by
  unfold valid
  symm
  rw [Bool.eq_false_iff]
  intro h2
  simp only [Bool.and_eq_true, decide_eq_true_eq] at h2
  omega
theorem valid_fin {d : DataSet} {n : Int} {ps : List Pair} (h : (nums17 d ++ [n]).any (fun x => !okN x) = false) (h2 : ¬ (31 < (d.Owner.length : Int) ∨ 31 < (d.Volume.length : Int) ∨ 1024 < (ps.length : Int))) : (!(ps.any badP)) = valid d n ps := by
  unfold valid
  rw [h, decide_eq_true (by omega : d.Owner.length ≤ 31), decide_eq_true (by omega : d.Volume.length ≤ 31), decide_eq_true (by omega : ps.length ≤ 1024)]
  rfl
theorem valid_bounds {d : DataSet} {n : Int} {ps : List Pair} (h : valid d n ps = true) : d.Owner.length ≤ 31 ∧ d.Volume.length ≤ 31 ∧ ps.length ≤ 1024 := by
  unfold valid at h; simp only [Bool.and_eq_true, decide_eq_true_eq] at h; omega
theorem valid_pairs {d : DataSet} {n : Int} {ps : List Pair} (h : valid d n ps = true) (i : Nat) : (ps.getD i default).key.length ≤ 32 ∧ (ps.getD i default).record.length ≤ 1000 := by
  by_cases hi : i < ps.length
  · have h2 : ps.any badP = false := by
      unfold valid at h; simp only [Bool.and_eq_true] at h
      have := h.2; revert this; cases ps.any badP <;> simp
    rw [List.getD_eq_getElem?_getD, List.getElem?_eq_getElem hi]
    have h3 := List.any_eq_false.1 h2 _ (List.getElem_mem hi)
    rw [Bool.not_eq_true] at h3
    unfold badP at h3
    simp only [Bool.or_eq_false_iff, decide_eq_false_iff_not] at h3
    simp only [Option.getD_some]; omega
  · rw [List.getD_eq_getElem?_getD, List.getElem?_eq_none (by omega)]
    exact ⟨by decide, by decide⟩
theorem flat_step {α : Type} {f : α → Bytes} {s t : Bytes} {l : List α} {k : Nat} (d : α) (hk : k < l.length) (h : t = s ++ (l.take k).flatMap f) : t ++ f (l.getD k d) = s ++ (l.take (k + 1)).flatMap f := by
  rw [h, List.take_succ_eq_append_getElem hk, List.flatMap_append, List.append_assoc]
  simp [List.getD_eq_getElem?_getD, List.getElem?_eq_getElem hk]
theorem flat_len {l : List Int} {s t : Bytes} {k : Nat} (h : t = s ++ (l.take k).flatMap enc) : t.length ≤ s.length + 10 * k := by
  rw [h, List.length_append]
  have := encs_len (l.take k)
  have h2 : (l.take k).length ≤ k := by rw [List.length_take]; omega
  omega
theorem items_step {d : DataSet} {n : Int} {ps : List Pair} {xs : List Bytes} {k : Nat} (hk : k < ps.length) (h : xs = first d n ps.length :: (ps.take k).map pair) (t : Bytes) (ht : t = pair (ps.getD k default)) : xs ++ [t] = first d n ps.length :: (ps.take (k + 1)).map pair := by
  rw [h, ht, List.take_succ_eq_append_getElem hk, List.map_append]
  simp [List.getD_eq_getElem?_getD, List.getElem?_eq_getElem hk]
theorem items_done {d : DataSet} {n : Int} {ps : List Pair} {xs : List Bytes} {k : Nat} (hk : k ≤ ps.length) (hk2 : ¬ (k : Int) < ps.length) (h : xs = first d n ps.length :: (ps.take k).map pair) : xs = items d n ps := by
  rw [h, List.take_of_length_le (by omega)]; rfl
def chunk (up : UInt32 → Bytes → UInt32) (n : Nat) (s : Bytes) (i : Nat) : Bytes := frame up ((n + i : Nat) : Int) (decide (i = 0)) (decide (s.length ≤ 56 * i + 56)) (sub s (56 * i) (min s.length (56 * i + 56)))
def chunks (s : Bytes) : Nat := (s.length + 55) / 56
def itemF (up : UInt32 → Bytes → UInt32) (n : Nat) (s : Bytes) : List Bytes := (List.range (chunks s)).map (chunk up n s)
def frames (up : UInt32 → Bytes → UInt32) (l : List Bytes) : List Bytes := l.foldl (fun acc s => acc ++ itemF up acc.length s) []
def encode (up : UInt32 → Bytes → UInt32) (d : DataSet) (n : Int) (ps : List Pair) : Bytes := if valid d n ps then (frames up (items d n ps)).flatten else []
def okE (b : Bool) : Int := if b then 0 else 1
theorem frames_succ (up : UInt32 → Bytes → UInt32) (l : List Bytes) (k : Nat) (h : k < l.length) : frames up (l.take (k + 1)) = frames up (l.take k) ++ itemF up (frames up (l.take k)).length (l.getD k []) := R02.fold_take_succ _ _ _ _ _ h
theorem itemF_len (up : UInt32 → Bytes → UInt32) (n : Nat) (s : Bytes) : (itemF up n s).length = chunks s := by simp [itemF]
theorem chunks_le {s : Bytes} (h : s.length ≤ 1100) : chunks s ≤ 20 := by unfold chunks; omega
theorem frames_len (up : UInt32 → Bytes → UInt32) (l : List Bytes) (h : ∀ i, (l.getD i []).length ≤ 1100) : ∀ k, (frames up (l.take k)).length ≤ 20 * k
  | 0 => by simp [frames]
  | k + 1 => by
    have ih := frames_len up l h k
    by_cases hk : k < l.length
    · rw [frames_succ _ _ _ hk, List.length_append, itemF_len]
      have := chunks_le (h k)
      omega
    · rw [List.take_of_length_le (by omega)]
      rw [List.take_of_length_le (by omega)] at ih
      omega
theorem frame_le (up : UInt32 → Bytes → UInt32) (n : Int) (a b : Bool) (d : Bytes) : (frame up n a b d).length ≤ 64 := by
  unfold frame
  split
  · simp
  · simp only [List.length_append, R02.le_length, R01.padded_length, List.length_cons, List.length_nil]
    omega
theorem flatten_le : ∀ (l : List Bytes), (∀ s ∈ l, s.length ≤ 64) → l.flatten.length ≤ 64 * l.length
  | [], _ => by simp
  | s :: l, h => by
    have h1 := h s (by simp)
    have h2 := flatten_le l (fun x hx => h x (by simp [hx]))
    simp only [List.flatten_cons, List.length_append, List.length_cons]; omega
theorem itemF_le (up : UInt32 → Bytes → UInt32) (n : Nat) (s : Bytes) : ∀ x ∈ itemF up n s, x.length ≤ 64 := by
  intro x hx
  unfold itemF at hx
  obtain ⟨i, _, rfl⟩ := List.mem_map.1 hx
  exact frame_le _ _ _ _ _
theorem frames_le (up : UInt32 → Bytes → UInt32) (l : List Bytes) : ∀ x ∈ frames up l, x.length ≤ 64 := by
  have : ∀ (l : List Bytes) (acc : List Bytes), (∀ x ∈ acc, x.length ≤ 64) → ∀ x ∈ l.foldl (fun acc s => acc ++ itemF up acc.length s) acc, x.length ≤ 64 := by
    intro l
    induction l with
    | nil => intro acc h; exact h
    | cons s l ih =>
      intro acc h
      refine ih _ fun x hx => ?_
      rcases List.mem_append.1 hx with h1 | h1
      · exact h x h1
      · exact itemF_le _ _ _ x h1
  exact this l [] (by simp)
theorem first_len {d : DataSet} {n c : Int} (h1 : d.Owner.length ≤ 31) (h2 : d.Volume.length ≤ 31) : (first d n c).length ≤ 1100 := by
  have a := encs_len (nums d)
  have a1 := enc_len d.Class
  have a2 := enc_len d.Created
  have a3 := enc_len d.Expires
  have a4 := enc_len n
  have a5 := enc_len c
  have a6 := R01.text_len d.Owner (by omega)
  have a7 := R01.text_len d.Volume (by omega)
  have a8 : (nums d).length = 14 := rfl
  unfold first
  simp only [List.length_append, R01.bool_len]
  omega
theorem items_len {d : DataSet} {n : Int} {ps : List Pair} (h : valid d n ps = true) (i : Nat) : ((items d n ps).getD i []).length ≤ 1100 := by
  have hb := valid_bounds h
  cases i with
  | zero => exact first_len hb.1 hb.2.1
  | succ i =>
    show ((ps.map pair).getD i []).length ≤ 1100
    have hp := valid_pairs h i
    rw [List.getD_eq_getElem?_getD] at *
    rw [List.getElem?_map]
    cases hx : ps[i]? with
    | none => simp
    | some p =>
      rw [hx] at hp
      simp only [Option.getD_some, Option.map_some] at *
      have := R01.text_len p.key (by omega)
      have := R01.text_len p.record (by omega)
      unfold pair
      rw [List.length_append]; omega
theorem items_length {d : DataSet} {n : Int} {ps : List Pair} : (items d n ps).length = ps.length + 1 := by simp [items]
theorem chunk_of (up : UInt32 → Bytes → UInt32) {n o i m : Nat} {s : Bytes} (hm : m = n + i) (ho : o = 56 * i) : frame up (m : Int) (decide ((o : Int) = 0)) (decide ((s.length : Int) ≤ (o : Int) + 56)) (sub s o (min (o + 56) s.length)) = chunk up n s i := by
  subst hm ho
  unfold chunk
  rw [Nat.min_comm]
  congr 1 <;> exact decide_eq_decide.2 (by omega)
theorem chunk_of2 (up : UInt32 → Bytes → UInt32) {n o i m : Nat} {s : Bytes} (hm : m = n + i) (ho : o = 56 * i) : frame up (m : Int) (decide ((o : Int) = 0)) (decide ((s.length : Int) ≤ (o : Int) + 56)) (sub s o (min s.length (o + 56))) = chunk up n s i := by
  rw [Nat.min_comm]; exact chunk_of up hm ho
theorem encode_bad {up : UInt32 → Bytes → UInt32} {d : DataSet} {n : Int} {ps : List Pair} (h : valid d n ps = false) : [] = encode up d n ps := by unfold encode; rw [h]; rfl
theorem okE_false {b : Bool} (h : b = false) : (1 : Int) = okE b := by rw [h]; rfl
theorem okE_true {b : Bool} (h : b = true) : (0 : Int) = okE b := by rw [h]; rfl
theorem chunks_len (up : UInt32 → Bytes → UInt32) (m : Nat) (s : Bytes) (i : Nat) : ((List.range i).map (chunk up m s)).flatten.length ≤ 64 * i := by
  have := flatten_le ((List.range i).map (chunk up m s)) (by
    intro x hx
    obtain ⟨j, _, rfl⟩ := List.mem_map.1 hx
    exact frame_le _ _ _ _ _)
  simpa using this
theorem bytes_step (up : UInt32 → Bytes → UInt32) {bs cs : Bytes} {m i : Nat} {s : Bytes} (h : cs = bs ++ ((List.range i).map (chunk up m s)).flatten) (t : Bytes) (ht : t = chunk up m s i) : cs ++ t = bs ++ ((List.range (i + 1)).map (chunk up m s)).flatten := by
  rw [h, ht, List.range_succ, List.map_append, List.flatten_append, List.append_assoc]; simp
theorem enc_next {up : UInt32 → Bytes → UInt32} {l : List Bytes} {k m q i : Nat} {bs cs : Bytes} (hk : k < l.length) (hm : m = (frames up (l.take k)).length) (hb : bs = (frames up (l.take k)).flatten) (hi : i ≤ chunks (l.getD k [])) (hi2 : ¬ 56 * i < (l.getD k []).length)
    (hq : q = m + i) (hc : cs = bs ++ ((List.range i).map (chunk up m (l.getD k []))).flatten) : q = (frames up (l.take (k + 1))).length ∧ cs = (frames up (l.take (k + 1))).flatten := by
  have hi3 : i = chunks (l.getD k []) := by unfold chunks at *; omega
  rw [frames_succ _ _ _ hk, List.length_append, List.flatten_append, itemF_len, ← hm, ← hb, ← hi3]
  refine ⟨hq, ?_⟩
  rw [hc, hi3]; rfl
theorem encode_end2 {up : UInt32 → Bytes → UInt32} {d : DataSet} {n : Int} {ps : List Pair} {k : Nat} {bs : Bytes} (h : valid d n ps = true) (hk : k ≤ (items d n ps).length) (hk2 : ¬ (k : Int) < (items d n ps).length) (hb : bs = (frames up ((items d n ps).take k)).flatten) : bs = encode up d n ps := by
  unfold encode; rw [h, hb, List.take_of_length_le (by omega)]; rfl
def rN (s : Bytes) : Int := (((s.getD 0 0).toNat + 256 * (s.getD 1 0).toNat : Nat) : Int)
def rA (s : Bytes) : Bool := decide (s.getD 2 0 % 2 = 1)
def rB (s : Bytes) : Bool := decide ((2 : UInt8) ≤ s.getD 2 0)
def rD (s : Bytes) : Bytes := sub s 4 (4 + (s.getD 3 0).toNat)
def rPre (s : Bytes) : Bool := decide (s.length = 64) && decide (s.getD 2 0 ≤ 3) && decide (1 ≤ s.getD 3 0) && decide (s.getD 3 0 ≤ 56)
def rOk (up : UInt32 → Bytes → UInt32) (s : Bytes) : Bool := rPre s && decide (frame up (rN s) (rA s) (rB s) (rD s) = s)
def rfN (up : UInt32 → Bytes → UInt32) (s : Bytes) : Int := if rOk up s then rN s else 0
def rfA (up : UInt32 → Bytes → UInt32) (s : Bytes) : Bool := if rOk up s then rA s else false
def rfB (up : UInt32 → Bytes → UInt32) (s : Bytes) : Bool := if rOk up s then rB s else false
def rfD (up : UInt32 → Bytes → UInt32) (s : Bytes) : Bytes := if rOk up s then rD s else []
def rfE (up : UInt32 → Bytes → UInt32) (s : Bytes) : Int := if rOk up s then 0 else 11
theorem rOk_pre {up : UInt32 → Bytes → UInt32} {s : Bytes} (h : (((s.length : Int) ≠ 64 ∨ (3 : UInt8) < s.getD 2 0) ∨ s.getD 3 0 < (1 : UInt8)) ∨ (56 : UInt8) < s.getD 3 0) : rOk up s = false := by
  have : rPre s = false := by
    rw [Bool.eq_false_iff]
    intro h2
    simp only [rPre, Bool.and_eq_true, decide_eq_true_eq] at h2
    simp only [UInt8.lt_iff_toNat_lt, UInt8.le_iff_toNat_le] at h h2
    omega
  rw [rOk, this]; rfl
theorem rOk_ne {up : UInt32 → Bytes → UInt32} {s : Bytes} (h : frame up (((s.getD 0 0).toNat + 256 * (s.getD 1 0).toNat : Nat) : Int) (decide (s.getD 2 0 % 2 = (1 : UInt8))) (decide ((2 : UInt8) ≤ s.getD 2 0)) (sub s 4 (4 + (s.getD 3 0).toNat)) ≠ s) : rOk up s = false := by
  have : decide (frame up (rN s) (rA s) (rB s) (rD s) = s) = false := decide_eq_false h
  rw [rOk, this, Bool.and_false]
theorem rOk_eq {up : UInt32 → Bytes → UInt32} {s : Bytes} (h1 : ¬ (s.length : Int) ≠ 64) (h2 : ¬ (3 : UInt8) < s.getD 2 0) (h3 : ¬ s.getD 3 0 < (1 : UInt8)) (h4 : ¬ (56 : UInt8) < s.getD 3 0) (h : ¬ frame up (((s.getD 0 0).toNat + 256 * (s.getD 1 0).toNat : Nat) : Int) (decide (s.getD 2 0 % 2 = (1 : UInt8))) (decide ((2 : UInt8) ≤ s.getD 2 0)) (sub s 4 (4 + (s.getD 3 0).toNat)) ≠ s) : rOk up s = true := by
  have e : decide (frame up (rN s) (rA s) (rB s) (rD s) = s) = true := decide_eq_true (Decidable.not_not.1 h)
  have : rPre s = true := by
    simp only [rPre, Bool.and_eq_true, decide_eq_true_eq]
    simp only [UInt8.lt_iff_toNat_lt, UInt8.le_iff_toNat_le] at *
    omega
  rw [rOk, this, e]; rfl
theorem rN_or (s : Bytes) : (((s.getD 0 0).toNat ||| (s.getD 1 0).toNat * 2 ^ 8 : Nat) : Int) = rN s := by
  unfold rN
  congr 1
  have h := Nat.two_pow_add_eq_or_of_lt (i := 8) (b := (s.getD 0 0).toNat) (s.getD 0 0).toNat_lt (s.getD 1 0).toNat
  rw [Nat.mul_comm (s.getD 1 0).toNat, Nat.or_comm, ← h]
  omega
set_option maxRecDepth 8192 in
theorem and_marks : ∀ q : Nat, q < 256 → (q &&& 1 = 1 ↔ q % 2 = 1) ∧ (q ≤ 3 → (q &&& 2 = 2 ↔ 2 ≤ q)) := by decide
theorem rA_and (s : Bytes) : decide (s.getD 2 0 &&& 1 = (1 : UInt8)) = rA s := by
  unfold rA
  refine decide_eq_decide.2 ?_
  rw [← UInt8.toNat_inj, ← UInt8.toNat_inj, UInt8.toNat_and, UInt8.toNat_mod]
  exact (and_marks _ (s.getD 2 0).toNat_lt).1
theorem rB_and {s : Bytes} (h2 : ¬ (3 : UInt8) < s.getD 2 0) : decide (s.getD 2 0 &&& 2 = (2 : UInt8)) = rB s := by
  unfold rB
  refine decide_eq_decide.2 ?_
  rw [← UInt8.toNat_inj, UInt8.toNat_and, UInt8.le_iff_toNat_le]
  rw [UInt8.lt_iff_toNat_lt] at h2
  exact (and_marks _ (s.getD 2 0).toNat_lt).2 (by have : ¬ 3 < (s.getD 2 0).toNat := h2; omega)
theorem rOkN_ne {up : UInt32 → Bytes → UInt32} {s : Bytes} (h2 : ¬ (3 : UInt8) < s.getD 2 0) (h : frame up (((s.getD 0 0).toNat ||| (s.getD 1 0).toNat * 2 ^ 8 : Nat) : Int) (decide (s.getD 2 0 &&& 1 = (1 : UInt8))) (decide (s.getD 2 0 &&& 2 = (2 : UInt8))) (sub s 4 (4 + (s.getD 3 0).toNat)) ≠ s) : rOk up s = false := by
  rw [rN_or, rA_and, rB_and h2] at h; exact rOk_ne h
theorem rOkN_eq {up : UInt32 → Bytes → UInt32} {s : Bytes} (h1 : ¬ (s.length : Int) ≠ 64) (h2 : ¬ (3 : UInt8) < s.getD 2 0) (h3 : ¬ s.getD 3 0 < (1 : UInt8)) (h4 : ¬ (56 : UInt8) < s.getD 3 0) (h : ¬ frame up (((s.getD 0 0).toNat ||| (s.getD 1 0).toNat * 2 ^ 8 : Nat) : Int) (decide (s.getD 2 0 &&& 1 = (1 : UInt8))) (decide (s.getD 2 0 &&& 2 = (2 : UInt8))) (sub s 4 (4 + (s.getD 3 0).toNat)) ≠ s) : rOk up s = true := by
  rw [rN_or, rA_and, rB_and h2] at h; exact rOk_eq h1 h2 h3 h4 h
section
variable {up : UInt32 → Bytes → UInt32} {s : Bytes}
theorem rfN_bad (h : rOk up s = false) : 0 = rfN up s := by rw [rfN, h]; rfl
theorem rfA_bad (h : rOk up s = false) : false = rfA up s := by rw [rfA, h]; rfl
theorem rfB_bad (h : rOk up s = false) : false = rfB up s := by rw [rfB, h]; rfl
theorem rfD_bad (h : rOk up s = false) : [] = rfD up s := by rw [rfD, h]; rfl
theorem rfE_bad (h : rOk up s = false) : 11 = rfE up s := by rw [rfE, h]; rfl
theorem rfN_ok (h : rOk up s = true) : rN s = rfN up s := by rw [rfN, h]; rfl
theorem rfA_ok (h : rOk up s = true) : rA s = rfA up s := by rw [rfA, h]; rfl
theorem rfB_ok (h : rOk up s = true) : rB s = rfB up s := by rw [rfB, h]; rfl
theorem rfD_ok (h : rOk up s = true) : rD s = rfD up s := by rw [rfD, h]; rfl
theorem rfE_ok (h : rOk up s = true) : 0 = rfE up s := by rw [rfE, h]; rfl
end
def same (d : DataSet) (n : Int) (ps : List Pair) (e : DataSet) (m : Int) (qs : List Pair) : Bool := decide (d = e) && decide (n = m) && decide (ps = qs)
def bigP (p : Pair) : Bool := decide (40 < (p.key.length : Int)) || decide (1010 < (p.record.length : Int))
def few (d : DataSet) (ps : List Pair) : Bool := decide (d.Owner.length ≤ 40) && decide (d.Volume.length ≤ 40) && decide (ps.length ≤ 30) && !(ps.any bigP)
theorem list_ne {ps qs : List Pair} (h : ps ≠ qs) : false = decide (ps = qs) := (decide_eq_false h).symm
theorem list_eq {ps qs : List Pair} {k : Nat} (hl : ps.length = qs.length) (hk : k ≤ ps.length) (hk2 : ps.length ≤ k) (h : ∀ i, i < k → ps.getD i default = qs.getD i default) : true = decide (ps = qs) := by
  refine (decide_eq_true (List.ext_getElem hl fun i h1 h2 => ?_)).symm
  have := h i (by omega)
  simpa [List.getD_eq_getElem?_getD, List.getElem?_eq_getElem h1, List.getElem?_eq_getElem h2] using this
section
variable {d e : DataSet} {n m : Int} {ps qs : List Pair} {k : Nat}
theorem few_bad (hk : k < ps.length) (h : 40 < ((ps.getD k default).key.length : Int) ∨ 1010 < ((ps.getD k default).record.length : Int)) : false = few d ps := by
  have hb : bigP (ps.getD k default) = true := by unfold bigP; simp only [Bool.or_eq_true, decide_eq_true_eq]; exact h
  have : ps.any bigP = true := by
    refine List.any_eq_true.2 ⟨ps.getD k default, ?_, hb⟩
    rw [List.getD_eq_getElem?_getD, List.getElem?_eq_getElem hk]
    exact List.getElem_mem _
  unfold few; rw [this]; simp
theorem few_end (hk : k ≤ ps.length) (hk2 : ¬ (k : Int) < ps.length) (h2 : ∀ i, i < k → bigP (ps.getD i default) = false) :
    ((decide ((d.Owner.length : Int) ≤ 40) && decide ((d.Volume.length : Int) ≤ 40)) && decide ((ps.length : Int) ≤ 30)) = few d ps := by
  have e2 : ps.any bigP = false := by
    rw [List.any_eq_false]
    intro x hx
    obtain ⟨i, hi, rfl⟩ := List.getElem_of_mem hx
    have := h2 i (by omega)
    rw [List.getD_eq_getElem?_getD, List.getElem?_eq_getElem hi] at this
    simp only [Option.getD_some] at this
    rw [this]; decide
  unfold few
  rw [e2]
  have a1 : decide ((d.Owner.length : Int) ≤ 40) = decide (d.Owner.length ≤ 40) := decide_eq_decide.2 (by omega)
  have a2 : decide ((d.Volume.length : Int) ≤ 40) = decide (d.Volume.length ≤ 40) := decide_eq_decide.2 (by omega)
  have a3 : decide ((ps.length : Int) ≤ 30) = decide (ps.length ≤ 30) := decide_eq_decide.2 (by omega)
  rw [a1, a2, a3]; simp
end
end R14
end Go.Proofs.Ytodfebhimadaiaa
