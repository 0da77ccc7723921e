/- Pl27: the plain functions of chapter 27: a store, a plan, what is found. -/
import Derived.Test.YtmbinhhlfbgiaaaGreatUpgradeUnique8
import Derived.Test.YtmbinhhlfbgiaaaGreatUpgradeUnique3
namespace Go.Proofs.YtmbinhhlfbgiaaaGreat
open Go.GV
namespace R02
theorem fold_take {α β : Type} (f : β → α → β) (c : β) (s : List α) (d : α) (k : Nat) (h : k < s.length) : (s.take (k + 1)).foldl f c = f ((s.take k).foldl f c) (s.getD k d) := by
  rw [List.take_succ_eq_append_getElem h, List.foldl_append, List.getD_eq_getElem?_getD, List.getElem?_eq_getElem h]; rfl
end R02
namespace R27
def gtB (a b : Bytes) : Bool := !(Op.bytesLess a b || decide (a = b))
def keyVal (k : Bytes) : Nat := k.foldl (fun n c => n * 256 + c.toNat) 0
def number (k : Bytes) : Int × Bool := if k.length = 8 ∧ keyVal k ≤ 1099511627776 then ((keyVal k : Int), true) else (0, false)
def isSlot (k : Bytes) : Bool := ((number k).2 && decide (1 ≤ (number k).1)) && decide ((number k).1 ≤ 65536)
def ofK (d : DataSet) (r : Bytes) : Bytes × Int := if R16.valid d = false then ([], 1) else if d.Org ≠ 3 then ([], 7) else if (r.length : Int) < d.KeyAt + d.KeyLength ∨ d.Length < r.length then ([], 2) else (sub r d.KeyAt.toNat (d.KeyAt + d.KeyLength).toNat, 0)
def isBase (d : DataSet) : Bool := R16.valid d && decide (1 ≤ d.Id) && decide (d.Id ≤ 1099511627776) && decide (d.Base = 0)
def distinct : List DataSet → Bool
  | [] => true
  | a :: l => !(l.any fun b => decide (b.Id = a.Id)) && distinct l
def isSphere (base : DataSet) (alts : List DataSet) : Bool := isBase base && decide (alts.length ≤ 4) && alts.all (R26.valid base) && decide (alts.map (·.Id)).Nodup
def ck1 (c : Change) : Bool := decide (c.Key = ([] : Bytes)) && decide (c.Record = ([] : Bytes))
def ck2 (d : DataSet) (c : Change) : Bool := decide (((c.Key.length : Nat) : Int) = d.KeyLength) && decide (c.Record = ([] : Bytes))
def ck3 (d : DataSet) (c : Change) : Bool := decide ((ofK d c.Record).2 = 0) && decide ((ofK d c.Record).1 = c.Key)
def ck4 (d : DataSet) (c : Change) : Bool := (decide (((c.Key.length : Nat) : Int) = 8) && decide ((1 : Int) ≤ ((c.Record.length : Nat) : Int))) && decide (((c.Record.length : Nat) : Int) ≤ d.Length)
def ck5 (c : Change) : Bool := isSlot c.Key && decide (c.Record = ([] : Bytes))
def ck6 (d : DataSet) (c : Change) : Bool := isSlot c.Key && decide (((c.Record.length : Nat) : Int) = d.Length)
def kindOk (d : DataSet) (c : Change) : Bool :=
  if c.Kind = 3 then ck1 c
  else if d.Org = 3 then (if c.Kind = 1 then ck2 d c else if c.Kind = 0 then ck3 d c else false)
  else if d.Org = 1 then (if c.Kind = 2 then ck4 d c else false)
  else (if c.Kind = 1 then ck5 c else if c.Kind = 0 then ck6 d c else false)
def isChange (d : DataSet) (c : Change) : Bool := decide (c.Id = d.Id) && decide (c.Volume = []) && kindOk d c
theorem kinds (d : DataSet) (c : Change) (h : R16.valid d = true) : (d.Org = 3 ∧ c.Kind = 3) ∨ (d.Org = 3 ∧ c.Kind = 1) ∨ (d.Org = 3 ∧ c.Kind = 0) ∨ (d.Org = 3 ∧ c.Kind ≠ 3 ∧ c.Kind ≠ 1 ∧ c.Kind ≠ 0) ∨ (d.Org = 1 ∧ c.Kind = 3) ∨ (d.Org = 1 ∧ c.Kind = 2) ∨ (d.Org = 1 ∧ c.Kind ≠ 3 ∧ c.Kind ≠ 2) ∨ (d.Org = 2 ∧ c.Kind = 3) ∨ (d.Org = 2 ∧ c.Kind = 1) ∨ (d.Org = 2 ∧ c.Kind = 0) ∨ (d.Org = 2 ∧ c.Kind ≠ 3 ∧ c.Kind ≠ 1 ∧ c.Kind ≠ 0) := by
  have := (R16.valid_facts h).1
  have := (R16.valid_facts h).2.1
  omega
def ofD (ds : List Data) (id : Int) : Data := (ds.find? fun x => decide (x.Id = id)).getD default
def ofP (ds : List Data) (id : Int) : List Pair := (ofD ds id).Pairs
def getR (l : List Pair) (k : Bytes) : Bytes × Int := match l.find? fun p => decide (p.key = k) with
  | some p => (p.record, 0)
  | none => ([], 6)
def nextR (l : List Pair) (k : Bytes) : Bytes × Bytes × Int := match l.find? fun p => gtB p.key k with
  | some p => (p.key, p.record, 0)
  | none => ([], [], 6)
def begins (s k : Bytes) : Bool := decide (((k.length : Nat) : Int) ≤ ((s.length : Nat) : Int)) && decide (sub s 0 k.length = k)
def dup (l : List Pair) (k base : Bytes) : Int :=
  if (nextR l k).2.2 ≠ 0 then 0 else if begins (nextR l k).1 k = false then 0 else if (nextR l k).1 ≠ k ++ base then 19
  else if (nextR l (k ++ base)).2.2 ≠ 0 then 0 else if begins (nextR l (k ++ base)).1 k = false then 0 else 19
def sideV (a : DataSet) (r : Bytes) (there : Bool) : side := if (!(R26.key a r).2 || !there) = true then side.mk [] false else side.mk (R26.key a r).1 true
def befo (old : Bytes) (there : Bool) (a : DataSet) : side := sideV a old there
def aftr (c : Change) (a : DataSet) : side := sideV a c.Record (decide (c.Kind ≠ 1))
def stepA (ds : List Data) (c : Change) (old : Bytes) (there : Bool) (a : DataSet) (st : List Change × List Change × Int) : List Change × List Change × Int :=
  if st.2.2 ≠ 0 then st else
    if befo old there a = aftr c a then st else
      (st.1 ++ (if (befo old there a).has = true then [⟨1, a.Id, (befo old there a).key ++ c.Key, [], []⟩] else []),
       st.2.1 ++ (if (aftr c a).has = true then [⟨0, a.Id, (aftr c a).key ++ c.Key, (aftr c a).key ++ c.Key, []⟩] else []),
       if (aftr c a).has = true ∧ a.Unique = true then dup (ofD ds a.Id).Pairs (aftr c a).key c.Key else 0)
def stepsA (ds : List Data) (c : Change) (old : Bytes) (there : Bool) (l : List DataSet) (st : List Change × List Change × Int) : List Change × List Change × Int := l.foldl (fun st a => stepA ds c old there a st) st
def own (c : Change) : Change := if c.Kind = 2 then ⟨c.Kind, c.Id, [], c.Record, c.Volume⟩ else c
def oldR (ds : List Data) (base : DataSet) (c : Change) : Bytes × Int := if c.Kind ≠ 2 then getR (ofD ds base.Id).Pairs c.Key else ([], 6)
def steps (ds : List Data) (c : Change) (old : Bytes) (there : Bool) (alts : List DataSet) : List Change × List Change × Int := stepsA ds c old there alts ([own c], [], 0)
def plan (ds : List Data) (base : DataSet) (alts : List DataSet) (c : Change) : List Change × Int :=
  if (isSphere base alts && isChange base c) = false then ([], 1)
  else if c.Kind = 3 then (own c :: alts.map (fun a => ⟨3, a.Id, [], [], []⟩), 0)
  else if (oldR ds base c).2 ≠ 0 ∧ ((oldR ds base c).2 ≠ 6 ∨ c.Kind = 1) then ([], (oldR ds base c).2)
  else if (steps ds c (oldR ds base c).1 (decide ((oldR ds base c).2 = 0)) alts).2.2 ≠ 0 then ([], (steps ds c (oldR ds base c).1 (decide ((oldR ds base c).2 = 0)) alts).2.2)
  else ((steps ds c (oldR ds base c).1 (decide ((oldR ds base c).2 = 0)) alts).1 ++ (steps ds c (oldR ds base c).1 (decide ((oldR ds base c).2 = 0)) alts).2.1, 0)
def findGo (l : List Pair) (a : DataSet) (k : Bytes) : Nat → Bytes → List Bytes → List Bytes × Int
  | 0, _, out => (out, 0)
  | m + 1, at_, out =>
    if (nextR l at_).2.2 ≠ 0 then (out, 0)
    else if (((nextR l at_).1.length : Nat) : Int) ≠ a.KeyLength then ([], 11)
    else if begins (nextR l at_).1 k = false then (out, 0)
    else findGo l a k m (nextR l at_).1 (out ++ [(nextR l at_).1.drop k.length])
def find (ds : List Data) (a : DataSet) (k : Bytes) (most : Int) : List Bytes × Int :=
  if R26.isAlt a = false ∨ most < 0 ∨ 1024 < most then ([], 1) else if (k.length : Int) ≠ a.AltLength then ([], 2) else findGo (ofD ds a.Id).Pairs a k most.toNat k []
section
variable {ds : List Data} {id : Int} {k : Nat}
theorem keyVal_take (s : Bytes) {k : Nat} (h : k < s.length) : keyVal (s.take (k + 1)) = keyVal (s.take k) * 256 + (s.getD k 0).toNat := by
  unfold keyVal
  rw [R02.fold_take (fun n (c : UInt8) => n * 256 + c.toNat) 0 s 0 k h]
theorem keyVal_lt (s : Bytes) : ∀ k, k ≤ s.length → keyVal (s.take k) < 2 ^ (8 * k)
  | 0, _ => by show (0 : Nat) < 1; decide
  | k + 1, h => by
    have ih := keyVal_lt s k (by omega)
    rw [keyVal_take s (by omega)]
    have hb := (s.getD k 0).toNat_lt
    have e : 2 ^ (8 * (k + 1)) = 2 ^ (8 * k) * 256 := by rw [Nat.mul_add, Nat.pow_add]
    rw [e]; omega
theorem keyVal_low (s : Bytes) (h0 : s.getD 0 0 = 0) (h1 : s.getD 1 0 = 0) : ∀ k, k ≤ s.length → keyVal (s.take k) < 2 ^ (8 * (k - 2))
  | 0, _ => by show (0 : Nat) < 1; decide
  | 1, h => by
    have hz : keyVal (s.take 0) = 0 := rfl
    rw [keyVal_take s (by omega), h0, hz]; decide
  | 2, h => by
    have hz : keyVal (s.take 0) = 0 := rfl
    rw [keyVal_take s (by omega), keyVal_take s (by omega), h0, h1, hz]; decide
  | k + 3, h => by
    have ih := keyVal_low s h0 h1 (k + 2) (by omega)
    rw [keyVal_take s (by omega)]
    have hb := (s.getD (k + 2) 0).toNat_lt
    have e : 2 ^ (8 * (k + 3 - 2)) = 2 ^ (8 * (k + 2 - 2)) * 256 := by rw [show k + 3 - 2 = (k + 2 - 2) + 1 by omega, Nat.mul_add, Nat.pow_add]
    rw [e]; omega
theorem keyVal_mono (s : Bytes) {j : Nat} : ∀ k, j ≤ k → k ≤ s.length → keyVal (s.take j) * 256 ^ (k - j) ≤ keyVal (s.take k) := by
  intro k hjk hk
  obtain ⟨m, rfl⟩ : ∃ m, k = j + m := ⟨k - j, by omega⟩
  induction m with
  | zero => simp
  | succ m ih =>
    have ih := ih (by omega) (by omega)
    rw [← Nat.add_assoc, keyVal_take s (by omega), show j + m + 1 - j = (j + m - j) + 1 by omega, Nat.pow_succ, ← Nat.mul_assoc]
    omega
theorem number_len {k : Bytes} (h : k.length ≠ 8) : number k = (0, false) := if_neg fun h2 => h h2.1
theorem number_big {k : Bytes} (h : 1099511627776 < keyVal k) : number k = (0, false) := if_neg fun h2 => by omega
theorem number_ok {k : Bytes} (h : k.length = 8) (h2 : keyVal k ≤ 1099511627776) : number k = ((keyVal k : Int), true) := if_pos ⟨h, h2⟩
theorem number_top {k : Bytes} (hl : k.length = 8) (h : (0 : UInt8) < k.getD 0 0 ∨ (0 : UInt8) < k.getD 1 0) : number k = (0, false) := by
  apply number_big
  have h2 := keyVal_mono k (j := 2) 8 (by omega) (by omega)
  rw [keyVal_take k (by omega), keyVal_take k (by omega)] at h2
  have hz : keyVal (k.take 0) = 0 := rfl
  rw [hz, List.take_of_length_le (by omega)] at h2
  simp only [UInt8.lt_iff_toNat_lt, UInt8.reduceToNat] at h
  have e : 256 ^ (8 - 2) = 281474976710656 := by decide
  rw [e] at h2
  have : 1 ≤ (0 * 256 + (k.getD 0 0).toNat) * 256 + (k.getD 1 0).toNat := by omega
  have := Nat.mul_le_mul_right 281474976710656 this
  omega
theorem key_step {s : Bytes} {n : UInt64} {k : Nat} (hn : n.toNat = keyVal (s.take k)) (hk : k < s.length) (h8 : s.length = 8) : (UInt64.ofBitVec (n.toBitVec <<< 8) ||| (s.getD k 0).toUInt64).toNat = keyVal (s.take (k + 1)) := by
  have hl := keyVal_lt s k (by omega)
  rw [← hn] at hl
  have hb := (s.getD k 0).toNat_lt
  rw [keyVal_take s hk, ← hn]
  have hk7 : k ≤ 7 := by omega
  have hp : 2 ^ (8 * k) ≤ 2 ^ 56 := Nat.pow_le_pow_right (by decide) (by omega)
  have e56 : 2 ^ 56 = 72057594037927936 := by decide
  have e1 : (UInt64.ofBitVec (n.toBitVec <<< 8)).toNat = n.toNat * 256 := by
    show (n.toBitVec <<< 8).toNat = _
    rw [BitVec.toNat_shiftLeft, Nat.shiftLeft_eq]
    exact Nat.mod_eq_of_lt (by show n.toNat * 2 ^ 8 < 2 ^ 64; omega)
  have e2 : ((s.getD k 0).toUInt64).toNat = (s.getD k 0).toNat := rfl
  rw [UInt64.toNat_or, e1, e2, show n.toNat * 256 = n.toNat <<< 8 by rw [Nat.shiftLeft_eq]]
  rw [← Nat.shiftLeft_add_eq_or_of_lt (by omega), Nat.shiftLeft_eq]
theorem keyVal_small {s : Bytes} {k : Nat} (h : s.getD 0 0 = 0 ∧ s.getD 1 0 = 0) (hk : k ≤ 8) (hl : s.length = 8) : keyVal (s.take k) < 281474976710656 := by
  have h1 := keyVal_low s h.1 h.2 k (by omega)
  have h2 : 2 ^ (8 * (k - 2)) ≤ 2 ^ 48 := Nat.pow_le_pow_right (by decide) (by omega)
  have e : 2 ^ 48 = 281474976710656 := by decide
  omega
theorem keyVal_all {s : Bytes} {k : Nat} (hk : k ≤ s.length) (h8 : s.length = 8) (hk2 : ¬ ((k : Nat) : Int) < ((s.length : Nat) : Int)) : keyVal (s.take k) = keyVal s := by
  rw [List.take_of_length_le (by omega)]
theorem number_u64 {s : Bytes} {n : UInt64} {k : Nat} (hk : k ≤ s.length) (h8 : s.length = 8) (hn : n.toNat = keyVal (s.take k)) (hk2 : ¬ ((k : Nat) : Int) < ((s.length : Nat) : Int)) (h : (1099511627776 : UInt64) < n) : number s = (0, false) := by
  rw [keyVal_all hk h8 hk2] at hn
  rw [UInt64.lt_iff_toNat_lt] at h
  exact number_big (by rw [← hn]; exact h)
theorem number_u64b {s : Bytes} {n : UInt64} {k : Nat} (hk : k ≤ s.length) (h8 : s.length = 8) (hn : n.toNat = keyVal (s.take k)) (hk2 : ¬ ((k : Nat) : Int) < ((s.length : Nat) : Int)) (h : ¬ (1099511627776 : UInt64) < n) : number s = ((n.toNat : Int), true) := by
  rw [keyVal_all hk h8 hk2] at hn
  rw [UInt64.lt_iff_toNat_lt] at h
  rw [hn]
  exact number_ok h8 (by rw [← hn]; exact Nat.le_of_not_lt h)
theorem number_cond {s : Bytes} (h : ((decide (((s.length : Nat) : Int) ≠ 8) || decide ((0 : UInt8) < s.getD 0 0)) || decide ((0 : UInt8) < s.getD 1 0)) = true) : number s = (0, false) := by
  simp only [Bool.or_eq_true, decide_eq_true_eq] at h
  by_cases hl : s.length = 8
  · exact number_top hl (by rcases h with (h | h) | h <;> first | omega | exact .inl h | exact .inr h)
  · exact number_len hl
theorem tops {s : Bytes} (h : ((decide (((s.length : Nat) : Int) ≠ 8) || decide ((0 : UInt8) < s.getD 0 0)) || decide ((0 : UInt8) < s.getD 1 0)) = false) : s.getD 0 0 = 0 ∧ s.getD 1 0 = 0 := by
  simp only [Bool.or_eq_false_iff, decide_eq_false_iff_not, UInt8.lt_iff_toNat_lt, UInt8.reduceToNat] at h
  exact ⟨UInt8.toNat_inj.1 (show (s.getD 0 0).toNat = 0 by omega), UInt8.toNat_inj.1 (show (s.getD 1 0).toNat = 0 by omega)⟩
theorem number_nat {s : Bytes} {n k : Nat} (hk : k ≤ 8) (h8 : s.length = 8) (hn : n = keyVal (s.take k)) (hk2 : 8 ≤ k) (h : 1099511627776 < n) : number s = (0, false) := by
  rw [List.take_of_length_le (by omega)] at hn
  exact number_big (by omega)
theorem number_natb {s : Bytes} {n k : Nat} (hk : k ≤ 8) (h8 : s.length = 8) (hn : n = keyVal (s.take k)) (hk2 : 8 ≤ k) (h : n ≤ 1099511627776) : number s = ((n : Int), true) := by
  rw [List.take_of_length_le (by omega)] at hn
  rw [hn]
  exact number_ok h8 (by omega)
section
variable {d : DataSet} {r : Bytes}
theorem of_bad (h : R16.valid d = false) : ofK d r = ([], 1) := if_pos h
theorem of_type (h : R16.valid d = true) (h2 : d.Org ≠ 3) : ofK d r = ([], 7) := by
  unfold ofK; rw [if_neg (by rw [h]; decide), if_pos h2]
theorem of_range (h : R16.valid d = true) (h2 : ¬ d.Org ≠ 3) (h3 : (r.length : Int) < d.KeyAt + d.KeyLength ∨ d.Length < r.length) : ofK d r = ([], 2) := by
  unfold ofK; rw [if_neg (by rw [h]; decide), if_neg h2, if_pos h3]
theorem of_rangeA (h : R16.valid d = true) (h2 : ¬ d.Org ≠ 3) (h3 : (!(decide (d.KeyAt + d.KeyLength ≤ ((r.length : Nat) : Int)) && decide (((r.length : Nat) : Int) ≤ d.Length))) = true) : ofK d r = ([], 2) := by
  refine of_range h h2 ?_
  simp only [Bool.not_eq_true', Bool.and_eq_false_iff, decide_eq_false_iff_not] at h3
  omega
theorem of_rangeB (h : R16.valid d = true) (h2 : ¬ d.Org ≠ 3) (h3 : (decide (d.Length < ((r.length : Nat) : Int)) || decide (((r.length : Nat) : Int) < d.KeyAt + d.KeyLength)) = true) : ofK d r = ([], 2) := by
  refine of_range h h2 ?_
  simp only [Bool.or_eq_true, decide_eq_true_eq] at h3
  omega
theorem of_ok (h : R16.valid d = true) (h2 : ¬ d.Org ≠ 3) (h3 : ¬ ((r.length : Int) < d.KeyAt + d.KeyLength ∨ d.Length < r.length)) : ofK d r = (sub r d.KeyAt.toNat (d.KeyAt + d.KeyLength).toNat, 0) := by
  unfold ofK; rw [if_neg (by rw [h]; decide), if_neg h2, if_neg h3]
end
theorem of_okA {d : DataSet} {r : Bytes} (h : R16.valid d = true) (h2 : ¬ d.Org ≠ 3) (h3 : (!(decide (d.KeyAt + d.KeyLength ≤ ((r.length : Nat) : Int)) && decide (((r.length : Nat) : Int) ≤ d.Length))) = false) : ofK d r = (sub r d.KeyAt.toNat (d.KeyAt + d.KeyLength).toNat, 0) := by
  refine of_ok h h2 ?_
  simp only [Bool.not_eq_false', Bool.and_eq_true, decide_eq_true_eq] at h3
  omega
theorem of_okB {d : DataSet} {r : Bytes} (h : R16.valid d = true) (h2 : ¬ d.Org ≠ 3) (h3 : (decide (d.Length < ((r.length : Nat) : Int)) || decide (((r.length : Nat) : Int) < d.KeyAt + d.KeyLength)) = false) : ofK d r = (sub r d.KeyAt.toNat (d.KeyAt + d.KeyLength).toNat, 0) := by
  refine of_ok h h2 ?_
  simp only [Bool.or_eq_false_iff, decide_eq_false_iff_not] at h3
  omega
theorem getD_pad {s : Bytes} {k z : Nat} (h : k < s.length) : (s ++ List.replicate z 0).getD k 0 = s.getD k 0 := by
  rw [List.getD_eq_getElem?_getD, List.getElem?_append_left h, ← List.getD_eq_getElem?_getD]
section
variable {base : DataSet} {alts : List DataSet} {k j : Nat} {ids : List Int}
def Sph (base : DataSet) (alts : List DataSet) (k : Nat) : Prop := ((alts.take k).map (·.Id)).Nodup ∧ ∀ i, i < k → R26.valid base (alts.getD i default) = true
theorem sph_zero : Sph base alts 0 := ⟨List.nodup_nil, fun _ hi => absurd hi (Nat.not_lt_zero _)⟩
theorem take_ids (hk : k < alts.length) : (alts.take (k + 1)).map (·.Id) = (alts.take k).map (·.Id) ++ [(alts.getD k default).Id] := by
  rw [List.take_succ_eq_append_getElem hk, List.map_append, List.getD_eq_getElem?_getD, List.getElem?_eq_getElem hk]; rfl
theorem sph_step (hk : k < alts.length) (h : Sph base alts k) (h1 : (alts.getD k default).Id ∉ (alts.take k).map (·.Id)) (h2 : R26.valid base (alts.getD k default) = true) : Sph base alts (k + 1) := by
  refine ⟨?_, fun i hi => ?_⟩
  · rw [take_ids hk, List.nodup_append]
    refine ⟨h.1, by simp, fun x hx y hy e => ?_⟩
    rw [List.mem_singleton] at hy
    exact h1 (by rw [← hy, ← e]; exact hx)
  · by_cases hik : i = k
    · rw [hik]; exact h2
    · exact h.2 i (by omega)
theorem sph_valid (hk : k < alts.length) (h : R26.valid base (alts.getD k default) = false) : isSphere base alts = false := by
  cases hs : isSphere base alts with
  | false => rfl
  | true =>
    unfold isSphere at hs
    simp only [Bool.and_eq_true, List.all_eq_true] at hs
    have := hs.1.2 _ (List.getElem_mem hk)
    rw [List.getD_eq_getElem?_getD, List.getElem?_eq_getElem hk] at h
    have h : R26.valid base alts[k] = false := h
    rw [h] at this; cases this
theorem sph_twice (hk : k < alts.length) (h : (alts.getD k default).Id ∈ (alts.take k).map (·.Id)) : isSphere base alts = false := by
  cases hs : isSphere base alts with
  | false => rfl
  | true =>
    unfold isSphere at hs
    simp only [Bool.and_eq_true, decide_eq_true_eq] at hs
    have hn := hs.2
    have e : alts.map (·.Id) = (alts.take (k + 1)).map (·.Id) ++ (alts.drop (k + 1)).map (·.Id) := by rw [← List.map_append, List.take_append_drop]
    rw [e, take_ids hk, List.append_assoc, List.nodup_append] at hn
    exact absurd rfl (hn.2.2 _ h _ (List.mem_append.2 (.inl (List.mem_singleton.2 rfl))))
theorem sph_all (h : Sph base alts k) (hk : k ≤ alts.length) (hk2 : ¬ ((k : Nat) : Int) < ((alts.length : Nat) : Int)) : isSphere base alts = (isBase base && decide (((alts.length : Nat) : Int) ≤ 4)) := by
  have e : k = alts.length := by omega
  have h1 := h.1
  rw [e, List.take_length] at h1
  have h2 : alts.all (R26.valid base) = true := by
    rw [List.all_eq_true]
    intro x hx
    obtain ⟨i, hi, rfl⟩ := List.mem_iff_getElem.1 hx
    have := h.2 i (by omega)
    rw [List.getD_eq_getElem?_getD, List.getElem?_eq_getElem hi] at this
    exact this
  unfold isSphere
  rw [h2, decide_eq_true h1, Bool.and_true, Bool.and_true]
  congr 1
  rw [Bool.eq_iff_iff, decide_eq_true_eq, decide_eq_true_eq]; omega
theorem sph_base (h : ((((!(R16.valid base) || decide (base.Id < 1)) || decide (1099511627776 < base.Id)) || decide (base.Base ≠ 0)) || decide (4 < ((alts.length : Nat) : Int))) = true) : isSphere base alts = false := by
  cases hs : isSphere base alts with
  | false => rfl
  | true =>
    unfold isSphere isBase at hs
    simp only [Bool.and_eq_true, decide_eq_true_eq] at hs
    simp only [Bool.or_eq_true, decide_eq_true_eq, Bool.not_eq_true'] at h
    obtain ⟨⟨⟨⟨⟨⟨a1, a2⟩, a3⟩, a4⟩, a5⟩, a6⟩, a7⟩ := hs
    rw [a1] at h
    simp only [Bool.true_eq_false, false_or] at h
    omega
theorem sph_good (h : ((((!(R16.valid base) || decide (base.Id < 1)) || decide (1099511627776 < base.Id)) || decide (base.Base ≠ 0)) || decide (4 < ((alts.length : Nat) : Int))) = false) : (isBase base && decide (((alts.length : Nat) : Int) ≤ 4)) = true := by
  simp only [Bool.or_eq_false_iff, decide_eq_false_iff_not, Bool.not_eq_false'] at h
  unfold isBase
  simp only [Bool.and_eq_true, decide_eq_true_eq]
  exact ⟨⟨⟨⟨h.1.1.1.1, by omega⟩, by omega⟩, by omega⟩, by omega⟩
theorem orf1 {a b : Bool} (h : (a || !b) = false) : a = false := by cases a <;> simp_all
theorem orf2 {a b : Bool} (h : (a || !b) = false) : b = true := by cases b <;> simp_all
theorem not_f {b : Bool} (h : (!b) = false) : b = true := by cases b <;> simp_all
theorem not_t {b : Bool} (h : (!b) = true) : b = false := by cases b <;> simp_all
theorem sph_or (hk : k < alts.length) (h1 : ids = (alts.take k).map (·.Id)) (h : (hasK ids (alts.getD k default).Id || !(R26.valid base (alts.getD k default))) = true) : isSphere base alts = false := by
  cases hv : R26.valid base (alts.getD k default) with
  | false => exact sph_valid hk hv
  | true =>
    rw [hv, Bool.not_true, Bool.or_false] at h
    exact sph_twice hk (by rw [← h1]; exact hasK_mem h)
theorem mem_ids (hk : k ≤ alts.length) {x : Int} (h : x ∈ (alts.take k).map (·.Id)) : ∃ i, i < k ∧ (alts.getD i default).Id = x := by
  obtain ⟨a, ha, rfl⟩ := List.mem_map.1 h
  obtain ⟨i, hi, rfl⟩ := List.mem_iff_getElem.1 ha
  rw [List.length_take] at hi
  refine ⟨i, by omega, ?_⟩
  rw [List.getD_eq_getElem?_getD, List.getElem?_eq_getElem (by omega), List.getElem_take]; rfl
theorem ids_at {i : Nat} (hk : k ≤ alts.length) (hi : i < k) (h : (alts.getD i default).Id = (alts.getD k default).Id) : (alts.getD k default).Id ∈ (alts.take k).map (·.Id) := by
  rw [← h]
  refine List.mem_map.2 ⟨alts.getD i default, ?_, rfl⟩
  rw [List.getD_eq_getElem?_getD, List.getElem?_eq_getElem (by omega)]
  show alts[i] ∈ _
  rw [← List.getElem_take (j := k) (h := by rw [List.length_take]; omega)]
  exact List.getElem_mem _
end
section
variable {d : DataSet} {c : Change}
theorem slot_len {k : Bytes} (h : isSlot k = true) : k.length = 8 := by
  unfold isSlot at h
  simp only [Bool.and_eq_true] at h
  by_cases h8 : k.length = 8
  · exact h8
  · rw [number_len h8] at h; cases h.1.1
theorem ic_same (h0 : (decide (c.Id ≠ d.Id) || decide (c.Volume ≠ ([] : Bytes))) = false) : isChange d c = kindOk d c := by
  simp only [Bool.or_eq_false_iff, decide_eq_false_iff_not, ne_eq, Decidable.not_not] at h0
  unfold isChange
  rw [decide_eq_true h0.1, decide_eq_true h0.2]; rfl
theorem ic_1 (h0 : (decide (c.Id ≠ d.Id) || decide (c.Volume ≠ ([] : Bytes))) = true) : false = isChange d c := by
  simp only [Bool.or_eq_true, decide_eq_true_eq] at h0
  unfold isChange
  rcases h0 with h | h
  · rw [decide_eq_false h]; rfl
  · rw [decide_eq_false h, Bool.and_false]; rfl
theorem ic_slot (ho : d.Org = 2) (hk : c.Kind ≠ 3) (hs : ((decide (d.Org = 2) && decide (c.Kind ≠ 3)) && ((!((number c.Key).2) || decide ((number c.Key).1 < 1)) || decide ((65536 : Int) < (number c.Key).1))) = false) : isSlot c.Key = true := by
  rw [decide_eq_true ho, decide_eq_true hk, Bool.true_and, Bool.true_and] at hs
  simp only [Bool.or_eq_false_iff, decide_eq_false_iff_not, Bool.not_eq_false'] at hs
  unfold isSlot
  rw [hs.1.1, decide_eq_true (show 1 ≤ (number c.Key).1 by omega), decide_eq_true (show (number c.Key).1 ≤ 65536 by omega)]; rfl
theorem ic_2 (h0 : (decide (c.Id ≠ d.Id) || decide (c.Volume ≠ ([] : Bytes))) = false) (hs : ((decide (d.Org = 2) && decide (c.Kind ≠ 3)) && ((!((number c.Key).2) || decide ((number c.Key).1 < 1)) || decide ((65536 : Int) < (number c.Key).1))) = true) : false = isChange d c := by
  rw [ic_same h0]
  simp only [Bool.and_eq_true, Bool.or_eq_true, decide_eq_true_eq, Bool.not_eq_true'] at hs
  obtain ⟨⟨ho, hk⟩, hn⟩ := hs
  have hsl : isSlot c.Key = false := by
    cases h : isSlot c.Key with
    | false => rfl
    | true =>
      unfold isSlot at h
      simp only [Bool.and_eq_true, decide_eq_true_eq] at h
      rw [h.1.1] at hn
      simp only [Bool.true_eq_false, false_or] at hn
      omega
  unfold kindOk ck5 ck6
  rw [hsl, if_neg hk, if_neg (by omega), if_neg (by omega)]
  simp
theorem ic_03 (h0 : (decide (c.Id ≠ d.Id) || decide (c.Volume ≠ ([] : Bytes))) = false) (hk : c.Kind = 0) (ho : d.Org = 3) : (decide ((ofK d c.Record).2 = 0) && decide ((ofK d c.Record).1 = c.Key)) = isChange d c := by
  rw [ic_same h0]
  unfold kindOk ck3
  rw [if_neg (by omega), if_pos ho, if_neg (by omega), if_pos hk]
theorem ic_0 (hv : R16.valid d = true) (h0 : (decide (c.Id ≠ d.Id) || decide (c.Volume ≠ ([] : Bytes))) = false) (hs : ((decide (d.Org = 2) && decide (c.Kind ≠ 3)) && ((!((number c.Key).2) || decide ((number c.Key).1 < 1)) || decide ((65536 : Int) < (number c.Key).1))) = false) (hk : c.Kind = 0) (ho : ¬ d.Org = 3) :
    ((decide (d.Org = 2) && decide (((c.Key.length : Nat) : Int) = (if d.Org = 3 then d.KeyLength else (8 : Int)))) && decide (((c.Record.length : Nat) : Int) = d.Length)) = isChange d c := by
  have h1 := (R16.valid_facts hv).1
  have h2 := (R16.valid_facts hv).2.1
  rw [ic_same h0]
  unfold kindOk ck6
  have k3 : ¬ c.Kind = 3 := by omega
  have k1 : ¬ c.Kind = 1 := by omega
  have k2 : ¬ c.Kind = 2 := by omega
  by_cases h : d.Org = 2
  · have hsl := ic_slot h (by omega) hs
    have hl := slot_len hsl
    have o1 : ¬ d.Org = 1 := by omega
    simp only [if_neg k3, if_neg ho, if_neg o1, if_neg k1, if_pos hk]
    rw [hsl, decide_eq_true h, decide_eq_true (show ((c.Key.length : Nat) : Int) = 8 by omega)]; rfl
  · have o1 : d.Org = 1 := by omega
    simp only [if_neg k3, if_neg ho, if_pos o1, if_neg k2]
    rw [decide_eq_false h]; rfl
theorem ic_k1 (hv : R16.valid d = true) (h0 : (decide (c.Id ≠ d.Id) || decide (c.Volume ≠ ([] : Bytes))) = false) (hs : ((decide (d.Org = 2) && decide (c.Kind ≠ 3)) && ((!((number c.Key).2) || decide ((number c.Key).1 < 1)) || decide ((65536 : Int) < (number c.Key).1))) = false) (hk : c.Kind = 1) :
    ((decide (d.Org ≠ 1) && decide (((c.Key.length : Nat) : Int) = (if d.Org = 3 then d.KeyLength else (8 : Int)))) && decide (c.Record = ([] : Bytes))) = isChange d c := by
  have h1 := (R16.valid_facts hv).1
  have h2 := (R16.valid_facts hv).2.1
  rw [ic_same h0]
  unfold kindOk ck2 ck5
  have k3 : ¬ c.Kind = 3 := by omega
  have k2 : ¬ c.Kind = 2 := by omega
  by_cases h : d.Org = 3
  · simp only [if_neg k3, if_pos h, if_pos hk]
    rw [decide_eq_true (show d.Org ≠ 1 by omega), Bool.true_and]
  · by_cases h2 : d.Org = 2
    · have hsl := ic_slot h2 (by omega) hs
      have hl := slot_len hsl
      have o1 : ¬ d.Org = 1 := by omega
      simp only [if_neg k3, if_neg h, if_neg o1, if_pos hk]
      rw [hsl, decide_eq_true (show d.Org ≠ 1 by omega), decide_eq_true (show ((c.Key.length : Nat) : Int) = 8 by omega)]; rfl
    · have o1 : d.Org = 1 := by omega
      simp only [if_neg k3, if_neg h, if_pos o1, if_neg k2]
      rw [decide_eq_false (show ¬ d.Org ≠ 1 by omega)]; rfl
theorem ic_k2 (h0 : (decide (c.Id ≠ d.Id) || decide (c.Volume ≠ ([] : Bytes))) = false) (hk : c.Kind = 2) :
    (((decide (d.Org = 1) && decide (((c.Key.length : Nat) : Int) = (if d.Org = 3 then d.KeyLength else (8 : Int)))) && decide ((1 : Int) ≤ ((c.Record.length : Nat) : Int))) && decide (((c.Record.length : Nat) : Int) ≤ d.Length)) = isChange d c := by
  rw [ic_same h0]
  unfold kindOk ck4
  have k3 : ¬ c.Kind = 3 := by omega
  have k1 : ¬ c.Kind = 1 := by omega
  have k0 : ¬ c.Kind = 0 := by omega
  by_cases h : d.Org = 3
  · simp only [if_neg k3, if_pos h, if_neg k1, if_neg k0]
    rw [decide_eq_false (show ¬ d.Org = 1 by omega)]; rfl
  · by_cases h1 : d.Org = 1
    · simp only [if_neg k3, if_neg h, if_pos h1, if_pos hk]
      rw [decide_eq_true h1, Bool.true_and]
    · simp only [if_neg k3, if_neg h, if_neg h1, if_neg k1, if_neg k0]
      rw [decide_eq_false h1]; rfl
theorem ic_k3 (h0 : (decide (c.Id ≠ d.Id) || decide (c.Volume ≠ ([] : Bytes))) = false) (hk : c.Kind = 3) : (decide (c.Key = ([] : Bytes)) && decide (c.Record = ([] : Bytes))) = isChange d c := by
  rw [ic_same h0]
  unfold kindOk ck1
  rw [if_pos hk]
theorem ic_no (h0 : (decide (c.Id ≠ d.Id) || decide (c.Volume ≠ ([] : Bytes))) = false) (k0 : ¬ c.Kind = 0) (k1 : ¬ c.Kind = 1) (k2 : ¬ c.Kind = 2) (k3 : ¬ c.Kind = 3) : false = isChange d c := by
  rw [ic_same h0]
  unfold kindOk
  rw [if_neg k3, if_neg k1, if_neg k0, if_neg k2, if_neg k1, if_neg k0]
  simp
end
theorem isBase_valid {d : DataSet} (h : isBase d = true) : R16.valid d = true := by
  unfold isBase at h
  simp only [Bool.and_eq_true] at h
  exact h.1.1.1
theorem isSphere_valid {base : DataSet} {alts : List DataSet} (h : isSphere base alts = true) : R16.valid base = true := by
  unfold isSphere at h
  simp only [Bool.and_eq_true] at h
  exact isBase_valid h.1.1.1
theorem ofD_ro {S : List Nat} {w : World} {ds : List Data} (h : ∀ i : Nat, RO S w (ds.getD i default).PairsA ((ds.getD i default).Pairs.flatMap Pair.enc)) (id : Int) : RO S w (ofD ds id).PairsA ((ofD ds id).Pairs.flatMap Pair.enc) := by
  unfold ofD
  cases hf : ds.find? fun x => decide (x.Id = id) with
  | none =>
    have := h ds.length
    rw [List.getD_eq_getElem?_getD, List.getElem?_eq_none (Nat.le_refl _)] at this
    exact this
  | some d =>
    obtain ⟨i, hi, e⟩ := List.mem_iff_getElem.1 (List.mem_of_find?_eq_some hf)
    have := h i
    rw [List.getD_eq_getElem?_getD, List.getElem?_eq_getElem hi, e] at this
    exact this
theorem ofD_len {ds : List Data} {m : Nat} (h : ∀ i : Nat, (ds.getD i default).Pairs.length ≤ m) (id : Int) : (ofD ds id).Pairs.length ≤ m := by
  unfold ofD
  cases hf : ds.find? fun x => decide (x.Id = id) with
  | none => exact Nat.zero_le _
  | some d =>
    obtain ⟨i, hi, e⟩ := List.mem_iff_getElem.1 (List.mem_of_find?_eq_some hf)
    have := h i
    rw [List.getD_eq_getElem?_getD, List.getElem?_eq_getElem hi, e] at this
    exact this
theorem find_hit {α : Type} [Inhabited α] {l : List α} {p : α → Bool} (hk : k < l.length) (h : ∀ i, i < k → p (l.getD i default) = false) (h2 : p (l.getD k default) = true) : l.find? p = some (l.getD k default) := by
  induction l generalizing k with
  | nil => simp at hk
  | cons a l ih =>
    cases k with
    | zero => exact List.find?_cons_of_pos h2
    | succ k =>
      rw [List.find?_cons_of_neg (by have := h 0 (by omega); rw [List.getD_cons_zero] at this; rw [this]; decide)]
      rw [List.getD_cons_succ] at h2 ⊢
      exact ih (by simpa using hk) (fun i hi => by have := h (i + 1) (by omega); rwa [List.getD_cons_succ] at this) h2
theorem find_miss {α : Type} [Inhabited α] {l : List α} {p : α → Bool} (hk : l.length ≤ k) (h : ∀ i, i < k → p (l.getD i default) = false) : l.find? p = none := by
  rw [List.find?_eq_none]
  intro x hx
  obtain ⟨i, hi, rfl⟩ := List.mem_iff_getElem.1 hx
  have := h i (by omega)
  rw [List.getD_eq_getElem?_getD, List.getElem?_eq_getElem hi] at this
  have this : p l[i] = false := this
  rw [this]; decide
theorem ofD_hit (hk : k < ds.length) (h : ∀ i, i < k → (ds.getD i default).Id ≠ id) (h2 : (ds.getD k default).Id = id) : ds.getD k default = ofD ds id := by
  unfold ofD
  rw [find_hit hk (fun i hi => decide_eq_false (h i hi)) (decide_eq_true h2)]; rfl
theorem ofD_miss (hk : ds.length ≤ k) (h : ∀ i, i < k → (ds.getD i default).Id ≠ id) : (default : Data) = ofD ds id := by
  unfold ofD
  rw [find_miss hk (fun i hi => decide_eq_false (h i hi))]; rfl
variable {l : List Pair} {q : Bytes}
theorem get_hit (hk : k < l.length) (h : ∀ i, i < k → (l.getD i default).key ≠ q) (h2 : (l.getD k default).key = q) : getR l q = ((l.getD k default).record, 0) := by
  unfold getR
  rw [find_hit hk (fun i hi => decide_eq_false (h i hi)) (decide_eq_true h2)]
theorem get_miss (hk : l.length ≤ k) (h : ∀ i, i < k → (l.getD i default).key ≠ q) : getR l q = ([], 6) := by
  unfold getR
  rw [find_miss hk (fun i hi => decide_eq_false (h i hi))]
theorem next_hit (hk : k < l.length) (h : ∀ i, i < k → gtB (l.getD i default).key q = false) (h2 : gtB (l.getD k default).key q = true) : nextR l q = ((l.getD k default).key, (l.getD k default).record, 0) := by
  unfold nextR
  rw [find_hit hk h h2]
theorem next_miss (hk : l.length ≤ k) (h : ∀ i, i < k → gtB (l.getD i default).key q = false) : nextR l q = ([], [], 6) := by
  unfold nextR
  rw [find_miss hk h]
theorem next_err (l : List Pair) (q : Bytes) : (nextR l q).2.2 = 0 ∨ (nextR l q).2.2 = 6 := by
  unfold nextR
  cases l.find? fun p => gtB p.key q with
  | none => exact .inr rfl
  | some p => exact .inl rfl
theorem getR_err (l : List Pair) (q : Bytes) : (getR l q).2 = 0 ∨ (getR l q).2 = 6 := by
  unfold getR
  cases l.find? fun p => decide (p.key = q) with
  | none => exact .inr rfl
  | some p => exact .inl rfl
theorem next_gt (h : (nextR l q).2.2 = 0) : gtB (nextR l q).1 q = true := by
  unfold nextR at h ⊢
  cases hf : l.find? fun p => gtB p.key q with
  | none => rw [hf] at h; cases h
  | some p =>
    have := List.find?_some hf
    exact this
def DupAt (l : List Pair) (k base : Bytes) (j : Nat) (at_ : Bytes) : Prop := (j = 0 ∧ at_ = k) ∨ (j = 1 ∧ at_ = k ++ base ∧ (nextR l k).2.2 = 0 ∧ begins (nextR l k).1 k = true ∧ (nextR l k).1 = k ++ base)
variable {kk base at_ : Bytes} {j : Nat}
theorem gt_irrefl {a b : Bytes} (h : gtB a b = true) : a ≠ b := by
  intro e
  unfold gtB at h
  rw [decide_eq_true e, Bool.or_true] at h; cases h
theorem dup_go (h : DupAt l kk base j at_) (hx : (nextR l at_).2.2 ≠ 0 ∨ begins (nextR l at_).1 kk = false) : (0 : Int) = dup l kk base := by
  unfold dup
  rcases h with ⟨rfl, rfl⟩ | ⟨rfl, rfl, h1, h2, h3⟩
  · by_cases he : (nextR l at_).2.2 ≠ 0
    · rw [if_pos he]
    · rw [if_neg he, if_pos (hx.resolve_left he)]
  · rw [if_neg (by rw [h1]; decide), if_neg (by rw [h2]; decide), if_neg (by rw [h3]; simp)]
    by_cases he : (nextR l (kk ++ base)).2.2 ≠ 0
    · rw [if_pos he]
    · rw [if_neg he, if_pos (hx.resolve_left he)]
theorem dup_nf (h : DupAt l kk base j at_) (he : (nextR l at_).2.2 = 6) : (0 : Int) = dup l kk base := dup_go h (.inl (by rw [he]; decide))
theorem dup_er {p : Prop} (h1 : ¬ (nextR l at_).2.2 = 6) (h2 : (nextR l at_).2.2 ≠ 0) : p := by
  rcases next_err l at_ with h | h
  · exact absurd h h2
  · exact absurd h h1
theorem dup_stopA (h : DupAt l kk base j at_) (he : ¬ (nextR l at_).2.2 ≠ 0) (hc : ((Op.bytesLess (nextR l at_).1 at_ || decide ((nextR l at_).1 = at_)) || !(begins (nextR l at_).1 kk)) = true) : (0 : Int) = dup l kk base := by
  have hg := next_gt (Decidable.not_not.1 he)
  unfold gtB at hg
  rw [Bool.not_eq_true'] at hg
  rw [hg, Bool.false_or, Bool.not_eq_true'] at hc
  exact dup_go h (.inr hc)
theorem dup_stopB (h : DupAt l kk base j at_) (he : ¬ (nextR l at_).2.2 ≠ 0) (hc : (!(begins (nextR l at_).1 kk) || (Op.bytesLess (nextR l at_).1 at_ || decide ((nextR l at_).1 = at_))) = true) : (0 : Int) = dup l kk base := dup_stopA h he (by rw [Bool.or_comm]; exact hc)
theorem dup_two (h : DupAt l kk base j at_) (he : ¬ (nextR l at_).2.2 ≠ 0) (hb : begins (nextR l at_).1 kk = true) (hn : (nextR l at_).1 ≠ kk ++ base) : (19 : Int) = dup l kk base := by
  unfold dup
  rcases h with ⟨rfl, rfl⟩ | ⟨rfl, rfl, h1, h2, h3⟩
  · rw [if_neg he, if_neg (by rw [hb]; decide), if_pos hn]
  · rw [if_neg (by rw [h1]; decide), if_neg (by rw [h2]; decide), if_neg (by rw [h3]; simp), if_neg he, if_neg (by rw [hb]; decide)]
theorem dup_next (h : DupAt l kk base j at_) (he : ¬ (nextR l at_).2.2 ≠ 0) (hb : begins (nextR l at_).1 kk = true) (hn : ¬ (nextR l at_).1 ≠ kk ++ base) : DupAt l kk base 1 (nextR l at_).1 ∧ j = 0 := by
  have hn := Decidable.not_not.1 hn
  have he := Decidable.not_not.1 he
  rcases h with ⟨rfl, rfl⟩ | ⟨rfl, rfl, h1, h2, h3⟩
  · exact ⟨.inr ⟨rfl, hn, he, hb, hn⟩, rfl⟩
  · exact absurd hn (gt_irrefl (next_gt he))
theorem begA {x y : Bool} (h : (x || !y) = false) : y = true := by cases y <;> simp_all
theorem begB {x y : Bool} (h : (!y || x) = false) : y = true := by cases y <;> simp_all
end
section
variable {ds : List Data} {c : Change} {old : Bytes} {there : Bool} {a : DataSet} {xs ys : List Change} {alts : List DataSet} {k : Nat} {st : List Change × List Change × Int}
theorem stepsA_succ (hk : k < alts.length) : stepsA ds c old there (alts.take (k + 1)) st = stepA ds c old there (alts.getD k default) (stepsA ds c old there (alts.take k) st) := R02.fold_take _ _ _ _ _ hk
theorem emp_step (hk : k < alts.length) : (xs ++ (alts.take k).map fun a => Change.mk 3 a.Id [] [] []) ++ [Change.mk 3 (alts.getD k default).Id [] [] []] = xs ++ (alts.take (k + 1)).map fun a => Change.mk 3 a.Id [] [] [] := by
  rw [List.take_succ_eq_append_getElem hk, List.map_append, List.append_assoc, List.getD_eq_getElem?_getD, List.getElem?_eq_getElem hk]; rfl
theorem side_no {a : DataSet} {r : Bytes} {t : Bool} (h : (!(R26.key a r).2 || !t) = true) : sideV a r t = side.mk [] false := if_pos h
theorem side_yes {a : DataSet} {r : Bytes} {t : Bool} (h : (!(R26.key a r).2 || !t) = false) : sideV a r t = side.mk (R26.key a r).1 true := if_neg (by rw [h]; decide)
theorem key_len (a : DataSet) (r : Bytes) : (R26.key a r).1.length ≤ r.length := by
  unfold R26.key
  split
  · show (sub _ _ _).length ≤ _
    unfold sub
    rw [List.length_drop, List.length_take]; omega
  · exact Nat.zero_le _
theorem sideV_len (a : DataSet) (r : Bytes) (t : Bool) : (sideV a r t).key.length ≤ r.length := by
  unfold sideV
  split
  · exact Nat.zero_le _
  · exact key_len a r
theorem st_eq (h : sideV a old there = sideV a c.Record (decide (c.Kind ≠ 1))) : stepA ds c old there a (xs, ys, 0) = (xs, ys, 0) := by
  unfold stepA
  have h0 : ¬ (xs, ys, (0 : Int)).2.2 ≠ 0 := fun h => h rfl
  rw [if_neg h0, if_pos (show befo old there a = aftr c a from h)]
theorem st_ne (h : ¬ sideV a old there = sideV a c.Record (decide (c.Kind ≠ 1))) : stepA ds c old there a (xs, ys, 0) = (xs ++ (if (sideV a old there).has = true then [⟨1, a.Id, (sideV a old there).key ++ c.Key, [], []⟩] else []), ys ++ (if (sideV a c.Record (decide (c.Kind ≠ 1))).has = true then [⟨0, a.Id, (sideV a c.Record (decide (c.Kind ≠ 1))).key ++ c.Key, (sideV a c.Record (decide (c.Kind ≠ 1))).key ++ c.Key, []⟩] else []), if (sideV a c.Record (decide (c.Kind ≠ 1))).has = true ∧ a.Unique = true then dup (ofD ds a.Id).Pairs (sideV a c.Record (decide (c.Kind ≠ 1))).key c.Key else 0) := by
  unfold stepA
  have h0 : ¬ (xs, ys, (0 : Int)).2.2 ≠ 0 := fun h => h rfl
  rw [if_neg h0, if_neg (show ¬ befo old there a = aftr c a from h)]
  rfl
theorem st_tf (h : ¬ sideV a old there = sideV a c.Record (decide (c.Kind ≠ 1))) (hb : (sideV a old there).has = true) (ha : (sideV a c.Record (decide (c.Kind ≠ 1))).has = false) : stepA ds c old there a (xs, ys, 0) = (xs ++ [⟨1, a.Id, (sideV a old there).key ++ c.Key, [], []⟩], ys, 0) := by
  rw [st_ne h, if_pos hb, if_neg (by rw [ha]; decide), if_neg (by rw [ha]; exact fun h => by cases h.1), List.append_nil]
theorem st_ff (h : ¬ sideV a old there = sideV a c.Record (decide (c.Kind ≠ 1))) (hb : (sideV a old there).has = false) (ha : (sideV a c.Record (decide (c.Kind ≠ 1))).has = false) : stepA ds c old there a (xs, ys, 0) = (xs, ys, 0) := by
  rw [st_ne h, if_neg (by rw [hb]; decide), if_neg (by rw [ha]; decide), if_neg (by rw [ha]; exact fun h => by cases h.1), List.append_nil, List.append_nil]
theorem st_ttu (h : ¬ sideV a old there = sideV a c.Record (decide (c.Kind ≠ 1))) (hb : (sideV a old there).has = true) (ha : (sideV a c.Record (decide (c.Kind ≠ 1))).has = true) (hu : a.Unique = true) : stepA ds c old there a (xs, ys, 0) = (xs ++ [⟨1, a.Id, (sideV a old there).key ++ c.Key, [], []⟩], ys ++ [⟨0, a.Id, (sideV a c.Record (decide (c.Kind ≠ 1))).key ++ c.Key, (sideV a c.Record (decide (c.Kind ≠ 1))).key ++ c.Key, []⟩], dup (ofD ds a.Id).Pairs (sideV a c.Record (decide (c.Kind ≠ 1))).key c.Key) := by
  rw [st_ne h, if_pos hb, if_pos ha, if_pos ⟨ha, hu⟩]
theorem st_ttn (h : ¬ sideV a old there = sideV a c.Record (decide (c.Kind ≠ 1))) (hb : (sideV a old there).has = true) (ha : (sideV a c.Record (decide (c.Kind ≠ 1))).has = true) (hu : a.Unique = false) : stepA ds c old there a (xs, ys, 0) = (xs ++ [⟨1, a.Id, (sideV a old there).key ++ c.Key, [], []⟩], ys ++ [⟨0, a.Id, (sideV a c.Record (decide (c.Kind ≠ 1))).key ++ c.Key, (sideV a c.Record (decide (c.Kind ≠ 1))).key ++ c.Key, []⟩], 0) := by
  rw [st_ne h, if_pos hb, if_pos ha, if_neg (fun h => by rw [hu] at h; cases h.2)]
theorem st_ftu (h : ¬ sideV a old there = sideV a c.Record (decide (c.Kind ≠ 1))) (hb : (sideV a old there).has = false) (ha : (sideV a c.Record (decide (c.Kind ≠ 1))).has = true) (hu : a.Unique = true) : stepA ds c old there a (xs, ys, 0) = (xs, ys ++ [⟨0, a.Id, (sideV a c.Record (decide (c.Kind ≠ 1))).key ++ c.Key, (sideV a c.Record (decide (c.Kind ≠ 1))).key ++ c.Key, []⟩], dup (ofD ds a.Id).Pairs (sideV a c.Record (decide (c.Kind ≠ 1))).key c.Key) := by
  rw [st_ne h, if_neg (by rw [hb]; decide), if_pos ha, if_pos ⟨ha, hu⟩, List.append_nil]
theorem st_ftn (h : ¬ sideV a old there = sideV a c.Record (decide (c.Kind ≠ 1))) (hb : (sideV a old there).has = false) (ha : (sideV a c.Record (decide (c.Kind ≠ 1))).has = true) (hu : a.Unique = false) : stepA ds c old there a (xs, ys, 0) = (xs, ys ++ [⟨0, a.Id, (sideV a c.Record (decide (c.Kind ≠ 1))).key ++ c.Key, (sideV a c.Record (decide (c.Kind ≠ 1))).key ++ c.Key, []⟩], 0) := by
  rw [st_ne h, if_neg (by rw [hb]; decide), if_pos ha, if_neg (fun h => by rw [hu] at h; cases h.2), List.append_nil]
theorem stepA_len (ds : List Data) (c : Change) (old : Bytes) (there : Bool) (a : DataSet) (st : List Change × List Change × Int) : (stepA ds c old there a st).1.length ≤ st.1.length + 1 ∧ (stepA ds c old there a st).2.1.length ≤ st.2.1.length + 1 := by
  unfold stepA
  split
  · exact ⟨Nat.le_succ _, Nat.le_succ _⟩
  · split
    · exact ⟨Nat.le_succ _, Nat.le_succ _⟩
    · constructor
      · show (st.1 ++ _).length ≤ _
        rw [List.length_append]
        split <;> simp
      · show (st.2.1 ++ _).length ≤ _
        rw [List.length_append]
        split <;> simp
theorem stepsA_err : ∀ (l : List DataSet) {st : List Change × List Change × Int}, st.2.2 ≠ 0 → stepsA ds c old there l st = st
  | [], _, _ => rfl
  | a :: l, st, h => by
    have e : stepA ds c old there a st = st := if_pos h
    show stepsA ds c old there l (stepA ds c old there a st) = st
    rw [e]; exact stepsA_err l h
theorem steps_on (hk : k < alts.length) (h : (xs, ys, (0 : Int)) = stepsA ds c old there (alts.take k) st) (he : ¬ (stepA ds c old there (alts.getD k default) (xs, ys, 0)).2.2 ≠ 0) : ((stepA ds c old there (alts.getD k default) (xs, ys, 0)).1, (stepA ds c old there (alts.getD k default) (xs, ys, 0)).2.1, (0 : Int)) = stepsA ds c old there (alts.take (k + 1)) st := by
  rw [stepsA_succ hk, ← h]
  have he := Decidable.not_not.1 he
  exact Prod.ext rfl (Prod.ext rfl he.symm)
theorem stepsA_len (ds : List Data) (c : Change) (old : Bytes) (there : Bool) : ∀ (l : List DataSet) (st : List Change × List Change × Int), (stepsA ds c old there l st).1.length ≤ st.1.length + l.length ∧ (stepsA ds c old there l st).2.1.length ≤ st.2.1.length + l.length
  | [], _ => ⟨Nat.le_refl _, Nat.le_refl _⟩
  | a :: l, st => by
    have h1 := stepsA_len ds c old there l (stepA ds c old there a st)
    have h2 := stepA_len ds c old there a st
    have e : stepsA ds c old there (a :: l) st = stepsA ds c old there l (stepA ds c old there a st) := rfl
    rw [e, List.length_cons]; omega
theorem stepA_len2 (ds : List Data) (c : Change) (old : Bytes) (there : Bool) (a : DataSet) (xs ys : List Change) : (stepA ds c old there a (xs, ys, 0)).1.length ≤ xs.length + 1 ∧ (stepA ds c old there a (xs, ys, 0)).2.1.length ≤ ys.length + 1 := stepA_len ds c old there a (xs, ys, 0)
theorem stepsA_len2 (ds : List Data) (c : Change) (old : Bytes) (there : Bool) (l : List DataSet) (xs ys : List Change) : (stepsA ds c old there l (xs, ys, 0)).1.length ≤ xs.length + l.length ∧ (stepsA ds c old there l (xs, ys, 0)).2.1.length ≤ ys.length + l.length := stepsA_len ds c old there l (xs, ys, 0)
theorem stepsA_cut (_ : k ≤ alts.length) (h : (stepsA ds c old there (alts.take k) st).2.2 ≠ 0) : stepsA ds c old there alts st = stepsA ds c old there (alts.take k) st := by
  have e : stepsA ds c old there alts st = stepsA ds c old there (alts.drop k) (stepsA ds c old there (alts.take k) st) := by
    unfold stepsA
    rw [← List.foldl_append, List.take_append_drop]
  rw [e]; exact stepsA_err _ h
theorem steps_off (hk : k < alts.length) (h : (xs, ys, (0 : Int)) = stepsA ds c old there (alts.take k) st) (he : (stepA ds c old there (alts.getD k default) (xs, ys, 0)).2.2 ≠ 0) : stepsA ds c old there alts st = stepA ds c old there (alts.getD k default) (xs, ys, 0) := by
  have e : stepsA ds c old there (alts.take (k + 1)) st = stepA ds c old there (alts.getD k default) (xs, ys, 0) := by rw [stepsA_succ hk, ← h]
  rw [stepsA_cut (k := k + 1) (by omega) (by rw [e]; exact he), e]
theorem steps_end (hk : k ≤ alts.length) (hk2 : ¬ ((k : Nat) : Int) < ((alts.length : Nat) : Int)) (h : (xs, ys, (0 : Int)) = stepsA ds c old there (alts.take k) st) : stepsA ds c old there alts st = (xs, ys, 0) := by
  rw [h, List.take_of_length_le (by omega)]
end
section
variable {ds : List Data} {c : Change} {base : DataSet} {alts : List DataSet}
def Shorts (ds : List Data) : Prop := ∀ d ∈ ds, ∀ p ∈ d.Pairs, p.key.length ≤ 1000 ∧ p.record.length ≤ 1000
theorem ofD_shorts (h : Shorts ds) (id : Int) : ∀ p ∈ (ofD ds id).Pairs, p.key.length ≤ 1000 ∧ p.record.length ≤ 1000 := by
  unfold ofD
  cases hf : ds.find? fun x => decide (x.Id = id) with
  | none => intro p hp; cases hp
  | some d => exact h d (List.mem_of_find?_eq_some hf)
theorem getR_len (h : Shorts ds) (id : Int) (q : Bytes) : (getR (ofD ds id).Pairs q).1.length ≤ 1000 := by
  unfold getR
  cases hf : (ofD ds id).Pairs.find? fun p => decide (p.key = q) with
  | none => exact Nat.zero_le _
  | some p => exact (ofD_shorts h id p (List.mem_of_find?_eq_some hf)).2
theorem nextR_len (h : Shorts ds) (id : Int) (q : Bytes) : (nextR (ofD ds id).Pairs q).1.length ≤ 1000 := by
  unfold nextR
  cases hf : (ofD ds id).Pairs.find? fun p => gtB p.key q with
  | none => exact Nat.zero_le _
  | some p => exact (ofD_shorts h id p (List.mem_of_find?_eq_some hf)).1
theorem okOr {x y : Bool} (h : (!x || !y) = false) : (x && y) = true := by cases x <;> cases y <;> simp_all
theorem noOr {x y : Bool} (h : (!x || !y) = true) : (x && y) = false := by cases x <;> cases y <;> simp_all
theorem pl_bad (h : (!(isSphere base alts) || !(isChange base c)) = true) : plan ds base alts c = ([], 1) := if_pos (noOr h)
theorem pl_empty (h : (!(isSphere base alts) || !(isChange base c)) = false) (hk : c.Kind = 3) : plan ds base alts c = ([c] ++ alts.map (fun a => Change.mk 3 a.Id [] [] []), 0) := by
  unfold plan
  rw [if_neg (by rw [okOr h]; decide), if_pos hk]
  have e : own c = c := if_neg (by omega)
  rw [e]; rfl
theorem oldA (h : c.Kind ≠ 2) : oldR ds base c = getR (ofD ds base.Id).Pairs c.Key := if_pos h
theorem oldB (h : c.Kind = 2) : oldR ds base c = ([], 6) := if_neg (fun h2 => h2 h)
theorem pl_rest (h : (!(isSphere base alts) || !(isChange base c)) = false) (hk : ¬ c.Kind = 3) : plan ds base alts c = if (oldR ds base c).2 ≠ 0 ∧ ((oldR ds base c).2 ≠ 6 ∨ c.Kind = 1) then ([], (oldR ds base c).2)
  else if (steps ds c (oldR ds base c).1 (decide ((oldR ds base c).2 = 0)) alts).2.2 ≠ 0 then ([], (steps ds c (oldR ds base c).1 (decide ((oldR ds base c).2 = 0)) alts).2.2)
  else ((steps ds c (oldR ds base c).1 (decide ((oldR ds base c).2 = 0)) alts).1 ++ (steps ds c (oldR ds base c).1 (decide ((oldR ds base c).2 = 0)) alts).2.1, 0) := by
  unfold plan
  rw [if_neg (by rw [okOr h]; decide), if_neg hk]
theorem pl_get (h : (!(isSphere base alts) || !(isChange base c)) = false) (hk : ¬ c.Kind = 3) (h2 : c.Kind ≠ 2) (he : (decide ((getR (ofD ds base.Id).Pairs c.Key).2 ≠ 0) && (decide ((getR (ofD ds base.Id).Pairs c.Key).2 ≠ 6) || decide (c.Kind = 1))) = true) : plan ds base alts c = ([], (getR (ofD ds base.Id).Pairs c.Key).2) := by
  rw [pl_rest h hk, oldA h2]
  simp only [Bool.and_eq_true, Bool.or_eq_true, decide_eq_true_eq] at he
  rw [if_pos he]
theorem pl_goA (h : (!(isSphere base alts) || !(isChange base c)) = false) (hk : ¬ c.Kind = 3) (h2 : c.Kind ≠ 2) (he : (decide ((getR (ofD ds base.Id).Pairs c.Key).2 ≠ 0) && (decide ((getR (ofD ds base.Id).Pairs c.Key).2 ≠ 6) || decide (c.Kind = 1))) = false) {S : List Change × List Change × Int} (hS : S = stepsA ds c (getR (ofD ds base.Id).Pairs c.Key).1 (decide ((getR (ofD ds base.Id).Pairs c.Key).2 = 0)) alts ([c], [], 0)) : plan ds base alts c = if S.2.2 ≠ 0 then ([], S.2.2) else (S.1 ++ S.2.1, 0) := by
  rw [pl_rest h hk, oldA h2]
  have hn : ¬ ((getR (ofD ds base.Id).Pairs c.Key).2 ≠ 0 ∧ ((getR (ofD ds base.Id).Pairs c.Key).2 ≠ 6 ∨ c.Kind = 1)) := fun hc => by
    have : (decide ((getR (ofD ds base.Id).Pairs c.Key).2 ≠ 0) && (decide ((getR (ofD ds base.Id).Pairs c.Key).2 ≠ 6) || decide (c.Kind = 1))) = true := by
      simp only [Bool.and_eq_true, Bool.or_eq_true, decide_eq_true_eq]; exact hc
    rw [this] at he; cases he
  rw [if_neg hn]
  have e : own c = c := if_neg h2
  unfold steps
  rw [e, ← hS]
theorem pl_goB (h : (!(isSphere base alts) || !(isChange base c)) = false) (h2 : c.Kind = 2) {S : List Change × List Change × Int} (hS : S = stepsA ds c [] (decide ((6 : Int) = 0)) alts ([Change.mk c.Kind c.Id [] c.Record c.Volume], [], 0)) : plan ds base alts c = if S.2.2 ≠ 0 then ([], S.2.2) else (S.1 ++ S.2.1, 0) := by
  rw [pl_rest h (by omega), oldB h2]
  have hn : ¬ ((([], 6) : Bytes × Int).2 ≠ 0 ∧ ((([], 6) : Bytes × Int).2 ≠ 6 ∨ c.Kind = 1)) := fun hc => by
    rcases hc.2 with h | h
    · exact h rfl
    · omega
  rw [if_neg hn]
  have e : own c = Change.mk c.Kind c.Id [] c.Record c.Volume := if_pos h2
  unfold steps
  rw [e, ← hS]
theorem pl_errA (h : (!(isSphere base alts) || !(isChange base c)) = false) (hk : ¬ c.Kind = 3) (h2 : c.Kind ≠ 2) (he : (decide ((getR (ofD ds base.Id).Pairs c.Key).2 ≠ 0) && (decide ((getR (ofD ds base.Id).Pairs c.Key).2 ≠ 6) || decide (c.Kind = 1))) = false) (hs : (stepsA ds c (getR (ofD ds base.Id).Pairs c.Key).1 (decide ((getR (ofD ds base.Id).Pairs c.Key).2 = 0)) alts ([c], [], 0)).2.2 ≠ 0) : plan ds base alts c = ([], (stepsA ds c (getR (ofD ds base.Id).Pairs c.Key).1 (decide ((getR (ofD ds base.Id).Pairs c.Key).2 = 0)) alts ([c], [], 0)).2.2) := by
  rw [pl_goA h hk h2 he rfl, if_pos hs]
theorem pl_okA (h : (!(isSphere base alts) || !(isChange base c)) = false) (hk : ¬ c.Kind = 3) (h2 : c.Kind ≠ 2) (he : (decide ((getR (ofD ds base.Id).Pairs c.Key).2 ≠ 0) && (decide ((getR (ofD ds base.Id).Pairs c.Key).2 ≠ 6) || decide (c.Kind = 1))) = false) (hs : ¬ (stepsA ds c (getR (ofD ds base.Id).Pairs c.Key).1 (decide ((getR (ofD ds base.Id).Pairs c.Key).2 = 0)) alts ([c], [], 0)).2.2 ≠ 0) : plan ds base alts c = ((stepsA ds c (getR (ofD ds base.Id).Pairs c.Key).1 (decide ((getR (ofD ds base.Id).Pairs c.Key).2 = 0)) alts ([c], [], 0)).1 ++ (stepsA ds c (getR (ofD ds base.Id).Pairs c.Key).1 (decide ((getR (ofD ds base.Id).Pairs c.Key).2 = 0)) alts ([c], [], 0)).2.1, 0) := by
  rw [pl_goA h hk h2 he rfl, if_neg hs]
theorem pl_errB (h : (!(isSphere base alts) || !(isChange base c)) = false) (h2 : c.Kind = 2) (hs : (stepsA ds c [] (decide ((6 : Int) = 0)) alts ([Change.mk c.Kind c.Id [] c.Record c.Volume], [], 0)).2.2 ≠ 0) : plan ds base alts c = ([], (stepsA ds c [] (decide ((6 : Int) = 0)) alts ([Change.mk c.Kind c.Id [] c.Record c.Volume], [], 0)).2.2) := by
  rw [pl_goB h h2 rfl, if_pos hs]
theorem pl_okB (h : (!(isSphere base alts) || !(isChange base c)) = false) (h2 : c.Kind = 2) (hs : ¬ (stepsA ds c [] (decide ((6 : Int) = 0)) alts ([Change.mk c.Kind c.Id [] c.Record c.Volume], [], 0)).2.2 ≠ 0) : plan ds base alts c = ((stepsA ds c [] (decide ((6 : Int) = 0)) alts ([Change.mk c.Kind c.Id [] c.Record c.Volume], [], 0)).1 ++ (stepsA ds c [] (decide ((6 : Int) = 0)) alts ([Change.mk c.Kind c.Id [] c.Record c.Volume], [], 0)).2.1, 0) := by
  rw [pl_goB h h2 rfl, if_neg hs]
end
section
variable {ds : List Data} {c : Change} {old : Bytes} {th : Bool} {a : DataSet} {xs ys : List Change}
theorem sv_none (a : DataSet) (r : Bytes) (t : Bool) (h : ((R26.key a r).2 && t) = false) : sideV a r t = side.mk [] false := by
  unfold sideV
  cases h1 : (R26.key a r).2 <;> cases t <;> simp_all
theorem sv_some (a : DataSet) (r : Bytes) (t : Bool) (h : ((R26.key a r).2 && t) = true) : sideV a r t = side.mk (R26.key a r).1 true := by
  unfold sideV
  simp only [Bool.and_eq_true] at h
  rw [h.1, h.2]; rfl
def had (a : DataSet) (old : Bytes) (th : Bool) : Bool := (R26.key a old).2 && th
def has (a : DataSet) (c : Change) : Bool := (R26.key a c.Record).2 && decide (c.Kind ≠ 1)
def C1 (a : DataSet) (c : Change) (old : Bytes) (th : Bool) : Bool := had a old th && (!(has a c) || decide ((R26.key a old).1 ≠ (R26.key a c.Record).1))
def C2 (a : DataSet) (c : Change) (old : Bytes) (th : Bool) : Bool := has a c && (!(had a old th) || decide ((R26.key a old).1 ≠ (R26.key a c.Record).1))
theorem rp_cases {x1 x2 : Bool} (h1 : C1 a c old th = x1) (h2 : C2 a c old th = x2) : stepA ds c old th a (xs, ys, 0) = (xs ++ (if x1 = true then [⟨1, a.Id, (R26.key a old).1 ++ c.Key, [], []⟩] else []), ys ++ (if x2 = true then [⟨0, a.Id, (R26.key a c.Record).1 ++ c.Key, (R26.key a c.Record).1 ++ c.Key, []⟩] else []), if x2 = true ∧ a.Unique = true then dup (ofD ds a.Id).Pairs (R26.key a c.Record).1 c.Key else 0) := by
  subst h1; subst h2
  unfold C1 C2
  cases hh : had a old th with
  | false =>
    have hb := sv_none a old th hh
    cases hs : has a c with
    | false =>
      have ha := sv_none a c.Record (decide (c.Kind ≠ 1)) hs
      rw [st_eq (by rw [hb, ha])]; simp
    | true =>
      have ha := sv_some a c.Record (decide (c.Kind ≠ 1)) hs
      rw [st_ne (by rw [hb, ha]; intro h; have := congrArg side.has h; cases this), hb, ha]; simp
  | true =>
    have hb := sv_some a old th hh
    cases hs : has a c with
    | false =>
      have ha := sv_none a c.Record (decide (c.Kind ≠ 1)) hs
      rw [st_ne (by rw [hb, ha]; intro h; have := congrArg side.has h; cases this), hb, ha]; simp
    | true =>
      have ha := sv_some a c.Record (decide (c.Kind ≠ 1)) hs
      by_cases e : (R26.key a old).1 = (R26.key a c.Record).1
      · rw [st_eq (by rw [hb, ha, e])]; simp [e]
      · rw [st_ne (by rw [hb, ha]; intro h; injection h with h1 h2; exact e h1), hb, ha]; simp [e]
end
section
variable {ds : List Data} {c : Change} {base : DataSet} {alts : List DataSet} {xs ys : List Change} {i k : Nat}
end
section
variable {ds : List Data} {a : DataSet} {k cur : Bytes} {most : Int} {l : List Pair} {out : List Bytes} {m : Nat}
theorem span_one (a : DataSet) (k : Bytes) : (R26.span a k).2 = (if R26.isAlt a = true then (if (k.length : Int) = a.AltLength then 0 else 2) else 1) := by
  unfold R26.span
  split
  · split <;> rfl
  · rfl
theorem fd_arg (h : ((decide ((R26.span a k).2 = 1) || decide (most < 0)) || decide ((1024 : Int) < most)) = true) : find ds a k most = ([], 1) := by
  simp only [Bool.or_eq_true, decide_eq_true_eq, span_one] at h
  unfold find
  rw [if_pos]
  rcases h with (h | h) | h
  · split at h
    · split at h <;> cases h
    · rename_i hn; exact .inl (by simpa using hn)
  · exact .inr (.inl h)
  · exact .inr (.inr h)
theorem fd_len (h : ((decide ((R26.span a k).2 = 1) || decide (most < 0)) || decide ((1024 : Int) < most)) = false) (h2 : (R26.span a k).2 ≠ 0) : find ds a k most = ([], (R26.span a k).2) := by
  simp only [Bool.or_eq_false_iff, decide_eq_false_iff_not] at h
  have hs := span_one a k
  have ha : R26.isAlt a = true := by
    cases hA : R26.isAlt a with
    | true => rfl
    | false => rw [hA] at hs; exact absurd hs h.1.1
  rw [if_pos ha] at hs
  unfold find
  have hl : (k.length : Int) ≠ a.AltLength := by
    intro hl
    rw [if_pos hl] at hs; exact h2 hs
  rw [if_neg (by rw [ha]; rintro (h3 | h3 | h3) <;> first | cases h3 | omega), if_pos hl, hs, if_neg hl]
def FindAt (ds : List Data) (a : DataSet) (k : Bytes) (most : Int) (cur : Bytes) (out : List Bytes) : Prop := find ds a k most = findGo (ofD ds a.Id).Pairs a k (most.toNat - out.length) cur out
theorem fd_start (h : ((decide ((R26.span a k).2 = 1) || decide (most < 0)) || decide ((1024 : Int) < most)) = false) (h2 : ¬ (R26.span a k).2 ≠ 0) : FindAt ds a k most k [] := by
  simp only [Bool.or_eq_false_iff, decide_eq_false_iff_not] at h
  have hs := span_one a k
  have h2 := Decidable.not_not.1 h2
  have ha : R26.isAlt a = true := by
    cases hA : R26.isAlt a with
    | true => rfl
    | false => rw [hA] at hs; exact absurd hs h.1.1
  rw [if_pos ha, h2] at hs
  have hl : (k.length : Int) = a.AltLength := by
    by_cases hl : (k.length : Int) = a.AltLength
    · exact hl
    · rw [if_neg hl] at hs; cases hs
  unfold FindAt find
  rw [if_neg (by rw [ha]; rintro (h3 | h3 | h3) <;> first | cases h3 | omega), if_neg (by intro h; exact h hl)]
  rfl
theorem fd_full (h : FindAt ds a k most cur out) (h2 : ¬ ((out.length : Nat) : Int) < most) : find ds a k most = (out, 0) := by
  rw [h, show most.toNat - out.length = 0 by omega]; rfl
theorem fd_nf (h : FindAt ds a k most cur out) (h2 : ((out.length : Nat) : Int) < most) (h3 : (nextR (ofD ds a.Id).Pairs cur).2.2 = 6) : find ds a k most = (out, 0) := by
  obtain ⟨m, hm⟩ : ∃ m, most.toNat - out.length = m + 1 := ⟨most.toNat - out.length - 1, by omega⟩
  rw [h, hm, findGo, if_pos (by rw [h3]; decide)]
theorem fd_er {p : Prop} (h1 : ¬ (nextR (ofD ds a.Id).Pairs cur).2.2 = 6) (h2 : (nextR (ofD ds a.Id).Pairs cur).2.2 ≠ 0) : p := dup_er h1 h2
theorem le_no (h : ¬ (nextR l cur).2.2 ≠ 0) : (Op.bytesLess (nextR l cur).1 cur || decide ((nextR l cur).1 = cur)) = false := by
  have hg := next_gt (Decidable.not_not.1 h)
  unfold gtB at hg
  simpa using hg
theorem fd_corrupt (h : FindAt ds a k most cur out) (h2 : ((out.length : Nat) : Int) < most) (h3 : ¬ (nextR (ofD ds a.Id).Pairs cur).2.2 ≠ 0) (hc : ((Op.bytesLess (nextR (ofD ds a.Id).Pairs cur).1 cur || decide ((nextR (ofD ds a.Id).Pairs cur).1 = cur)) || decide ((((nextR (ofD ds a.Id).Pairs cur).1.length : Nat) : Int) ≠ a.KeyLength)) = true) : find ds a k most = ([], 11) := by
  obtain ⟨m, hm⟩ : ∃ m, most.toNat - out.length = m + 1 := ⟨most.toNat - out.length - 1, by omega⟩
  rw [le_no h3, Bool.false_or, decide_eq_true_eq] at hc
  rw [h, hm, findGo, if_neg h3, if_pos hc]
theorem fd_pre (h : FindAt ds a k most cur out) (h2 : ((out.length : Nat) : Int) < most) (h3 : ¬ (nextR (ofD ds a.Id).Pairs cur).2.2 ≠ 0) (hc : ((Op.bytesLess (nextR (ofD ds a.Id).Pairs cur).1 cur || decide ((nextR (ofD ds a.Id).Pairs cur).1 = cur)) || decide ((((nextR (ofD ds a.Id).Pairs cur).1.length : Nat) : Int) ≠ a.KeyLength)) = false) (hb : begins (nextR (ofD ds a.Id).Pairs cur).1 k = false) : find ds a k most = (out, 0) := by
  obtain ⟨m, hm⟩ : ∃ m, most.toNat - out.length = m + 1 := ⟨most.toNat - out.length - 1, by omega⟩
  rw [le_no h3, Bool.false_or, decide_eq_false_iff_not] at hc
  rw [h, hm, findGo, if_neg h3, if_neg hc, if_pos hb]
theorem fd_next (h : FindAt ds a k most cur out) (h2 : ((out.length : Nat) : Int) < most) (h3 : ¬ (nextR (ofD ds a.Id).Pairs cur).2.2 ≠ 0) (hc : ((Op.bytesLess (nextR (ofD ds a.Id).Pairs cur).1 cur || decide ((nextR (ofD ds a.Id).Pairs cur).1 = cur)) || decide ((((nextR (ofD ds a.Id).Pairs cur).1.length : Nat) : Int) ≠ a.KeyLength)) = false) (hb : begins (nextR (ofD ds a.Id).Pairs cur).1 k = true) : FindAt ds a k most (nextR (ofD ds a.Id).Pairs cur).1 (out ++ [sub (nextR (ofD ds a.Id).Pairs cur).1 k.length (nextR (ofD ds a.Id).Pairs cur).1.length]) := by
  obtain ⟨m, hm⟩ : ∃ m, most.toNat - out.length = m + 1 := ⟨most.toNat - out.length - 1, by omega⟩
  rw [le_no h3, Bool.false_or, decide_eq_false_iff_not] at hc
  unfold FindAt
  rw [h, hm, findGo, if_neg h3, if_neg hc, if_neg (by rw [hb]; decide), sub_from, List.length_append, List.length_singleton, show most.toNat - (out.length + 1) = m by omega]
theorem begins_len {s k : Bytes} (h : begins s k = true) : k.length ≤ s.length := by
  unfold begins at h
  simp only [Bool.and_eq_true, decide_eq_true_eq] at h
  omega
def few (ds : List Data) : Bool := ds.all (fun d => R26.few d.Pairs 60) && decide (((ds.length : Nat) : Int) ≤ 8)
def longC (c : Change) : Bool := (decide (100 < ((c.Key.length : Nat) : Int)) || decide (300 < ((c.Record.length : Nat) : Int))) || decide (100 < ((c.Volume.length : Nat) : Int))
def short (l : List Change) (m : Int) : Bool := l.all (fun c => !longC c) && decide (((l.length : Nat) : Int) ≤ m)
theorem short_bad {l : List Change} {m : Int} {k : Nat} (hk : k < l.length) (h : longC (l.getD k default) = true) : false = short l m := by
  unfold short
  rw [List.getD_eq_getElem?_getD, List.getElem?_eq_getElem hk] at h
  have h : longC l[k] = true := h
  have e : (l.all fun c => !longC c) = false := by
    rw [List.all_eq_false]
    exact ⟨l[k], List.getElem_mem hk, by rw [h]; decide⟩
  rw [e]; rfl
theorem short_end {l : List Change} {m : Int} {k : Nat} (hk2 : ¬ ((k : Nat) : Int) < ((l.length : Nat) : Int)) (h : ∀ i, i < k → longC (l.getD i default) = false) : decide (((l.length : Nat) : Int) ≤ m) = short l m := by
  unfold short
  have e : (l.all fun c => !longC c) = true := by
    rw [List.all_eq_true]
    intro x hx
    obtain ⟨i, hi, rfl⟩ := List.mem_iff_getElem.1 hx
    have := h i (by omega)
    rw [List.getD_eq_getElem?_getD, List.getElem?_eq_getElem hi] at this
    have this : longC l[i] = false := this
    rw [this]; rfl
  rw [e]; rfl
theorem same_lists {a b : List Change} {k : Nat} (hl : ¬ ((a.length : Nat) : Int) ≠ ((b.length : Nat) : Int)) (hk2 : ¬ ((k : Nat) : Int) < ((a.length : Nat) : Int)) (h : ∀ i, i < k → a.getD i default = b.getD i default) : true = decide (a = b) := by
  refine (decide_eq_true (List.ext_getElem (by omega) fun i h1 h2 => ?_)).symm
  have := h i (by omega)
  rw [List.getD_eq_getElem?_getD, List.getElem?_eq_getElem h1, List.getD_eq_getElem?_getD, List.getElem?_eq_getElem h2] at this
  exact this
end
theorem pl_of_all {ds : List Data} (h : (ds.all fun d => decide (d.Pairs.length ≤ 1000)) = true) : ∀ i, (ds.getD i default).Pairs.length ≤ 1000 := fun i => by
  rw [List.all_eq_true] at h
  by_cases hi : i < ds.length
  · rw [List.getD_eq_getElem?_getD, List.getElem?_eq_getElem hi]
    exact of_decide_eq_true (h _ (List.getElem_mem hi))
  · rw [List.getD_eq_getElem?_getD, List.getElem?_eq_none (by omega)]; exact Nat.zero_le _
theorem sh_of_all {ds : List Data} (h : (ds.all fun d => d.Pairs.all fun p => decide (p.key.length ≤ 1000 ∧ p.record.length ≤ 1000)) = true) : Shorts ds := fun d hd p hp => by
  rw [List.all_eq_true] at h
  have h1 := h d hd
  rw [List.all_eq_true] at h1
  exact of_decide_eq_true (h1 p hp)
theorem plan_len (ds : List Data) (base : DataSet) (alts : List DataSet) (c : Change) : (plan ds base alts c).1.length ≤ 1 + 2 * alts.length := by
  have h1 := stepsA_len2 ds c (oldR ds base c).1 (decide ((oldR ds base c).2 = 0)) alts [own c] []
  unfold plan steps
  split
  · exact Nat.zero_le _
  · split
    · show (own c :: alts.map _).length ≤ _
      rw [List.length_cons, List.length_map]; omega
    · split
      · exact Nat.zero_le _
      · split
        · exact Nat.zero_le _
        · show ((_ : List Change) ++ (_ : List Change)).length ≤ _
          rw [List.length_append]
          have : [own c].length = 1 := rfl
          have : ([] : List Change).length = 0 := rfl
          omega
theorem findGo_len (l : List Pair) (a : DataSet) (k : Bytes) : ∀ (m : Nat) (cur : Bytes) (out : List Bytes), (findGo l a k m cur out).1.length ≤ out.length + m
  | 0, _, _ => Nat.le_refl _
  | m + 1, cur, out => by
    unfold findGo
    split
    · exact Nat.le_add_right _ _
    · split
      · exact Nat.zero_le _
      · split
        · exact Nat.le_add_right _ _
        · have := findGo_len l a k m (nextR l cur).1 (out ++ [(nextR l cur).1.drop k.length])
          rw [List.length_append, List.length_singleton] at this
          omega
theorem find_len (ds : List Data) (a : DataSet) (k : Bytes) (most : Int) : (find ds a k most).1.length ≤ 1024 := by
  unfold find
  split
  · exact Nat.zero_le _
  · rename_i h
    split
    · exact Nat.zero_le _
    · have := findGo_len (ofD ds a.Id).Pairs a k most.toNat k []
      have : ([] : List Bytes).length = 0 := rfl
      omega
end R27
end Go.Proofs.YtmbinhhlfbgiaaaGreat
