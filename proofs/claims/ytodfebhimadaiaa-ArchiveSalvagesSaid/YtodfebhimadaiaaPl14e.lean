/- Pl14e: the plain functions of chapter 14: what frames an archive has, its items, and what is salvaged. -/
import Derived.Test.YtodfebhimadaiaaRd14
import Derived.Test.YtodfebhimadaiaaCr14
import Derived.Test.YtodfebhimadaiaaSi14
namespace Go.Proofs.Ytodfebhimadaiaa
open Go.GV
namespace Rd
def M : Int := 1099511627776
def rbool (r : Reader) : Bool × Reader := if r.err ≠ 0 then (false, r) else if r.left = [] ∨ (1 : UInt8) < r.left.getD 0 0 then (false, ⟨[], 11⟩) else (decide (r.left.getD 0 0 = 1), ⟨r.left.drop 1, 0⟩)
def gets : Nat → Reader → List Int × Reader
  | 0, r => ([], r)
  | n + 1, r => ((gets n r).1 ++ [(count (gets n r).2 M).1], (count (gets n r).2 M).2)
section
variable {r : Reader} {n : Nat} {x : Bool}
def bt (s : Bytes) : Nat := if s = [] ∨ (1 : UInt8) < s.getD 0 0 then 0 else 1
def bv (s : Bytes) (x : Bool) : Bool := if s = [] ∨ (1 : UInt8) < s.getD 0 0 then x else decide (s.getD 0 0 = 1)
theorem bt_le (s : Bytes) : bt s ≤ s.length := by
  unfold bt
  split
  · exact Nat.zero_le _
  · rename_i h
    cases s with
    | nil => simp at h
    | cons a s => simp
theorem or_t {s : Bytes} (h : (decide (s = []) || decide ((1 : UInt8) < s.getD 0 0)) = true) : s = [] ∨ (1 : UInt8) < s.getD 0 0 := by simpa using h
theorem or_f {s : Bytes} (h : (decide (s = []) || decide ((1 : UInt8) < s.getD 0 0)) = false) : ¬ (s = [] ∨ (1 : UInt8) < s.getD 0 0) := by
  intro h2
  rcases h2 with h2 | h2
  · rw [decide_eq_true h2] at h; cases h
  · rw [decide_eq_true h2, Bool.or_true] at h; cases h
theorem bt_no {s : Bytes} (h : (decide (s = []) || decide ((1 : UInt8) < s.getD 0 0)) = true) : bt s = 0 := if_pos (or_t h)
theorem bt_yes {s : Bytes} (h : (decide (s = []) || decide ((1 : UInt8) < s.getD 0 0)) = false) : bt s = 1 := if_neg (or_f h)
theorem bv_no {s : Bytes} (h : (decide (s = []) || decide ((1 : UInt8) < s.getD 0 0)) = true) : bv s x = x := if_pos (or_t h)
theorem bv_yes {s : Bytes} (h : (decide (s = []) || decide ((1 : UInt8) < s.getD 0 0)) = false) : bv s x = decide (s.getD 0 0 = 1) := if_neg (or_f h)
def btook (r : Reader) (x : Bool) : Bool := if r.err ≠ 0 then x else bv r.left x
theorem btook_no (h : r.err ≠ 0) : btook r x = x := if_pos h
theorem btook_yes (h : ¬ r.err ≠ 0) : btook r x = bv r.left x := if_neg h
theorem rbool_no (h : r.err ≠ 0) : rbool r = (false, r) := if_pos h
theorem rbool_bad (h : ¬ r.err ≠ 0) (h2 : r.left = [] ∨ (1 : UInt8) < r.left.getD 0 0) : rbool r = (false, ⟨[], 11⟩) := by unfold rbool; rw [if_neg h, if_pos h2]
theorem rbool_ok (h : ¬ r.err ≠ 0) (h2 : ¬ (r.left = [] ∨ (1 : UInt8) < r.left.getD 0 0)) : rbool r = (decide (r.left.getD 0 0 = 1), ⟨r.left.drop 1, 0⟩) := by unfold rbool; rw [if_neg h, if_neg h2]
theorem bt_cases {s : Bytes} (h : bt s = 0) : s = [] ∨ (1 : UInt8) < s.getD 0 0 := by
  unfold bt at h
  split at h
  · assumption
  · cases h
theorem bt_cases1 {s : Bytes} (h : ¬ bt s = 0) : ¬ (s = [] ∨ (1 : UInt8) < s.getD 0 0) := by
  unfold bt at h
  split at h
  · exact absurd rfl h
  · assumption
theorem rbool_bt (h : ¬ r.err ≠ 0) (h2 : bt r.left = 0) : rbool r = (false, ⟨[], 11⟩) := rbool_bad h (bt_cases h2)
theorem rbool_bt1 (h : ¬ r.err ≠ 0) (h2 : ¬ bt r.left = 0) : rbool r = (decide (r.left.getD 0 0 = 1), ⟨r.left.drop (bt r.left), 0⟩) := by
  rw [rbool_ok h (bt_cases1 h2), show bt r.left = 1 from if_neg (bt_cases1 h2)]
theorem rbool_took : btook r false = (rbool r).1 := by
  by_cases h : r.err ≠ 0
  · rw [btook_no h, rbool_no h]
  · rw [btook_yes h]
    by_cases h2 : bt r.left = 0
    · rw [rbool_bt h h2]; exact if_pos (bt_cases h2)
    · rw [rbool_bt1 h h2]; exact if_neg (bt_cases1 h2)
theorem gets_len : ∀ (n : Nat) (r : Reader), (gets n r).1.length = n
  | 0, _ => rfl
  | n + 1, r => by
    show ((gets n r).1 ++ [_]).length = n + 1
    rw [List.length_append, gets_len n r]; rfl
theorem gets_succ (n : Nat) (r : Reader) : gets (n + 1) r = ((gets n r).1 ++ [(count (gets n r).2 M).1], (count (gets n r).2 M).2) := rfl
end
end Rd
namespace R14
open Rd
def z1 (s : Bytes) := gets 14 ⟨s, 0⟩
def z2 (s : Bytes) := rbool (z1 s).2
def z3 (s : Bytes) := gets 1 (z2 s).2
def z4 (s : Bytes) := rtext (z3 s).2 31
def z5 (s : Bytes) := rtext (z4 s).2 31
def z6 (s : Bytes) := gets 2 (z5 s).2
def z8 (s : Bytes) := rbool (z6 s).2
def z9 (s : Bytes) := gets 1 (z8 s).2
def zc (s : Bytes) := count (z9 s).2 1024
def setOf (s : Bytes) : DataSet :=
  { Id := (z1 s).1.getD 0 0, Org := (z1 s).1.getD 1 0, Format := (z1 s).1.getD 2 0, Length := (z1 s).1.getD 3 0, Block := (z1 s).1.getD 4 0, KeyAt := (z1 s).1.getD 5 0, KeyLength := (z1 s).1.getD 6 0, Interval := (z1 s).1.getD 7 0, Area := (z1 s).1.getD 8 0, FreeInterval := (z1 s).1.getD 9 0, FreeArea := (z1 s).1.getD 10 0, Base := (z1 s).1.getD 11 0, AltAt := (z1 s).1.getD 12 0, AltLength := (z1 s).1.getD 13 0, Unique := (z2 s).1, Class := (z3 s).1.getD 0 0, Volume := (z4 s).1, Owner := (z5 s).1, Created := (z6 s).1.getD 0 0, Expires := (z6 s).1.getD 1 0, Archived := (z8 s).1 }
def zOk (s : Bytes) : Bool := decide (fin (zc s).2 = 0)
def dz : DataSet := { Id := 0, Org := 0, Format := 0, Length := 0, Block := 0, KeyAt := 0, KeyLength := 0, Interval := 0, Area := 0, FreeInterval := 0, FreeArea := 0, Base := 0, AltAt := 0, AltLength := 0, Unique := false, Class := 0, Volume := [], Owner := [], Created := 0, Expires := 0, Archived := false }
def fD (s : Bytes) : DataSet := if zOk s = true then setOf s else dz
def fN (s : Bytes) : Int := if zOk s = true then (z9 s).1.getD 0 0 else 0
def fC (s : Bytes) : Int := if zOk s = true then (zc s).1 else 0
theorem f_bad {s : Bytes} (h : decide (fin (zc s).2 ≠ 0) = true) : dz = fD s ∧ 0 = fN s ∧ 0 = fC s ∧ false = zOk s := by
  have hz : zOk s = false := by
    unfold zOk
    exact decide_eq_false (of_decide_eq_true h)
  unfold fD fN fC
  rw [hz]
  exact ⟨rfl, rfl, rfl, rfl⟩
theorem f_ok {s : Bytes} (h : decide (fin (zc s).2 ≠ 0) = false) : setOf s = fD s ∧ (z9 s).1.getD 0 0 = fN s ∧ (zc s).1 = fC s ∧ true = zOk s := by
  have hz : zOk s = true := by
    unfold zOk
    exact decide_eq_true (Decidable.not_not.1 (of_decide_eq_false h))
  unfold fD fN fC
  rw [hz]
  exact ⟨rfl, rfl, rfl, rfl⟩
theorem fC_range (s : Bytes) : 0 ≤ fC s ∧ fC s ≤ 1024 := by
  have h := count_range (z9 s).2 1024 (by decide)
  unfold fC zc
  split
  · exact h
  · exact ⟨Int.le_refl _, by decide⟩
def lkF : List (Int × Frame) → Int → Option Frame
  | [], _ => none
  | (a, v) :: l, k => if k = a then some v else lkF l k
def fr (up : UInt32 → Bytes → UInt32) (b : Bytes) : Frame := ⟨rfA up b, rfB up b, rfD up b⟩
def stepF (up : UInt32 → Bytes → UInt32) (m : List (Int × Frame)) (b : Bytes) : List (Int × Frame) := if rfE up b = 0 ∧ (lkF m (rfN up b)).isSome = false then m ++ [(rfN up b, fr up b)] else m
def blk (s : Bytes) (k : Nat) : Bytes := sub s (64 * k) (64 * k + 64)
def coll (up : UInt32 → Bytes → UInt32) (s : Bytes) : Nat → List (Int × Frame)
  | 0 => []
  | k + 1 => stepF up (coll up s k) (blk s k)
def mf (p : Int × Frame) : Int × Value := (p.1, Value.agg (Frame.enc p.2).toArray)
def updF (m : List (Int × Frame)) (k : Int) (v : Frame) : List (Int × Frame) := match m with
  | [] => [(k, v)]
  | (a, u) :: l => if k = a then (k, v) :: l else (a, u) :: updF l k v
theorem lk_mf : ∀ (m : List (Int × Frame)) (k : Int), lk (m.map mf) k = (lkF m k).map fun c => Value.agg (Frame.enc c).toArray
  | [], _ => rfl
  | (a, v) :: l, k => by
    show lk ((a, Value.agg (Frame.enc v).toArray) :: l.map mf) k = _
    unfold lk lkF
    by_cases h : k = a
    · rw [if_pos h, if_pos h]; rfl
    · rw [if_neg h, if_neg h, lk_mf l k]
theorem upd_mf : ∀ (m : List (Int × Frame)) (k : Int) (v : Frame), upd (m.map mf) k (Value.agg (Frame.enc v).toArray) = (updF m k v).map mf
  | [], _, _ => rfl
  | (a, u) :: l, k, v => by
    show upd ((a, Value.agg (Frame.enc u).toArray) :: l.map mf) k _ = _
    unfold upd updF
    by_cases h : k = a
    · rw [if_pos h, if_pos h]; rfl
    · rw [if_neg h, if_neg h, upd_mf l k v]; rfl
theorem lk_fv (m : List (Int × Frame)) (k : Int) : ((lkF m k).map fun c => Value.agg (Frame.enc c).toArray).getD (Value.agg #[vB false, vB false, vS []]) = Value.agg (Frame.enc ((lkF m k).getD (Frame.mk false false []))).toArray := by
  cases lkF m k <;> rfl
theorem lk_fo (m : List (Int × Frame)) (k : Int) : ((lkF m k).map fun c => Value.agg (Frame.enc c).toArray).isSome = (lkF m k).isSome := by
  cases lkF m k <;> rfl
theorem updF_new : ∀ {m : List (Int × Frame)} {k : Int} {v : Frame}, (lkF m k).isSome = false → updF m k v = m ++ [(k, v)]
  | [], _, _, _ => rfl
  | (a, u) :: l, k, v, h => by
    unfold lkF at h
    unfold updF
    by_cases hk : k = a
    · rw [if_pos hk] at h; cases h
    · rw [if_neg hk] at h
      rw [if_neg hk, updF_new h]; rfl
theorem lkF_append (m : List (Int × Frame)) (a k : Int) (v : Frame) : lkF (m ++ [(a, v)]) k = (match lkF m k with | some x => some x | none => if k = a then some v else none) := by
  induction m with
  | nil => rfl
  | cons p m ih =>
    obtain ⟨b, u⟩ := p
    rw [List.cons_append]
    unfold lkF
    by_cases h : k = b
    · rw [if_pos h, if_pos h]
    · rw [if_neg h, if_neg h, ih]
theorem lkF_mem {m : List (Int × Frame)} {k : Int} {v : Frame} (h : lkF m k = some v) : (k, v) ∈ m := by
  induction m with
  | nil => cases h
  | cons p m ih =>
    obtain ⟨b, u⟩ := p
    unfold lkF at h
    by_cases hk : k = b
    · rw [if_pos hk] at h; cases h; rw [hk]; simp
    · rw [if_neg hk] at h; exact List.mem_cons_of_mem _ (ih h)
theorem lkF_none {m : List (Int × Frame)} {k : Int} (h : lkF m k = none) : ∀ v, (k, v) ∉ m := by
  induction m with
  | nil => intro v hv; cases hv
  | cons p m ih =>
    obtain ⟨b, u⟩ := p
    unfold lkF at h
    by_cases hk : k = b
    · rw [if_pos hk] at h; cases h
    · rw [if_neg hk] at h
      intro v hv
      rcases List.mem_cons.1 hv with e | hv
      · cases e; exact hk rfl
      · exact ih h v hv
theorem lkF_some {m : List (Int × Frame)} {k : Int} (h : k ∈ m.map (·.1)) : ∃ v, lkF m k = some v := by
  cases hl : lkF m k with
  | some v => exact ⟨v, rfl⟩
  | none =>
    obtain ⟨p, hp, rfl⟩ := List.mem_map.1 h
    exact absurd hp (lkF_none hl p.2)
theorem rN_range (s : Bytes) : 0 ≤ rN s ∧ rN s ≤ 65535 := by
  unfold rN
  have h1 := (s.getD 0 0).toNat_lt
  have h2 := (s.getD 1 0).toNat_lt
  omega
theorem rOk_data {up : UInt32 → Bytes → UInt32} {s : Bytes} (h : rOk up s = true) : (rD s).length ≤ 56 := by
  unfold rOk rPre at h
  simp only [Bool.and_eq_true, decide_eq_true_eq] at h
  have h4 : (s.getD 3 0).toNat ≤ 56 := by
    have := h.1.2
    rw [UInt8.le_iff_toNat_le] at this; exact this
  unfold rD
  rw [sub_length _ _ _ (by omega)]
  omega
def Good (m : List (Int × Frame)) : Prop := (m.map (·.1)).Nodup ∧ ∀ p ∈ m, 0 ≤ p.1 ∧ p.1 ≤ 65535 ∧ p.2.data.length ≤ 56
theorem good_step {up : UInt32 → Bytes → UInt32} {m : List (Int × Frame)} (h : Good m) (b : Bytes) : Good (stepF up m b) := by
  unfold stepF
  split
  · rename_i h2
    have hok : rOk up b = true := by
      cases hr : rOk up b with
      | true => rfl
      | false => rw [rfE, hr] at h2; exact absurd h2.1 (by decide)
    have hn : rfN up b = rN b := by rw [rfN, hok]; rfl
    have hd : rfD up b = rD b := by rw [rfD, hok]; rfl
    refine ⟨?_, fun p hp => ?_⟩
    · rw [List.map_append, List.nodup_append]
      refine ⟨h.1, by simp, fun x hx y hy => ?_⟩
      simp only [List.map_cons, List.map_nil, List.mem_singleton] at hy
      subst hy
      intro e
      subst e
      obtain ⟨v, hv⟩ := lkF_some hx
      rw [hv] at h2
      cases h2.2
    · rcases List.mem_append.1 hp with hp | hp
      · exact h.2 p hp
      · rw [List.mem_singleton] at hp
        subst hp
        have := rN_range b
        exact ⟨by rw [hn]; omega, by rw [hn]; omega, by show (rfD up b).length ≤ 56; rw [hd]; exact rOk_data hok⟩
  · exact h
theorem coll_yes {up : UInt32 → Bytes → UInt32} {s : Bytes} {m : List (Int × Frame)} {k : Nat} (h : m = coll up s k) (h1 : rfE up (blk s k) = 0) (h2 : (lkF m (rfN up (blk s k))).isSome = false) : updF m (rfN up (blk s k)) ⟨rfA up (blk s k), rfB up (blk s k), rfD up (blk s k)⟩ = coll up s (k + 1) := by
  subst h
  show _ = stepF up (coll up s k) (blk s k)
  unfold stepF
  rw [if_pos ⟨h1, h2⟩, updF_new h2]; rfl
theorem coll_no {up : UInt32 → Bytes → UInt32} {s : Bytes} {m : List (Int × Frame)} {k : Nat} (h : m = coll up s k) (h1 : ¬ (rfE up (blk s k) = 0 ∧ (lkF m (rfN up (blk s k))).isSome = false)) : m = coll up s (k + 1) := by
  subst h
  show _ = stepF up (coll up s k) (blk s k)
  unfold stepF
  rw [if_neg h1]
theorem good_coll (up : UInt32 → Bytes → UInt32) (s : Bytes) : ∀ k, Good (coll up s k)
  | 0 => ⟨List.nodup_nil, fun p hp => by cases hp⟩
  | k + 1 => good_step (good_coll up s k) _
theorem coll_len (up : UInt32 → Bytes → UInt32) (s : Bytes) : ∀ k, (coll up s k).length ≤ k
  | 0 => Nat.le_refl _
  | k + 1 => by
    have := coll_len up s k
    show (stepF up (coll up s k) _).length ≤ k + 1
    unfold stepF
    split
    · rw [List.length_append]
      have : [(rfN up (blk s k), fr up (blk s k))].length = 1 := rfl
      omega
    · omega
def Small (g : Int → Option Frame) : Prop := ∀ n f, g n = some f → 0 ≤ n ∧ n ≤ 65535 ∧ f.data.length ≤ 56
theorem small_lk {m : List (Int × Frame)} (h : Good m) : Small (lkF m) := fun _ _ hf => h.2 _ (lkF_mem hf)
def rest (g : Int → Option Frame) : Nat → Int → Bytes → Option Bytes
  | 0, _, _ => none
  | k + 1, n, acc => match g n with
    | none => none
    | some f => if f.first = true then none else if f.last = true then some (acc ++ f.data) else rest g k (n + 1) (acc ++ f.data)
def item (g : Int → Option Frame) (n : Int) : Option Bytes := match g n with
  | none => none
  | some f => if f.first = true then (if f.last = true then some f.data else rest g 65536 (n + 1) f.data) else none
def At (g : Int → Option Frame) (n0 n : Int) (f : Frame) (F : Nat) (acc : Bytes) : Prop := item g n0 = (if f.last = true then some acc else rest g F (n + 1) acc) ∧ 65536 ≤ F + n ∧ g n = some f ∧ (acc.length : Int) ≤ 56 * (n - n0 + 1) ∧ 0 ≤ n0 ∧ n0 ≤ n
section
variable {g : Int → Option Frame} {n n0 : Int} {f f2 : Frame} {F : Nat} {acc : Bytes}
theorem item_none (h : (g n).isSome = false) : item g n = none := by
  unfold item
  cases hg : g n with
  | none => rfl
  | some v => rw [hg] at h; cases h
theorem item_inner (h : g n = some f) (h2 : f.first = false) : item g n = none := by
  unfold item
  rw [h]
  show (if f.first = true then _ else none) = none
  rw [h2]; rfl
theorem at_start (hs : Small g) (h : g n = some f) (h2 : f.first = true) : At g n n f 65536 f.data := by
  have := hs n f h
  refine ⟨?_, by omega, h, by omega, by omega, by omega⟩
  unfold item
  rw [h]
  show (if f.first = true then _ else none) = _
  rw [if_pos h2]
theorem at_last (h : At g n0 n f F acc) (h2 : f.last = true) : item g n0 = some acc := by rw [h.1, if_pos h2]
theorem at_gap (h : At g n0 n f F acc) (h2 : f.last = false) (h3 : (g (n + 1)).isSome = false) : item g n0 = none := by
  rw [h.1, if_neg (by rw [h2]; decide)]
  cases F with
  | zero => rfl
  | succ F =>
    unfold rest
    cases hg : g (n + 1) with
    | none => rfl
    | some v => rw [hg] at h3; cases h3
theorem at_first (h : At g n0 n f F acc) (h2 : f.last = false) (h3 : g (n + 1) = some f2) (h4 : f2.first = true) : item g n0 = none := by
  rw [h.1, if_neg (by rw [h2]; decide)]
  cases F with
  | zero => rfl
  | succ F =>
    unfold rest
    rw [h3]
    show (if f2.first = true then none else _) = none
    rw [if_pos h4]
theorem at_next (hs : Small g) (h : At g n0 n f F acc) (h2 : f.last = false) (h3 : g (n + 1) = some f2) (h4 : f2.first = false) : At g n0 (n + 1) f2 (F - 1) (acc ++ f2.data) := by
  have hb := hs _ _ h3
  obtain ⟨e1, e2, e3, e4, e5, e6⟩ := h
  refine ⟨?_, by omega, h3, ?_, e5, by omega⟩
  · rw [e1, if_neg (by rw [h2]; decide)]
    cases F with
    | zero => omega
    | succ F =>
      rw [rest, h3]
      show (if f2.first = true then none else _) = _
      rw [if_neg (by rw [h4]; decide)]
      rfl
  · rw [List.length_append]; omega
theorem get_frame (h : (g n).isSome = true) : g n = some (Frame.mk ((g n).getD (Frame.mk false false [])).first ((g n).getD (Frame.mk false false [])).last ((g n).getD (Frame.mk false false [])).data) := by
  cases hg : g n with
  | none => rw [hg] at h; cases h
  | some v => rfl
theorem res_none {t : Option Bytes} (h : t = none) : ([] : Bytes) = t.getD [] ∧ false = t.isSome := by subst h; exact ⟨rfl, rfl⟩
theorem res_some {t : Option Bytes} {x : Bytes} (h : t = some x) : x = t.getD [] ∧ true = t.isSome := by subst h; exact ⟨rfl, rfl⟩
theorem data_len (hs : Small g) (n : Int) : ((g n).getD (Frame.mk false false [])).data.length ≤ 56 := by
  cases hg : g n with
  | none => exact Nat.zero_le _
  | some v => exact (hs n v hg).2.2
theorem no_start (h : (!((g n).isSome) || !(((g n).getD (Frame.mk false false [])).first)) = true) : item g n = none := by
  cases hg : g n with
  | none => exact item_none (by rw [hg]; rfl)
  | some v =>
    rw [hg] at h
    exact item_inner hg (by simpa using h)
theorem no_next (ha : At g n0 n f F acc) (hl : f.last = false) (h : (!((g (n + 1)).isSome) || ((g (n + 1)).getD (Frame.mk false false [])).first) = true) : item g n0 = none := by
  cases hg : g (n + 1) with
  | none => exact at_gap ha hl (by rw [hg]; rfl)
  | some v =>
    rw [hg] at h
    exact at_first ha hl hg (by simpa using h)
theorem at_fuel (h : At g n0 n f F acc) (hs : Small g) : 1 ≤ F := by
  have := hs _ _ h.2.2.1
  have := h.2.1
  omega
theorem at_facts (h : At g n0 n f F acc) (hs : Small g) : 1 ≤ F ∧ acc.length ≤ 3670100 ∧ 0 ≤ n ∧ n ≤ 65535 ∧ f.data.length ≤ 56 := by
  have h1 := hs _ _ h.2.2.1
  have h2 := at_fuel h hs
  have h3 := h.2.2.2.1
  have h4 := h.2.2.2.2
  exact ⟨h2, by omega, by omega, by omega, h1.2.2⟩
end
def pairK (t : Bytes) := rtext ⟨t, 0⟩ 32
def pairR (t : Bytes) := rtext (pairK t).2 1000
def pairOf (t : Bytes) : Pair := ⟨(pairK t).1, (pairR t).1⟩
def pOk (t : Bytes) : Bool := decide (fin (pairR t).2 = 0)
def stepP (g : Int → Option Frame) (n : Int) : List Pair := if n = 0 then [] else match item g n with
  | none => []
  | some t => if pOk t = true then [pairOf t] else []
def pairs (m : List (Int × Frame)) : List Pair := (srt (m.map (·.1))).flatMap (stepP (lkF m))
def head (m : List (Int × Frame)) : Bytes := (item (lkF m) 0).getD []
def sOk (m : List (Int × Frame)) : Bool := (item (lkF m) 0).isSome && zOk (head m)
def sv (up : UInt32 → Bytes → UInt32) (s : Bytes) : List (Int × Frame) := coll up s (s.length / 64)
def svD (up : UInt32 → Bytes → UInt32) (s : Bytes) : DataSet := if sOk (sv up s) = true then fD (head (sv up s)) else dz
def svN (up : UInt32 → Bytes → UInt32) (s : Bytes) : Int := if sOk (sv up s) = true then fN (head (sv up s)) else 0
def svP (up : UInt32 → Bytes → UInt32) (s : Bytes) : List Pair := if sOk (sv up s) = true then pairs (sv up s) else []
def svM (up : UInt32 → Bytes → UInt32) (s : Bytes) : Int := if sOk (sv up s) = true then max 0 (fC (head (sv up s)) - (pairs (sv up s)).length) else 0
def svE (up : UInt32 → Bytes → UInt32) (s : Bytes) : Int := if sOk (sv up s) = true then 0 else 11
end R14
end Go.Proofs.Ytodfebhimadaiaa
