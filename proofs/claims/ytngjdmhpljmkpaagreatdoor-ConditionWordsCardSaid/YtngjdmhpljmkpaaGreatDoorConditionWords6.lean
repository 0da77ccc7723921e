/- GvW, GvQ, GvS, Wd44, Nm44, St44, Srt, Od, Rq, Pl44, Pl44b, Pn44, Ad40 in one text. -/
import Derived.Test.YtngjdmhpljmkpaaGreatDoorConditionWords4
import Derived.Test.YtngjdmhpljmkpaaGreatDoorConditionWords5
import Derived.Test.YtngjdmhpljmkpaaGreatDoorConditionWords3
import Derived.Lib.FieldsP
import Derived.Lib.TrimUEq
import Derived.Lib.SplitLaws
import Derived.Lib.IndexBytes
import Derived.Lib.ItoaNum
import Derived.Lib.AtoiAllCases
import Derived.Test.YtngjdmhpljmkpaaGreatDoorConditionWords2
import Derived.Lib.Repeat
import Derived.Lib.AppendIntMem
import Derived.Lib.SmallJoins
set_option linter.unusedVariables false
set_option linter.unusedSimpArgs false
namespace Go.GV
open Go.RowKit
theorem set_len {α : Type} (xs : List α) (k : Nat) (a : α) : (xs.set k a).length = xs.length := List.length_set
theorem splice_take {α : Type} : ∀ (vs cs : List α) (k m : Nat), k + vs.length ≤ m → (splice cs k vs).take m = splice (cs.take m) k vs
  | [], _, _, _, _ => rfl
  | v :: vs, cs, k, m, h => by
    rw [List.length_cons] at h
    rw [splice, splice, splice_take vs _ (k + 1) m (by omega), List.take_set]
theorem splice_flat {α : Type} (f : α → List Value) (sz : Nat) (hf : ∀ a, (f a).length = sz) : ∀ (xs : List α) (k : Nat) (a : α), k < xs.length → splice (xs.flatMap f) (k * sz) (f a) = (xs.set k a).flatMap f
  | [], _, _, h => by simp at h
  | x :: xs, 0, a, _ => by
    rw [Nat.zero_mul, List.flatMap_cons, List.set_cons_zero, List.flatMap_cons, splice_eq _ _ _ (by rw [hf, List.length_append, hf]; omega), hf, Nat.zero_add, List.take_zero, List.nil_append, List.drop_left' (hf x)]
  | x :: xs, k + 1, a, h => by
    have h' : k < xs.length := by simpa using h
    have ih := splice_flat f sz hf xs k a h'
    have hl := flat_length f sz hf xs
    have hb : k * sz + sz ≤ xs.length * sz := by
      have := Nat.mul_le_mul_right sz h'
      rw [Nat.succ_mul] at this; exact this
    rw [List.set_cons_succ, List.flatMap_cons, List.flatMap_cons, ← ih]
    rw [splice_eq _ _ _ (by rw [hf, List.length_append, hf, hl, Nat.succ_mul]; omega), splice_eq _ _ _ (by rw [hf, hl]; omega)]
    rw [hf, Nat.succ_mul, Nat.add_comm (k * sz) sz, List.take_append, List.drop_append, hf]
    rw [List.take_of_length_le (by rw [hf]; omega), List.drop_of_length_le (by rw [hf]; omega)]
    simp only [List.nil_append, List.append_assoc]
    rw [show sz + k * sz - sz = k * sz by omega, show sz + k * sz + sz - sz = k * sz + sz by omega, Nat.add_comm (k * sz) sz]
section
variable {E : Env} {P : Program} {x y : Operand} {dst : Option Nat} {t ty : TypeId} {pos : String} {af : Array Edge} {g : Option (Nat × Bool)}
theorem O_store_row_g {α : Type} {S : List Nat} {w0 : World} {L : List Ent} {K : Value → List Ent → Prop} (j : Nat) (f : α → List Value) {A : Option Addr} {c k sz : Nat} {te : TypeId} {xs : List α} {a : α} {v : Value} (L' : List Ent)
    (hx : ev E x = .pointer (some (adr A (k * sz)))) (hy : ev E y = v) (hv : v.cells.toList = f a) (hj : L[j]? = some (Ent.row (.slice A xs.length c) te sz xs.length (xs.flatMap f))) (hn : sizeIs P t = some sz) (hf : ∀ a, (f a).length = sz) (h1 : ∀ a, (f a).all Value.oneCell' = true) (hk : k < xs.length)
    (hL : L.set j (Ent.row (.slice A (xs.set k a).length c) te sz (xs.set k a).length ((xs.set k a).flatMap f)) = L') (kk : K undef L') : OpJ P S w0 E L ⟨dst, .store t x y, ty, pos, af, g⟩ K := by
  intro w hS
  subst hL
  have hat := hS.mem hj
  have hfl := flat_length f sz hf xs
  have hb : k * sz + sz ≤ xs.length * sz := by
    have := Nat.mul_le_mul_right sz hk
    rw [Nat.succ_mul] at this; exact this
  rcases hat.1.2 with ⟨h2, h3⟩ | ⟨gb, cap, cur, h2, ho, hcap, hmax, hcs, htk⟩
  · omega
  · simp only [Value.slice.injEq] at h2
    obtain ⟨rfl, _, rfl⟩ := h2
    have ho' : w.heap[gb]? = some (.cells cur te (0, 0)) := by simpa [Ent.row, Value.ownBlock] using ho
    have hblk : (Ent.blk gb te cur.toList).at w := by
      refine ⟨⟨?_, .inl (Nat.le_refl _)⟩, fun b hb2 => ?_⟩
      · show w.heap[gb]? = _
        rw [ho']
      · cases hb2
        exact (Array.getElem?_eq_some_iff.1 ho').1
    have hvl : v.cells.toList.length = sz := by rw [hv]; exact hf a
    have hcl : xs.length * sz ≤ cur.toList.length := by
      have e1 := Nat.mul_le_mul_right sz hcap
      have e2 : cur.toList.length = c * sz := hcs
      omega
    have hadr : adr (some ⟨gb, 0, none⟩) (k * sz) = ⟨gb, k * sz, none⟩ := by
      simp [adr, Addr.add]
      exact fun h => h.symm
    rw [hadr] at hx
    obtain ⟨w', hr, hF, hB⟩ := run_storeVar_blk (P := P) (t := t) (o := k * sz) hblk hn hvl (by omega) (by rw [hv]; exact h1 a)
    refine ⟨undef, _, w', .inr ⟨?_, rfl⟩, hS.writeAt hj gb rfl rfl hF ?_, kk⟩
    · simp only [execOp, hx, hy]
      show Sem.run P (do (do storeVar t (← Instr.sureAddr (.pointer (some ⟨gb, k * sz, none⟩))) v); pure Next.skip) w = _
      simp only [Instr.sureAddr, Sem.run_bind, Sem.run_pure, Result.andThen_ok, hr]
    · have hB1 : w'.heap[gb]? = some (.cells (splice cur.toList (k * sz) (f a)).toArray te (0, 0)) := by rw [← hv]; exact hB.1
      have hsl : (splice cur.toList (k * sz) (f a)).length = cur.toList.length := splice_length _ _ _
      refine ⟨flat_length f sz hf _, .inr ⟨gb, c, _, by rw [List.length_set], hB1, by rw [List.length_set]; exact hcap, hmax, ?_, ?_⟩⟩
      · rw [List.size_toArray, hsl, Array.length_toList, hcs]
      · rw [List.length_set]
        show (splice cur.toList (k * sz) (f a)).take (xs.length * sz) = _
        rw [splice_take _ _ _ _ (by rw [hf]; exact hb), htk, splice_flat f sz hf xs k a hk]
theorem O_store_row_f {α : Type} {S : List Nat} {w0 : World} {L : List Ent} {K : Value → List Ent → Prop} (j : Nat) (f : α → List Value) {A : Option Addr} {c k sz : Nat} {te : TypeId} {xs : List α} {a : α} (L' : List Ent)
    (hx : ev E x = .pointer (some (adr A (k * sz)))) (hy : ev E y = .agg (f a).toArray) (hj : L[j]? = some (Ent.row (.slice A xs.length c) te sz xs.length (xs.flatMap f))) (hn : sizeIs P t = some sz) (hf : ∀ a, (f a).length = sz) (h1 : ∀ a, (f a).all Value.oneCell' = true) (hk : k < xs.length)
    (hL : L.set j (Ent.row (.slice A (xs.set k a).length c) te sz (xs.set k a).length ((xs.set k a).flatMap f)) = L') (kk : K undef L') : OpJ P S w0 E L ⟨dst, .store t x y, ty, pos, af, g⟩ K :=
  O_store_row_g j f L' hx hy (by simp [Value.cells]) hj hn hf h1 hk hL kk
theorem map_flat {α : Type} (g : α → Value) (xs : List α) : xs.map g = xs.flatMap fun a => [g a] := by
  induction xs with
  | nil => rfl
  | cons a xs ih => rw [List.map_cons, List.flatMap_cons, ih]; rfl
theorem O_store_row_1 {α : Type} {S : List Nat} {w0 : World} {L : List Ent} {K : Value → List Ent → Prop} (j : Nat) (f : α → Value) {A : Option Addr} {c k : Nat} {te : TypeId} {xs : List α} {a : α} (L' : List Ent)
    (hx : ev E x = .pointer (some (adr A k))) (hy : ev E y = f a) (hj : L[j]? = some (Ent.row (.slice A xs.length c) te 1 xs.length (xs.map f))) (hn : sizeIs P t = some 1) (hv : (f a).cells.toList = [f a]) (h1 : ∀ a, (f a).oneCell' = true) (hk : k < xs.length)
    (hL : L.set j (Ent.row (.slice A (xs.set k a).length c) te 1 (xs.set k a).length ((xs.set k a).map f)) = L') (kk : K undef L') : OpJ P S w0 E L ⟨dst, .store t x y, ty, pos, af, g⟩ K := by
  rw [map_flat] at hj hL
  exact O_store_row_g (k := k) (a := a) j (fun a => [f a]) L' (by rw [Nat.mul_one]; exact hx) hy hv hj hn (fun _ => rfl) (fun b => by simp [h1 b]) hk hL kk
end
end Go.GV

namespace Go.GV
open Go.RowKit Go.Op
structure Rw where
  s : List Bytes
  sA : Option Addr
  sC : Nat
deriving Inhabited
def Rw.enc (a : Rw) : List Value := [vL a.sA a.s.length a.sC]
theorem Rw.enc_len (a : Rw) : (Rw.enc a).length = 1 := rfl
theorem Rw.enc_one (a : Rw) : (Rw.enc a).all Value.oneCell' = true := rfl
def RwE (t : Nat) (e : Rw) : Ent := Ent.row (.slice e.sA e.s.length e.sC) t 1 e.s.length (e.s.map vS)
section
variable {S : List Nat} {w00 w0 w : World} {L M : List Ent} {α : Type} {f : α → Ent}
theorem oL_ {P : Program} {E : Env} {o : Oper} {K : Value → List Ent → Prop} {L' : List Ent} (hL : ∀ w, St S w0 w L → St S w0 w L') (h : OpJ P S w0 E L' o K) : OpJ P S w0 E L o K := fun w hS => h w (hL w hS)
end
section
variable {P : Program} {n : Dim} {S : List Nat} {w0 : World} {Q : Post} {E : Env} {L : List Ent}
end
section
variable {P : Program} {E : Env} {w : World} {x y : Operand} {dst : Option Nat} {t t' ty : TypeId} {pos : String} {af : Array Edge} {g : Option (Nat × Bool)}
end
end Go.GV

namespace Go.GV
open Go.RowKit
section
variable {P : Program} {n : Dim} {S : List Nat} {w0 w : World} {Q : Post} {E : Env} {L : List Ent}
def RoundM {X : Type} (n : Dim) (D : X → List Nat) (S : List Nat) (w0 : World) (I : X → Prop) (W : X → World → Prop) (Ef : X → Env) (Lf : X → List Ent) (μ : X → Nat) (m : Nat) (Q : Post) : Post :=
  Exit.then (fun a w => ∃ x, I x ∧ W x w ∧ μ x < m ∧ Rep { n with ds := (D x).map mark } (Ef x) a ∧ St S w0 w (Lf x)) Q
def NP (Q : Post) : Post := fun e a w => match e with
  | .panic _ => False
  | e => Q e a w
theorem NP.of {Q : Post} (e : Exit) (a : Act) (w : World) (h : NP Q e a w) : Q e a w := by
  cases e <;> first | exact h | exact h.elim
end
end Go.GV

namespace Go.Proofs.YtngjdmhpljmkpaaGreatDoor
namespace R44
open Go.Lib
abbrev Bs := List UInt8
def wordsGo : Bs → Bs → List Bs
  | cur, [] => if cur = [] then [] else [cur]
  | cur, c :: r => if c = 32 then (if cur = [] then wordsGo [] r else cur :: wordsGo [] r) else wordsGo (cur ++ [c]) r
def words (s : Bs) : List Bs := wordsGo [] s
def piece (L : Bs) (x : Nat × Nat) : Bs := (L.drop x.1).take (x.2 - x.1)
theorem grow {L : Bs} {a pos w : Nat} (h : a ≤ pos) : (L.drop a).take (pos - a) ++ (L.drop pos).take w = (L.drop a).take (pos + w - a) := by
  have e : pos + w - a = (pos - a) + w := by omega
  rw [e, List.take_add, List.drop_drop, show a + (pos - a) = pos by omega]
def splitGo (b : UInt8) : Bs → Bs → List Bs
  | cur, [] => [cur]
  | cur, c :: r => if c = b then cur :: splitGo b [] r else splitGo b (cur ++ [c]) r
def splitC (b : UInt8) (s : Bs) : List Bs := splitGo b [] s
theorem splitGo_pre (b : UInt8) : ∀ (s cur : Bs), splitGo b cur s = (match splitGo b [] s with | [] => [] | x :: r => (cur ++ x) :: r)
  | [], cur => by simp [splitGo]
  | c :: r, cur => by
    rw [splitGo, splitGo]
    split
    · simp
    · rw [splitGo_pre b r (cur ++ [c]), splitGo_pre b r ([] ++ [c])]
      cases splitGo b [] r <;> simp
theorem splitGo_ne (b : UInt8) : ∀ (s cur : Bs), splitGo b cur s ≠ []
  | [], cur => by simp [splitGo]
  | c :: r, cur => by
    rw [splitGo]; split
    · exact List.cons_ne_nil _ _
    · exact splitGo_ne b r _
theorem splitK_go (b : UInt8) : ∀ (s : Bs) (k : Nat), s.count b ≤ k → splitK [b] 0 k s = splitC b s
  | [], 0, _ => rfl
  | [], k + 1, _ => rfl
  | c :: r, k, hk => by
    have hi : index (c :: r) [b] = if c = b then 0 else if index r [b] == -1 then -1 else index r [b] + 1 := by
      rw [index]
      by_cases h : c = b
      · subst h; rw [if_pos rfl, if_pos (by simp [List.isPrefixOf])]
      · rw [if_neg h, if_neg (by simp [List.isPrefixOf]; exact fun e => h e.symm)]
    by_cases h : c = b
    · subst h
      rw [List.count_cons_self] at hk
      obtain ⟨k, rfl⟩ : ∃ j, k = j + 1 := ⟨k - 1, by omega⟩
      rw [splitK, hi, if_pos rfl]
      show [] :: splitK [c] 0 k r = _
      rw [splitK_go c r k (by omega)]
      unfold splitC
      rw [splitGo, if_pos rfl]
    · rw [List.count_cons_of_ne (by simpa using h)] at hk
      unfold splitC
      rw [splitGo, if_neg h, splitGo_pre]
      have ih := splitK_go b r k hk
      unfold splitC at ih
      rw [← ih]
      cases k with
      | zero => rfl
      | succ k =>
        rw [splitK, splitK, hi, if_neg h]
        by_cases hm : index r [b] = -1
        · simp [hm]
        · have h0 := index_ge r [b]
          have e1 : (index r [b] == -1) = false := by simpa using hm
          have e2 : (index r [b] + 1 == -1) = false := by simp; omega
          have e3 : (index r [b] + 1).toNat = (index r [b]).toNat + 1 := by omega
          rw [e1]
          simp only [Bool.false_eq_true, if_false, e2, e3]
          simp
theorem split_lib (s : ByteArray) (b : UInt8) : (splitB ⟨#[b]⟩ 0 (countB s ⟨#[b]⟩) s).map (·.data.toList) = splitC b s.data.toList := by
  rw [splitB_data]
  refine splitK_go b _ _ ?_
  have : countB s ⟨#[b]⟩ = count s.data.toList [b] := rfl
  rw [this, count_one]; exact Nat.le_refl _
end R44
end Go.Proofs.YtngjdmhpljmkpaaGreatDoor

namespace Go.Proofs.YtngjdmhpljmkpaaGreatDoor
namespace R44
open Go.Lib
def vN (s : List UInt8) : Nat := s.foldl (fun n c => 10 * n + (c.toNat - 48)) 0
def isD (c : UInt8) : Bool := decide (48 ≤ c.toNat) && decide (c.toNat ≤ 57)
def numV (s : List UInt8) : Option Nat := if (s.length ≤ 4 ∧ s.all isD = true) ∧ decDigits (vN s) = s then some (vN s) else none
theorem dig_nat {k : Nat} (h : k < 10) : (UInt8.ofNat (48 + k)).toNat = 48 + k := by simp; omega
theorem dec_small {n : Nat} (h : n < 10) : decDigits n = [UInt8.ofNat (48 + n)] := by rw [decDigits, dif_pos h]
theorem dec_big {n : Nat} (h : ¬ n < 10) : decDigits n = decDigits (n / 10) ++ [UInt8.ofNat (48 + n % 10)] := by rw [decDigits, dif_neg h]
theorem dec_val (n : Nat) : vN (decDigits n) = n := by
  induction n using Nat.strongRecOn with
  | _ n ih =>
    by_cases h : n < 10
    · rw [dec_small h]; unfold vN; simp only [List.foldl_cons, List.foldl_nil]; rw [dig_nat h]; omega
    · rw [dec_big h]
      have := ih (n / 10) (by omega)
      unfold vN at *
      rw [List.foldl_append, this]
      simp only [List.foldl_cons, List.foldl_nil]
      rw [dig_nat (by omega)]; omega
theorem dec_all (n : Nat) : (decDigits n).all isD = true := by
  induction n using Nat.strongRecOn with
  | _ n ih =>
    by_cases h : n < 10
    · rw [dec_small h]; simp [isD]; omega
    · rw [dec_big h, List.all_append, ih (n / 10) (by omega)]; simp [isD]; omega
theorem dec_ne (n : Nat) : decDigits n ≠ [] := by
  by_cases h : n < 10
  · rw [dec_small h]; exact List.cons_ne_nil _ _
  · rw [dec_big h]; simp
theorem dec_len_aux : ∀ (k n : Nat), n < 10 ^ (k + 1) → (decDigits n).length ≤ k + 1
  | 0, n, h => by rw [dec_small (by simpa using h)]; exact Nat.le_refl _
  | k + 1, n, h => by
    by_cases h2 : n < 10
    · rw [dec_small h2]; simp
    · rw [dec_big h2, List.length_append]
      have := dec_len_aux k (n / 10) (by rw [Nat.pow_succ] at h; omega)
      simp; omega
theorem dec_len19 {n : Nat} (h : n ≤ 9223372036854775807) : (decDigits n).length ≤ 19 := dec_len_aux 18 _ (by omega)
theorem parse_digits : ∀ (s : List UInt8) (a : Nat), s.all isD = true → a < 10000 → s.foldl (fun n c => 10 * n + (c.toNat - 48)) a < 100000 → parseUint10 a s = .ok (s.foldl (fun n c => 10 * n + (c.toNat - 48)) a)
  | [], a, _, _, _ => rfl
  | c :: r, a, hd, ha, hb => by
    rw [List.all_cons, Bool.and_eq_true] at hd
    have hc := hd.1
    unfold isD at hc
    simp only [Bool.and_eq_true, decide_eq_true_eq] at hc
    rw [List.foldl_cons] at hb ⊢
    have hge : ∀ (l : List UInt8) (x : Nat), x ≤ l.foldl (fun n c => 10 * n + (c.toNat - 48)) x := by
      intro l
      induction l with
      | nil => intro x; exact Nat.le_refl _
      | cons d l ih => intro x; rw [List.foldl_cons]; have := ih (10 * x + (d.toNat - 48)); omega
    have h1 := hge r (10 * a + (c.toNat - 48))
    rw [parseUint10, if_pos hc, if_neg (by omega), if_neg (by omega), Nat.mul_comm a 10]
    by_cases hs : 10 * a + (c.toNat - 48) < 10000
    · exact parse_digits r _ hd.2 hs hb
    · cases r with
      | nil => rfl
      | cons d r =>
        exfalso
        have h2 := hge r (10 * (10 * a + (c.toNat - 48)) + (d.toNat - 48))
        rw [List.foldl_cons] at hb
        omega
theorem atoi_dec {n : Nat} (h : n ≤ 9999) : atoiAll (decDigits n) = .ok (n : Int) := by
  have hp : parseMag (decDigits n) = .ok n := by
    unfold parseMag
    rw [if_neg (dec_ne n)]
    have hv := dec_val n
    unfold vN at hv
    rw [parse_digits _ 0 (dec_all n) (by decide) (by rw [hv]; omega), hv]
  cases hd : decDigits n with
  | nil => exact absurd hd (dec_ne n)
  | cons c r =>
    have ha := dec_all n
    rw [hd, List.all_cons, Bool.and_eq_true] at ha
    have hc := ha.1
    unfold isD at hc
    simp only [Bool.and_eq_true, decide_eq_true_eq] at hc
    rw [atoiAll_plain c r (by omega) (by omega), ← hd, hp]
    unfold signless
    simp only
    rw [if_neg (by omega)]
def AtoiJ (s : List UInt8) (n : Int) (er : Bool) : Prop := (er = true → atoiAll s = .ok n) ∧ (er = false → ∀ v, atoiAll s ≠ .ok v) ∧ -9223372036854775808 ≤ n ∧ n ≤ 9223372036854775807
def SmallJ (s : List UInt8) (n : Int) (ok : Bool) : Prop := (ok = true → numV s = some n.toNat ∧ 0 ≤ n ∧ n ≤ 9999) ∧ (ok = false → numV s = none)
def restD (m : Nat) : List UInt8 := if m = 0 then [] else decDigits m
def DigJ (n m : Nat) (s : List UInt8) : Prop := (s = [] ∧ m = n) ∨ (s ≠ [] ∧ decDigits n = restD m ++ s)
theorem DigJ.start (n : Nat) : DigJ n n [] := .inl ⟨rfl, rfl⟩
theorem dig_split {m : Nat} : decDigits m = restD (m / 10) ++ [UInt8.ofNat (48 + m % 10)] := by
  by_cases h : m < 10
  · rw [dec_small h]; unfold restD; rw [if_pos (by omega)]; simp; congr 2; omega
  · rw [dec_big h]; unfold restD; rw [if_neg (by omega)]
theorem DigJ.step {n m : Nat} {s : List UInt8} (h : DigJ n m s) (hc : 0 < m ∨ s = []) : DigJ n (m / 10) ([UInt8.ofNat (48 + m % 10)] ++ s) := by
  refine .inr ⟨by simp, ?_⟩
  rw [← List.append_assoc, ← dig_split]
  rcases h with ⟨h1, h2⟩ | ⟨h1, h2⟩
  · rw [h1, h2, List.append_nil]
  · rw [h2]
    rcases hc with hc | hc
    · unfold restD; rw [if_neg (by omega)]
    · exact absurd hc h1
theorem DigJ.stepI {n m : Nat} {s : List UInt8} (h : DigJ n m s) (hc : 0 < m ∨ s.length < 1) : DigJ n (m / 10) ([UInt8.ofNat (48 + m % 10)] ++ s) := h.step (hc.imp id fun e => List.length_eq_zero_iff.1 (by omega))
theorem DigJ.done {n m : Nat} {s : List UInt8} (h : DigJ n m s) (h0 : m = 0) (hs : s ≠ []) : s = decDigits n := by
  rcases h with ⟨h1, _⟩ | ⟨_, h2⟩
  · exact absurd h1 hs
  · rw [h2, h0]; rfl
theorem vN_snoc (s : List UInt8) (c : UInt8) : vN (s ++ [c]) = 10 * vN s + (c.toNat - 48) := by unfold vN; rw [List.foldl_append]; rfl
end R44
end Go.Proofs.YtngjdmhpljmkpaaGreatDoor

namespace Go.Proofs.YtngjdmhpljmkpaaGreatDoor
open Go.GV
structure SortField where
  At : Int
  Length : Int
  Kind : Int
  Descending : Bool
deriving DecidableEq, Inhabited
def SortField.enc (a : SortField) : List Value := [vI a.At, vI a.Length, vI a.Kind, vB a.Descending]
end Go.Proofs.YtngjdmhpljmkpaaGreatDoor

namespace Go.Proofs.YtngjdmhpljmkpaaGreatDoor
namespace Srt
structure Cmp {α : Type} (c : α → α → Int) : Prop where
  anti : ∀ a b, c b a = -c a b
  trans : ∀ a b d, c a b ≤ 0 → c b d ≤ 0 → c a d ≤ 0
section
variable {α β : Type} {c : α → α → Int}
theorem Cmp.self (h : Cmp c) (a : α) : c a a = 0 := by have := h.anti a a; omega
theorem Cmp.le_lt (h : Cmp c) {a b d : α} (h1 : c a b ≤ 0) (h2 : c b d < 0) : c a d < 0 := by
  have h3 := h.trans a b d h1 (by omega)
  by_cases h4 : c a d = 0
  · have h5 := h.trans d a b (by have := h.anti a d; omega) h1
    have := h.anti b d; omega
  · omega
theorem Cmp.lt_le (h : Cmp c) {a b d : α} (h1 : c a b < 0) (h2 : c b d ≤ 0) : c a d < 0 := by
  have h3 := h.trans a b d (by omega) h2
  by_cases h4 : c a d = 0
  · have h5 := h.trans b d a h2 (by have := h.anti a d; omega)
    have := h.anti a b; omega
  · omega
def ins (c : α → α → Int) : List α → α → List α
  | [], x => [x]
  | y :: r, x => if c y x ≤ 0 then y :: ins c r x else x :: y :: r
def srt (c : α → α → Int) (l : List α) : List α := l.foldl (ins c) []
def lt (c : α → α → Int) (p q : α × Nat) : Prop := c p.1 q.1 < 0 ∨ (c p.1 q.1 = 0 ∧ p.2 < q.2)
theorem lt_asymm (h : Cmp c) {p q : α × Nat} (h1 : lt c p q) (h2 : lt c q p) : False := by
  have := h.anti p.1 q.1
  rcases h1 with h1 | h1 <;> rcases h2 with h2 | h2 <;> omega
theorem lt_le {p q : α × Nat} (h1 : lt c p q) : c p.1 q.1 ≤ 0 := by rcases h1 with h1 | h1 <;> omega
theorem lt_trans (h : Cmp c) {p q r : α × Nat} (h1 : lt c p q) (h2 : lt c q r) : lt c p r := by
  rcases h1 with h1 | ⟨h1, h3⟩
  · exact .inl (h.lt_le h1 (lt_le h2))
  · rcases h2 with h2 | ⟨h2, h4⟩
    · exact .inl (h.le_lt (by omega) h2)
    · refine .inr ⟨?_, by omega⟩
      have h5 := h.trans p.1 q.1 r.1 (by omega) (by omega)
      have h6 := h.trans r.1 q.1 p.1 (by have := h.anti q.1 r.1; omega) (by have := h.anti p.1 q.1; omega)
      have := h.anti p.1 r.1; omega
theorem unique (h : Cmp c) {l m : List (α × Nat)} (hl : l.Pairwise (lt c)) (hm : m.Pairwise (lt c)) (hp : l.Perm m) : l = m :=
  List.Perm.eq_of_pairwise (fun _ _ _ _ h1 h2 => (lt_asymm h h1 h2).elim) hl hm hp
theorem ins_perm : ∀ (l : List α) (x : α), (ins c l x).Perm (x :: l)
  | [], _ => .refl _
  | y :: r, x => by
    rw [ins]; split
    · exact ((ins_perm r x).cons y).trans (.swap _ _ _)
    · exact .refl _
theorem ins_mem {l : List α} {x y : α} : y ∈ ins c l x ↔ y = x ∨ y ∈ l := by rw [(ins_perm l x).mem_iff, List.mem_cons]
theorem ins_len (l : List α) (x : α) : (ins c l x).length = l.length + 1 := (ins_perm l x).length_eq
theorem foldl_perm : ∀ (l m : List α), (l.foldl (ins c) m).Perm (l ++ m)
  | [], _ => .refl _
  | x :: l, m => ((foldl_perm l _).trans ((ins_perm m x).append_left l)).trans List.perm_middle
theorem srt_perm (l : List α) : (srt c l).Perm l := by have := foldl_perm (c := c) l []; rwa [List.append_nil] at this
theorem srt_mem {l : List α} {x : α} : x ∈ srt c l ↔ x ∈ l := (srt_perm l).mem_iff
def Ordered (c : α → α → Int) (l : List α) : Prop := l.Pairwise fun a b => c a b ≤ 0
abbrev tc (c : α → α → Int) (p q : α × Nat) : Int := c p.1 q.1
theorem Cmp.tagged (h : Cmp c) : Cmp (tc c) := ⟨fun a b => h.anti a.1 b.1, fun a b d => h.trans a.1 b.1 d.1⟩
def hd (d : α) (l : List α) : α := l.headD d
def best (c : α → α → Int) (ls : List (List α)) : Nat → Option Nat
  | 0 => none
  | k + 1 => match ls.getD k [] with
    | [] => best c ls k
    | x :: _ => match best c ls k with
      | none => some k
      | some b => match ls.getD b [] with
        | [] => some k
        | y :: _ => if c x y < 0 then some k else some b
def BestOk (c : α → α → Int) (ls : List (List α)) (k : Nat) : Option Nat → Prop
  | none => ∀ j, j < k → ls.getD j [] = []
  | some b => b < k ∧ ∃ x r, ls.getD b [] = x :: r ∧ ∀ j, j < k → ∀ y s, ls.getD j [] = y :: s → c x y ≤ 0 ∧ (j < b → c x y < 0)
def mergeN (c : α → α → Int) : Nat → List (List α) → List α
  | 0, _ => []
  | n + 1, ls => match best c ls ls.length with
    | none => []
    | some b => match ls.getD b [] with
      | [] => []
      | x :: r => x :: mergeN c n (ls.set b r)
def total (ls : List (List α)) : Nat := ls.flatten.length
def merge (c : α → α → Int) (ls : List (List α)) : List α := mergeN c (total ls) ls
theorem getD_mem {ls : List (List α)} {b : Nat} {x : α} {r : List α} (h : ls.getD b [] = x :: r) : b < ls.length := by
  by_cases hb : b < ls.length
  · exact hb
  · rw [List.getD_eq_getElem?_getD, List.getElem?_eq_none (by omega)] at h; cases h
theorem set_perm : ∀ {ls : List (List α)} {b : Nat} {x : α} {r : List α}, ls.getD b [] = x :: r → ls.flatten.Perm (x :: (ls.set b r).flatten)
  | [], b, x, r, h => by cases h
  | l :: ls, 0, x, r, h => by
    have h : l = x :: r := h
    subst h; exact .refl _
  | l :: ls, b + 1, x, r, h => by
    have ih := set_perm (ls := ls) (b := b) h
    rw [List.set_cons_succ, List.flatten_cons, List.flatten_cons]
    exact (ih.append_left l).trans List.perm_middle
def Apart (c : α → α → Int) (l m : List (α × Nat)) : Prop := ∀ a ∈ l, ∀ b ∈ m, c a.1 b.1 = 0 → a.2 < b.2
structure Good (c : α → α → Int) (ls : List (List (α × Nat))) : Prop where
  each : ∀ l ∈ ls, l.Pairwise (lt c)
  cross : ls.Pairwise (Apart c)
theorem getD_of {ls : List (List β)} {j : Nat} (h : j < ls.length) : ls.getD j [] = ls[j] := by rw [List.getD_eq_getElem?_getD, List.getElem?_eq_getElem h]; rfl
theorem Good.set {ls : List (List (α × Nat))} (h : Good c ls) {b : Nat} {x : α × Nat} {r : List (α × Nat)} (hx : ls.getD b [] = x :: r) : Good c (ls.set b r) := by
  have hb := getD_mem hx
  rw [getD_of hb] at hx
  constructor
  · intro l hl
    rcases List.mem_or_eq_of_mem_set hl with hl | rfl
    · exact h.each l hl
    · have := h.each ls[b] (List.getElem_mem hb)
      rw [hx] at this
      exact (List.pairwise_cons.1 this).2
  · rw [List.pairwise_iff_getElem]
    intro i j hi hj hij
    have hc := List.pairwise_iff_getElem.1 h.cross i j (by simpa using hi) (by simpa using hj) hij
    intro p hp q hq
    refine hc p ?_ q ?_
    · rw [List.getElem_set] at hp
      split at hp
      · rename_i hbi; subst hbi; rw [hx]; exact List.mem_cons_of_mem _ hp
      · exact hp
    · rw [List.getElem_set] at hq
      split at hq
      · rename_i hbi; subst hbi; rw [hx]; exact List.mem_cons_of_mem _ hq
      · exact hq
def chunksN (n : Nat) : Nat → List α → List (List α)
  | 0, _ => []
  | m + 1, l => match l with
    | [] => []
    | x :: r => (x :: r).take n :: chunksN n m ((x :: r).drop n)
def chunks (n : Nat) (l : List α) : List (List α) := chunksN n l.length l
def pass (c : α → α → Int) (n : Nat) (ls : List (List α)) : List (List α) := (chunks n ls).map (merge c)
theorem Good.append {l m : List (List (α × Nat))} : Good c (l ++ m) ↔ Good c l ∧ Good c m ∧ ∀ x ∈ l, ∀ y ∈ m, Apart c x y := by
  constructor
  · intro h
    have h2 := List.pairwise_append.1 h.cross
    exact ⟨⟨fun x hx => h.each x (List.mem_append_left _ hx), h2.1⟩, ⟨fun x hx => h.each x (List.mem_append_right _ hx), h2.2.1⟩, h2.2.2⟩
  · rintro ⟨h1, h2, h3⟩
    exact ⟨fun x hx => (List.mem_append.1 hx).elim (h1.each x) (h2.each x), List.pairwise_append.2 ⟨h1.cross, h2.cross, h3⟩⟩
def roundsN (c : α → α → Int) (n : Nat) : Nat → List (List α) → List (List α) × Nat
  | 0, ls => (ls, 0)
  | m + 1, ls => if ls.length ≤ 1 then (ls, 0) else ((roundsN c n m (pass c n ls)).1, (roundsN c n m (pass c n ls)).2 + 1)
def rounds (c : α → α → Int) (n : Nat) (ls : List (List α)) : List (List α) × Nat := roundsN c n ls.length ls
def passes (fan : Nat) : Nat → Nat → Nat
  | 0, _ => 0
  | m + 1, n => if n ≤ 1 then 0 else passes fan m ((n + fan - 1) / fan) + 1
structure El (α : Type) where
  run : Nat
  no : Nat
  x : α
def El.tag (e : El α) : α × Nat := (e.x, e.no)
def El.lt (c : α → α → Int) (p q : El α) : Prop := p.run < q.run ∨ (p.run = q.run ∧ Srt.lt c p.tag q.tag)
instance (c : α → α → Int) (p q : El α) : Decidable (El.lt c p q) := by unfold El.lt Srt.lt; exact inferInstance
theorem El.tri (h : Cmp c) {p q : El α} (hn : p.no ≠ q.no) (hlt : ¬ El.lt c p q) : El.lt c q p := by
  unfold El.lt Srt.lt El.tag at *
  have := h.anti p.x q.x
  simp only at *
  omega
theorem El.asymm (h : Cmp c) {p q : El α} (h1 : El.lt c p q) (h2 : El.lt c q p) : False := by
  rcases h1 with h1 | ⟨h1, h3⟩ <;> rcases h2 with h2 | ⟨h2, h4⟩
  · omega
  · omega
  · omega
  · exact lt_asymm h h3 h4
theorem El.trans (h : Cmp c) {p q r : El α} (h1 : El.lt c p q) (h2 : El.lt c q r) : El.lt c p r := by
  rcases h1 with h1 | ⟨h1, h3⟩ <;> rcases h2 with h2 | ⟨h2, h4⟩
  · exact .inl (by omega)
  · exact .inl (by omega)
  · exact .inl (by omega)
  · exact .inr ⟨by omega, lt_trans h h3 h4⟩
def insE (c : α → α → Int) : List (El α) → El α → List (El α)
  | [], e => [e]
  | f :: r, e => if El.lt c f e then f :: insE c r e else e :: f :: r
theorem insE_perm : ∀ (l : List (El α)) (e : El α), (insE c l e).Perm (e :: l)
  | [], _ => .refl _
  | f :: r, e => by
    rw [insE]; split
    · exact ((insE_perm r e).cons f).trans (.swap _ _ _)
    · exact .refl _
theorem insE_mem {l : List (El α)} {e f : El α} : f ∈ insE c l e ↔ f = e ∨ f ∈ l := by rw [(insE_perm l e).mem_iff, List.mem_cons]
theorem insE_lt (h : Cmp c) : ∀ {l : List (El α)} {e : El α}, l.Pairwise (El.lt c) → (∀ f ∈ l, f.no < e.no) → (insE c l e).Pairwise (El.lt c)
  | [], _, _, _ => List.pairwise_singleton _ _
  | f :: r, e, ho, ht => by
    have ho' := List.pairwise_cons.1 ho
    rw [insE]; split
    · rename_i hc
      refine List.pairwise_cons.2 ⟨fun z hz => ?_, insE_lt h ho'.2 fun z hz => ht z (List.mem_cons_of_mem _ hz)⟩
      rcases insE_mem.1 hz with rfl | hz
      · exact hc
      · exact ho'.1 z hz
    · rename_i hc
      have hx := El.tri h (by have := ht f List.mem_cons_self; omega) hc
      refine List.pairwise_cons.2 ⟨fun z hz => ?_, ho⟩
      rcases List.mem_cons.1 hz with rfl | hz
      · exact hx
      · exact El.trans h hx (ho'.1 z hz)
def putR (out : List (List β)) (r : Nat) (p : β) : List (List β) := if r = out.length then out ++ [[p]] else out.set r (out.getD r [] ++ [p])
def sel (c : α → α → Int) : Nat → List (El α) → List (α × Nat) → List (List (α × Nat)) → List (List (α × Nat))
  | 0, _, _, out => out
  | _ + 1, [], _, out => out
  | m + 1, e :: mem, [], out => sel c m mem [] (putR out e.run e.tag)
  | m + 1, e :: mem, y :: rest, out => sel c m (insE c mem ⟨if c y.1 e.x < 0 then e.run + 1 else e.run, y.2, y.1⟩) rest (putR out e.run e.tag)
def fillE (c : α → α → Int) (l : List (α × Nat)) : List (El α) := l.foldl (fun m y => insE c m ⟨0, y.2, y.1⟩) []
def runsT (c : α → α → Int) (M : Nat) (l : List α) : List (List (α × Nat)) := sel c l.length (fillE c (l.zipIdx.take M)) (l.zipIdx.drop M) []
def runs (c : α → α → Int) (M : Nat) (l : List α) : List (List α) := (runsT c M l).map (List.map Prod.fst)
structure Sel (c : α → α → Int) (M : Nat) (l : List (α × Nat)) (mem : List (El α)) (rest : List (α × Nat)) (out : List (List (α × Nat))) (d : Nat) : Prop where
  ord : mem.Pairwise (El.lt c)
  good : Good c out
  runsE : ∀ e ∈ mem, e.run + 1 = out.length ∨ e.run = out.length
  later : ∀ i, ∀ p ∈ out.getD i [], ∀ e ∈ mem, i + 1 = out.length → e.run = i → lt c p e.tag
  less : ∀ i, i + 1 = out.length → ∀ e ∈ mem, e.run = out.length → ∃ p ∈ out.getD i [], c e.x p.1 < 0
  apart : ∀ i, ∀ p ∈ out.getD i [], ∀ e ∈ mem, i < e.run → c p.1 e.x = 0 → p.2 < e.no
  within : ∀ a ∈ mem, ∀ b ∈ mem, a.run < b.run → c a.x b.x = 0 → a.no < b.no
  tagsR : rest.Pairwise fun a b => a.2 < b.2
  tagsM : ∀ y ∈ rest, ∀ e ∈ mem, e.no < y.2
  tagsO : ∀ y ∈ rest, ∀ i, ∀ p ∈ out.getD i [], p.2 < y.2
  perm : (out.flatten ++ mem.map El.tag ++ rest).Perm l
  full : rest ≠ [] → mem.length + d = M
  ne : ∀ x ∈ out, x ≠ []
  long : ∀ i, i + 1 < out.length → M ≤ (out.getD i []).length
  now : (M ≤ (out.getD (out.length - 1) []).length + (mem.filter fun e => e.run + 1 == out.length).length ∧ out ≠ []) ∨ (rest = [] ∧ ((∀ e ∈ mem, e.run + 1 = out.length) ∨ out = [])) ∨ (out = [] ∧ M ≤ mem.length)
theorem Sel.push (h : Cmp c) {M : Nat} {l rest : List (α × Nat)} {e : El α} {y : α × Nat} {mem : List (El α)} {out : List (List (α × Nat))} (hs : Sel c M l mem (y :: rest) out 1)
    (hl : out.length = e.run + 1) (hle : ∀ p ∈ out.getD e.run [], p = e.tag ∨ lt c p e.tag) (hin : e.tag ∈ out.getD e.run []) :
    Sel c M l (insE c mem ⟨if c y.1 e.x < 0 then e.run + 1 else e.run, y.2, y.1⟩) rest out 0 := by
  have ht := List.pairwise_cons.1 hs.tagsR
  have hy : y ∈ y :: rest := List.mem_cons_self
  have hr' : ∀ z ∈ rest, z ∈ y :: rest := fun z hz => List.mem_cons_of_mem _ hz
  have hle' : ∀ p ∈ out.getD e.run [], c p.1 e.x ≤ 0 := fun p hp => by
    rcases hle p hp with rfl | h1
    · exact Int.le_of_eq (h.self _)
    · exact lt_le h1
  constructor
  · exact insE_lt h hs.ord (fun f hf => hs.tagsM y hy f hf)
  · exact hs.good
  · intro f hf
    rcases insE_mem.1 hf with rfl | hf
    · simp only; split
      · exact .inr (by omega)
      · exact .inl (by omega)
    · exact hs.runsE f hf
  · intro i p hp f hf hi hr
    rcases insE_mem.1 hf with rfl | hf
    · simp only at hr
      have hie : i = e.run := by omega
      subst hie
      split at hr
      · omega
      · rename_i hc
        have h1 := hle' p hp
        have h2 : c e.x y.1 ≤ 0 := by have := h.anti y.1 e.x; omega
        have h3 := h.trans _ _ _ h1 h2
        by_cases h0 : c p.1 y.1 = 0
        · exact .inr ⟨h0, hs.tagsO y hy _ p hp⟩
        · refine .inl ?_
          show c p.1 y.1 < 0
          omega
    · exact hs.later i p hp f hf hi hr
  · intro i hi f hf hr
    rcases insE_mem.1 hf with rfl | hf
    · simp only at hr
      split at hr
      · rename_i hc
        have hie : i = e.run := by omega
        subst hie
        exact ⟨e.tag, hin, hc⟩
      · omega
    · exact hs.less i hi f hf hr
  · intro i p hp f hf hi h0
    rcases insE_mem.1 hf with rfl | hf
    · exact hs.tagsO y hy i p hp
    · exact hs.apart i p hp f hf hi h0
  · intro a ha b hb hab h0
    rcases insE_mem.1 ha with rfl | ha
    · rcases insE_mem.1 hb with rfl | hb
      · exact absurd hab (Nat.lt_irrefl _)
      · simp only at hab h0
        have hbr := hs.runsE b hb
        split at hab
        · omega
        · rename_i hc
          obtain ⟨p, hp, hlt⟩ := hs.less e.run (by omega) b hb (by omega)
          have h1 := hle' p hp
          have h2 : c e.x y.1 ≤ 0 := by have := h.anti y.1 e.x; omega
          have h3 := h.lt_le hlt (h.trans _ _ _ h1 h2)
          have := h.anti y.1 b.x; omega
    · rcases insE_mem.1 hb with rfl | hb
      · exact hs.tagsM y hy a ha
      · exact hs.within a ha b hb hab h0
  · exact ht.2
  · intro z hz f hf
    rcases insE_mem.1 hf with rfl | hf
    · exact ht.1 z hz
    · exact hs.tagsM z (hr' z hz) f hf
  · exact fun z hz => hs.tagsO z (hr' z hz)
  · refine List.Perm.trans ?_ hs.perm
    rw [List.append_assoc, List.append_assoc]
    refine List.Perm.append_left _ ?_
    refine (((insE_perm _ _).map El.tag).append_right rest).trans ?_
    rw [List.map_cons]
    exact List.perm_middle.symm
  · intro hr
    have := hs.full (by simp)
    rw [(insE_perm _ _).length_eq, List.length_cons]; omega
  · exact hs.ne
  · exact hs.long
  · rcases hs.now with ⟨h1, h2⟩ | ⟨h1, _⟩ | ⟨h1, _⟩
    · refine .inl ⟨?_, h2⟩
      rw [((insE_perm _ _).filter _).length_eq]
      exact Nat.le_trans h1 (Nat.add_le_add_left ((List.sublist_cons_self _ _).filter _).length_le _)
    · cases h1
    · subst h1; simp at hl
end
end Srt
end Go.Proofs.YtngjdmhpljmkpaaGreatDoor

namespace Go.Proofs.YtngjdmhpljmkpaaGreatDoor
open Go.GV
namespace Ord
theorem less_self : ∀ (s : Bytes), Op.bytesLess s s = false
  | [] => rfl
  | x :: s => by unfold Op.bytesLess; simp [less_self s]
def lt (a b : Bytes) : Prop := Op.bytesLess a b = true
theorem irr (a : Bytes) : ¬ lt a a := by unfold lt; rw [less_self]; decide
theorem lt_cons {x y : UInt8} {a b : Bytes} : lt (x :: a) (y :: b) ↔ (x.toNat < y.toNat ∨ (x.toNat = y.toNat ∧ lt a b)) := by
  unfold lt
  rw [Op.bytesLess, Bool.or_eq_true, Bool.and_eq_true, decide_eq_true_eq, beq_iff_eq, UInt8.lt_iff_toNat_lt, ← UInt8.toNat_inj]
theorem trans : ∀ {a b c : Bytes}, lt a b → lt b c → lt a c
  | _, _, [], _, h => by simp [lt, Op.bytesLess] at h
  | _, [], _ :: _, h, _ => by simp [lt, Op.bytesLess] at h
  | [], _ :: _, _ :: _, _, _ => rfl
  | x :: a, y :: b, z :: c, h, h2 => by
    rw [lt_cons] at *
    rcases h with h | ⟨h, h3⟩ <;> rcases h2 with h2 | ⟨h2, h4⟩
    · left; omega
    · left; omega
    · left; omega
    · exact .inr ⟨by omega, trans h3 h4⟩
theorem tri : ∀ (a b : Bytes), lt a b ∨ a = b ∨ lt b a
  | [], [] => .inr (.inl rfl)
  | [], _ :: _ => .inl rfl
  | _ :: _, [] => .inr (.inr rfl)
  | x :: a, y :: b => by
    rw [lt_cons, lt_cons]
    rcases Nat.lt_trichotomy x.toNat y.toNat with h | h | h
    · exact .inl (.inl h)
    · rcases tri a b with h2 | h2 | h2
      · exact .inl (.inr ⟨h, h2⟩)
      · exact .inr (.inl (by rw [UInt8.toNat_inj.1 h, h2]))
      · exact .inr (.inr (.inr ⟨h.symm, h2⟩))
    · exact .inr (.inr (.inl h))
theorem asymm {a b : Bytes} (h : lt a b) : ¬ lt b a := fun h2 => irr a (trans h h2)
end Ord
end Go.Proofs.YtngjdmhpljmkpaaGreatDoor

namespace Go.Proofs.YtngjdmhpljmkpaaGreatDoor
open Go.GV Go.RowKit
def rep (s : Bytes) : Nat → Bytes
  | 0 => []
  | c + 1 => s ++ rep s c
end Go.Proofs.YtngjdmhpljmkpaaGreatDoor

namespace Go.Proofs.YtngjdmhpljmkpaaGreatDoor
open Go.GV
namespace R44
open Srt (Cmp)
def most (k : Int) : Int := if k = 0 then 200 else if k = 1 then 18 else if k = 2 then 8 else 0
def fok (f : SortField) : Bool := decide (0 ≤ f.At) && decide (f.At ≤ 1000) && decide (1 ≤ f.Length) && decide (f.Length ≤ most f.Kind) && decide (f.At + f.Length ≤ 1000)
def valid (l : List SortField) : Bool := l.all fok && decide ((l.length : Int) ≤ 8)
def fld (s : Bytes) (f : SortField) : Bytes := (List.range f.Length.toNat).map fun j => s.getD (f.At.toNat + j) 32
def num : Bytes → Int → Option Int
  | [], n => some n
  | c :: r, n => if 48 ≤ c.toNat ∧ c.toNat ≤ 57 then num r (10 * n + ((c.toNat : Int) - 48)) else none
def trimL (s : Bytes) : Bytes := s.dropWhile (· == 32)
def trimR (s : Bytes) : Bytes := (s.reverse.dropWhile (· == 32)).reverse
def dec (s : Bytes) : Option Int := if (trimR (trimL s)).head? = some 45 then (if (trimR (trimL s)).tail = [] then none else (num (trimR (trimL s)).tail 0).map fun n => -n) else if trimR (trimL s) = [] then none else num (trimR (trimL s)) 0
def bin (s : Bytes) : Int := s.tail.foldl (fun n c => 256 * n + c.toNat) (int8 (s.headD 0))
def cmpI (x y : Int) : Int := if x < y then -1 else if y < x then 1 else 0
def cmpO : Option Int → Option Int → Int
  | some x, some y => cmpI x y
  | some _, none => 1
  | none, some _ => -1
  | none, none => 0
def cmpS (a b : Bytes) : Int := if Op.bytesLess a b = true then -1 else if a = b then 0 else 1
def cmpF (f : SortField) (a b : Bytes) : Int := if f.Kind = 1 then cmpO (dec (fld a f)) (dec (fld b f)) else if f.Kind = 2 then cmpI (bin (fld a f)) (bin (fld b f)) else cmpS (fld a f) (fld b f)
def cmp1 (f : SortField) (a b : Bytes) : Int := if f.Descending = true then -cmpF f a b else cmpF f a b
def cmpL : List SortField → Bytes → Bytes → Int
  | [], _, _ => 0
  | f :: r, a, b => if cmp1 f a b ≠ 0 then cmp1 f a b else cmpL r a b
def Tri (n : Int) : Prop := n = -1 ∨ n = 0 ∨ n = 1
end R44
end Go.Proofs.YtngjdmhpljmkpaaGreatDoor

namespace Go.Proofs.YtngjdmhpljmkpaaGreatDoor
open Go.GV
namespace R44
def fldN (s : Bytes) (a k : Nat) : Bytes := (List.range k).map fun j => s.getD (a + j) 32
theorem drop_cons {α : Type} {l : List α} {k : Nat} {d : α} (h : k < l.length) : l.drop k = l.getD k d :: l.drop (k + 1) := by
  rw [List.drop_eq_getElem_cons h, List.getD_eq_getElem?_getD, List.getElem?_eq_getElem h]; rfl
theorem num_step {l : Bytes} {k : Nat} {n : Int} (hk : k < l.length) (h1 : 48 ≤ (l.getD k 0).toNat) (h2 : (l.getD k 0).toNat ≤ 57) : num (l.drop k) n = num (l.drop (k + 1)) (10 * n + (((l.getD k 0).toNat : Int) - 48)) := by
  rw [drop_cons (d := 0) hk, num, if_pos ⟨h1, h2⟩]
def isDig (c : UInt8) : Bool := decide (48 ≤ c.toNat) && decide (c.toNat ≤ 57)
def val (l : Bytes) : Int := l.foldl (fun n c => 10 * n + ((c.toNat : Int) - 48)) 0
theorem num_all : ∀ (l : Bytes) (n : Int), (num l n).isSome = true → ∀ c ∈ l, isDig c = true
  | [], _, _, _, h => by cases h
  | d :: l, n, h, c, hc => by
    rw [num] at h
    split at h
    · rename_i hd
      rcases List.mem_cons.1 hc with rfl | hc
      · unfold isDig; simp only [Bool.and_eq_true, decide_eq_true_eq]; exact hd
      · exact num_all l _ h c hc
    · cases h
def RefNum (s : Bytes) (n : Int) (ok : Bool) : Prop := ok = (dec s).isSome ∧ ∀ x, dec s = some x → n = x
theorem take_snoc {α : Type} {l : List α} {k : Nat} {d : α} (h : k < l.length) : l.take (k + 1) = l.take k ++ [l.getD k d] := by
  rw [List.take_succ_eq_append_getElem h, List.getD_eq_getElem?_getD, List.getElem?_eq_getElem h]; rfl
theorem sub_snoc {s : Bytes} {j i : Nat} (hj : j ≤ i) (hi : i < s.length) : sub s j (i + 1) = sub s j i ++ [s.getD i 0] := by
  unfold sub
  rw [take_snoc (d := 0) hi, List.drop_append_of_le_length (by rw [List.length_take]; omega)]
theorem sub_none (s : Bytes) (i : Nat) : sub s i i = [] := by unfold sub; exact List.drop_of_length_le (by rw [List.length_take]; omega)
section
variable {f : SortField} {a b : Bytes}
variable {n m : Int} {o q : Bool}
end
def cmpV (l : List SortField) (a b : Bytes) : Int := if valid l = true then cmpL l a b else 0
theorem getD_mem {α : Type} {l : List α} {k : Nat} {d : α} (hk : k < l.length) : l.getD k d ∈ l := by
  rw [List.getD_eq_getElem?_getD, List.getElem?_eq_getElem hk]; exact List.getElem_mem hk
theorem valid_end {l : List SortField} (h : ∀ i, i < l.length → fok (l.getD i default) = true) : valid l = decide ((l.length : Int) ≤ 8) := by
  unfold valid
  rw [show l.all fok = true from List.all_eq_true.2 fun x hx => by
    obtain ⟨i, hi, rfl⟩ := List.mem_iff_getElem.1 hx
    have := h i hi
    rwa [List.getD_eq_getElem?_getD, List.getElem?_eq_getElem hi] at this, Bool.true_and]
end R44
end Go.Proofs.YtngjdmhpljmkpaaGreatDoor

namespace Go.Proofs.YtngjdmhpljmkpaaGreatDoor
open Go.GV
namespace R44
def isUp (c : UInt8) : Bool := decide ((65 : UInt8) ≤ c) && decide (c ≤ (90 : UInt8))
def isDg (c : UInt8) : Bool := decide ((48 : UInt8) ≤ c) && decide (c ≤ (57 : UInt8))
def isPl (c : UInt8) : Bool := isUp c || isDg c
def isSt (c : UInt8) : Bool := isUp c || decide (c = (42 : UInt8))
def isPs (c : UInt8) : Bool := isPl c || decide (c = (42 : UInt8))
def qualV (f g : UInt8 → Bool) (s : Bytes) : Bool := ((decide (1 ≤ s.length) && decide (s.length ≤ 8)) && f (s.getD 0 0)) && (s.drop 1).all g
section
variable {f g : UInt8 → Bool} {s : Bytes} {k : Nat}
theorem qual_0 (h : (((decide (((s.length : Nat) : Int) < 1)) || (decide ((8 : Int) < ((s.length : Nat) : Int)))) || (!(f (s.getD 0 0)))) = true) : false = qualV f g s := by
  have : ((decide (1 ≤ s.length) && decide (s.length ≤ 8)) && f (s.getD 0 0)) = false := by
    cases hf : f (s.getD 0 0) with
    | false => simp
    | true =>
      rw [hf] at h
      simp only [Bool.not_true, Bool.or_false, Bool.or_eq_true, decide_eq_true_eq] at h
      rw [Bool.and_true, Bool.and_eq_false_iff, decide_eq_false_iff_not, decide_eq_false_iff_not]
      omega
  unfold qualV; rw [this]; rfl
theorem qual_step (h : ∀ i, 1 ≤ i → i < k → g (s.getD i 0) = true) (hk : g (s.getD k 0) = true) : ∀ i, 1 ≤ i → i < k + 1 → g (s.getD i 0) = true := fun i h1 h2 => by
  by_cases e : i = k
  · subst e; exact hk
  · exact h i h1 (by omega)
theorem drop_at1 (h1 : 1 ≤ k) (h2 : k < s.length) : s.getD k 0 ∈ s.drop 1 := by
  rw [List.getD_eq_getElem?_getD, List.getElem?_eq_getElem h2, List.mem_iff_getElem]
  exact ⟨k - 1, by rw [List.length_drop]; omega, by rw [List.getElem_drop]; simp only [Option.getD_some]; congr 1; omega⟩
theorem qual_bad (h1 : 1 ≤ k) (h2 : k < s.length) (h : g (s.getD k 0) = false) : false = qualV f g s := by
  have : (s.drop 1).all g = false := by
    cases ha : (s.drop 1).all g with
    | false => rfl
    | true => have := List.all_eq_true.1 ha _ (drop_at1 h1 h2); rw [h] at this; cases this
  unfold qualV; rw [this, Bool.and_false]
theorem qual_end (h : (((decide (((s.length : Nat) : Int) < 1)) || (decide ((8 : Int) < ((s.length : Nat) : Int)))) || (!(f (s.getD 0 0)))) = false) (ha : ∀ i, 1 ≤ i → i < s.length → g (s.getD i 0) = true) : true = qualV f g s := by
  rw [Bool.or_eq_false_iff, Bool.or_eq_false_iff, decide_eq_false_iff_not, decide_eq_false_iff_not] at h
  have hf : f (s.getD 0 0) = true := by have := h.2; simpa using this
  have : (s.drop 1).all g = true := List.all_eq_true.2 fun x hx => by
    obtain ⟨i, hi, rfl⟩ := List.mem_iff_getElem.1 hx
    rw [List.length_drop] at hi
    have := ha (1 + i) (by omega) (by omega)
    rw [List.getD_eq_getElem?_getD, List.getElem?_eq_getElem (by omega)] at this
    rw [List.getElem_drop]; exact this
  unfold qualV
  rw [this, hf, decide_eq_true (by omega), decide_eq_true (by omega)]; rfl
end
def nameV (p : Bytes → Bool) (s : Bytes) : Bool := (decide (1 ≤ s.length) && decide (s.length ≤ 31)) && (splitC 46 s).all p
theorem name_len {P : Bytes → Bool} {s : Bytes} (h : nameV P s = true) : 1 ≤ s.length ∧ s.length ≤ 31 := by
  unfold nameV at h
  simp only [Bool.and_eq_true, decide_eq_true_eq] at h
  exact h.1
section
variable {p : Bytes → Bool} {s : Bytes} {k : Nat}
theorem name_0 (h : ((decide (((s.length : Nat) : Int) < 1)) || (decide ((31 : Int) < ((s.length : Nat) : Int)))) = true) : false = nameV p s := by
  have : (decide (1 ≤ s.length) && decide (s.length ≤ 31)) = false := by
    simp only [Bool.or_eq_true, decide_eq_true_eq] at h
    rw [Bool.and_eq_false_iff, decide_eq_false_iff_not, decide_eq_false_iff_not]; omega
  unfold nameV; rw [this]; rfl
theorem name_bad (hk : k < (splitC 46 s).length) (h : p ((splitC 46 s).getD k []) = false) : false = nameV p s := by
  have : (splitC 46 s).all p = false := by
    cases ha : (splitC 46 s).all p with
    | false => rfl
    | true => have := List.all_eq_true.1 ha _ (getD_mem (d := []) hk); rw [h] at this; cases this
  unfold nameV; rw [this, Bool.and_false]
theorem name_end (h : ((decide (((s.length : Nat) : Int) < 1)) || (decide ((31 : Int) < ((s.length : Nat) : Int)))) = false) (ha : ∀ i, i < (splitC 46 s).length → p ((splitC 46 s).getD i []) = true) : true = nameV p s := by
  rw [Bool.or_eq_false_iff, decide_eq_false_iff_not, decide_eq_false_iff_not] at h
  have : (splitC 46 s).all p = true := List.all_eq_true.2 fun x hx => by
    obtain ⟨i, hi, rfl⟩ := List.mem_iff_getElem.1 hx
    have := ha i hi
    rwa [List.getD_eq_getElem?_getD, List.getElem?_eq_getElem hi] at this
  unfold nameV
  rw [this, decide_eq_true (by omega), decide_eq_true (by omega)]; rfl
theorem all_step (h : ∀ i, i < k → p ((splitC 46 s).getD i []) = true) (hk : p ((splitC 46 s).getD k []) = true) : ∀ i, i < k + 1 → p ((splitC 46 s).getD i []) = true := fun i h2 => by
  by_cases e : i = k
  · subst e; exact hk
  · exact h i (by omega)
end
def patV (q : Bytes) : Bool := decide (q = [42, 42]) || (qualV isSt isPs q && !(Lib.contains q [42, 42]))
def groupV (s : Bytes) : Bool := (decide (((s.length : Nat) : Int) ≤ 22) && nameV (qualV isUp isPl) s) && true
def numG (q : Bytes) : Nat := if (q.length = 8 ∧ q.getD 0 0 = 71 ∧ q.drop 5 = [86, 48, 48]) ∧ ((q.drop 1).take 4).all isD = true then vN ((q.drop 1).take 4) else 0
end R44
end Go.Proofs.YtngjdmhpljmkpaaGreatDoor

namespace Go.Proofs.YtngjdmhpljmkpaaGreatDoor
open Go.GV Go.RowKit Go.Op
def TabP (S : List Nat) (w : World) : Prop := 1 ∉ S ∧ 1 < w.heap.size ∧ ∃ t f, w.heap[1]? = some (.cells (Lib.pow10Tab.map fun z => Value.int .u64 z).toArray t f)
theorem TabP.on {S Sc : List Nat} {w0 w : World} {Lc Lr : List Ent} (h : TabP S w0) (hS : St S w0 w (Lc ++ Lr)) (hSc : ∀ b ∈ Sc, ∃ e ∈ Lc, e.own = some b) : TabP Sc w := by
  obtain ⟨h1, h2, t, f, h3⟩ := h
  refine ⟨fun hc => ?_, Nat.lt_of_lt_of_le h2 hS.fr.size, t, f, (hS.fr.block _ h2 h1).trans h3⟩
  obtain ⟨e, he, ho⟩ := hSc _ hc
  rcases hS.own e (List.mem_append_left _ he) _ ho with h4 | h4
  · exact h1 h4
  · omega
def IsIfc (v : Value) : Prop := v = .nilIface ∨ ∃ te pe, v = .iface te pe
structure Tab (S : List Nat) (w : World) : Prop where
  pow : TabP S w
  mx : ∃ m, RO S w (some ⟨0, 0, none⟩) [vI m]
  es : ∃ v, IsIfc v ∧ RO S w (some ⟨2, 0, none⟩) [v]
  er : ∃ v, IsIfc v ∧ RO S w (some ⟨3, 0, none⟩) [v]
theorem Tab.on {S Sc : List Nat} {w0 w : World} {Lc Lr : List Ent} (h : Tab S w0) (hS : St S w0 w (Lc ++ Lr)) (hSc : ∀ b ∈ Sc, ∃ e ∈ Lc, e.own = some b) : Tab Sc w :=
  ⟨h.pow.on hS hSc, h.mx.imp fun _ k => k.on hS hSc, h.es.imp fun _ k => ⟨k.1, k.2.on hS hSc⟩, h.er.imp fun _ k => ⟨k.1, k.2.on hS hSc⟩⟩
theorem Tab.again {S : List Nat} {w0 w : World} {L : List Ent} (h : Tab S w0) (hS : St S w0 w L) : Tab (Lown L) w :=
  h.on (Lc := L) (Lr := []) (by rw [List.append_nil]; exact hS) lown_mem
theorem cell_of {S : List Nat} {w : World} {b : Nat} {v : Value} (h : RO S w (some ⟨b, 0, none⟩) [v]) : w.cell? ⟨b, 0, none⟩ = some v := h.cell (Fr.refl S w) (j := 0) rfl
section
variable {P : Program} {E : Env} {w : World} {x y : Operand} {dst : Option Nat} {t t' ty : TypeId} {pos : String} {af : Array Edge} {g : Option (Nat × Bool)}
def errV (ok : Bool) (N : Nat) : Value := match ok with
  | true => .nilIface
  | false => .iface 152 (.pointer (some ⟨N, 0, none⟩))
theorem run_eq_nn {m : Array (String × TypeId)} (ht : P.underlying t = some (.interface m)) : (Op.equal t .nilIface .nilIface).run P w = .ok true w := by
  show Sem.run P (Op.equalIn Op.maxDepth t .nilIface .nilIface) w = _
  have hd : Op.maxDepth = (Op.maxDepth - 1) + 1 := by decide
  rw [hd]
  unfold Op.equalIn
  rw [Sem.run_bind, run_underlying ht]; rfl
theorem run_eq_in {m : Array (String × TypeId)} {a : TypeId} {v : Value} (ht : P.underlying t = some (.interface m)) : (Op.equal t (.iface a v) .nilIface).run P w = .ok false w := by
  show Sem.run P (Op.equalIn Op.maxDepth t (.iface a v) .nilIface) w = _
  have hd : Op.maxDepth = (Op.maxDepth - 1) + 1 := by decide
  rw [hd]
  unfold Op.equalIn
  rw [Sem.run_bind, run_underlying ht]; rfl
theorem x_neq_err {m : Array (String × TypeId)} {b : Bool} {N : Nat} (hx : ev E x = errV b N) (ht : P.underlying t = some (.interface m)) : (execOp (ev E) ⟨dst, .binOp .neq t x (.const .nilIface) t', ty, pos, af, g⟩).run P w = .ok (.value (vB (!b))) w := by
  have hb : (binOp .neq t (errV b N) .nilIface).run P w = .ok (vB (!b)) w := by
    cases b with
    | true =>
      show Sem.run P (do pure (Value.bool (!(← Op.equal t .nilIface .nilIface)))) w = _
      rw [Sem.run_bind, run_eq_nn ht]; rfl
    | false =>
      show Sem.run P (do pure (Value.bool (!(← Op.equal t (.iface 152 (.pointer (some ⟨N, 0, none⟩))) .nilIface)))) w = _
      rw [Sem.run_bind, run_eq_in ht]; rfl
  have hg : eqGuard .neq t x (.const .nilIface) (errV b N) .nilIface = pure () := by cases b <;> cases x <;> rfl
  simp only [execOp, hx]
  show Sem.run P (do let v ← (do eqGuard .neq t x (.const .nilIface) (errV b N) .nilIface; binOp .neq t (errV b N) .nilIface); pure (Next.value v)) w = _
  rw [hg]
  show Sem.run P (do let v ← binOp .neq t (errV b N) .nilIface; pure (Next.value v)) w = _
  rw [Sem.run_bind, hb]; rfl
end
theorem itoa_ok (n : Int) (w : World) (hT : Tab [] w) (q0 : 0 ≤ n) (q1 : n ≤ 9223372036854775807) : Calls Tryz.prog 54 #[vI n] w (Gives [] w fun v L => v = vS (Lib.decDigits n.toNat) ∧ L = []) := by
  obtain ⟨h1, h2, t, f, h3⟩ := hT.pow
  have htab : Lib.TabIs Tryz.prog w "internal/strconv.uint64pow10" .u64 Lib.pow10Tab := by
    have hg : Tryz.prog.globalNamed "internal/strconv.uint64pow10" = some 1 := by kernel_rfl
    unfold Lib.TabIs World.var?
    rw [hg]
    simp only [Option.bind_some, h3]
  refine (Tryz.strconv_Itoa n (by omega) q1 w htab).mono ?_
  rintro e w' ⟨rfl, k, os, rfl⟩
  refine ⟨_, _, rfl, ⟨?_, rfl⟩, St.nil ?_⟩
  · rw [Lib.itoa, if_neg (by omega)]
  · exact Fr.of_below (Lib.below_grow _ _ (Nat.le_refl _) k os)
theorem split_ok (s : Bytes) (w : World) (hT : Tab [] w) (q0 : s.length ≤ 1000000) : Calls Tryz.prog 91 #[vS s, vS [46]] w (Gives [] w fun v L => ∃ (A2 : Option Addr) (c2 : Nat), v = vL A2 (R44.splitC 46 s).length c2 ∧ L = [Ent.row (.slice A2 (R44.splitC 46 s).length c2) 9 1 (R44.splitC 46 s).length ((R44.splitC 46 s).map vS)]) := by
  obtain ⟨m, hm⟩ := hT.mx
  refine (Tryz.strings_Split ⟨s.toArray⟩ ⟨#[46]⟩ m w (by show s.toArray.size < _; simp; omega) (cell_of hm) (by decide)).mono ?_
  rintro e w' ⟨rfl, rfl⟩
  have hl := R44.split_lib ⟨s.toArray⟩ 46
  have hlen := congrArg List.length hl
  rw [List.length_map, Lib.splitB_all _ (by decide) 0 _ _ rfl] at hlen
  have hsz : s.length = (⟨s.toArray⟩ : ByteArray).size := by show _ = s.toArray.size; simp
  have hc := Lib.countB_le ⟨#[46]⟩ (by decide) _ ⟨s.toArray⟩ (Nat.le_refl _)
  have hcells : (Lib.splitB ⟨#[46]⟩ 0 (Lib.countB ⟨s.toArray⟩ ⟨#[46]⟩) ⟨s.toArray⟩).map Value.string = (R44.splitC 46 s).map vS := by
    rw [show R44.splitC 46 s = R44.splitC 46 (⟨s.toArray⟩ : ByteArray).data.toList from rfl, ← hl, List.map_map]
    exact List.map_congr_left fun x _ => rfl
  refine ⟨_, _, rfl, ⟨some ⟨w.heap.size, 0, none⟩, (R44.splitC 46 s).length, ?_, rfl⟩, ?_⟩
  · rw [hlen]
  · refine (St.nil (Fr.refl [] w)).alloc _ _ rfl ⟨by simp, .inr ⟨w.heap.size, (R44.splitC 46 s).length, ((R44.splitC 46 s).map vS).toArray, rfl, ?_, Nat.le_refl _, ?_, by simp, ?_⟩⟩
    · rw [hcells]
    · rw [← hlen]; simp only [maxLen]; omega
    · exact List.take_of_length_le (by simp)
theorem count_ok (s : Bytes) (w : World) : Calls Tryz.prog 52 #[vS s, vS [46]] w (Gives [] w fun v L => v = vI ((s.count 46 : Nat) : Int) ∧ L = []) := by
  refine (Tryz.strings_Count_one ⟨s.toArray⟩ 46 w).mono ?_
  rintro e w' ⟨rfl, rfl⟩
  exact ⟨_, _, rfl, ⟨rfl, rfl⟩, St.nil (Fr.refl _ _)⟩
theorem atoi_ok (s : Bytes) (w : World) (hT : Tab [] w) (q0 : s.length ≤ 140737488355328) : Calls Tryz.prog 101 #[vS s] w (Gives [] w fun v L => ∃ (n : Int) (er : Bool) (N : Nat), v = Value.tuple #[vI n, errV er N] ∧ L = [] ∧ R44.AtoiJ s n er) := by
  obtain ⟨v2, hv2, hr2⟩ := hT.es
  obtain ⟨v3, hv3, hr3⟩ := hT.er
  have hsz : (⟨s.toArray⟩ : ByteArray).size = s.length := by show s.toArray.size = _; simp
  cases ha : Lib.atoiAll s with
  | ok n =>
    refine (Tryz.strconv_Atoi_ok ⟨s.toArray⟩ (by rw [hsz]; omega) n ha w).mono ?_
    rintro e w' ⟨rfl, hw⟩
    refine ⟨_, _, rfl, ⟨n, true, 0, rfl, rfl, fun _ => ha, fun h => (by cases h), ?_⟩, St.nil ?_⟩
    · have := Lib.atoiAll_bounds ha; omega
    · rcases hw with rfl | ⟨t, rfl⟩
      · exact Fr.refl _ _
      · exact Fr.of_below (Joins.below_bytesWorld _ _ _ _ (Nat.le_refl _))
  | range =>
    refine (Tryz.strconv_Atoi_range ⟨s.toArray⟩ (by rw [hsz]; omega) ha v3 w (cell_of hr3) hv3).mono ?_
    rintro e w' ⟨N, rfl, _, _, hb⟩
    have := Lib.atoiSat_bounds s
    exact ⟨_, _, rfl, ⟨Lib.atoiSat s, false, N, rfl, rfl, fun h => (by cases h), fun _ v => (by rw [ha]; exact fun h => (by cases h)), by omega, by omega⟩, St.nil (Fr.of_below hb)⟩
  | _ =>
    refine (Tryz.strconv_Atoi_syntax ⟨s.toArray⟩ (by rw [hsz]; omega) (show (∀ v, Lib.atoiAll s ≠ .ok v) ∧ Lib.atoiAll s ≠ .range from by rw [ha]; exact ⟨fun v h => (by cases h), fun h => (by cases h)⟩) v2 w (cell_of hr2) hv2).mono ?_
    rintro e w' ⟨N, rfl, _, _, hb⟩
    exact ⟨_, _, rfl, ⟨0, false, N, rfl, rfl, fun h => (by cases h), fun _ v => (by rw [ha]; exact fun h => (by cases h)), by omega, by omega⟩, St.nil (Fr.of_below hb)⟩
end Go.Proofs.YtngjdmhpljmkpaaGreatDoor
