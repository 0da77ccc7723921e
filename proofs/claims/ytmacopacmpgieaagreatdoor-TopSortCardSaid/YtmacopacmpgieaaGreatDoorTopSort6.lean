/- GvZ, GvW, GvQ, GvS, Wd44 in one text. -/
import Derived.Test.YtmacopacmpgieaaGreatDoorTopSort4
import Derived.Test.YtmacopacmpgieaaGreatDoorTopSort5
import Derived.Test.YtmacopacmpgieaaGreatDoorTopSort3
import Derived.Lib.FieldsP
import Derived.Lib.TrimUEq
import Derived.Lib.SplitLaws
import Derived.Lib.IndexBytes
set_option linter.unusedVariables false
set_option linter.unusedSimpArgs false
namespace Go.GV
open Go.RowKit
theorem addr_zero (a : Addr) : a.add 0 = a := by unfold Addr.add; rw [if_pos rfl]
theorem subA_zero (A : Option Addr) (cap sz : Nat) : subA A cap 0 sz = A := by
  unfold subA
  split
  · rfl
  · rw [Nat.zero_mul]; cases A with
    | none => rfl
    | some a => exact congrArg some (addr_zero a)
section
variable {E : Env} {P : Program} {w : World} {x y : Operand} {dst : Option Nat} {t t' ty e : TypeId} {pos : String} {af : Array Edge} {g : Option (Nat × Bool)}
theorem x_head {A : Option Addr} {len cap n hi : Nat} {ohi : Option Operand} (hx : ev E x = .slice A len cap) (ht : P.underlying t = some (.slice e)) (hn : sizeIs P e = some n) (hhi : ohi.map (ev E) = some (vI (hi : Int))) (h2 : hi ≤ cap) :
    (execOp (ev E) ⟨dst, .slice t x none ohi none, ty, pos, af, g⟩).run P w = .ok (.value (.slice A hi cap)) w := by
  have := x_subrow (P := P) (w := w) (dst := dst) (ty := ty) (pos := pos) (af := af) (g := g) (lo := 0) (hi := hi) (olo := none) (ohi := ohi) hx ht hn (.inr ⟨rfl, rfl⟩) (.inl hhi) (Nat.zero_le _) h2
  rwa [subA_zero, Nat.sub_zero, Nat.sub_zero] at this
theorem x_head_row {S : List Nat} {w0 : World} {L : List Ent} (j : Nat) {A : Option Addr} {len cap n sz hi : Nat} {cs : List Value} {te : TypeId} {ohi : Option Operand} (hj : L[j]? = some (Ent.row (.slice A len cap) te sz len cs)) (hx : ev E x = .slice A len cap) (ht : P.underlying t = some (.slice e)) (hn : sizeIs P e = some n) (hhi : ohi.map (ev E) = some (vI (hi : Int))) (h2 : hi ≤ len) :
    ∀ w, St S w0 w L → (execOp (ev E) ⟨dst, .slice t x none ohi none, ty, pos, af, g⟩).run P w = .ok (.value (.slice A hi cap)) w := fun w hS => by
  have := row_le (hS.mem hj)
  exact x_head hx ht hn hhi (by omega)
end
theorem St.trunc {S : List Nat} {w0 w : World} {L L' : List Ent} (h : St S w0 w L) (j : Nat) {A : Option Addr} {len n cap sz : Nat} {te : TypeId} {cs cs' : List Value} (hj : L[j]? = some (Ent.row (.slice A len cap) te sz len cs)) (hL : L.set j (Ent.row (.slice A n cap) te sz n cs') = L') (hn : n ≤ len) (hcs : cs' = cs.take (n * sz)) : St S w0 w L' := by
  subst hL
  have hat := h.mem hj
  have ho : (Value.slice A n cap).ownBlock = (Value.slice A len cap).ownBlock := by cases A <;> rfl
  refine St.swapAt h hj ?_ ?_ (fun b hb => .inl (ho.symm.trans hb))
  · exact ⟨rfl, rfl, rfl, Nat.le_refl _, fun _ _ _ => rfl⟩
  · obtain ⟨⟨h1, h2⟩, h3⟩ := hat
    have hb : n * sz ≤ len * sz := Nat.mul_le_mul_right sz hn
    refine ⟨⟨by rw [hcs, List.length_take, h1]; omega, ?_⟩, fun b hb2 => h3 b (ho.symm.trans hb2)⟩
    rcases h2 with ⟨h2, h4⟩ | ⟨gb, cap', cur, h2, hob, hcap, hmax, hcs2, htk⟩
    · cases h2
      have : n = 0 := by omega
      subst this; exact .inl ⟨rfl, rfl⟩
    · cases h2
      refine .inr ⟨gb, cap, cur, rfl, hob, by omega, hmax, hcs2, ?_⟩
      rw [hcs, ← htk, List.take_take]
      congr 1; omega
theorem truncL {S : List Nat} {w0 w : World} {L L' : List Ent} (h : St S w0 w L) (j : Nat) {A : Option Addr} {len n m cap sz : Nat} {te : TypeId} {cs cs' : List Value} (hj : L[j]? = some (Ent.row (.slice A len cap) te sz len cs)) (hL : L.set j (Ent.row (.slice A m cap) te sz m cs') = L') (hn : n ≤ len) (hcs : cs' = cs.take (n * sz)) (hm : n = m) : St S w0 w L' := by
  subst hm; exact h.trunc j hj hL hn hcs
theorem take_flat {α : Type} (f : α → List Value) (sz : Nat) (hf : ∀ a, (f a).length = sz) : ∀ (xs : List α) (n : Nat), (xs.take n).flatMap f = (xs.flatMap f).take (n * sz)
  | [], n => by simp
  | x :: xs, 0 => by simp
  | x :: xs, n + 1 => by
    rw [List.take_succ_cons, List.flatMap_cons, List.flatMap_cons, take_flat f sz hf xs n, Nat.succ_mul, Nat.add_comm (n * sz) sz, List.take_append, hf, List.take_of_length_le (l := f x) (by rw [hf]; omega), show sz + n * sz - sz = n * sz by omega]
theorem drop_flat {α : Type} (f : α → List Value) (sz : Nat) (hf : ∀ a, (f a).length = sz) : ∀ (xs : List α) (n : Nat), (xs.drop n).flatMap f = (xs.flatMap f).drop (n * sz)
  | [], n => by simp
  | x :: xs, 0 => by simp
  | x :: xs, n + 1 => by
    rw [List.drop_succ_cons, List.flatMap_cons, drop_flat f sz hf xs n, Nat.succ_mul, Nat.add_comm (n * sz) sz, List.drop_append, hf, List.drop_of_length_le (l := f x) (by rw [hf]; omega), show sz + n * sz - sz = n * sz by omega]; rfl
theorem take_len {α : Type} {xs : List α} {n : Nat} (h : n ≤ xs.length) : n = (xs.take n).length := by rw [List.length_take]; omega
theorem RO.sub {S : List Nat} {w : World} {A : Option Addr} {cs : List Value} (h : RO S w A cs) (cap lo n sz : Nat) (hn : n = 0 ∨ lo < cap) : RO S w (subA A cap lo sz) ((cs.drop (lo * sz)).take (n * sz)) := by
  rcases hn with rfl | hn
  · rw [Nat.zero_mul, List.take_zero]; exact RO.nil
  · refine RO.take ?_ _
    unfold subA
    rw [if_neg (by omega)]
    exact RO.drop h _
theorem RO.subM {α : Type} {S : List Nat} {w : World} {A : Option Addr} {xs : List α} {f : α → Value} (h : RO S w A (xs.map f)) (cap lo n : Nat) (hn : n = 0 ∨ lo < cap) : RO S w (subA A cap lo 1) (((xs.drop lo).take n).map f) := by
  have := h.sub cap lo n 1 hn
  rwa [Nat.mul_one, Nat.mul_one, ← List.map_drop, ← List.map_take] at this
def int8 (c : UInt8) : Int := if c.toNat < 128 then (c.toNat : Int) else (c.toNat : Int) - 256
theorem int8_lt (c : UInt8) : -128 ≤ int8 c ∧ int8 c ≤ 127 := by have := c.toNat_lt; unfold int8; split <;> omega
theorem wrap_int8 (c : UInt8) : IntKind.i8.wrap (c.toNat : Int) = int8 c := by
  have := c.toNat_lt
  have h : IntKind.i8.wrap (c.toNat : Int) = if (c.toNat : Int) % 256 ≥ 128 then (c.toNat : Int) % 256 - 256 else (c.toNat : Int) % 256 := by
    show (if (true && decide ((c.toNat : Int) % 256 ≥ 128)) = true then (c.toNat : Int) % 256 - 256 else (c.toNat : Int) % 256) = _
    simp
  rw [h]
  unfold int8
  split <;> split <;> omega
section
variable {E : Env} {P : Program} {w : World} {x y z : Operand} {dst : Option Nat} {t t' ty u : TypeId} {pos : String} {af : Array Edge} {g : Option (Nat × Bool)}
theorem x_conv_u8_i8 {a : UInt8} {q : TypeDesc} (hx : ev E x = vU8 a) (hs : P.underlying t = some q) (hd : P.underlying u = some (.int .i8)) : (execOp (ev E) ⟨dst, .convert t u x, ty, pos, af, g⟩).run P w = .ok (.value (.int .i8 (int8 a))) w := by
  have hr : (convert t u (vU8 a)).run P w = .ok (.int .i8 (IntKind.i8.wrap (a.toNat : Int))) w := by
    simp [convert, run_underlying hs, run_underlying hd, Conv.intToInt]
  simp only [execOp, hx]
  show (Sem.run P (do let v ← convert t u (vU8 a); pure (Next.value v)) w) = _
  rw [Sem.run_bind, hr]
  simp only [Result.andThen_ok]
  rw [wrap_int8]; rfl
theorem x_conv_i8_i64 {a : Int} {q : TypeDesc} (hx : ev E x = .int .i8 a) (hs : P.underlying t = some q) (hd : P.underlying u = some (.int .i64)) (h1 : -128 ≤ a) (h2 : a ≤ 127) : (execOp (ev E) ⟨dst, .convert t u x, ty, pos, af, g⟩).run P w = .ok (.value (vI a)) w := by
  have hr : (convert t u (.int .i8 a)).run P w = .ok (.int .i64 (IntKind.i64.wrap a)) w := by
    simp [convert, run_underlying hs, run_underlying hd, Conv.intToInt]
  simp only [execOp, hx]
  show (Sem.run P (do let v ← convert t u (.int .i8 a); pure (Next.value v)) w) = _
  rw [Sem.run_bind, hr]
  simp only [Result.andThen_ok]
  rw [wrap_i64_in _ (by omega) (by omega)]; rfl
theorem ofInt_mod (a : Int) : BitVec.ofInt 64 a = BitVec.ofNat 64 (a % 18446744073709551616).toNat := by
  apply BitVec.eq_of_toNat_eq
  rw [BitVec.toNat_ofInt, BitVec.toNat_ofNat]
  have := Int.emod_lt_of_pos a (show (0 : Int) < 18446744073709551616 by decide)
  have := Int.emod_nonneg a (show (18446744073709551616 : Int) ≠ 0 by decide)
  rw [Nat.mod_eq_of_lt (by omega)]
  rfl
theorem x_or_hi {n : Int} {a : Int} {c : Nat} (hx : ev E x = vI a) (hy : ev E y = vI (c : Int)) (ha : a = n * 256) (hc : c < 256) (h1 : -36028797018963968 ≤ n) (h2 : n < 36028797018963968) : (execOp (ev E) ⟨dst, .binOp .or t x y t', ty, pos, af, g⟩).run P w = .ok (.value (vI (a + (c : Int)))) w := by
  have h : IntKind.i64.wrap ((BitVec.ofInt 64 a ||| BitVec.ofInt 64 (c : Int)).toNat : Int) = a + c := by
    rw [BitVec.toNat_or, ofInt_mod, ofInt_mod (c : Int), BitVec.toNat_ofNat, BitVec.toNat_ofNat]
    have e1 := Int.emod_lt_of_pos n (show (0 : Int) < 72057594037927936 by decide)
    have e2 := Int.emod_nonneg n (show (72057594037927936 : Int) ≠ 0 by decide)
    obtain ⟨m, hm⟩ : ∃ m : Nat, n % 72057594037927936 = m := ⟨(n % 72057594037927936).toNat, by omega⟩
    have e3 : (a % 18446744073709551616).toNat % 2 ^ 64 = m <<< 8 := by
      rw [Nat.shiftLeft_eq]
      have : a % 18446744073709551616 = m * 256 := by rw [ha]; omega
      rw [this]; omega
    have e4 : ((c : Int) % 18446744073709551616).toNat % 2 ^ 64 = c := by omega
    rw [e3, e4, ← Nat.shiftLeft_add_eq_or_of_lt (by omega : c < 2 ^ 8), Nat.shiftLeft_eq, IntKind.wrap_i64]
    omega
  simp only [execOp, hx, hy]
  show Result.ok (Next.value (.int .i64 (IntKind.i64.wrap ((BitVec.ofInt 64 a ||| BitVec.ofInt 64 (c : Int)).toNat : Int)))) w = _
  rw [h]
end
section
variable {n : Dim} {S : List Nat} {w0 : World} {P : Program} {ops : Array Oper} {Q : Post} {E : Env} {L : List Ent} {rest : List Oper} {d : Nat}
theorem sn_ {a b : Int} (e : a = b) (h : JO P n S w0 ops rest Q ((d, vI b) :: E) L) : JO P n S w0 ops rest Q ((d, vI a) :: E) L := by subst e; exact h
theorem sE_ {a b : Int} (h : a = b) : some (vI a) = some (vI b) := by rw [h]
end
end Go.GV

namespace Go.GV
open Go.RowKit
theorem set_len {α : Type} (xs : List α) (k : Nat) (a : α) : (xs.set k a).length = xs.length := List.length_set
theorem splice_take {α : Type} : ∀ (vs cs : List α) (k m : Nat), k + vs.length ≤ m → (splice cs k vs).take m = splice (cs.take m) k vs
  | [], _, _, _, _ => rfl
  | v :: vs, cs, k, m, h => by
    rw [List.length_cons] at h
    rw [splice, splice, splice_take vs _ (k + 1) m (by omega), List.take_set]
theorem splice_flat {α : Type} (f : α → List Value) (sz : Nat) (hf : ∀ a, (f a).length = sz) : ∀ (xs : List α) (k : Nat) (a : α), k < xs.length → splice (xs.flatMap f) (k * sz) (f a) = (xs.set k a).flatMap f
  | [], _, _, h => by simp at h
  | x :: xs, 0, a, _ => by
    rw [Nat.zero_mul, List.flatMap_cons, List.set_cons_zero, List.flatMap_cons, splice_eq _ _ _ (by rw [hf, List.length_append, hf]; omega), hf, Nat.zero_add, List.take_zero, List.nil_append, List.drop_left' (hf x)]
  | x :: xs, k + 1, a, h => by
    have h' : k < xs.length := by simpa using h
    have ih := splice_flat f sz hf xs k a h'
    have hl := flat_length f sz hf xs
    have hb : k * sz + sz ≤ xs.length * sz := by
      have := Nat.mul_le_mul_right sz h'
      rw [Nat.succ_mul] at this; exact this
    rw [List.set_cons_succ, List.flatMap_cons, List.flatMap_cons, ← ih]
    rw [splice_eq _ _ _ (by rw [hf, List.length_append, hf, hl, Nat.succ_mul]; omega), splice_eq _ _ _ (by rw [hf, hl]; omega)]
    rw [hf, Nat.succ_mul, Nat.add_comm (k * sz) sz, List.take_append, List.drop_append, hf]
    rw [List.take_of_length_le (by rw [hf]; omega), List.drop_of_length_le (by rw [hf]; omega)]
    simp only [List.nil_append, List.append_assoc]
    rw [show sz + k * sz - sz = k * sz by omega, show sz + k * sz + sz - sz = k * sz + sz by omega, Nat.add_comm (k * sz) sz]
section
variable {E : Env} {P : Program} {x y : Operand} {dst : Option Nat} {t ty : TypeId} {pos : String} {af : Array Edge} {g : Option (Nat × Bool)}
theorem O_store_row_g {α : Type} {S : List Nat} {w0 : World} {L : List Ent} {K : Value → List Ent → Prop} (j : Nat) (f : α → List Value) {A : Option Addr} {c k sz : Nat} {te : TypeId} {xs : List α} {a : α} {v : Value} (L' : List Ent)
    (hx : ev E x = .pointer (some (adr A (k * sz)))) (hy : ev E y = v) (hv : v.cells.toList = f a) (hj : L[j]? = some (Ent.row (.slice A xs.length c) te sz xs.length (xs.flatMap f))) (hn : sizeIs P t = some sz) (hf : ∀ a, (f a).length = sz) (h1 : ∀ a, (f a).all Value.oneCell' = true) (hk : k < xs.length)
    (hL : L.set j (Ent.row (.slice A (xs.set k a).length c) te sz (xs.set k a).length ((xs.set k a).flatMap f)) = L') (kk : K undef L') : OpJ P S w0 E L ⟨dst, .store t x y, ty, pos, af, g⟩ K := by
  intro w hS
  subst hL
  have hat := hS.mem hj
  have hfl := flat_length f sz hf xs
  have hb : k * sz + sz ≤ xs.length * sz := by
    have := Nat.mul_le_mul_right sz hk
    rw [Nat.succ_mul] at this; exact this
  rcases hat.1.2 with ⟨h2, h3⟩ | ⟨gb, cap, cur, h2, ho, hcap, hmax, hcs, htk⟩
  · omega
  · simp only [Value.slice.injEq] at h2
    obtain ⟨rfl, _, rfl⟩ := h2
    have ho' : w.heap[gb]? = some (.cells cur te (0, 0)) := by simpa [Ent.row, Value.ownBlock] using ho
    have hblk : (Ent.blk gb te cur.toList).at w := by
      refine ⟨⟨?_, .inl (Nat.le_refl _)⟩, fun b hb2 => ?_⟩
      · show w.heap[gb]? = _
        rw [ho']
      · cases hb2
        exact (Array.getElem?_eq_some_iff.1 ho').1
    have hvl : v.cells.toList.length = sz := by rw [hv]; exact hf a
    have hcl : xs.length * sz ≤ cur.toList.length := by
      have e1 := Nat.mul_le_mul_right sz hcap
      have e2 : cur.toList.length = c * sz := hcs
      omega
    have hadr : adr (some ⟨gb, 0, none⟩) (k * sz) = ⟨gb, k * sz, none⟩ := by
      simp [adr, Addr.add]
      exact fun h => h.symm
    rw [hadr] at hx
    obtain ⟨w', hr, hF, hB⟩ := run_storeVar_blk (P := P) (t := t) (o := k * sz) hblk hn hvl (by omega) (by rw [hv]; exact h1 a)
    refine ⟨undef, _, w', .inr ⟨?_, rfl⟩, hS.writeAt hj gb rfl rfl hF ?_, kk⟩
    · simp only [execOp, hx, hy]
      show Sem.run P (do (do storeVar t (← Instr.sureAddr (.pointer (some ⟨gb, k * sz, none⟩))) v); pure Next.skip) w = _
      simp only [Instr.sureAddr, Sem.run_bind, Sem.run_pure, Result.andThen_ok, hr]
    · have hB1 : w'.heap[gb]? = some (.cells (splice cur.toList (k * sz) (f a)).toArray te (0, 0)) := by rw [← hv]; exact hB.1
      have hsl : (splice cur.toList (k * sz) (f a)).length = cur.toList.length := splice_length _ _ _
      refine ⟨flat_length f sz hf _, .inr ⟨gb, c, _, by rw [List.length_set], hB1, by rw [List.length_set]; exact hcap, hmax, ?_, ?_⟩⟩
      · rw [List.size_toArray, hsl, Array.length_toList, hcs]
      · rw [List.length_set]
        show (splice cur.toList (k * sz) (f a)).take (xs.length * sz) = _
        rw [splice_take _ _ _ _ (by rw [hf]; exact hb), htk, splice_flat f sz hf xs k a hk]
theorem O_store_row_f {α : Type} {S : List Nat} {w0 : World} {L : List Ent} {K : Value → List Ent → Prop} (j : Nat) (f : α → List Value) {A : Option Addr} {c k sz : Nat} {te : TypeId} {xs : List α} {a : α} (L' : List Ent)
    (hx : ev E x = .pointer (some (adr A (k * sz)))) (hy : ev E y = .agg (f a).toArray) (hj : L[j]? = some (Ent.row (.slice A xs.length c) te sz xs.length (xs.flatMap f))) (hn : sizeIs P t = some sz) (hf : ∀ a, (f a).length = sz) (h1 : ∀ a, (f a).all Value.oneCell' = true) (hk : k < xs.length)
    (hL : L.set j (Ent.row (.slice A (xs.set k a).length c) te sz (xs.set k a).length ((xs.set k a).flatMap f)) = L') (kk : K undef L') : OpJ P S w0 E L ⟨dst, .store t x y, ty, pos, af, g⟩ K :=
  O_store_row_g j f L' hx hy (by simp [Value.cells]) hj hn hf h1 hk hL kk
theorem map_flat {α : Type} (g : α → Value) (xs : List α) : xs.map g = xs.flatMap fun a => [g a] := by
  induction xs with
  | nil => rfl
  | cons a xs ih => rw [List.map_cons, List.flatMap_cons, ih]; rfl
end
end Go.GV

namespace Go.GV
open Go.RowKit Go.Op
structure Rw where
  s : List Bytes
  sA : Option Addr
  sC : Nat
deriving Inhabited
def Rw.enc (a : Rw) : List Value := [vL a.sA a.s.length a.sC]
theorem Rw.enc_len (a : Rw) : (Rw.enc a).length = 1 := rfl
theorem Rw.enc_one (a : Rw) : (Rw.enc a).all Value.oneCell' = true := rfl
def RwE (t : Nat) (e : Rw) : Ent := Ent.row (.slice e.sA e.s.length e.sC) t 1 e.s.length (e.s.map vS)
section
variable {S : List Nat} {w00 w0 w : World} {L M : List Ent} {α : Type} {f : α → Ent}
theorem St.keepN (n : Nat) (m : List Bool) {L' : List Ent} (hm : mask m (M.take n) ++ M.drop n = L') (h : St S w0 w M) : St S w0 w L' := by
  refine hm ▸ h.sublist ?_
  have := (mask_sublist m (M.take n)).append (List.Sublist.refl (M.drop n))
  rwa [List.take_append_drop] at this
theorem St.headN (n : Nat) {L' : List Ent} (hm : M.take n = L') (h : St S w0 w M) : St S w0 w L' := hm ▸ h.sublist (List.take_sublist n M)
theorem take_perm [Inhabited α] {X : List α} {k : Nat} (hk : k < X.length) : X.Perm (X.getD k default :: X.eraseIdx k) := by
  have := (perm_front X k hk).symm
  rwa [show X[k] = X.getD k default by rw [List.getD_eq_getElem?_getD, List.getElem?_eq_getElem hk]; rfl] at this
theorem put_perm {X : List α} {k : Nat} {x : α} (hk : k < X.length) : (x :: X.eraseIdx k).Perm (X.set k x) := by
  have := perm_front (X.set k x) k (by rw [List.length_set]; exact hk)
  rwa [List.getElem_set_self, List.eraseIdx_set_eq] at this
theorem seg_take [Inhabited α] (n : Nat) {X : List α} {T : List Ent} {k : Nat} (h : St S w0 w M) (hM : M.drop n = X.map f ++ T) (hk : k < X.length) : St S w0 w (f (X.getD k default) :: (M.take n ++ ((X.eraseIdx k).map f ++ T))) := by
  refine h.perm ?_
  have h1 : M.Perm (M.take n ++ (X.map f ++ T)) := by rw [← hM, List.take_append_drop]
  refine h1.trans ?_
  have h2 := ((take_perm hk).map f).append_right T
  rw [List.map_cons, List.cons_append] at h2
  exact (h2.append_left (M.take n)).trans List.perm_middle
theorem seg_put (n : Nat) {X : List α} {T : List Ent} {k : Nat} {x : α} {e : Ent} (h : St S w0 w (e :: M)) (he : e = f x) (hM : M.drop n = (X.eraseIdx k).map f ++ T) (hk : k < X.length) : St S w0 w (M.take n ++ ((X.set k x).map f ++ T)) := by
  subst he
  refine h.perm ?_
  have h1 : (f x :: M).Perm (f x :: (M.take n ++ ((X.eraseIdx k).map f ++ T))) := by rw [← hM, List.take_append_drop]
  refine h1.trans ?_
  refine List.perm_middle.symm.trans (List.Perm.append_left _ ?_)
  have h2 := ((put_perm (x := x) hk).map f).append_right T
  rwa [List.map_cons, List.cons_append] at h2
theorem seg_snoc (n : Nat) {X : List α} {T : List Ent} {x : α} {e : Ent} (h : St S w0 w (e :: M)) (he : e = f x) (hM : M.drop n = X.map f ++ T) : St S w0 w (M.take n ++ ((X ++ [x]).map f ++ T)) := by
  subst he
  refine h.perm ?_
  have h1 : (f x :: M).Perm (f x :: (M.take n ++ (X.map f ++ T))) := by rw [← hM, List.take_append_drop]
  refine h1.trans ?_
  refine List.perm_middle.symm.trans (List.Perm.append_left _ ?_)
  rw [List.map_append, List.append_assoc]
  exact List.perm_middle.symm
theorem seg_nil (n : Nat) {X : List α} {T : List Ent} {x : α} {te : TypeId} {sz : Nat} (h : St S w0 w M) (he : Ent.row (.slice none 0 0) te sz 0 [] = f x) (hM : M.drop n = X.map f ++ T) : St S w0 w (M.take n ++ ((X ++ [x]).map f ++ T)) :=
  seg_snoc n (h.nilrow te sz) he hM
theorem oL_ {P : Program} {E : Env} {o : Oper} {K : Value → List Ent → Prop} {L' : List Ent} (hL : ∀ w, St S w0 w L → St S w0 w L') (h : OpJ P S w0 E L' o K) : OpJ P S w0 E L o K := fun w hS => h w (hL w hS)
theorem seg_mem (n : Nat) {X : List α} {T : List Ent} (hM : M.drop n = X.map f ++ T) : ∀ e ∈ X.map f, e ∈ M := fun e he =>
  (List.drop_sublist n M).subset (hM ▸ List.mem_append_left _ he)
theorem RO.of_memF {Lc Lr : List Ent} (hS : St S w0 w (Lc ++ Lr)) (h0 : St [] w00 w (Lc ++ Lr)) {e : TypeId} {sz n c : Nat} {A : Option Addr} {cs : List Value} (hj : Ent.row (.slice A n c) e sz n cs ∈ Lr) : RO (Lown Lc ++ List.range w00.heap.size) w A cs := by
  obtain ⟨j, hlt, hj⟩ := List.mem_iff_getElem.1 hj
  exact RO.of_rowF hS h0 j (by rw [List.getElem?_eq_getElem hlt, hj])
theorem mem_seg {X : List Rw} {t i : Nat} (hi : i < X.length) : Ent.row (.slice (X.getD i default).sA (X.getD i default).s.length (X.getD i default).sC) t 1 (X.getD i default).s.length ((X.getD i default).s.map vS) ∈ X.map (RwE t) := by
  have h1 : X.getD i default ∈ X := by rw [List.getD_eq_getElem?_getD, List.getElem?_eq_getElem hi]; exact List.getElem_mem hi
  exact List.mem_map_of_mem (f := RwE t) h1
theorem getD_out [Inhabited α] {X : List α} {i : Nat} (h : X.length ≤ i) : X.getD i default = default := by rw [List.getD_eq_getElem?_getD, List.getElem?_eq_none h]; rfl
theorem ron_segF {Lc Lr : List Ent} {X : List Rw} {t : Nat} (hS : St S w0 w (Lc ++ Lr)) (h0 : St [] w00 w (Lc ++ Lr)) (hX : ∀ e ∈ X.map (RwE t), e ∈ Lr) (i : Nat) : RO (Lown Lc ++ List.range w00.heap.size) w (X.getD i default).sA ((X.getD i default).s.map vS) := by
  by_cases hi : i < X.length
  · exact RO.of_memF hS h0 (hX _ (mem_seg hi))
  · rw [getD_out (by omega)]; exact RO.nil
theorem cap_seg {X : List Rw} {t : Nat} (hS : St S w0 w L) (hX : ∀ e ∈ X.map (RwE t), e ∈ L) (i : Nat) : (X.getD i default).s.length ≤ (X.getD i default).sC := by
  by_cases hi : i < X.length
  · rcases row_cap (hS.hold _ (hX _ (mem_seg hi))) with h | ⟨_, h, h2⟩
    · exact h
    · rw [h, h2]; exact Nat.le_refl _
  · rw [getD_out (by omega)]; exact Nat.zero_le _
theorem RO.empty {A : Option Addr} {xs : List α} {g : α → Value} (h : RO S w0 A (xs.map g)) (hA : A.isNone = true) : xs = [] := by
  cases xs with
  | nil => rfl
  | cons x r =>
    obtain ⟨a, ha, _⟩ := h 0 (g x) rfl
    rw [ha] at hA; cases hA
theorem RO.emptyF {A : Option Addr} {xs : List α} {g : α → List Value} {m : Nat} (hg : ∀ a, (g a).length = m + 1) (h : RO S w0 A (xs.flatMap g)) (hA : A.isNone = true) : xs = [] := by
  cases xs with
  | nil => rfl
  | cons x r =>
    have hl : 0 < ((x :: r).flatMap g).length := by rw [List.flatMap_cons, List.length_append, hg]; omega
    obtain ⟨a, ha, _⟩ := h 0 _ (List.getElem?_eq_getElem hl)
    rw [ha] at hA; cases hA
end
section
variable {P : Program} {n : Dim} {S : List Nat} {w0 : World} {Q : Post} {E : Env} {L : List Ent}
theorem JX_retsD {fn : Func} {rs : List ResultVar} {S1 : List Nat} {w1 : World} {φ : Value → List Ent → World → Prop} (vs : List Value) (v : Value) (hr : fn.results = rs.toArray) (hv : ∀ w, St S w0 w L → resAll P E w rs vs)
    (hvv : v = (if h : vs.length = 1 then vs[0] else .tuple vs.toArray)) (L' : List Ent) (hL : ∀ w, St S w0 w L → St S w0 w L') (hB : ∀ w L, St S w0 w L → St S1 w1 w L) (hφ : ∀ w, St S w0 w L → φ v L' w) (hd : n.ds = [] := by rfl) :
    JX n S w0 (bodyPost P fn (GivesW S1 w1 φ)) .ret E L := by
  intro a w hR hS
  have h0 := JX_rets (P := P) (n := n) (S := S) (w0 := w0) (E := E) (L := L) (φ := fun u L2 => u = v ∧ L2 = L) vs v hr hv hvv L (fun _ h => h) ⟨rfl, rfl⟩ hd a w hR hS
  obtain ⟨hd, u, hu, u2, L2, he, hp, hs⟩ := h0
  obtain ⟨rfl, rfl⟩ := hp
  exact ⟨hd, u, hu, u2, L', he, hφ w hs, hB w _ (hL w hs)⟩
end
section
variable {P : Program} {E : Env} {w : World} {x y : Operand} {dst : Option Nat} {t t' ty : TypeId} {pos : String} {af : Array Edge} {g : Option (Nat × Bool)}
theorem x_eql_nil {p q : Array TypeId} {v : Bool} (hx : ev E x = .nilFunc) (hy : ev E y = .nilFunc) (ht : P.underlying t = some (.func p q v)) : (execOp (ev E) ⟨dst, .binOp .eql t x y t', ty, pos, af, g⟩).run P w = .ok (.value (vB true)) w := by
  have h := run_eq_nil (P := P) (w := w) ht
  have hb : (binOp .eql t .nilFunc .nilFunc).run P w = .ok (vB true) w := by
    show Sem.run P (do pure (Value.bool (← Op.equal t .nilFunc .nilFunc))) w = _
    rw [Sem.run_bind, h]; rfl
  simp only [execOp, hx, hy]
  show Sem.run P (do let v ← binOp .eql t .nilFunc .nilFunc; pure (Next.value v)) w = _
  rw [Sem.run_bind, hb]; rfl
theorem run_eq_sl {e : TypeId} {A : Option Addr} {n c : Nat} (ht : P.underlying t = some (.slice e)) : (Op.equal t (.slice A n c) (.slice none 0 0)).run P w = .ok A.isNone w := by
  show Sem.run P (Op.equalIn Op.maxDepth t (.slice A n c) (.slice none 0 0)) w = _
  have hd : Op.maxDepth = (Op.maxDepth - 1) + 1 := by decide
  rw [hd]
  unfold Op.equalIn
  rw [Sem.run_bind, run_underlying ht]
  cases A <;> rfl
theorem x_eql_sl {e : TypeId} {A : Option Addr} {n c : Nat} (hx : ev E x = vL A n c) (hy : ev E y = vL none 0 0) (ht : P.underlying t = some (.slice e)) : (execOp (ev E) ⟨dst, .binOp .eql t x y t', ty, pos, af, g⟩).run P w = .ok (.value (vB A.isNone)) w := by
  have h := run_eq_sl (P := P) (w := w) (A := A) (n := n) (c := c) ht
  have hb : (binOp .eql t (.slice A n c) (.slice none 0 0)).run P w = .ok (vB A.isNone) w := by
    show Sem.run P (do pure (Value.bool (← Op.equal t (.slice A n c) (.slice none 0 0)))) w = _
    rw [Sem.run_bind, h]; rfl
  simp only [execOp, hx, hy]
  show Sem.run P (do let v ← binOp .eql t (.slice A n c) (.slice none 0 0); pure (Next.value v)) w = _
  rw [Sem.run_bind, hb]; rfl
end
end Go.GV

namespace Go.GV
open Go.RowKit
section
variable {P : Program} {n : Dim} {S : List Nat} {w0 w : World} {Q : Post} {E : Env} {L : List Ent}
def RoundM {X : Type} (n : Dim) (D : X → List Nat) (S : List Nat) (w0 : World) (I : X → Prop) (W : X → World → Prop) (Ef : X → Env) (Lf : X → List Ent) (μ : X → Nat) (m : Nat) (Q : Post) : Post :=
  Exit.then (fun a w => ∃ x, I x ∧ W x w ∧ μ x < m ∧ Rep { n with ds := (D x).map mark } (Ef x) a ∧ St S w0 w (Lf x)) Q
theorem J_loopM {X : Type} {c : Code} (D : X → List Nat) (I : X → Prop) (W : X → World → Prop) (Ef : X → Env) (Lf : X → List Ent) (μ : X → Nat) (x0 : X) (h0 : I x0) (hD : n.ds = (D x0).map mark) (hE : SubE E (Ef x0)) (hL : ∀ w, St S w0 w L → St S w0 w (Lf x0)) (hW : ∀ w, St S w0 w L → W x0 w)
    (round : ∀ x wb, I x → W x wb → St S w0 wb (Lf x) → J P { n with ds := (D x).map mark } (Lown (Lf x)) wb c (RoundM n D S w0 I W Ef Lf μ (μ x) Q) (Ef x) (Lf x)) : J P n S w0 (.loop c) Q E L := by
  intro a w hR hS
  refine wpIn_loop_ghost (fun m a w => ∃ x, I x ∧ W x w ∧ μ x = m ∧ Rep { n with ds := (D x).map mark } (Ef x) a ∧ St S w0 w (Lf x)) (μ x0) ⟨x0, h0, hW w hS, rfl, ?_, hL w hS⟩ ?_
  · have := hR.sub hE
    exact ⟨this.defers.trans hD, this.size, this.val⟩
  rintro m a w ⟨x, hI, hWx, rfl, hR, hS⟩
  refine wpIn_mono (round x w hI hWx hS a w hR hS.base) ?_
  intro e a' w' hq
  cases e with
  | normal => obtain ⟨x', h1, h2, h3, h4, h5⟩ := hq; exact ⟨μ x', h3, x', h1, h2, rfl, h4, h5⟩
  | _ => exact hq
theorem JX_roundM {X : Type} {n0 : Dim} {D : X → List Nat} {S1 : List Nat} {w1 : World} {I : X → Prop} {W : X → World → Prop} {Ef : X → Env} {Lf : X → List Ent} {μ : X → Nat} {m : Nat} (x : X) (hI : I x) (hm : μ x < m) (hn : n = { n0 with ds := (D x).map mark }) (hE : SubE E (Ef x)) (hB : ∀ w L, St S w0 w L → St S1 w1 w L) (hL : ∀ w, St S w0 w L → St S w0 w (Lf x)) (hW : ∀ w, St S w0 w L → W x w) :
    JX n S w0 (RoundM n0 D S1 w1 I W Ef Lf μ m Q) .normal E L := fun _ w hR hS => ⟨x, hI, hW w hS, hm, by have := hR.sub hE; rw [← hn]; exact this, hB w _ (hL w hS)⟩
theorem JX_roundM_exit {X : Type} {n0 : Dim} {D : X → List Nat} {S1 : List Nat} {w1 : World} {I : X → Prop} {W : X → World → Prop} {Ef : X → Env} {Lf : X → List Ent} {μ : X → Nat} {m id : Nat} (h : JX n S w0 Q (.exit id) E L) : JX n S w0 (RoundM n0 D S1 w1 I W Ef Lf μ m Q) (.exit id) E L := h
def NP (Q : Post) : Post := fun e a w => match e with
  | .panic _ => False
  | e => Q e a w
theorem NP.of {Q : Post} (e : Exit) (a : Act) (w : World) (h : NP Q e a w) : Q e a w := by
  cases e <;> first | exact h | exact h.elim
theorem leaves_marksW {fn : Func} {tmps : Array Value} {S1 : List Nat} {w1 : World} {φ : Value → List Ent → World → Prop} {v : Value} (L1 L' : List Ent) (hφ : ∀ w, St S w0 w L1 → φ v L' w) (hL : ∀ w, St S w0 w L1 → St S w0 w L') (hB : ∀ w L, St S w0 w L → St S1 w1 w L) :
    ∀ (Ds : List Nat) (w : World), St S w0 w (Ds.map dfr ++ L1) → (∀ w, St S w0 w L1 → (results fn tmps).run P w = .ok v w) → LeavesInM Fence.wide 0 P fn tmps (GivesW S1 w1 φ) (Ds.map mark) .returning w
  | [], w, hS, hr => ⟨v, hr w hS, v, L', rfl, hφ w hS, hB _ _ (hL _ hS)⟩
  | D :: Ds, w, hS, hr => by
    refine ⟨by simp, .inl ⟨D, _, rfl, run_takeDeferred (obj_at (hS.hold _ List.mem_cons_self)), ?_⟩⟩
    exact leaves_marksW L1 L' hφ hL hB Ds _ (hS.putObj (b := D) (.deferred none)).tail hr
theorem JX_retsMW {fn : Func} {rs : List ResultVar} {S1 : List Nat} {w1 : World} {φ : Value → List Ent → World → Prop} (Ds : List Nat) (vs : List Value) (v : Value) (hd : n.ds = Ds.map mark) (hr : fn.results = rs.toArray) (L1 : List Ent) (h1 : ∀ w, St S w0 w L → St S w0 w (Ds.map dfr ++ L1)) (hv : ∀ w, St S w0 w L1 → resAll P E w rs vs)
    (hvv : v = (if h : vs.length = 1 then vs[0] else .tuple vs.toArray)) (L' : List Ent) (hL : ∀ w, St S w0 w L1 → St S w0 w L') (hB : ∀ w L, St S w0 w L → St S1 w1 w L) (hφ : ∀ w, St S w0 w L1 → φ v L' w) :
    JX n S w0 (NP (bodyPostM Fence.wide 0 P fn (GivesW S1 w1 φ))) .ret E L := by
  intro a w hR hS
  show LeavesInM Fence.wide 0 P fn a.tmps (GivesW S1 w1 φ) a.defers .returning w
  rw [hR.defers, hd]
  refine leaves_marksW L1 L' hφ hL hB Ds w (h1 w hS) (fun w2 hS2 => ?_)
  have hR0 : Rep { n with ds := [] } E { a with defers := [] } := ⟨rfl, hR.size, hR.val⟩
  have h0 := JX_rets (P := P) (n := { n with ds := [] }) (S := S) (w0 := w0) (E := E) (L := L1) (fn := fn) (φ := fun u L2 => u = v) vs v hr hv hvv L1 (fun _ h => h) rfl rfl _ w2 hR0 hS2
  obtain ⟨_, u, hu, u2, L2, he, hp, _⟩ := h0
  cases he
  subst hp
  exact hu
theorem JX_retsMG {fn : Func} {rs : List ResultVar} {S1 : List Nat} {w1 : World} {φ : Value → List Ent → Prop} (Ds : List Nat) (vs : List Value) (v : Value) (hd : n.ds = Ds.map mark) (hr : fn.results = rs.toArray) (L1 : List Ent) (h1 : ∀ w, St S w0 w L → St S w0 w (Ds.map dfr ++ L1)) (hv : ∀ w, St S w0 w L1 → resAll P E w rs vs)
    (hvv : v = (if h : vs.length = 1 then vs[0] else .tuple vs.toArray)) (L' : List Ent) (hL : ∀ w, St S w0 w L1 → St S w0 w L') (hB : ∀ w L, St S w0 w L → St S1 w1 w L) (hφ : φ v L') :
    JX n S w0 (NP (bodyPostM Fence.wide 0 P fn (Gives S1 w1 φ))) .ret E L := JX_retsMW (φ := fun v L _ => φ v L) Ds vs v hd hr L1 h1 hv hvv L' hL hB (fun _ _ => hφ)
theorem calls_JNW {f : FuncId} {fn : Func} {c : Code} {args : Array Value} {w : World} {φ : Value → List Ent → World → Prop} {L0 : List Ent} (S : List Nat) (n : Nat)
    (hf : P.funcs[f]? = some fn) (hb : fn.body = some c) (hm : fn.ntmps = n) (E : Env) (hE : E = envOf 0 args.toList) (hn : Nat.ble args.size n = true)
    (hg : Give S w L0) (h : J P { sz := n } S w c (NP (bodyPostM Fence.wide 0 P fn (GivesW S w φ))) E L0) : Calls P f args w (GivesW S w φ) := by
  subst hm
  have hn := Nat.le_of_ble_eq_true hn
  refine (callsIn_wide (n := 0)).1 (callsIn_of_wp_marks (F := Fence.wide) hf hb trivial (wpIn_mono (h _ w ⟨rfl, ?_, ?_⟩ hg.start) NP.of) rfl)
  · simp; omega
  · intro t v hv
    rw [hE] at hv
    have h1 : args[t]? = some v := by have := (get_envOf _ _ _ _ hv).2; simpa using this
    obtain ⟨hlt, h2⟩ := Array.getElem?_eq_some_iff.1 h1
    simp only [Array.getD_eq_getD_getElem?]
    rw [Array.getElem?_append_left hlt, h1]
    rfl
theorem calls_JNG {f : FuncId} {fn : Func} {c : Code} {args : Array Value} {w : World} {φ : Value → List Ent → Prop} {L0 : List Ent} (S : List Nat) (n : Nat)
    (hf : P.funcs[f]? = some fn) (hb : fn.body = some c) (hm : fn.ntmps = n) (E : Env) (hE : E = envOf 0 args.toList) (hn : Nat.ble args.size n = true)
    (hg : Give S w L0) (h : J P { sz := n } S w c (NP (bodyPostM Fence.wide 0 P fn (Gives S w φ))) E L0) : Calls P f args w (Gives S w φ) := calls_JNW (φ := fun v L _ => φ v L) S n hf hb hm E hE hn hg h
theorem ps_ {ps : List Tmp} {m : Nat} (h : (ps.all fun p => Nat.blt p m) = true) : ∀ p ∈ ps, p < m := fun p hp => by
  have := List.all_eq_true.1 h p hp
  rwa [Nat.blt_eq] at this
theorem sl_ {A : Option Addr} {n m n' m' : Nat} (h1 : n = n') (h2 : m = m') : some (Value.slice A n m) = some (Value.slice A n' m') := by subst h1; subst h2; rfl
theorem mark_tail (k : Nat) {M G : List Ent} {D : Nat} {Ds : List Nat} (h : St S w0 w (dfr D :: M)) (hM : M.drop k = G ++ Ds.map dfr) : St S w0 w (M.take k ++ (G ++ (D :: Ds).map dfr)) := by
  refine h.perm ?_
  rw [List.map_cons]
  have e : (M.take k ++ (G ++ dfr D :: Ds.map dfr)).Perm (dfr D :: (M.take k ++ (G ++ Ds.map dfr))) := by
    rw [← List.append_assoc, ← List.append_assoc]; exact List.perm_middle
  refine List.Perm.trans ?_ e.symm
  rw [← hM, List.take_append_drop]
theorem drop_seg (k : Nat) {M G T : List Ent} (h : St S w0 w M) (hM : M.drop k = G ++ T) : St S w0 w (M.take k ++ T) := by
  refine h.sublist ?_
  conv => rhs; rw [← List.take_append_drop k M, hM]
  exact (List.Sublist.refl _).append (List.sublist_append_right _ _)
theorem split_last (k : Nat) {M G T : List Ent} {e : Ent} (h : St S w0 w (e :: M)) (hM : M.drop k = G ++ T) : St S w0 w ((M.take k ++ T) ++ (e :: G)) := by
  refine h.perm ?_
  refine List.Perm.trans ?_ List.perm_middle.symm
  refine List.Perm.cons _ ?_
  rw [List.append_assoc]
  conv => lhs; rw [← List.take_append_drop k M, hM]
  exact List.Perm.append_left _ List.perm_append_comm
theorem lown_rangeF {w00 : World} (hS : St S w0 w L) (h0 : w00.heap.size ≤ w.heap.size) : ∀ b ∈ Lown L ++ List.range w00.heap.size, b ∈ List.range w.heap.size := fun b hb => by
  rcases List.mem_append.1 hb with h | h
  · exact lown_range hS b h
  · exact List.mem_range.2 (Nat.lt_of_lt_of_le (List.mem_range.1 h) h0)
theorem tail_front (k : Nat) {M : List Ent} {Ds : List Nat} (h : St S w0 w M) (hM : M.drop k = Ds.map dfr) : St S w0 w (Ds.map dfr ++ M.take k) := by
  refine h.perm ?_
  rw [← hM]
  conv => lhs; rw [← List.take_append_drop k M]
  exact List.perm_append_comm
theorem it_done {X α : Type} {S : List Nat} {w : World} {f : FuncId} {args : Array Value} {xs : List α} {I : List α → X → Prop} {Lf : List α → X → List Ent} (h : Calls P f args w (Gives S w fun v L => ∃ st : X, v = Value.tuple #[] ∧ L = Lf xs st ∧ I xs st)) :
    Calls P f args w fun e w' => (∃ v, e = .returned v) ∧ ∃ st, I xs st ∧ St S w w' (Lf xs st) := by
  refine h.mono ?_
  rintro e w' ⟨v, L, rfl, ⟨st, _, rfl, hI⟩, hS⟩
  exact ⟨⟨v, rfl⟩, st, hI, hS⟩
theorem x_subrow3 {x : Operand} {dst : Option Nat} {t ty e : TypeId} {pos : String} {af : Array Edge} {g : Option (Nat × Bool)} {A : Option Addr} {len cap sz lo hi mx : Nat} {olo ohi omx : Operand} (hx : ev E x = .slice A len cap) (ht : P.underlying t = some (.slice e)) (hn : sizeIs P e = some sz) (hlo : ev E olo = vI (lo : Int)) (hhi : ev E ohi = vI (hi : Int)) (hmx : ev E omx = vI (mx : Int))
    (h1 : lo ≤ hi) (h2 : hi ≤ mx) (h3 : mx ≤ cap) : (execOp (ev E) ⟨dst, .slice t x (some olo) (some ohi) (some omx), ty, pos, af, g⟩).run P w = .ok (.value (.slice (subA A mx lo sz) (hi - lo) (mx - lo))) w := by
  have e1 : (0 : Int) ≤ (hi : Int) ∧ (hi : Int) ≤ ((mx : Nat) : Int) := by omega
  have e2 : (0 : Int) ≤ (lo : Int) ∧ (lo : Int) ≤ ((hi : Nat) : Int) := by omega
  have e3 : (0 : Int) ≤ (mx : Int) ∧ (mx : Int) ≤ ((cap : Nat) : Int) := by omega
  have hr : (Instr.sliceAt t (.slice A len cap) (some (vI (lo : Int))) (some (vI (hi : Int))) (some (vI (mx : Int)))).run P w = .ok (.slice (subA A mx lo sz) (hi - lo) (mx - lo)) w := by
    simp only [Instr.sliceAt, Instr.slice, Instr.sliceBounds, Instr.sliceBound, asIntOf, run_underlying ht, run_sizeOf_is hn, Sem.run_bind, Sem.run_pure, Result.andThen_ok, if_pos e1, if_pos e2, if_pos e3, Int.toNat_natCast]; rfl
  simp only [execOp, hx, Option.map_some, hlo, hhi, hmx]
  show Sem.run P (do let v ← Instr.sliceAt t (.slice A len cap) (some (vI (lo : Int))) (some (vI (hi : Int))) (some (vI (mx : Int))); pure (Next.value v)) w = _
  rw [Sem.run_bind, hr]; rfl
end
end Go.GV

namespace Go.Proofs.YtmacopacmpgieaaGreatDoor
namespace R44
open Go.Lib
abbrev Bs := List UInt8
def wordsGo : Bs → Bs → List Bs
  | cur, [] => if cur = [] then [] else [cur]
  | cur, c :: r => if c = 32 then (if cur = [] then wordsGo [] r else cur :: wordsGo [] r) else wordsGo (cur ++ [c]) r
def words (s : Bs) : List Bs := wordsGo [] s
def piece (L : Bs) (x : Nat × Nat) : Bs := (L.drop x.1).take (x.2 - x.1)
theorem grow {L : Bs} {a pos w : Nat} (h : a ≤ pos) : (L.drop a).take (pos - a) ++ (L.drop pos).take w = (L.drop a).take (pos + w - a) := by
  have e : pos + w - a = (pos - a) + w := by omega
  rw [e, List.take_add, List.drop_drop, show a + (pos - a) = pos by omega]
def splitGo (b : UInt8) : Bs → Bs → List Bs
  | cur, [] => [cur]
  | cur, c :: r => if c = b then cur :: splitGo b [] r else splitGo b (cur ++ [c]) r
def splitC (b : UInt8) (s : Bs) : List Bs := splitGo b [] s
theorem splitGo_pre (b : UInt8) : ∀ (s cur : Bs), splitGo b cur s = (match splitGo b [] s with | [] => [] | x :: r => (cur ++ x) :: r)
  | [], cur => by simp [splitGo]
  | c :: r, cur => by
    rw [splitGo, splitGo]
    split
    · simp
    · rw [splitGo_pre b r (cur ++ [c]), splitGo_pre b r ([] ++ [c])]
      cases splitGo b [] r <;> simp
theorem splitGo_ne (b : UInt8) : ∀ (s cur : Bs), splitGo b cur s ≠ []
  | [], cur => by simp [splitGo]
  | c :: r, cur => by
    rw [splitGo]; split
    · exact List.cons_ne_nil _ _
    · exact splitGo_ne b r _
theorem splitK_go (b : UInt8) : ∀ (s : Bs) (k : Nat), s.count b ≤ k → splitK [b] 0 k s = splitC b s
  | [], 0, _ => rfl
  | [], k + 1, _ => rfl
  | c :: r, k, hk => by
    have hi : index (c :: r) [b] = if c = b then 0 else if index r [b] == -1 then -1 else index r [b] + 1 := by
      rw [index]
      by_cases h : c = b
      · subst h; rw [if_pos rfl, if_pos (by simp [List.isPrefixOf])]
      · rw [if_neg h, if_neg (by simp [List.isPrefixOf]; exact fun e => h e.symm)]
    by_cases h : c = b
    · subst h
      rw [List.count_cons_self] at hk
      obtain ⟨k, rfl⟩ : ∃ j, k = j + 1 := ⟨k - 1, by omega⟩
      rw [splitK, hi, if_pos rfl]
      show [] :: splitK [c] 0 k r = _
      rw [splitK_go c r k (by omega)]
      unfold splitC
      rw [splitGo, if_pos rfl]
    · rw [List.count_cons_of_ne (by simpa using h)] at hk
      unfold splitC
      rw [splitGo, if_neg h, splitGo_pre]
      have ih := splitK_go b r k hk
      unfold splitC at ih
      rw [← ih]
      cases k with
      | zero => rfl
      | succ k =>
        rw [splitK, splitK, hi, if_neg h]
        by_cases hm : index r [b] = -1
        · simp [hm]
        · have h0 := index_ge r [b]
          have e1 : (index r [b] == -1) = false := by simpa using hm
          have e2 : (index r [b] + 1 == -1) = false := by simp; omega
          have e3 : (index r [b] + 1).toNat = (index r [b]).toNat + 1 := by omega
          rw [e1]
          simp only [Bool.false_eq_true, if_false, e2, e3]
          simp
theorem split_lib (s : ByteArray) (b : UInt8) : (splitB ⟨#[b]⟩ 0 (countB s ⟨#[b]⟩) s).map (·.data.toList) = splitC b s.data.toList := by
  rw [splitB_data]
  refine splitK_go b _ _ ?_
  have : countB s ⟨#[b]⟩ = count s.data.toList [b] := rfl
  rw [this, count_one]; exact Nat.le_refl _
end R44
end Go.Proofs.YtmacopacmpgieaaGreatDoor
