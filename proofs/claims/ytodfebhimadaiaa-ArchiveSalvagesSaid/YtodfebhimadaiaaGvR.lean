/- GvR: a range over a map that the loop does not write; how long a map is. -/
import Derived.Test.YtodfebhimadaiaaGvM
import Derived.Laws.IdiomRangeMap
namespace Go.GV
open Go.RowKit Go.MapKept
def Ent.mx (b : Nat) (es : Array MapEntry) (clock : Nat) : Ent := ⟨some b, fun o => o = some (.map es clock)⟩
def Ent.rng {κ : Type} (f : κ → Value) (b bm : Nat) (es : Array MapEntry) (clock : Nat) (left : List (κ × Value)) (cur : Option (κ × Value)) : Ent :=
  ⟨some b, fun o => ∃ seen, o = some (.mapIter (some bm) clock seen clock) ∧ (leftOf es seen).toList.map (fun e => (e.key, e.val)) = left.map (fun p => (f p.1, p.2)) ∧ ∀ p, cur = some p → ∃ e ∈ es.toList, seen.back? = some e.born ∧ e.key = f p.1 ∧ e.val = p.2⟩
def Holds' {κ : Type} (f : κ → Value) (es : Array MapEntry) (l : List (κ × Value)) : Prop := es.toList.map (fun e => (e.key, e.val)) = l.map (fun p => (f p.1, p.2))
section
variable {E : Env} {P : Program} {x : Operand} {dst : Option Nat} {t ty : TypeId} {pos : String} {af : Array Edge} {g : Option (Nat × Bool)} {κ : Type}
end
def wpV (a : Nat) (o : Nat) : Value := .pointer (some ⟨a, o, none⟩)
def putV : List Value → List Nat → List Int → Nat → List Value
  | cs, [], _, _ => cs
  | cs, o :: os, vs, i => putV (cs.set o (vI (vs.getD i 0))) os vs (i + 1)
theorem putV_len : ∀ (os : List Nat) (cs : List Value) (vs : List Int) (i : Nat), (putV cs os vs i).length = cs.length
  | [], _, _, _ => rfl
  | o :: os, cs, vs, i => by rw [putV, putV_len os, List.length_set]
theorem putV_more : ∀ (os : List Nat) (cs : List Value) (vs ws : List Int) (i : Nat), i + os.length ≤ vs.length → putV cs os (vs ++ ws) i = putV cs os vs i
  | [], _, _, _, _, _ => rfl
  | o :: os, cs, vs, ws, i, h => by
    rw [List.length_cons] at h
    have e : (vs ++ ws).getD i 0 = vs.getD i 0 := by
      rw [List.getD_eq_getElem?_getD, List.getD_eq_getElem?_getD, List.getElem?_append_left (by omega)]
    rw [putV, putV, putV_more os _ vs ws (i + 1) (by omega), e]
theorem putV_end : ∀ (os : List Nat) (cs : List Value) (vs : List Int) (i o : Nat), putV cs (os ++ [o]) vs i = (putV cs os vs i).set o (vI (vs.getD (i + os.length) 0))
  | [], _, _, _, _ => rfl
  | p :: os, cs, vs, i, o => by
    rw [List.cons_append, putV, putV, putV_end os _ vs (i + 1) o, List.length_cons, Nat.add_right_comm, Nat.add_assoc]
theorem putV_step {os : List Nat} {cs : List Value} {vs : List Int} {k : Nat} {x : Int} (hk : k < os.length) (hv : vs.length = k) : putV cs (os.take (k + 1)) (vs ++ [x]) 0 = (putV cs (os.take k) vs 0).set (os.getD k 0) (vI x) := by
  have hl : (os.take k).length = k := by rw [List.length_take]; omega
  rw [List.take_succ_eq_append_getElem hk, putV_end, putV_more _ _ _ _ _ (by omega), hl, Nat.zero_add, List.getD_eq_getElem?_getD, List.getElem?_append_right (by omega), hv, Nat.sub_self, List.getD_eq_getElem?_getD, List.getElem?_eq_getElem hk]
  rfl
section
variable {E : Env} {P : Program} {x y : Operand} {dst : Option Nat} {t ty : TypeId} {pos : String} {af : Array Edge} {g : Option (Nat × Bool)}
theorem O_store_v {S : List Nat} {w0 : World} {L : List Ent} {K : Value → List Ent → Prop} (j : Nat) {b k : Nat} {tb : TypeId} {cs : List Value} {fz : Nat × Nat} {v : Value} (L' : List Ent)
    (hx : ev E x = .pointer (some ⟨b, k, none⟩)) (hy : ev E y = v) (hj : L[j]? = some (Ent.blk b tb cs fz)) (hn : sizeIs P t = some 1) (h1 : one v = true) (hl : k < cs.length)
    (hL : L.set j (Ent.blk b tb (cs.set k v) fz) = L') (kk : K undef L') : OpJ P S w0 E L ⟨dst, .store t x y, ty, pos, af, g⟩ K :=
  O_store (v := v) j (cs.set k v) L' hx hy hj hn (by rw [one_cells h1]; rfl) (by omega) (by rw [one_cells h1]; simp [one_cell' h1]) (by rw [one_cells h1]; simp [splice, List.set_eq_take_append_cons_drop, hl]) hL kk
end
def kT {κ : Type} (s : κ) : κ × Value := (s, vB true)
section
variable {κ : Type} [DecidableEq κ]
def addK (l : List κ) (s : κ) : List κ := if s ∈ l then l else l ++ [s]
theorem upd_kT (l : List κ) (s : κ) : upd (l.map kT) s (vB true) = (addK l s).map kT := by
  unfold addK
  induction l with
  | nil => rfl
  | cons a l ih =>
    rw [List.map_cons]
    unfold kT at *
    unfold upd
    by_cases h : s = a
    · rw [if_pos h, if_pos (by simp [h])]
      simp [h]
    · rw [if_neg h, ih]
      by_cases h2 : s ∈ l
      · rw [if_pos h2, if_pos (by simp [h2])]
        rfl
      · rw [if_neg h2, if_neg (by simp [h, h2])]
        rfl
theorem lk_kT (l : List κ) (s : κ) : lk (l.map kT) s = if s ∈ l then some (vB true) else none := by
  induction l with
  | nil => rfl
  | cons a l ih =>
    rw [List.map_cons]
    unfold kT at *
    unfold lk
    by_cases h : s = a
    · rw [if_pos h, if_pos (by simp [h])]
    · rw [if_neg h, ih]
      by_cases h2 : s ∈ l
      · rw [if_pos h2, if_pos (by simp [h2])]
      · rw [if_neg h2, if_neg (by simp [h, h2])]
def hasK (l : List κ) (s : κ) : Bool := decide (s ∈ l)
theorem hasK_not {l : List κ} {s : κ} (h : hasK l s = false) : ¬ s ∈ l := of_decide_eq_false h
theorem lk_kT_v (l : List κ) (s : κ) : (lk (l.map kT) s).getD (vB false) = vB (hasK l s) := by
  unfold hasK
  rw [lk_kT]
  by_cases h : s ∈ l
  · rw [if_pos h, decide_eq_true h]; rfl
  · rw [if_neg h, decide_eq_false h]; rfl
theorem addK_mem {l : List κ} {s x : κ} : x ∈ addK l s ↔ x ∈ l ∨ x = s := by
  unfold addK
  split
  · rename_i h
    exact ⟨.inl, fun h2 => h2.elim id fun e => e ▸ h⟩
  · rw [List.mem_append, List.mem_singleton]
end
end Go.GV
