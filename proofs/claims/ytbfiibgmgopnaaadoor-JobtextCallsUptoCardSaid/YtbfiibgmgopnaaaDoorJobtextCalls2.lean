/- GvC, GvD, GvE, GvG, GvP in one text. -/
import Derived.Test.YtbfiibgmgopnaaaDoorJobtextCalls1
import Derived.Maps.AppendAt
import Derived.Deep.AppendSrc
import Derived.Below
import Derived.ChangeSame
import Derived.WalkKit
import Derived.ProofKit
import Derived.OpenShut
import Derived.ShutString
set_option linter.unusedVariables false
set_option linter.unusedSimpArgs false
namespace Go.GV
open Go.RowKit
structure Callable (P : Program) (f : FuncId) : Prop where
  ex : ∃ fn, P.funcs[f]? = some fn ∧ (fn.name == "runtime.NumGoroutine") = false ∧ fn.body.isNone = false
section
variable {E : Env} {P : Program} {w : World} {x y z : Operand} {dst : Option Nat} {t t' ty u : TypeId} {pos : String} {af : Array Edge} {g : Option (Nat × Bool)}
theorem run_callFunc_enter {f : FuncId} {args : Array Value} (h : Callable P f) : (callFunc f args).run P w = .ok (.enter f args) w := by
  obtain ⟨fn, hf, hn, hb⟩ := h.ex
  unfold callFunc
  simp only [Sem.run_bind, run_program, Result.andThen_ok, hf, hn, hb, Bool.false_eq_true, if_false]
  rfl
theorem x_call {f : FuncId} {l : List Operand} {vs : List Value} {ts : Array TypeId} (hc : Callable P f) (ha : l.map (ev E) = vs) :
    (execOp (ev E) ⟨dst, .call ⟨.value (.func f), l.toArray, ts⟩, ty, pos, af, g⟩).run P w = .ok (.enter f vs.toArray) w := by
  subst ha
  have h := run_callFunc_enter (P := P) (w := w) (args := (l.map (ev E)).toArray) hc
  simp only [execOp, resolve, List.map_toArray, ev, Deferred.ofValue, Sem.run_bind, Sem.run_pure, Result.andThen_ok, invoke, List.append_toArray, List.append_nil]
  simpa using h
theorem x_callv {f : FuncId} {first caps : List Value} {l : List Operand} {vs : List Value} {ts : Array TypeId} (hx : ev E x = .func (.func f) first.toArray caps.toArray) (hc : Callable P f) (ha : first ++ l.map (ev E) ++ caps = vs) :
    (execOp (ev E) ⟨dst, .call ⟨.value x, l.toArray, ts⟩, ty, pos, af, g⟩).run P w = .ok (.enter f vs.toArray) w := by
  subst ha
  have h := run_callFunc_enter (P := P) (w := w) (args := (first ++ l.map (ev E) ++ caps).toArray) hc
  simp only [execOp, resolve, List.map_toArray, hx, Deferred.ofValue, Sem.run_bind, Sem.run_pure, Result.andThen_ok, invoke, List.append_toArray]
  simpa using h
def scal (P : Program) (t : TypeId) : Bool := match P.underlying t with
  | some (.struct _) | some (.array _ _) | none => false
  | _ => true
def aggs (P : Program) (t : TypeId) : Bool := match P.underlying t with
  | some (.struct _) | some (.array _ _) => true
  | _ => false
def zeroIs (P : Program) (t : TypeId) : Option Value := (P.info? t).bind (·.zero)
def sizeIs (P : Program) (t : TypeId) : Option Nat := (P.info? t).map (·.size)
def bytesIs (P : Program) (t : TypeId) : Option Nat := (P.info? t).map (·.bytes)
def fieldIs (P : Program) (s : TypeId) (i : Nat) : Option (Nat × TypeId) := match P.underlying s with
  | some (.struct fs) => (fs[i]?).bind fun f => if (sizeIs P f.type).getD 0 = 0 then none else some (f.offset, f.type)
  | _ => none
theorem run_isAgg_false (h : scal P t = true) : (isAgg t).run P w = .ok false w := by
  unfold scal at h
  unfold isAgg
  cases hu : P.underlying t with
  | none => rw [hu] at h; cases h
  | some d =>
    rw [hu] at h
    simp only [Sem.run_bind, run_underlying hu, Result.andThen_ok]
    cases d <;> first | rfl | (cases h)
theorem run_isAgg_true (h : aggs P t = true) : (isAgg t).run P w = .ok true w := by
  unfold aggs at h
  unfold isAgg
  cases hu : P.underlying t with
  | none => rw [hu] at h; cases h
  | some d =>
    rw [hu] at h
    simp only [Sem.run_bind, run_underlying hu, Result.andThen_ok]
    cases d <;> first | rfl | (cases h)
theorem run_sizeOf_is {n : Nat} (h : sizeIs P t = some n) : (sizeOf t).run P w = .ok n w := by
  unfold sizeIs at h
  cases hi : P.info? t with
  | none => rw [hi] at h; cases h
  | some i =>
    rw [hi] at h
    simp at h
    simp [sizeOf, typeInfo, hi, h]
theorem run_zeroValue_is {z : Value} (h : zeroIs P t = some z) : (zeroValue t).run P w = .ok z w := by
  unfold zeroIs at h
  cases hi : P.info? t with
  | none => rw [hi] at h; cases h
  | some i =>
    rw [hi] at h
    simp at h
    simp [zeroValue, typeInfo, hi, h]
theorem add_lit (b o n : Nat) : (⟨b, o, none⟩ : Addr).add n = ⟨b, o + n, none⟩ := by
  unfold Addr.add; split <;> simp_all
def Ent.blk (b : Nat) (t : TypeId) (cs : List Value) (fz : Nat × Nat := (0, 0)) : Ent :=
  ⟨some b, fun o => o = some (.cells cs.toArray t fz) ∧ (fz.2 ≤ fz.1 ∨ cs.length ≤ fz.1)⟩
theorem blk_at {b : Nat} {t : TypeId} {cs : List Value} {fz : Nat × Nat} (h : (Ent.blk b t cs fz).at w) : w.heap[b]? = some (.cells cs.toArray t fz) ∧ (fz.2 ≤ fz.1 ∨ cs.length ≤ fz.1) := by
  simpa [Ent.at, Ent.blk] using h.1
theorem blk_cell {b : Nat} {t : TypeId} {cs : List Value} {fz : Nat × Nat} (h : (Ent.blk b t cs fz).at w) {i : Nat} {v : Value} (hv : cs[i]? = some v) : w.cell? ⟨b, i, none⟩ = some v := by
  obtain ⟨hb, _⟩ := blk_at h
  simp [World.cell?, hb, hv]
theorem blk_frozen {b : Nat} {t : TypeId} {cs : List Value} {fz : Nat × Nat} (h : (Ent.blk b t cs fz).at w) {i : Nat} (hi : i < cs.length) : w.frozen? ⟨b, i, none⟩ = false := by
  obtain ⟨lo, hi'⟩ := fz
  obtain ⟨hb, hf⟩ := blk_at h
  simp only [World.frozen?, hb]
  rcases hf with hf | hf
  · simp only at hf
    rw [Bool.eq_false_iff]; intro hc; simp at hc; omega
  · simp only at hf
    rw [Bool.eq_false_iff]; intro hc; simp at hc; omega
theorem St.mem {S : List Nat} {w0 w : World} {L : List Ent} (h : St S w0 w L) {j : Nat} {e : Ent} (hj : L[j]? = some e) : e.at w := h.hold e (List.mem_of_getElem? hj)
theorem run_loadVar_scal {a : Addr} {v : Value} (hs : scal P t = true) (hc : w.cell? a = some v) : (loadVar t a).run P w = .ok v w := by
  unfold loadVar
  simp only [Sem.run_bind, run_isAgg_false hs, Result.andThen_ok, Bool.false_eq_true, if_false]
  simp [hc]
theorem run_loadVar_aggs {a : Addr} {vs : List Value} (hs : aggs P t = true) (hn : sizeIs P t = some vs.length) (hc : ∀ j v, vs[j]? = some v → w.cell? (a.add j) = some v) : (loadVar t a).run P w = .ok (.agg vs.toArray) w := by
  unfold loadVar
  simp only [Sem.run_bind, run_isAgg_true hs, Result.andThen_ok, if_true, run_sizeOf_is hn]
  rw [run_loadCells_list w a vs hc]
  rfl
theorem exec_load {a : Addr} (hx : ev E x = .pointer (some a)) {v : Value} (hr : (loadVar t a).run P w = .ok v w) : (execOp (ev E) ⟨dst, .load t x, ty, pos, af, g⟩).run P w = .ok (.value v) w := by
  simp only [execOp, hx]
  show Sem.run P (do let v ← (do loadVar t (← Instr.sureAddr (.pointer (some a)))); pure (Next.value v)) w = _
  simp only [Instr.sureAddr, Sem.run_bind, Sem.run_pure, Result.andThen_ok, hr]
theorem x_load {S : List Nat} {w0 : World} {L : List Ent} (j : Nat) {b off : Nat} {tb : TypeId} {cs : List Value} {fz : Nat × Nat} {v : Value} (hx : ev E x = .pointer (some ⟨b, off, none⟩)) (hj : L[j]? = some (Ent.blk b tb cs fz)) (hs : scal P t = true) (hc : cs[off]? = some v) :
    ∀ w, St S w0 w L → (execOp (ev E) ⟨dst, .load t x, ty, pos, af, g⟩).run P w = .ok (.value v) w :=
  fun _ h => exec_load hx (run_loadVar_scal hs (blk_cell (h.mem hj) hc))
theorem x_loadN {S : List Nat} {w0 : World} {L : List Ent} (j : Nat) {b off : Nat} {tb : TypeId} {cs : List Value} {fz : Nat × Nat} (vs : List Value) (hx : ev E x = .pointer (some ⟨b, off, none⟩)) (hj : L[j]? = some (Ent.blk b tb cs fz)) (hs : aggs P t = true) (hn : sizeIs P t = some vs.length) (hc : (cs.drop off).take vs.length = vs) :
    ∀ w, St S w0 w L → (execOp (ev E) ⟨dst, .load t x, ty, pos, af, g⟩).run P w = .ok (.value (.agg vs.toArray)) w := by
  intro w h
  refine exec_load hx (run_loadVar_aggs hs hn fun i v hv => ?_)
  rw [add_lit]
  refine blk_cell (h.mem hj) ?_
  rw [← hc, List.getElem?_take] at hv
  split at hv
  · simpa using hv
  · cases hv
def splice {α : Type} : List α → Nat → List α → List α
  | cs, _, [] => cs
  | cs, k, v :: vs => splice (cs.set k v) (k + 1) vs
theorem splice_length {α : Type} : ∀ (vs cs : List α) (k : Nat), (splice cs k vs).length = cs.length
  | [], _, _ => rfl
  | v :: vs, cs, k => by simp [splice, splice_length vs]
attribute [simp] splice_length
theorem splice_eq {α : Type} : ∀ (vs cs : List α) (k : Nat), k + vs.length ≤ cs.length → splice cs k vs = cs.take k ++ vs ++ cs.drop (k + vs.length)
  | [], cs, k, _ => by simp [splice]
  | v :: vs, cs, k, h => by
    simp only [List.length_cons] at h
    have hk : k < cs.length := by omega
    simp only [splice]
    rw [splice_eq vs _ _ (by simp; omega)]
    rw [List.set_eq_take_append_cons_drop, if_pos hk]
    have h1 : (cs.take k ++ v :: cs.drop (k + 1)).take (k + 1) = cs.take k ++ [v] := by
      rw [List.take_append]; simp [List.length_take, Nat.min_eq_left (Nat.le_of_lt hk)]; 
      rw [List.take_of_length_le (by simp; omega)]
    have h2 : (cs.take k ++ v :: cs.drop (k + 1)).drop (k + 1 + vs.length) = cs.drop (k + (v :: vs).length) := by
      rw [List.drop_append]
      simp only [List.length_take, Nat.min_eq_left (Nat.le_of_lt hk), List.length_cons]
      rw [List.drop_of_length_le (by simp; omega)]
      have e : k + 1 + vs.length - k = vs.length + 1 := by omega
      rw [e, List.drop_succ_cons, List.drop_drop]
      simp; congr 1; omega
    rw [h1, h2]; simp
theorem run_storeCells_blk {b o : Nat} {fz : Nat × Nat} : ∀ (vs : List Value) (i : Nat) (cs : List Value) (w : World), w.heap[b]? = some (.cells cs.toArray t fz) → (fz.2 ≤ fz.1 ∨ cs.length ≤ fz.1) →
    o + i + vs.length ≤ cs.length → (∀ v ∈ vs, v.oneCell' = true) → ∃ w', (storeCells ⟨b, o, none⟩ vs i).run P w = .ok () w' ∧ Fr [b] w w' ∧ w'.heap[b]? = some (.cells (splice cs (o + i) vs).toArray t fz)
  | [], i, cs, w, hb, _, _, _ => ⟨w, rfl, Fr.refl _ _, hb⟩
  | v :: vs, i, cs, w, hb, hf, hl, h1 => by
    simp only [List.length_cons] at hl
    have hat : (Ent.blk b t cs fz).at w := ⟨by simpa [Ent.blk] using ⟨hb, hf⟩, fun c hc => by
      simp [Ent.blk] at hc; subst hc; exact (Array.getElem?_eq_some_iff.1 hb).1⟩
    have hlt : o + i < cs.length := by omega
    have hc := blk_cell hat (List.getElem?_eq_getElem hlt)
    have hz := blk_frozen hat hlt
    have hst : (store ((⟨b, o, none⟩ : Addr).add i) v).run P w = .ok () (w.setCell ⟨b, o + i, none⟩ v) := by
      rw [run_store P w _ v _ (h1 v (by simp)), add_lit, hc]
      simp [hz]
    have hb' : (w.setCell ⟨b, o + i, none⟩ v).heap[b]? = some (.cells (cs.set (o + i) v).toArray t fz) := by
      simp [World.setCell, Array.getElem?_modify, hb]
    obtain ⟨w', hr, hF, hB⟩ := run_storeCells_blk (o := o) vs (i + 1) (cs.set (o + i) v) _ hb' (by simpa using hf) (by simp; omega) (fun u hu => h1 u (by simp [hu]))
    refine ⟨w', ?_, ?_, by simpa [splice, Nat.add_assoc] using hB⟩
    · simp only [storeCells, Sem.run_bind, hst, Result.andThen_ok, hr]
    · have h0 : Fr [b] w (w.setCell ⟨b, o + i, none⟩ v) := ⟨rfl, rfl, rfl, by simp, fun k _ hk => Below.heap_setCell w _ _ k (by simpa using hk)⟩
      exact h0.trans hF
theorem run_storeVar_blk {b o : Nat} {tb : TypeId} {cs : List Value} {fz : Nat × Nat} {v : Value} (hat : (Ent.blk b tb cs fz).at w) {n : Nat} (hn : sizeIs P t = some n) (hv : v.cells.toList.length = n) (hl : o + n ≤ cs.length) (h1 : v.cells.toList.all Value.oneCell' = true) :
    ∃ w', (storeVar t ⟨b, o, none⟩ v).run P w = .ok () w' ∧ Fr [b] w w' ∧ (Ent.blk b tb (splice cs o v.cells.toList) fz).prop w'.heap[b]? := by
  obtain ⟨hb, hf⟩ := blk_at hat
  obtain ⟨w', hr, hF, hB⟩ := run_storeCells_blk (P := P) (o := o) v.cells.toList 0 cs w hb hf (by omega) (fun u hu => List.all_eq_true.1 h1 u hu)
  refine ⟨w', ?_, hF, by simpa using hB, by rw [splice_length]; exact hf⟩
  unfold storeVar
  have hsz : v.cells.size = n := by simpa using hv
  simp only [Sem.run_bind, run_sizeOf_is hn, Result.andThen_ok, hsz, ne_eq, not_true_eq_false, if_false]
  exact hr
theorem set_perm {α : Type} : ∀ (L : List α) (j : Nat) (e : α), j < L.length → (e :: L.eraseIdx j).Perm (L.set j e)
  | x :: L, 0, e, _ => .refl _
  | x :: L, j + 1, e, h => (List.Perm.swap x e _).trans ((set_perm L j e (by simpa using h)).cons x)
theorem St.writeAt {S : List Nat} {w0 w w' : World} {L : List Ent} {j : Nat} {e e' : Ent} (h : St S w0 w L) (hj : L[j]? = some e) (b : Nat) (ho : e.own = some b) (ho' : e'.own = some b)
    (hf : Fr [b] w w') (hp : e'.prop w'.heap[b]?) : St S w0 w' (L.set j e') :=
  ((h.front j e hj).write b ho ho' hf hp).perm (set_perm L j e' (List.getElem?_eq_some_iff.1 hj).1)
theorem O_store {S : List Nat} {w0 : World} {L : List Ent} {K : Value → List Ent → Prop} (j : Nat) {b off n : Nat} {tb : TypeId} {cs : List Value} {fz : Nat × Nat} {v : Value} (cs' : List Value) (L' : List Ent)
    (hx : ev E x = .pointer (some ⟨b, off, none⟩)) (hy : ev E y = v) (hj : L[j]? = some (Ent.blk b tb cs fz)) (hn : sizeIs P t = some n) (hv : v.cells.toList.length = n) (hl : off + n ≤ cs.length) (h1 : v.cells.toList.all Value.oneCell' = true)
    (hcs : splice cs off v.cells.toList = cs') (hL : L.set j (Ent.blk b tb cs' fz) = L') (k : K undef L') : OpJ P S w0 E L ⟨dst, .store t x y, ty, pos, af, g⟩ K := by
  intro w hS
  subst hcs; subst hL
  obtain ⟨w', hr, hF, hB⟩ := run_storeVar_blk (P := P) (t := t) (hS.mem hj) hn hv hl h1
  refine ⟨undef, _, w', .inr ⟨?_, rfl⟩, hS.writeAt hj b rfl rfl hF hB, k⟩
  simp only [execOp, hx, hy]
  show Sem.run P (do (do storeVar t (← Instr.sureAddr (.pointer (some ⟨b, off, none⟩))) v); pure Next.skip) w = _
  simp only [Instr.sureAddr, Sem.run_bind, Sem.run_pure, Result.andThen_ok, hr]
theorem O_storeS {S : List Nat} {w0 : World} {L : List Ent} {K : Value → List Ent → Prop} (j : Nat) {b off n : Nat} {tb : TypeId} {cs : List Value} {fz : Nat × Nat} {vs : List Value} (cs' : List Value) (L' : List Ent)
    (hx : ev E x = .pointer (some ⟨b, off, none⟩)) (hy : ev E y = .agg vs.toArray) (hj : L[j]? = some (Ent.blk b tb cs fz)) (hn : sizeIs P t = some n) (hv : vs.length = n) (hl : off + n ≤ cs.length) (h1 : vs.all Value.oneCell' = true)
    (hcs : cs.take off ++ (vs ++ cs.drop (off + n)) = cs') (hL : L.set j (Ent.blk b tb cs' fz) = L') (k : K undef L') : OpJ P S w0 E L ⟨dst, .store t x y, ty, pos, af, g⟩ K :=
  O_store j cs' L' hx hy hj hn (by simpa [Value.cells] using hv) hl (by simpa [Value.cells] using h1) (by
    subst hv
    rw [← hcs, splice_eq _ _ _ (by simpa [Value.cells] using hl)]; simp [Value.cells]) hL k
theorem St.alloc_blk {S : List Nat} {w0 w : World} {L : List Ent} (h : St S w0 w L) (tb : TypeId) (cs : List Value) : St S w0 (w.alloc (.cells cs.toArray tb)) (Ent.blk w.heap.size tb cs :: L) :=
  h.alloc _ _ rfl ⟨rfl, .inl (Nat.le_refl _)⟩
theorem O_alloc {S : List Nat} {w0 : World} {L : List Ent} {K : Value → List Ent → Prop} {z : Value} {cs : List Value} (hz : zeroIs P t = some z) (hcs : z.cells.toList = cs)
    (k : ∀ b, K (.pointer (some ⟨b, 0, none⟩)) (Ent.blk b t cs :: L)) : OpJ P S w0 E L ⟨dst, .alloc t, ty, pos, af, g⟩ K := by
  intro w hS
  subst hcs
  refine ⟨_, _, _, .inl ?_, hS.alloc_blk t z.cells.toList, k w.heap.size⟩
  have hr : (Instr.alloc t true (.tuple #[])).run P w = .ok (.pointer (some ⟨w.heap.size, 0, none⟩)) (w.alloc (.cells z.cells.toList.toArray t)) := by
    simp only [Instr.alloc, Sem.run_bind, run_zeroValue_is hz, Result.andThen_ok, newVar, newRow]
    simp [newObj, Sem.run]
  simp only [execOp]
  show Sem.run P (do let v ← Instr.alloc t true (.tuple #[]); pure (Next.value v)) w = _
  rw [Sem.run_bind, hr]; rfl
theorem O_box {S : List Nat} {w0 : World} {L : List Ent} {K : Value → List Ent → Prop} {v : Value} {cs : List Value} (hx : ev E x = v) (hcs : v.cells.toList = cs)
    (k : ∀ b, K (.pointer (some ⟨b, 0, none⟩)) (Ent.blk b t cs :: L)) : OpJ P S w0 E L ⟨dst, .box t x, ty, pos, af, g⟩ K := by
  intro w hS
  subst hcs
  refine ⟨_, _, _, .inl ?_, hS.alloc_blk t v.cells.toList, k w.heap.size⟩
  have hr : (Instr.box t v).run P w = .ok (.pointer (some ⟨w.heap.size, 0, none⟩)) (w.alloc (.cells v.cells.toList.toArray t)) := by
    simp only [Instr.box, newVar, newRow]
    simp [newObj, Sem.run]
  simp only [execOp, hx]
  show Sem.run P (do let v ← Instr.box t v; pure (Next.value v)) w = _
  rw [Sem.run_bind, hr]; rfl
theorem run_fieldPlace {s : TypeId} {i o : Nat} {ft : TypeId} {a : Addr} (h : fieldIs P s i = some (o, ft)) : (Instr.fieldAt s (.pointer (some a)) i).run P w = .ok (.pointer (some (a.add o))) w := by
  unfold fieldIs at h
  cases hu : P.underlying s with
  | none => rw [hu] at h; cases h
  | some d =>
    rw [hu] at h
    cases d with
    | struct fs =>
      simp only at h
      cases hf : fs[i]? with
      | none => rw [hf] at h; cases h
      | some f =>
        rw [hf] at h
        simp only [Option.bind_some] at h
        split at h
        · cases h
        · rename_i hz
          simp at h
          obtain ⟨h1, h2⟩ := h
          subst h1; subst h2
          cases hsz : sizeIs P f.type with
          | none => rw [hsz] at hz; simp at hz
          | some n =>
            rw [hsz] at hz
            simp at hz
            simp only [Instr.fieldAt, Sem.run_bind, run_underlying hu, Result.andThen_ok, hf, Instr.sureAddr, Sem.run_pure, fieldPlace, run_sizeOf_is hsz, if_neg hz]
    | _ => cases h
theorem x_fieldAddr {s : TypeId} {i o : Nat} {ft : TypeId} {a b : Addr} (h : fieldIs P s i = some (o, ft)) (hx : ev E x = .pointer (some a)) (hb : a.add o = b) :
    (execOp (ev E) ⟨dst, .fieldAddr s x i, ty, pos, af, g⟩).run P w = .ok (.value (.pointer (some b))) w := by
  subst hb
  simp only [execOp, hx]
  show Sem.run P (do let v ← Instr.fieldAt s (.pointer (some a)) i; pure (Next.value v)) w = _
  rw [Sem.run_bind, run_fieldPlace h]; rfl
theorem run_part_scal {cs : Array Value} {o : Nat} {v : Value} (hs : scal P t = true) (hv : cs[o]? = some v) : (part t cs o).run P w = .ok v w := by
  unfold part
  simp only [Sem.run_bind, run_isAgg_false hs, Result.andThen_ok, Bool.false_eq_true, if_false, hv]
  rfl
theorem run_part_aggs {cs : Array Value} {o n : Nat} (hs : aggs P t = true) (hn : sizeIs P t = some n) : (part t cs o).run P w = .ok (.agg (cs.extract o (o + n))) w := by
  unfold part
  simp only [Sem.run_bind, run_isAgg_true hs, Result.andThen_ok, if_true, run_sizeOf_is hn]
  rfl
theorem run_indexAt_sl {len cap n k : Nat} {kd : IntKind} {e : TypeId} {a : Addr} (ht : P.underlying t = some (.slice e)) (hn : sizeIs P e = some n) (hk : k < len) :
    (Instr.indexAt t (.slice (some a) len cap) (.int kd (k : Int))).run P w = .ok (.pointer (some (a.add (k * n)))) w := by
  have h1 : (0 : Int) ≤ (k : Int) ∧ (k : Int) < (len : Int) := by omega
  simp only [Instr.indexAt, asIntOf, Sem.run_bind, Sem.run_pure, Result.andThen_ok, run_underlying ht, if_pos h1, run_sizeOf_is hn, Int.toNat_natCast]
theorem x_indexAddr_sl {len cap n k : Nat} {kd : IntKind} {e : TypeId} {a b : Addr} (ht : P.underlying t = some (.slice e)) (hn : sizeIs P e = some n) (hx : ev E x = .slice (some a) len cap) (hy : ev E y = .int kd (k : Int)) (hk : k < len) (hb : a.add (k * n) = b) :
    (execOp (ev E) ⟨dst, .indexAddr t x y, ty, pos, af, g⟩).run P w = .ok (.value (.pointer (some b))) w := by
  subst hb
  simp only [execOp, hx, hy]
  show Sem.run P (do let v ← Instr.indexAt t (.slice (some a) len cap) (.int kd (k : Int)); pure (Next.value v)) w = _
  rw [Sem.run_bind, run_indexAt_sl ht hn hk]; rfl
theorem x_len_sl {e : TypeId} {A : Option Addr} {n c : Nat} (ht : P.underlying t = some (.slice e)) (hx : ev E x = .slice A n c) : (execOp (ev E) ⟨dst, .call ⟨.builtin .len, #[x], #[t]⟩, ty, pos, af, g⟩).run P w = .ok (.value (vI (n : Int))) w := by
  have hr : (Builtin.len_ #[t] ty #[.slice A n c]).run P w = .ok (vI (n : Int)) w := by simp [Builtin.len_, run_underlying ht, goInt]
  simp [execOp, resolve, invoke, builtin, hx, hr]
theorem x_nilCheck {a : Addr} (hx : ev E x = .pointer (some a)) : (execOp (ev E) ⟨dst, .nilCheck x, ty, pos, af, g⟩).run P w = .ok (.value (.pointer (some a))) w := by
  simp only [execOp, hx]; rfl
theorem x_build {s : TypeId} {ps : List (Nat × Operand)} {v : Value} (hr : (Instr.build s (ps.map fun p => (p.1, ev E p.2)).toArray).run P w = .ok v w) : (execOp (ev E) ⟨dst, .build s ps.toArray, ty, pos, af, g⟩).run P w = .ok (.value v) w := by
  simp only [execOp, List.map_toArray]
  show Sem.run P (do let v ← Instr.build s (ps.map fun p => (p.1, ev E p.2)).toArray; pure (Next.value v)) w = _
  rw [Sem.run_bind, hr]; rfl
theorem O_buildSlice {S : List Nat} {w0 : World} {L : List Ent} {K : Value → List Ent → Prop} {s e : TypeId} {len n : Nat} {ps : List (Nat × Operand)} {z : Value} {cs : List Value} (ht : P.underlying s = some (.slice e)) (hn : sizeIs P e = some n) (hz : zeroIs P e = some z)
    (hlen : len * n ≤ 16777216) (hpos : 0 < len * n) (hf : Instr.fill (fun i => some (i * n, n)) ((Array.range (len * n)).map (z.cells[· % z.cells.size]!)) (ps.map fun p => (p.1, ev E p.2)) = some cs.toArray)
    (k : ∀ b, K (.slice (some ⟨b, 0, none⟩) len len) (Ent.blk b e cs :: L)) : OpJ P S w0 E L ⟨dst, .buildSlice s len ps.toArray, ty, pos, af, g⟩ K := by
  intro w hS
  refine ⟨_, _, _, .inl ?_, hS.alloc_blk e cs, k w.heap.size⟩
  have h1 : ¬ len * n > 2 ^ 24 := by omega
  have h2 : ¬ len * n = 0 := by omega
  have hr : (Instr.buildSlice s len (ps.map fun p => (p.1, ev E p.2)).toArray).run P w = .ok (.slice (some ⟨w.heap.size, 0, none⟩) len len) (w.alloc (.cells cs.toArray e)) := by
    simp only [Instr.buildSlice, Sem.run_bind, run_underlying ht, Result.andThen_ok, run_sizeOf_is hn, if_neg h1, if_neg h2, run_zeroValue_is hz, Sem.run_pure, hf, newRow]
    simp [newObj, Sem.run]
  simp only [execOp, List.map_toArray]
  show Sem.run P (do let v ← Instr.buildSlice s len (ps.map fun p => (p.1, ev E p.2)).toArray; pure (Next.value v)) w = _
  rw [Sem.run_bind, hr]; rfl
theorem run_bytesS {a : Addr} {n c : Nat} {l : Bytes} (hn : n = l.length) (hc : ∀ (j : Nat) (v : Value), (l.map vU8)[j]? = some v → w.cell? (a.add j) = some v) : (Conv.bytesToString (.slice (some a) n c)).run P w = .ok (vS l) w := by
  subst hn
  have h1 := run_loadCells_list (P := P) w a (l.map vU8) hc
  have e1 : l.map vU8 = (l.map fun b => (b.toNat : Int)).map (Value.int .u8) := by simp
  rw [e1] at h1
  simp only [List.length_map] at h1
  rw [Go.run_bytesToString w a l.length c _ h1]
  congr 2
  have key : ∀ (l : Bytes) (acc : ByteArray), ((l.map fun b => (b.toNat : Int)).foldl (fun r n => r.push (UInt8.ofNat n.toNat)) acc) = acc ++ ⟨l.toArray⟩ := by
    intro l
    induction l with
    | nil => intro acc; apply ByteArray.ext; simp [ByteArray.data_append]
    | cons b l ih =>
      intro acc
      simp only [List.map_cons, List.foldl_cons, ih]
      apply ByteArray.ext
      simp [ByteArray.data_append]
  rw [key]
  apply ByteArray.ext; simp
end
end Go.GV

namespace Go.GV
theorem bnot_true {b : Bool} (h : (!b) = true) : b = false := by simpa using h
theorem bnot_false {b : Bool} (h : (!b) = false) : b = true := by simpa using h
theorem band_true {a b : Bool} (h : (a && b) = true) : a = true ∧ b = true := by simpa using h
theorem bor_false {a b : Bool} (h : (a || b) = false) : a = false ∧ b = false := by simpa using h
section
variable {E : Env} {P : Program} {w : World} {x y z : Operand} {dst : Option Nat} {t t' ty u : TypeId} {pos : String} {af : Array Edge} {g : Option (Nat × Bool)}
theorem x_add_n {a b : Nat} (hx : ev E x = vI (a : Int)) (hy : ev E y = vI (b : Int)) (h : a + b ≤ 9223372036854775807) : (execOp (ev E) ⟨dst, .binOp .add t x y t', ty, pos, af, g⟩).run P w = .ok (.value (vI ((a + b : Nat) : Int))) w := by
  rw [x_add_i hx hy (by omega) (by omega)]; congr
theorem load_blkN {S : List Nat} {w0 : World} {L : List Ent} (j : Nat) {b off : Nat} {tb : TypeId} {cs : List Value} {fz : Nat × Nat} (vs : List Value) (h : St S w0 w L) (hj : L[j]? = some (Ent.blk b tb cs fz)) (hs : aggs P t = true) (hn : sizeIs P t = some vs.length) (hc : (cs.drop off).take vs.length = vs) : (loadVar t ⟨b, off, none⟩).run P w = .ok (.agg vs.toArray) w := by
  refine run_loadVar_aggs hs hn fun i v hv => ?_
  rw [add_lit]
  refine blk_cell (h.mem hj) ?_
  rw [← hc, List.getElem?_take] at hv
  split at hv
  · simpa using hv
  · cases hv
end
section
variable {P : Program} {n : Dim} {S : List Nat} {w0 : World} {Q : Post} {E : Env} {L : List Ent} {ops : Array Oper} {Lg Lu : List Ent} {us : List Nat} {fuel : Nat} {listed : Array Bool}
theorem JI_read {i : Nat} {o : Oper} (v : Value) (hi : ops[i]? = some o) (hfit : fit n E o = true) (hw : wants ops E o) (hr : ∀ w, St S w0 w L → (execOp (ev E) o).run P w = .ok (.value v) w)
    (h : JA P n S w0 ops Q Lg us Lu fuel (listed.setIfInBounds i true) (put E o.dst v) L) : JI P n S w0 ops Q Lg us Lu fuel listed E L i :=
  JI_op hi hfit hw fun w hS => ⟨v, L, w, .inl (hr w hS), hS, h⟩
end
end Go.GV

namespace Go.GV
open Go.RowKit
theorem map_at {α : Type} (f : α → Value) (xs : List α) (d : α) {k : Nat} (hk : k < xs.length) : (xs.map f)[k]? = some (f (xs.getD k d)) := by
  simp [List.getD_eq_getElem?_getD, List.getElem?_eq_getElem hk]
def one (v : Value) : Bool := match v with
  | .agg _ | .tuple _ => false
  | _ => true
theorem one_cells {v : Value} (h : one v = true) : v.cells.toList = [v] := by cases v <;> first | rfl | cases h
theorem one_cell' {v : Value} (h : one v = true) : v.oneCell' = true := by cases v <;> first | rfl | cases h
section
variable {E : Env} {P : Program} {w : World} {x y z : Operand} {dst : Option Nat} {t t' ty u : TypeId} {pos : String} {af : Array Edge} {g : Option (Nat × Bool)}
end
end Go.GV

namespace Go.GV
open Go.RowKit
def Ent.row (v : Value) (e : TypeId) (sz n : Nat) (cs : List Value) : Ent :=
  ⟨v.ownBlock, fun o => cs.length = n * sz ∧ ((v = .slice none 0 0 ∧ n = 0) ∨ ∃ g cap cur, v = .slice (some ⟨g, 0, none⟩) n cap ∧ o = some (.cells cur e (0, 0)) ∧ n ≤ cap ∧ cap ≤ maxLen ∧ cur.size = cap * sz ∧ cur.toList.take (n * sz) = cs)⟩
section
variable {w : World} {v : Value} {e : TypeId} {sz n : Nat} {cs : List Value}
theorem row_owns (h : (Ent.row v e sz n cs).at w) : w.ownsRow 0 e sz v n cs := by
  obtain ⟨⟨h1, h2⟩, _⟩ := h
  refine ⟨h1, ?_⟩
  rcases h2 with h2 | ⟨g, cap, cur, rfl, ho, h3⟩
  · exact .inl h2
  · exact .inr ⟨g, cap, cur, rfl, Nat.zero_le _, by simpa [Ent.row, Value.ownBlock] using ho, h3⟩
theorem owns_row {base : Nat} (h : w.ownsRow base e sz v n cs) : (Ent.row v e sz n cs).at w := by
  refine ⟨⟨h.1, ?_⟩, fun b hb => (h.lt b hb).2⟩
  rcases h.2 with h2 | ⟨g, cap, cur, rfl, _, ho, h3⟩
  · exact .inl h2
  · exact .inr ⟨g, cap, cur, rfl, by simpa [Ent.row, Value.ownBlock] using ho, h3⟩
end
theorem St.nilrow {S : List Nat} {w0 w : World} {L : List Ent} (h : St S w0 w L) (e : TypeId) (sz : Nat) : St S w0 w (Ent.row (.slice none 0 0) e sz 0 [] :: L) := by
  refine ⟨h.fr, ?_, List.pairwise_cons.2 ⟨fun x _ b hb => ?_, h.dis⟩, ?_⟩
  · intro x hx
    rcases List.mem_cons.1 hx with rfl | hx
    · exact owns_row (World.ownsRow_nil w 0 e sz)
    · exact h.hold x hx
  · simp [Ent.row, Value.ownBlock] at hb
  · intro x hx b hb
    rcases List.mem_cons.1 hx with rfl | hx
    · simp [Ent.row, Value.ownBlock] at hb
    · exact h.own x hx b hb
theorem St.swap {S : List Nat} {w0 w w' : World} {e e' : Ent} {L : List Ent} (h : St S w0 w (e :: L)) (hf : Fr e.own.toList w w') (hat : e'.at w') (ho : ∀ b, e'.own = some b → e.own = some b ∨ w.heap.size ≤ b) : St S w0 w' (e' :: L) := by
  have hd := List.pairwise_cons.1 h.dis
  have hown : ∀ b, b ∈ e.own.toList → e.own = some b := fun b hb => by simpa using hb
  refine ⟨?_, ?_, ?_, ?_⟩
  · refine ⟨hf.os.trans h.fr.os, hf.tape.trans h.fr.tape, hf.output.trans h.fr.output, Nat.le_trans h.fr.size hf.size, fun i hi hn => ?_⟩
    refine (hf.block i (Nat.lt_of_lt_of_le hi h.fr.size) ?_).trans (h.fr.block i hi hn)
    intro hib
    rcases h.own e (by simp) _ (hown i hib) with h1 | h1
    · exact hn h1
    · omega
  · intro x hx
    rcases List.mem_cons.1 hx with rfl | hx
    · exact hat
    · refine Ent.at_frame (h.hold x (by simp [hx])) hf.size fun c hc => hf.block c ((h.hold x (by simp [hx])).2 c hc) ?_
      intro hcb
      exact hd.1 x hx c (hown c hcb) hc
  · refine List.pairwise_cons.2 ⟨fun x hx c hc hc' => ?_, hd.2⟩
    rcases ho c hc with h1 | h1
    · exact hd.1 x hx c h1 hc'
    · exact absurd ((h.hold x (by simp [hx])).2 c hc') (by omega)
  · intro x hx c hc
    rcases List.mem_cons.1 hx with rfl | hx
    · rcases ho c hc with h1 | h1
      · exact h.own e (by simp) c h1
      · exact .inr (Nat.le_trans h.fr.size h1)
    · exact h.own x (by simp [hx]) c hc
theorem St.swapAt {S : List Nat} {w0 w w' : World} {e e' : Ent} {L : List Ent} {j : Nat} (h : St S w0 w L) (hj : L[j]? = some e) (hf : Fr e.own.toList w w') (hat : e'.at w') (ho : ∀ b, e'.own = some b → e.own = some b ∨ w.heap.size ≤ b) : St S w0 w' (L.set j e') :=
  ((h.front j e hj).swap hf hat ho).perm (set_perm L j e' (List.getElem?_eq_some_iff.1 hj).1)
theorem Fr.of_grownBy {w w' : World} {row : Option Nat} (h : w.grownBy w' row) : Fr row.toList w w' :=
  ⟨h.os, h.tape, h.output, h.size, fun i hi hn => h.block i hi (fun e => hn (by rw [← e]; simp))⟩
def Cells (w : World) (A : Option Addr) (cs : List Value) : Prop := ∀ j v, cs[j]? = some v → ∃ a, A = some a ∧ w.cell? (a.add j) = some v
section
variable {E : Env} {P : Program} {w : World} {x y z : Operand} {dst : Option Nat} {t t' ty u : TypeId} {pos : String} {af : Array Edge} {g : Option (Nat × Bool)}
theorem info_of {e : TypeId} {sz by_ : Nat} {z : Value} (hs : sizeIs P e = some sz) (hb : bytesIs P e = some by_) (hz : zeroIs P e = some z) : ∃ i, P.info? e = some i ∧ i.zero = some z ∧ i.size = sz ∧ i.bytes = by_ := by
  unfold sizeIs at hs; unfold zeroIs at hz; unfold bytesIs at hb
  cases hi : P.info? e with
  | none => rw [hi] at hs; cases hs
  | some i => rw [hi] at hs hz hb; simp at hs hz hb; exact ⟨i, rfl, hz, hs, hb⟩
theorem O_append {S : List Nat} {w0 : World} {L : List Ent} {K : Value → List Ent → Prop} (j : Nat) {e : TypeId} {sz by_ n m c : Nat} {zv v : Value} {A : Option Addr} {cs news : List Value}
    (ht : P.underlying t = some (.slice e)) (hs : sizeIs P e = some sz) (hb : bytesIs P e = some by_) (hz : zeroIs P e = some zv) (hzs : zv.cells.size = sz)
    (hx : ev E x = v) (hy : ev E y = .slice A m c) (hj : L[j]? = some (Ent.row v e sz n cs)) (hl : news.length = m * sz) (hsz : 0 < sz) (h1 : news.all Value.oneCell' = true) (hread : ∀ w, St S w0 w L → Cells w A news)
    (hbytes : (n + m) * by_ ≤ 140737488355328) (h63 : n + m ≤ 9223372036854775807)
    (k : ∀ A' c', K (.slice A' (n + m) c') (L.set j (Ent.row (.slice A' (n + m) c') e sz (n + m) (cs ++ news)))) : OpJ P S w0 E L ⟨dst, .call ⟨.builtin .append, #[x, y], #[t, t]⟩, ty, pos, af, g⟩ K := by
  intro w hS
  obtain ⟨i, hi, hiz, his, hib⟩ := info_of hs hb hz
  have hown := row_owns (hS.mem hj)
  have hc := hread w hS
  have hmax : n + m ≤ maxLen := by unfold maxLen; omega
  have hone : ∀ u ∈ news, u.oneCell' = true := fun u hu => List.all_eq_true.1 h1 u hu
  have key : ∃ v' w', (Builtin.append_ #[t, t] ty #[v, .slice A m c]).run P w = .ok v' w' ∧ w'.ownsRow 0 e sz v' (n + m) (cs ++ news) ∧ w.grownBy w' v.ownBlock ∧ (v'.ownBlock = v.ownBlock ∨ v'.ownBlock = some w.heap.size) := by
    rcases Nat.eq_zero_or_pos m with hm | hm
    · subst hm
      have hn : news = [] := List.eq_nil_of_length_eq_zero (by simpa using hl)
      subst hn
      cases A with
      | some a =>
        obtain ⟨v', w', hr, h2, h3, _, h5⟩ := run_append_own_at (P := P) w 0 t ty e i zv sz by_ ht hi hiz his hib hzs hsz v n cs hown a 0 c [] (by simp) (by simp) (by simp) hmax hbytes (Nat.zero_le _)
        exact ⟨v', w', hr, h2, h3, h5⟩
      | none =>
        refine ⟨v, w, ?_, by simpa using hown, ⟨rfl, rfl, rfl, Nat.le_refl _, fun _ _ _ => rfl⟩, .inl rfl⟩
        rcases hown.2 with ⟨rfl, rfl⟩ | ⟨g, cap, cur, rfl, _, _, hnc, _⟩
        · simp [Builtin.append_, run_underlying ht, sizeOf, typeInfo, hi, Builtin.lenOf, Builtin.firstCells]
        · simp [Builtin.append_, run_underlying ht, sizeOf, typeInfo, hi, Builtin.lenOf, Builtin.firstCells, hnc, storeCells]
    · have hpos : 0 < news.length := by rw [hl]; exact Nat.mul_pos hm hsz
      obtain ⟨a, rfl, _⟩ := hc 0 _ (List.getElem?_eq_getElem hpos)
      obtain ⟨v', w', hr, h2, h3, _, h5⟩ := run_append_own_at (P := P) w 0 t ty e i zv sz by_ ht hi hiz his hib hzs hsz v n cs hown a m c news hl (fun jj u hu => by
        obtain ⟨a', ha, hcell⟩ := hc jj u hu
        injection ha with ha; subst ha; exact hcell) hone hmax hbytes (Nat.zero_le _)
      exact ⟨v', w', hr, h2, h3, h5⟩
  obtain ⟨v', w', hr, h2, h3, h4⟩ := key
  obtain ⟨A', c', rfl⟩ : ∃ A' c', v' = .slice A' (n + m) c' := by
    rcases h2.2 with ⟨rfl, h0⟩ | ⟨g, cap, cur, rfl, _⟩
    · exact ⟨none, 0, by rw [h0]⟩
    · exact ⟨_, _, rfl⟩
  refine ⟨_, _, w', .inl ?_, hS.swapAt hj (Fr.of_grownBy h3) (owns_row h2) ?_, k A' c'⟩
  · simp [execOp, resolve, invoke, builtin, hx, hy, hr]
  · intro b hb
    have hb' : (Value.slice A' (n + m) c').ownBlock = some b := hb
    rcases h4 with h4 | h4
    · left; show v.ownBlock = some b; rw [← h4]; exact hb'
    · right; rw [h4] at hb'; injection hb' with hb'; omega
theorem cells_blk {S : List Nat} {w0 : World} {L : List Ent} (i : Nat) {b off m : Nat} {tb : TypeId} {cs news : List Value} {fz : Nat × Nat} (hi : L[i]? = some (Ent.blk b tb cs fz)) (hn : (cs.drop off).take m = news) :
    ∀ w, St S w0 w L → Cells w (some ⟨b, off, none⟩) news := by
  intro w h jj v hv
  refine ⟨_, rfl, ?_⟩
  rw [add_lit]
  refine blk_cell (h.mem hi) ?_
  rw [← hn, List.getElem?_take] at hv
  split at hv
  · simpa using hv
  · cases hv
theorem cells_row {S : List Nat} {w0 : World} {L : List Ent} (i : Nat) {A : Option Addr} {n c : Nat} {e : TypeId} {sz : Nat} {cs : List Value} (hi : L[i]? = some (Ent.row (.slice A n c) e sz n cs)) :
    ∀ w, St S w0 w L → Cells w A cs := by
  intro w h jj v hv
  have hown := row_owns (h.mem hi)
  rcases hown.2 with ⟨hv', rfl⟩ | ⟨g, cap, cur, hv', _, hg, _, _, _, ht⟩
  · have : cs = [] := List.eq_nil_of_length_eq_zero (by simpa using hown.1)
    subst this; simp at hv
  · injection hv' with h1 h2 h3
    subst h1
    refine ⟨_, rfl, ?_⟩
    rw [add_lit, Nat.zero_add, World.cell?, hg]
    rw [← ht, List.getElem?_take] at hv
    split at hv
    · simpa using hv
    · cases hv
def adr (A : Option Addr) (j : Nat) : Addr := (A.getD ⟨0, 0, none⟩).add j
theorem Cells.adr {w : World} {A : Option Addr} {cs : List Value} (h : Cells w A cs) {j : Nat} {v : Value} (hv : cs[j]? = some v) : w.cell? (adr A j) = some v := by
  obtain ⟨a, rfl, hc⟩ := h j v hv
  exact hc
theorem Cells.some {w : World} {A : Option Addr} {cs : List Value} (h : Cells w A cs) (hl : 0 < cs.length) : A.isSome = true := by
  obtain ⟨a, rfl, _⟩ := h 0 _ (List.getElem?_eq_getElem hl)
  rfl
theorem x_indexAddr_at {S : List Nat} {w0 : World} {L : List Ent} {kd : IntKind} {e : TypeId} {sz n c k off : Nat} {A : Option Addr} {cs : List Value} (hr : ∀ w, St S w0 w L → Cells w A cs) (ht : P.underlying t = Option.some (.slice e)) (hs : sizeIs P e = Option.some sz) (hx : ev E x = .slice A n c) (hy : ev E y = .int kd (k : Int)) (hk : k < n) (hl : 0 < cs.length) (hoff : k * sz = off) :
    ∀ w, St S w0 w L → (execOp (ev E) ⟨dst, .indexAddr t x y, ty, pos, af, g⟩).run P w = .ok (.value (.pointer (Option.some (adr A off)))) w := by
  intro w h
  subst hoff
  have := (hr w h).some hl
  cases A with
  | none => cases this
  | some a => exact x_indexAddr_sl ht hs hx hy hk rfl
theorem x_load_at {S : List Nat} {w0 : World} {L : List Ent} {A : Option Addr} {off : Nat} {cs : List Value} {u : Value} (hr : ∀ w, St S w0 w L → Cells w A cs) (hx : ev E x = .pointer (Option.some (adr A off))) (hs : scal P t = true) (hc : cs[off]? = Option.some u) :
    ∀ w, St S w0 w L → (execOp (ev E) ⟨dst, .load t x, ty, pos, af, g⟩).run P w = .ok (.value u) w :=
  fun w h => exec_load hx (run_loadVar_scal hs ((hr w h).adr hc))
def RO (S : List Nat) (w0 : World) (A : Option Addr) (cs : List Value) : Prop :=
  ∀ j v, cs[j]? = some v → ∃ a, A = some a ∧ a.block < w0.heap.size ∧ a.block ∉ S ∧ w0.cell? (a.add j) = some v
theorem add_block (a : Addr) (n : Nat) : (a.add n).block = a.block := by unfold Addr.add; split <;> rfl
theorem add_add (a : Addr) (i j : Nat) : (a.add i).add j = a.add (i + j) := by
  unfold Addr.add
  by_cases hi : i = 0 <;> by_cases hj : j = 0 <;> simp [hi, hj, Nat.add_assoc]
theorem adr_add (A : Option Addr) (i j : Nat) : (adr A i).add j = adr A (i + j) := add_add _ _ _
theorem RO.cell {S : List Nat} {w0 w : World} {A : Option Addr} {cs : List Value} (h : RO S w0 A cs) (hf : Fr S w0 w) {j : Nat} {v : Value} (hv : cs[j]? = some v) : w.cell? (adr A j) = some v := by
  obtain ⟨a, rfl, hb, hn, hc⟩ := h j v hv
  show w.cell? (a.add j) = some v
  rw [← hc]
  exact World.cell?_of_block (hf.block _ (by rw [add_block]; exact hb) (by rw [add_block]; exact hn))
theorem RO.on {S Sc : List Nat} {w0 w : World} {A : Option Addr} {cs : List Value} {Lc Lr : List Ent} (h : RO S w0 A cs) (hS : St S w0 w (Lc ++ Lr)) (hSc : ∀ b ∈ Sc, ∃ e ∈ Lc, e.own = some b) : RO Sc w A cs := by
  intro j v hv
  obtain ⟨a, rfl, hb, hn, hc⟩ := h j v hv
  refine ⟨a, rfl, Nat.lt_of_lt_of_le hb hS.fr.size, fun hin => ?_, ?_⟩
  · obtain ⟨e, he, ho⟩ := hSc _ hin
    rcases hS.own e (by simp [he]) _ ho with h1 | h1
    · exact hn h1
    · omega
  · rw [← hc]
    exact World.cell?_of_block (hS.fr.block _ (by rw [add_block]; exact hb) (by rw [add_block]; exact hn))
theorem RO.on0 {S : List Nat} {w0 w : World} {A : Option Addr} {cs : List Value} {L : List Ent} (h : RO S w0 A cs) (hS : St S w0 w L) : RO [] w A cs :=
  h.on (Lc := []) (Lr := L) hS (by simp)
theorem RO.nil {S : List Nat} {w0 : World} {A : Option Addr} : RO S w0 A [] := fun j v h => by simp at h
theorem RO.drop {S : List Nat} {w0 : World} {A : Option Addr} {cs : List Value} (h : RO S w0 A cs) (k : Nat) : RO S w0 (A.map (·.add k)) (cs.drop k) := by
  intro j v hv
  rw [List.getElem?_drop] at hv
  obtain ⟨a, rfl, hb, hn, hc⟩ := h (k + j) v hv
  exact ⟨a.add k, rfl, by rw [add_block]; exact hb, by rw [add_block]; exact hn, by rw [add_add]; exact hc⟩
theorem RO.take {S : List Nat} {w0 : World} {A : Option Addr} {cs : List Value} (h : RO S w0 A cs) (k : Nat) : RO S w0 A (cs.take k) := by
  intro j v hv
  rw [List.getElem?_take] at hv
  split at hv
  · exact h j v hv
  · cases hv
theorem RO.of_row {S : List Nat} {w0 w : World} {L : List Ent} (hS : St S w0 w L) (j : Nat) {e : TypeId} {sz n c : Nat} {A : Option Addr} {cs : List Value} (hj : L[j]? = some (Ent.row (.slice A n c) e sz n cs)) : RO [] w A cs := by
  intro jj u hu
  obtain ⟨a, rfl, hc⟩ := cells_row j hj w hS jj u hu
  have hat := hS.mem hj
  exact ⟨a, rfl, hat.2 _ rfl, by simp, hc⟩
theorem own_apart {S Sc : List Nat} {w0 w : World} {Lc Lr : List Ent} (hS : St S w0 w (Lc ++ Lr)) (hSc : ∀ b ∈ Sc, ∃ e ∈ Lc, e.own = some b) {e : Ent} (he : e ∈ Lr) {b : Nat} (ho : e.own = some b) : b ∉ Sc := by
  intro hin
  obtain ⟨x, hx, hxo⟩ := hSc b hin
  exact (List.pairwise_append.1 hS.dis).2.2 x hx e he b hxo ho
theorem RO.of_rowS {S Sc : List Nat} {w0 w : World} {Lc Lr : List Ent} (hS : St S w0 w (Lc ++ Lr)) (hSc : ∀ b ∈ Sc, ∃ e ∈ Lc, e.own = some b) (j : Nat) {e : TypeId} {sz n c : Nat} {A : Option Addr} {cs : List Value} (hj : Lr[j]? = some (Ent.row (.slice A n c) e sz n cs)) : RO Sc w A cs := by
  intro jj v hv
  obtain ⟨a, ha, hb, _, hc⟩ := RO.of_row hS (Lc.length + j) (by rw [List.getElem?_append_right (by omega)]; simpa using hj) jj v hv
  subst ha
  exact ⟨_, rfl, hb, own_apart hS hSc (List.mem_of_getElem? hj) rfl, hc⟩
theorem cells_ro {S : List Nat} {w0 : World} {L : List Ent} {A : Option Addr} {cs : List Value} (h : RO S w0 A cs) : ∀ w, St S w0 w L → Cells w A cs := by
  intro w hS j v hv
  have hc := h.cell hS.fr hv
  obtain ⟨a, rfl, _⟩ := h j v hv
  exact ⟨a, rfl, hc⟩
theorem x_loadN_at {S : List Nat} {w0 : World} {L : List Ent} {A : Option Addr} {off : Nat} {cs : List Value} (vs : List Value) (hr : ∀ w, St S w0 w L → Cells w A cs) (hx : ev E x = .pointer (some (adr A off))) (hs : aggs P t = true) (hn : sizeIs P t = some vs.length) (hc : (cs.drop off).take vs.length = vs) :
    ∀ w, St S w0 w L → (execOp (ev E) ⟨dst, .load t x, ty, pos, af, g⟩).run P w = .ok (.value (.agg vs.toArray)) w := by
  intro w hS
  refine exec_load hx (run_loadVar_aggs hs hn fun i u hu => ?_)
  rw [adr_add]
  refine (hr w hS).adr ?_
  rw [← hc, List.getElem?_take] at hu
  split at hu
  · simpa using hu
  · cases hu
end
theorem flat_at {α : Type} (f : α → List Value) (sz : Nat) (hf : ∀ a, (f a).length = sz) : ∀ (xs : List α) (d : α) (k o : Nat), k < xs.length → o < sz → (xs.flatMap f)[k * sz + o]? = (f (xs.getD k d))[o]?
  | x :: xs, d, 0, o, _, ho => by
    simp only [List.flatMap_cons, Nat.zero_mul, Nat.zero_add, List.getD_cons_zero]
    rw [List.getElem?_append_left (by rw [hf]; exact ho)]
  | x :: xs, d, k + 1, o, hk, ho => by
    simp only [List.flatMap_cons, List.getD_cons_succ]
    rw [List.getElem?_append_right (by rw [hf, Nat.add_mul]; omega), hf]
    have e : (k + 1) * sz + o - sz = k * sz + o := by rw [Nat.add_mul]; omega
    rw [e]
    exact flat_at f sz hf xs d k o (by simpa using hk) ho
theorem flat_length {α : Type} (f : α → List Value) (sz : Nat) (hf : ∀ a, (f a).length = sz) (xs : List α) : (xs.flatMap f).length = xs.length * sz := by
  induction xs with
  | nil => simp
  | cons x xs ih => simp [List.flatMap_cons, ih, hf, Nat.add_mul, Nat.add_comm]
theorem flat_drop {α : Type} (f : α → List Value) (sz : Nat) (hf : ∀ a, (f a).length = sz) (xs : List α) (d : α) (k : Nat) (hk : k < xs.length) : ((xs.flatMap f).drop (k * sz)).take sz = f (xs.getD k d) := by
  apply List.ext_getElem?
  intro o
  rw [List.getElem?_take]
  by_cases ho : o < sz
  · rw [if_pos ho, List.getElem?_drop, flat_at f sz hf xs d k o hk ho]
  · rw [if_neg ho, List.getElem?_eq_none (by rw [hf]; omega)]
end Go.GV
namespace Go.GV
open Go.RowKit
section
variable {E : Env} {P : Program} {w : World} {x y z : Operand} {dst : Option Nat} {t t' ty u : TypeId} {pos : String} {af : Array Edge} {g : Option (Nat × Bool)}
theorem O_append_m {α : Type} {S : List Nat} {w0 : World} {L : List Ent} {K : Value → List Ent → Prop} (j : Nat) (f : α → Value) (xs ys : List α) {e : TypeId} {by_ m c c0 : Nat} {zv : Value} {A A0 : Option Addr}
    (ht : P.underlying t = some (.slice e)) (hs : sizeIs P e = some 1) (hb : bytesIs P e = some by_) (hz : zeroIs P e = some zv) (hzs : zv.cells.size = 1)
    (hx : ev E x = .slice A0 xs.length c0) (hy : ev E y = .slice A m c) (hj : L[j]? = some (Ent.row (.slice A0 xs.length c0) e 1 xs.length (xs.map f))) (hm : m = ys.length) (h1 : ∀ a, one (f a) = true) (hread : ∀ w, St S w0 w L → Cells w A (ys.map f))
    (hbytes : (xs.length + ys.length) * by_ ≤ 140737488355328) (h63 : xs.length + ys.length ≤ 9223372036854775807)
    (k : ∀ A' c', K (.slice A' (xs ++ ys).length c') (L.set j (Ent.row (.slice A' (xs ++ ys).length c') e 1 (xs ++ ys).length ((xs ++ ys).map f)))) : OpJ P S w0 E L ⟨dst, .call ⟨.builtin .append, #[x, y], #[t, t]⟩, ty, pos, af, g⟩ K := by
  subst hm
  refine O_append j ht hs hb hz hzs hx hy hj (by simp) (by omega) ?_ hread hbytes h63 fun A' c' => ?_
  · rw [List.all_map, List.all_eq_true]; intro a _; exact one_cell' (h1 a)
  · have := k A' c'
    rw [List.map_append, List.length_append] at this
    exact this
theorem O_append_f {α : Type} {S : List Nat} {w0 : World} {L : List Ent} {K : Value → List Ent → Prop} (j : Nat) (f : α → List Value) (sz : Nat) (xs ys : List α) {e : TypeId} {by_ m c c0 : Nat} {zv : Value} {A A0 : Option Addr}
    (ht : P.underlying t = some (.slice e)) (hs : sizeIs P e = some sz) (hb : bytesIs P e = some by_) (hz : zeroIs P e = some zv) (hzs : zv.cells.size = sz) (hsz : 0 < sz)
    (hx : ev E x = .slice A0 xs.length c0) (hy : ev E y = .slice A m c) (hj : L[j]? = some (Ent.row (.slice A0 xs.length c0) e sz xs.length (xs.flatMap f))) (hm : m = ys.length) (hf : ∀ a, (f a).length = sz) (h1 : ∀ a, (f a).all Value.oneCell' = true) (hread : ∀ w, St S w0 w L → Cells w A (ys.flatMap f))
    (hbytes : (xs.length + ys.length) * by_ ≤ 140737488355328) (h63 : xs.length + ys.length ≤ 9223372036854775807)
    (k : ∀ A' c', K (.slice A' (xs ++ ys).length c') (L.set j (Ent.row (.slice A' (xs ++ ys).length c') e sz (xs ++ ys).length ((xs ++ ys).flatMap f)))) : OpJ P S w0 E L ⟨dst, .call ⟨.builtin .append, #[x, y], #[t, t]⟩, ty, pos, af, g⟩ K := by
  subst hm
  refine O_append j ht hs hb hz hzs hx hy hj (flat_length f sz hf ys) hsz ?_ hread hbytes h63 fun A' c' => ?_
  · rw [List.all_eq_true]; intro v hv
    obtain ⟨a, _, ha⟩ := List.mem_flatMap.1 hv
    exact List.all_eq_true.1 (h1 a) v ha
  · have := k A' c'
    rw [List.flatMap_append, List.length_append] at this
    exact this
theorem O_append_s {S : List Nat} {w0 : World} {L : List Ent} {K : Value → List Ent → Prop} (j : Nat) (xs s : Bytes) {e : TypeId} {c0 : Nat} {A0 : Option Addr} {zv : Value}
    (ht : P.underlying t = some (.slice e)) (hu : P.underlying u = some .string) (hs : sizeIs P e = some 1) (hb : bytesIs P e = some 1) (hz : zeroIs P e = some zv) (hzs : zv.cells.size = 1)
    (hx : ev E x = .slice A0 xs.length c0) (hy : ev E y = vS s) (hj : L[j]? = some (Ent.row (.slice A0 xs.length c0) e 1 xs.length (xs.map vU8)))
    (hbytes : xs.length + s.length ≤ 140737488355328)
    (k : ∀ A' c', K (.slice A' (xs ++ s).length c') (L.set j (Ent.row (.slice A' (xs ++ s).length c') e 1 (xs ++ s).length ((xs ++ s).map vU8)))) : OpJ P S w0 E L ⟨dst, .call ⟨.builtin .append, #[x, y], #[t, u]⟩, ty, pos, af, g⟩ K := by
  intro w hS
  obtain ⟨i, hi, hiz, his, hib⟩ := info_of hs hb hz
  have hown := row_owns (hS.mem hj)
  have hmax : xs.length + s.length ≤ maxLen := by unfold maxLen; omega
  have hsz : (⟨s.toArray⟩ : ByteArray).size = s.length := by simp [ByteArray.size]
  have hsrc := fun w => Src.ofString (P := P) w hu (⟨s.toArray⟩ : ByteArray)
  have hbc : byteCells (⟨s.toArray⟩ : ByteArray) = s.map vU8 := by simp [byteCells]
  simp only [hbc, hsz] at hsrc
  have grow : ∀ (base : Option Addr) (cap : Nat), cap < xs.length + s.length → (Builtin.firstCells i.size xs.length (.slice base xs.length cap)).run P w.drew = .ok (xs.map vU8).toArray w.drew →
      ∃ A' c', (Builtin.append_ #[t, u] ty #[.slice base xs.length cap, vS s]).run P w = .ok (.slice A' (xs ++ s).length c') (w.drew.alloc (.cells (((xs.map vU8) ++ (s.map vU8)).toArray ++ Builtin.zeroCells zv.cells (grownCap w (xs.length + s.length) cap e - (xs.length + s.length))) e)) ∧
        (w.drew.alloc (.cells (((xs.map vU8) ++ (s.map vU8)).toArray ++ Builtin.zeroCells zv.cells (grownCap w (xs.length + s.length) cap e - (xs.length + s.length))) e)).ownsRow 0 e 1 (.slice A' (xs ++ s).length c') (xs ++ s).length ((xs ++ s).map vU8) ∧ A' = some ⟨w.heap.size, 0, none⟩ := by
    intro base cap hlt hf
    have hr := run_append_grow_src (P := P) w t u ty e i zv ht hi hiz base xs.length cap (xs.map vU8) hf (vS s) s.length (s.map vU8) (by rw [his]; exact hsrc w) hlt (by omega) (growslice_fits hlt (by rw [hib]; omega))
    have hge := grownCap_ge w (xs.length + s.length) cap e
    have hcm := grownCap_le_maxLen w (xs.length + s.length) cap e hmax
    have el : (xs ++ s).length = xs.length + s.length := List.length_append
    rw [el]
    refine ⟨_, _, hr, ⟨by simp, .inr ⟨w.heap.size, _, _, rfl, Nat.zero_le _, heap_alloc_new w.drew _, by simpa using hge, by simpa using hcm, ?_, ?_⟩⟩, rfl⟩
    · simp only [Array.size_append, List.size_toArray, size_zeroCells, hzs, List.length_append, List.length_map, Nat.mul_one]
      omega
    · simp only [Array.toList_append, List.map_append, Nat.mul_one]
      rw [List.take_left' (by simp)]
  have key : ∃ A' c' w', (Builtin.append_ #[t, u] ty #[.slice A0 xs.length c0, vS s]).run P w = .ok (.slice A' (xs ++ s).length c') w' ∧ (Ent.row (.slice A' (xs ++ s).length c') e 1 (xs ++ s).length ((xs ++ s).map vU8)).at w' ∧ Fr (Ent.row (.slice A0 xs.length c0) e 1 xs.length (xs.map vU8)).own.toList w w' ∧
      ∀ b, (Value.slice A' (xs ++ s).length c').ownBlock = some b → (Value.slice A0 xs.length c0).ownBlock = some b ∨ w.heap.size ≤ b := by
    have frg : ∀ (o : Obj) (l : List Nat), Fr l w (w.drew.alloc o) := fun o l => ⟨rfl, rfl, rfl, by simp, fun i hi _ => Below.heap_alloc w.drew o i hi⟩
    rcases hown.2 with ⟨h0, hn0⟩ | ⟨g, cap, cur, h0, _, hg, hnc, hcm, hcs, htake⟩
    · injection h0 with hA hn hc
      subst hA; subst hc
      have hx0 : xs = [] := List.eq_nil_of_length_eq_zero hn0
      subst hx0
      by_cases hs0 : s = []
      · subst hs0
        refine ⟨none, 0, w, ?_, owns_row (World.ownsRow_nil w 0 e 1), Fr.refl _ _, fun b hb => by simp [Value.ownBlock] at hb⟩
        have hf0 := (hsrc w).cells
        have hl0 := (hsrc w).len w
        simp only [List.length_nil, List.map_nil] at hf0 hl0
        simp [Builtin.append_, run_underlying ht, run_underlying hu, sizeOf, typeInfo, hi, his, hf0, hl0]
      · have hpos : 0 < s.length := by cases s with | nil => exact absurd rfl hs0 | cons a b => simp
        obtain ⟨A', c', hr, h2, h3⟩ := grow none 0 (by simpa using hpos) (by simp [Builtin.firstCells])
        exact ⟨A', c', _, hr, owns_row h2, frg _ _, fun b hb => by subst h3; simp [Value.ownBlock] at hb; omega⟩
    · injection h0 with hA hn hc
      subst hA; subst hc
      by_cases hroom : xs.length + s.length ≤ c0
      · have hat : (Ent.blk g e cur.toList).at w := ⟨by simpa [Ent.blk] using hg, fun b hb => by simp [Ent.blk] at hb; subst hb; exact (Array.getElem?_eq_some_iff.1 hg).1⟩
        have hb2 := (blk_at hat)
        have hlen : cur.toList.length = c0 := by simpa using hcs
        obtain ⟨w', hr, hF, hB⟩ := run_storeCells_blk (P := P) (o := xs.length) (s.map vU8) 0 cur.toList w hb2.1 hb2.2 (by rw [List.length_map, hlen]; omega) (by intro v hv; obtain ⟨a, _, rfl⟩ := List.mem_map.1 hv; rfl)
        refine ⟨some ⟨g, 0, none⟩, c0, w', ?_, ?_, by simpa [Ent.row, Value.ownBlock] using hF, fun b hb => .inl (by simpa [Value.ownBlock] using hb)⟩
        · have hf0 := (hsrc w).cells
          have hl0 := (hsrc w).len w
          simp [Builtin.append_, run_underlying ht, run_underlying hu, sizeOf, typeInfo, hi, his, hf0, hl0, hroom, Addr.add_lit, hr]
        · refine owns_row (base := 0) ⟨by simp, .inr ⟨g, c0, _, rfl, Nat.zero_le _, hB, by simpa using hroom, hcm, ?_, ?_⟩⟩
          · rw [List.size_toArray, splice_length, hlen, Nat.mul_one]
          · rw [Nat.add_zero, splice_eq _ _ _ (by rw [List.length_map, hlen]; omega)]
            simp only [Nat.mul_one] at htake
            rw [htake]
            simp only [List.map_append, Nat.mul_one]
            rw [List.take_left' (by simp)]
      · have hcells := hown.cells (g := g) rfl
        have hfc := run_firstCells_some (P := P) w.drew i.size xs.length ⟨g, 0, none⟩ xs.length c0 (xs.map vU8) (by simp [his]) (by simpa using hcells)
        obtain ⟨A', c', hr, h2, h3⟩ := grow (some ⟨g, 0, none⟩) c0 (by omega) hfc
        exact ⟨A', c', _, hr, owns_row h2, frg _ _, fun b hb => by subst h3; simp [Value.ownBlock] at hb; omega⟩
  obtain ⟨A', c', w', hr, hat, hF, ho⟩ := key
  refine ⟨_, _, w', .inl ?_, hS.swapAt hj hF hat ho, k A' c'⟩
  simp [execOp, resolve, invoke, builtin, hx, hy, hr]
end
end Go.GV
namespace Go.GV
open Go.RowKit
theorem own_mem {Sc : List Nat} {Lc : List Ent} (h : Lc.filterMap Ent.own = Sc) : ∀ b ∈ Sc, ∃ e ∈ Lc, e.own = some b := by
  subst h; intro b hb; exact List.mem_filterMap.1 hb
theorem own_in {Sc : List Nat} {Lc : List Ent} (h : Lc.filterMap Ent.own = Sc) : ∀ e ∈ Lc, ∀ b, e.own = some b → b ∈ Sc := by
  subst h; intro e he b hb; exact List.mem_filterMap.2 ⟨e, he, hb⟩
abbrev vN (n : Nat) : Value := vI (n : Int)
section
variable {E : Env} {P : Program} {w : World} {x y z : Operand} {dst : Option Nat} {t t' ty u : TypeId} {pos : String} {af : Array Edge} {g : Option (Nat × Bool)}
theorem x_str_at {S : List Nat} {w0 : World} {L : List Ent} {n c : Nat} {e : TypeId} {A : Option Addr} {xs : Bytes} (hx : ev E x = .slice A n c) (hs : P.underlying t = some (.slice e)) (he : P.underlying e = some (.int .u8)) (hd : P.underlying u = some .string)
    (hr : ∀ w, St S w0 w L → Cells w A (xs.map vU8)) (hn : n = xs.length) : ∀ w, St S w0 w L → (execOp (ev E) ⟨dst, .convert t u x, ty, pos, af, g⟩).run P w = .ok (.value (vS xs)) w := by
  intro w h
  subst hn
  have hc := hr w h
  have hb : (Conv.bytesToString (.slice A xs.length c)).run P w = .ok (vS xs) w := by
    cases A with
    | none =>
      have : xs = [] := by
        cases xs with
        | nil => rfl
        | cons a r => obtain ⟨a', h', _⟩ := hc 0 (vU8 a) (by simp); cases h'
      subst this; rfl
    | some a =>
      refine run_bytesS rfl fun i v hv => ?_
      obtain ⟨a', h', hcell⟩ := hc i v hv
      injection h' with h'; subst h'; exact hcell
  have hr2 : (convert t u (.slice A xs.length c)).run P w = .ok (vS xs) w := by rw [run_convert_bytes_string w t u e _ _ c hs he hd, hb]
  simp only [execOp, hx]
  show (Sem.run P (do let v ← convert t u (.slice A xs.length c); pure (Next.value v)) w) = _
  rw [Sem.run_bind, hr2]; rfl
theorem x_makeFunc {fn : Fn} {l1 l2 : List Operand} {v1 v2 : List Value} (h1 : l1.map (ev E) = v1) (h2 : l2.map (ev E) = v2) : (execOp (ev E) ⟨dst, .makeFunc fn l1.toArray l2.toArray, ty, pos, af, g⟩).run P w = .ok (.value (.func fn v1.toArray v2.toArray)) w := by
  subst h1; subst h2
  simp only [execOp, List.map_toArray]; rfl
end
end Go.GV
namespace Go.GV
open Go.RowKit
abbrev vP (a : Addr) : Value := .pointer (some a)
def derefs (S : List Nat) (w : World) : List Addr → List Int → Prop
  | [], [] => True
  | a :: ads, x :: xs => RO S w (some a) [vI x] ∧ derefs S w ads xs
  | _, _ => False
theorem RO.later {S Sc : List Nat} {w0 w : World} {A : Option Addr} {cs : List Value} {Lc Lr : List Ent} (hS : St S w0 w (Lc ++ Lr)) (hSc : ∀ b ∈ Sc, ∃ e ∈ Lc, e.own = some b) (h : RO S w0 A cs) : RO Sc w A cs := h.on hS hSc
theorem derefs.on {S Sc : List Nat} {w0 w : World} {Lc Lr : List Ent} (hS : St S w0 w (Lc ++ Lr)) (hSc : ∀ b ∈ Sc, ∃ e ∈ Lc, e.own = some b) : ∀ {ads : List Addr} {xs : List Int}, derefs S w0 ads xs → derefs Sc w ads xs
  | [], [], _ => trivial
  | _ :: _, _ :: _, h => ⟨h.1.on hS hSc, derefs.on hS hSc h.2⟩
  | [], _ :: _, h => h.elim
  | _ :: _, [], h => h.elim
section
variable {E : Env} {P : Program} {w : World} {x y z : Operand} {dst : Option Nat} {t t' ty u : TypeId} {pos : String} {af : Array Edge} {g : Option (Nat × Bool)}
end
end Go.GV

namespace Go.GV
open Go.RowKit Go.WideShapes Go.ChangeShapes
section
variable {H : Type} {enc : TypeId × Value → H} {P : Program}
end
theorem Calls.to_below {P : Program} {f : FuncId} {args : Array Value} {w : World} {φ : Value → List Ent → Prop} (h : Calls P f args w (Gives [] w φ)) {b : Bool} (hφ : ∀ v L, φ v L → v = vB b) :
    Calls P f args w fun e w' => e = .returned (.bool b) ∧ Below w.heap.size w w' :=
  h.mono fun e w' ⟨v, L, he, hv, hS⟩ => ⟨by rw [he, hφ v L hv], hS.fr.below⟩
end Go.GV
