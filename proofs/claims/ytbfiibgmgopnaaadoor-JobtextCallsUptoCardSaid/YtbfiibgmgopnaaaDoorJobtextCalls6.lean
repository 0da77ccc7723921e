/- GvBu, GvW, GvQ, GvS, Pl39, St44, Srt, Od, Rq, Pl44, Pl44b, Wd44, Nm44, Pn44 in one text. -/
import Derived.Test.YtbfiibgmgopnaaaDoorJobtextCalls5
import Derived.Laws.Externs
import Derived.Lib.Builder
import Derived.Lib.UnsafeStr
import Derived.Test.YtbfiibgmgopnaaaDoorJobtextCalls3
import Derived.Test.YtbfiibgmgopnaaaDoorJobtextCalls4
import Derived.Test.YtbfiibgmgopnaaaDoorJobtextCalls1
import Derived.Test.YtbfiibgmgopnaaaDoorJobtextCalls2
import Derived.Lib.Repeat
import Derived.Lib.FieldsP
import Derived.Lib.TrimUEq
import Derived.Lib.SplitLaws
import Derived.Lib.IndexBytes
import Derived.Lib.ItoaNum
import Derived.Lib.AtoiAllCases
set_option linter.unusedVariables false
set_option linter.unusedSimpArgs false
namespace Go.GV
open Go.RowKit
structure Externed (P : Program) (f : FuncId) (e : Array Value → Sem Value) : Prop where
  ex : ∃ fn, P.funcs[f]? = some fn ∧ (fn.name == "runtime.NumGoroutine") = false ∧ fn.body.isNone = true ∧ Extern.findNext fn = none ∧ Extern.find fn = some e
section
variable {E : Env} {P : Program} {x y : Operand} {dst : Option Nat} {t t' ty u : TypeId} {pos : String} {af : Array Edge} {g : Option (Nat × Bool)} {w : World}
theorem x_extern {f : FuncId} {e : Array Value → Sem Value} {l : List Operand} {vs : List Value} {ts : Array TypeId} {r : Value} {w' : World} (hX : Externed P f e) (ha : l.map (ev E) = vs) (hr : (e vs.toArray).run P w = .ok r w') :
    (execOp (ev E) ⟨dst, .call ⟨.value (.func f), l.toArray, ts⟩, ty, pos, af, g⟩).run P w = .ok (.value r) w' := by
  subst ha
  obtain ⟨fn, h1, h2, h3, h4, h5⟩ := hX.ex
  have h := run_callFunc_extern (P := P) h1 h2 h3 h4 h5 (l.map (ev E)).toArray w
  rw [hr] at h
  simp only [execOp, resolve, List.map_toArray, ev, Deferred.ofValue, Sem.run_bind, Sem.run_pure, Result.andThen_ok, invoke, List.append_toArray, List.append_nil]
  simpa using h
theorem x_noEscape {f : FuncId} {v : Value} {ts : Array TypeId} (hX : Externed P f Extern.AbiNoEscape.same) (hx : ev E x = v) : (execOp (ev E) ⟨dst, .call ⟨.value (.func f), #[x], ts⟩, ty, pos, af, g⟩).run P w = .ok (.value v) w :=
  x_extern (l := [x]) (vs := [v]) hX (by rw [← hx]; rfl) (Lib.run_noEscape _ v)
theorem O_clone {S : List Nat} {w0 : World} {L : List Ent} {K : Value → List Ent → Prop} {f : FuncId} {κ : Type} {m : κ → Value} {b : Nat} {l : List (κ × Value)} {ts : Array TypeId} (hX : Externed P f Extern.MapsClone.clone) (h : Kp S w0 (Ent.at (Ent.mp m b l))) (hx : ev E x = .iface t (.map (some b)))
    (k : ∀ b2, K (.iface t (.map (some b2))) (Ent.mp m b2 l :: L)) : OpJ P S w0 E L ⟨dst, .call ⟨.value (.func f), #[x], ts⟩, ty, pos, af, g⟩ K := by
  intro w hS
  obtain ⟨es, clock, h1, h2, h3⟩ := mp_at (h.held hS)
  exact ⟨_, _, _, .inl (x_extern (l := [x]) (vs := [.iface t (.map (some b))]) hX (by rw [← hx]; rfl) (Go.Proofs.run_maps_clone_sl _ t h1)), hS.alloc (.map es clock) (Ent.mp m w.heap.size l) rfl ⟨_, _, rfl, h2, h3⟩, k w.heap.size⟩
abbrev vR (n : Int) : Value := .int .i32 n
theorem x_eql_i32 {a b : Int} (hx : ev E x = vR a) (hy : ev E y = vR b) : (execOp (ev E) ⟨dst, .binOp .eql t x y t', ty, pos, af, g⟩).run P w = .ok (.value (vB (decide (a = b)))) w := by
  have h : decide (a = b) = (a == b) := by by_cases e : a = b <;> simp [e]
  rw [h]; simp only [execOp, hx, hy]; rfl
theorem x_leq_i32 {a b : Int} (hx : ev E x = vR a) (hy : ev E y = vR b) : (execOp (ev E) ⟨dst, .binOp .leq t x y t', ty, pos, af, g⟩).run P w = .ok (.value (vB (decide (a ≤ b)))) w := by simp only [execOp, hx, hy]; rfl
theorem x_gtr_i32 {a b : Int} (hx : ev E x = vR a) (hy : ev E y = vR b) : (execOp (ev E) ⟨dst, .binOp .gtr t x y t', ty, pos, af, g⟩).run P w = .ok (.value (vB (decide (b < a)))) w := by simp only [execOp, hx, hy]; rfl
theorem exec_conv {v r : Value} (hx : ev E x = v) (h : (convert t u v).run P w = .ok r w) : (execOp (ev E) ⟨dst, .convert t u x, ty, pos, af, g⟩).run P w = .ok (.value r) w := by
  simp only [execOp, hx]
  show Sem.run P (do let v ← convert t u v; pure (Next.value v)) w = _
  rw [Sem.run_bind, h]; rfl
theorem info_size {n : Nat} (h : sizeIs P u = some n) : ∃ j, P.info? u = some j ∧ j.size = n := by
  unfold sizeIs at h
  exact Option.map_eq_some_iff.1 h
theorem x_to_unsafe {S : List Nat} {w0 : World} {L : List Ent} (j : Nat) {b : Nat} {T : TypeId} {cs : List Value} (hx : ev E x = pB b 0) (hj : L[j]? = some (Ent.blk b T cs)) (hs : P.underlying t = some (.pointer T)) (hd : P.underlying u = some .unsafePointer) (hz : sizeIs P T = some (cs.length)) (h0 : 0 < cs.length) :
    ∀ w, St S w0 w L → (execOp (ev E) ⟨dst, .convert t u x, ty, pos, af, g⟩).run P w = .ok (.value (pB b 0)) w := by
  intro w hS
  obtain ⟨hb, _⟩ := blk_at (hS.mem hj)
  obtain ⟨i, hi, hn⟩ := info_size hz
  refine exec_conv hx (Lib.run_to_unsafe (e := T) (cells := cs.length) _ _ hs hd hi (by omega) ?_ h0)
  simp [World.shape?, hb]
theorem x_from_unsafe {S : List Nat} {w0 : World} {L : List Ent} (j : Nat) {b : Nat} {T : TypeId} {cs : List Value} (hx : ev E x = pB b 0) (hj : L[j]? = some (Ent.blk b T cs)) (hs : P.underlying t = some .unsafePointer) (hd : P.underlying u = some (.pointer T)) (hz : sizeIs P T = some (cs.length)) (hl : liesAt P P.depth T (cs.length / P.cellsOf T) 0 T 1 = true) :
    ∀ w, St S w0 w L → (execOp (ev E) ⟨dst, .convert t u x, ty, pos, af, g⟩).run P w = .ok (.value (pB b 0)) w := by
  intro w hS
  obtain ⟨hb, _⟩ := blk_at (hS.mem hj)
  obtain ⟨i, hi, hn⟩ := info_size hz
  refine exec_conv hx (Lib.run_from_unsafe (e := T) (cells := cs.length) _ _ hs hd hi ?_ hl)
  simp [World.shape?, hb]
theorem x_neq_ptr {b : Nat} {T : TypeId} {n : Nat} (hx : ev E x = pB b 0) (hy : ev E y = pB b 0) (ht : P.underlying t = some (.pointer T)) (hz : sizeIs P T = some n) : (execOp (ev E) ⟨dst, .binOp .neq t x y t', ty, pos, af, g⟩).run P w = .ok (.value (vB false)) w := by
  obtain ⟨i, hi, _⟩ := info_size hz
  have hb := Lib.run_neq_ptr_same (P := P) (w := w) ⟨b, 0, none⟩ ht hi
  simp only [execOp, hx, hy]
  show Sem.run P (do let v ← binOp .neq t (.pointer (some ⟨b, 0, none⟩)) (.pointer (some ⟨b, 0, none⟩)); pure (Next.value v)) w = _
  rw [Sem.run_bind, hb]; rfl
def Ent.junk (b : Nat) : Ent := ⟨some b, fun _ => True⟩
theorem exec_usd {v r : Value} {w' : World} {ts : Array TypeId} (hx : ev E x = v) (h : (Builtin.unsafeSliceData_ ts ty #[v]).run P w = .ok r w') : (execOp (ev E) ⟨dst, .call ⟨.builtin .unsafeSliceData, #[x], ts⟩, ty, pos, af, g⟩).run P w = .ok (.value r) w' := by
  subst hx
  simp [execOp, resolve, invoke, builtin, h]
theorem exec_ustr {v v2 r : Value} {w' : World} {ts : Array TypeId} (hx : ev E x = v) (hy : ev E y = v2) (h : (Builtin.unsafeString_ ts ty #[v, v2]).run P w = .ok r w') : (execOp (ev E) ⟨dst, .call ⟨.builtin .unsafeString, #[x, y], ts⟩, ty, pos, af, g⟩).run P w = .ok (.value r) w' := by
  subst hx; subst hy
  simp [execOp, resolve, invoke, builtin, h]
theorem O_usd0 {S : List Nat} {w0 : World} {L : List Ent} {K : Value → List Ent → Prop} (j : Nat) {A : Option Addr} {c : Nat} {e : TypeId} {ts : Array TypeId} (hx : ev E x = vL A 0 c) (hj : L[j]? = some (Ent.row (.slice A 0 c) e 1 0 [])) (hty : P.underlying ty = some (.pointer e)) (k : ∀ p : Option Addr, K (.pointer p) L) : OpJ P S w0 E L ⟨dst, .call ⟨.builtin .unsafeSliceData, #[x], ts⟩, ty, pos, af, g⟩ K := by
  intro w hS
  obtain ⟨⟨_, h2⟩, _⟩ := hS.mem hj
  rcases h2 with ⟨h2, _⟩ | ⟨gg, cap, cur, hv, ho, _⟩
  · cases h2
    exact ⟨_, _, w, .inl (exec_usd hx (Lib.run_unsafeSliceData_nil _ ts ty 0 0)), hS, k none⟩
  · injection hv with h3 _ h4
    subst h3; subst h4
    by_cases hc : c = 0
    · subst hc
      have hb : w.heap[gg]? = some (.cells cur e (0, 0)) := by simpa [Ent.row, Value.ownBlock] using ho
      refine ⟨_, _, _, .inl (exec_usd hx (Lib.run_unsafeSliceData_zero _ ts ty e hty ⟨gg, 0, none⟩ 0 (e, cur.size) (by simp [World.shape?, hb]))), hS.step ⟨rfl, rfl, rfl, by simp, fun i hi _ => Below.heap_alloc w _ i hi⟩, k _⟩
    · exact ⟨_, _, w, .inl (exec_usd hx (Lib.run_unsafeSliceData_row _ ts ty ⟨gg, 0, none⟩ 0 c hc)), hS, k _⟩
theorem row_head {w : World} {A : Option Addr} {n c : Nat} {e : TypeId} {cs : List Value} (h : (Ent.row (.slice A n c) e 1 n cs).at w) (hn : 0 < n) : ∃ gg cur, A = some ⟨gg, 0, none⟩ ∧ w.heap[gg]? = some (.cells cur e (0, 0)) ∧ n ≤ c ∧ cur.size = c ∧ cur.toList.take n = cs := by
  obtain ⟨⟨_, h2⟩, _⟩ := h
  rcases h2 with ⟨h2, h3⟩ | ⟨gg, cap, cur, hv, ho, h3, h4, h5, h6⟩
  · omega
  · injection hv with e1 _ e2
    subst e1; subst e2
    exact ⟨gg, cur, rfl, by simpa [Ent.row, Value.ownBlock] using ho, h3, by simpa using h5, by simpa using h6⟩
theorem x_usd1 {S : List Nat} {w0 : World} {L : List Ent} (j : Nat) {A : Option Addr} {n c : Nat} {e : TypeId} {cs : List Value} {ts : Array TypeId} (hx : ev E x = vL A n c) (hj : L[j]? = some (Ent.row (.slice A n c) e 1 n cs)) (hn : 0 < n) :
    ∀ w, St S w0 w L → (execOp (ev E) ⟨dst, .call ⟨.builtin .unsafeSliceData, #[x], ts⟩, ty, pos, af, g⟩).run P w = .ok (.value (.pointer A)) w := by
  intro w hS
  obtain ⟨gg, cur, rfl, _, h3, _⟩ := row_head (hS.mem hj) hn
  exact exec_usd hx (Lib.run_unsafeSliceData_row _ ts ty ⟨gg, 0, none⟩ n c (by omega))
theorem x_ustr0 {p : Option Addr} {pt it : TypeId} (hx : ev E x = .pointer p) (hy : ev E y = vI 0) : (execOp (ev E) ⟨dst, .call ⟨.builtin .unsafeString, #[x, y], #[pt, it]⟩, ty, pos, af, g⟩).run P w = .ok (.value (vS [])) w :=
  exec_ustr hx hy (Lib.run_unsafeString_none _ pt it ty p)
theorem O_ustr1 {S : List Nat} {w0 : World} {L : List Ent} {K : Value → List Ent → Prop} (j : Nat) {A : Option Addr} {c : Nat} {e : TypeId} {xs : Bytes} {pt it : TypeId} (L' : List Ent) (hx : ev E x = .pointer A) (hy : ev E y = vI (xs.length : Int)) (hj : L[j]? = some (Ent.row (.slice A xs.length c) e 1 xs.length (xs.map vU8))) (hp : P.underlying pt = some (.pointer e)) (hc : P.cellsOf e = 1) (h0 : 0 < xs.length) (hm : xs.length ≤ 9223372036854775807)
    (hL : L.eraseIdx j = L') (k : K (vS xs) L') : OpJ P S w0 E L ⟨dst, .call ⟨.builtin .unsafeString, #[x, y], #[pt, it]⟩, ty, pos, af, g⟩ K := by
  intro w hS
  obtain ⟨gg, cur, rfl, hb, h3, h5, h6⟩ := row_head (hS.mem hj) h0
  have hcell : ∀ i v, xs[i]? = some v → w.cell? ((⟨gg, 0, none⟩ : Addr).add i) = some (.int .u8 v.toNat) := by
    intro i v hv
    obtain ⟨a, ha, hcc⟩ := cells_row j hj w hS i (vU8 v) (by rw [List.getElem?_map, hv]; rfl)
    injection ha with ha; subst ha; exact hcc
  have hr := Lib.run_unsafeString_row (P := P) w pt it ty e hp hc gg cur.size (by simp [World.shape?, hb]) xs (fun e => by rw [e] at h0; cases h0) (by omega) hm hcell
  refine ⟨_, _, _, .inl (exec_ustr hx hy hr), ?_, k⟩
  have hf := hS.front j _ hj
  rw [hL] at hf
  have hfr : Fr [gg] w (w.freeze ⟨gg, 0, none⟩ xs.length) := by
    unfold World.freeze
    split
    · exact Fr.refl _ _
    · exact ⟨rfl, rfl, rfl, by simp, fun i _ hn => by simp only [Array.getElem?_modify]; rw [if_neg (fun e => hn (by simp [e]))]⟩
  exact (hf.write (e' := Ent.junk gg) gg rfl rfl hfr trivial).tail
end
end Go.GV

namespace Go.GV
open Go.RowKit
theorem set_len {α : Type} (xs : List α) (k : Nat) (a : α) : (xs.set k a).length = xs.length := List.length_set
section
variable {E : Env} {P : Program} {x y : Operand} {dst : Option Nat} {t ty : TypeId} {pos : String} {af : Array Edge} {g : Option (Nat × Bool)}
theorem map_flat {α : Type} (g : α → Value) (xs : List α) : xs.map g = xs.flatMap fun a => [g a] := by
  induction xs with
  | nil => rfl
  | cons a xs ih => rw [List.map_cons, List.flatMap_cons, ih]; rfl
end
end Go.GV

namespace Go.GV
open Go.RowKit Go.Op
structure Rw where
  s : List Bytes
  sA : Option Addr
  sC : Nat
deriving Inhabited
def Rw.enc (a : Rw) : List Value := [vL a.sA a.s.length a.sC]
theorem Rw.enc_len (a : Rw) : (Rw.enc a).length = 1 := rfl
theorem Rw.enc_one (a : Rw) : (Rw.enc a).all Value.oneCell' = true := rfl
def RwE (t : Nat) (e : Rw) : Ent := Ent.row (.slice e.sA e.s.length e.sC) t 1 e.s.length (e.s.map vS)
section
variable {S : List Nat} {w00 w0 w : World} {L M : List Ent} {α : Type} {f : α → Ent}
theorem St.keepN (n : Nat) (m : List Bool) {L' : List Ent} (hm : mask m (M.take n) ++ M.drop n = L') (h : St S w0 w M) : St S w0 w L' := by
  refine hm ▸ h.sublist ?_
  have := (mask_sublist m (M.take n)).append (List.Sublist.refl (M.drop n))
  rwa [List.take_append_drop] at this
end
section
variable {P : Program} {n : Dim} {S : List Nat} {w0 : World} {Q : Post} {E : Env} {L : List Ent}
theorem JX_retsD {fn : Func} {rs : List ResultVar} {S1 : List Nat} {w1 : World} {φ : Value → List Ent → World → Prop} (vs : List Value) (v : Value) (hr : fn.results = rs.toArray) (hv : ∀ w, St S w0 w L → resAll P E w rs vs)
    (hvv : v = (if h : vs.length = 1 then vs[0] else .tuple vs.toArray)) (L' : List Ent) (hL : ∀ w, St S w0 w L → St S w0 w L') (hB : ∀ w L, St S w0 w L → St S1 w1 w L) (hφ : ∀ w, St S w0 w L → φ v L' w) (hd : n.ds = [] := by rfl) :
    JX n S w0 (bodyPost P fn (GivesW S1 w1 φ)) .ret E L := by
  intro a w hR hS
  have h0 := JX_rets (P := P) (n := n) (S := S) (w0 := w0) (E := E) (L := L) (φ := fun u L2 => u = v ∧ L2 = L) vs v hr hv hvv L (fun _ h => h) ⟨rfl, rfl⟩ hd a w hR hS
  obtain ⟨hd, u, hu, u2, L2, he, hp, hs⟩ := h0
  obtain ⟨rfl, rfl⟩ := hp
  exact ⟨hd, u, hu, u2, L', he, hφ w hs, hB w _ (hL w hs)⟩
end
section
variable {P : Program} {E : Env} {w : World} {x y : Operand} {dst : Option Nat} {t t' ty : TypeId} {pos : String} {af : Array Edge} {g : Option (Nat × Bool)}
end
end Go.GV

namespace Go.GV
open Go.RowKit
section
variable {P : Program} {n : Dim} {S : List Nat} {w0 w : World} {Q : Post} {E : Env} {L : List Ent}
def RoundM {X : Type} (n : Dim) (D : X → List Nat) (S : List Nat) (w0 : World) (I : X → Prop) (W : X → World → Prop) (Ef : X → Env) (Lf : X → List Ent) (μ : X → Nat) (m : Nat) (Q : Post) : Post :=
  Exit.then (fun a w => ∃ x, I x ∧ W x w ∧ μ x < m ∧ Rep { n with ds := (D x).map mark } (Ef x) a ∧ St S w0 w (Lf x)) Q
def NP (Q : Post) : Post := fun e a w => match e with
  | .panic _ => False
  | e => Q e a w
theorem NP.of {Q : Post} (e : Exit) (a : Act) (w : World) (h : NP Q e a w) : Q e a w := by
  cases e <;> first | exact h | exact h.elim
theorem leaves_marksW {fn : Func} {tmps : Array Value} {S1 : List Nat} {w1 : World} {φ : Value → List Ent → World → Prop} {v : Value} (L1 L' : List Ent) (hφ : ∀ w, St S w0 w L1 → φ v L' w) (hL : ∀ w, St S w0 w L1 → St S w0 w L') (hB : ∀ w L, St S w0 w L → St S1 w1 w L) :
    ∀ (Ds : List Nat) (w : World), St S w0 w (Ds.map dfr ++ L1) → (∀ w, St S w0 w L1 → (results fn tmps).run P w = .ok v w) → LeavesInM Fence.wide 0 P fn tmps (GivesW S1 w1 φ) (Ds.map mark) .returning w
  | [], w, hS, hr => ⟨v, hr w hS, v, L', rfl, hφ w hS, hB _ _ (hL _ hS)⟩
  | D :: Ds, w, hS, hr => by
    refine ⟨by simp, .inl ⟨D, _, rfl, run_takeDeferred (obj_at (hS.hold _ List.mem_cons_self)), ?_⟩⟩
    exact leaves_marksW L1 L' hφ hL hB Ds _ (hS.putObj (b := D) (.deferred none)).tail hr
theorem JX_retsMW {fn : Func} {rs : List ResultVar} {S1 : List Nat} {w1 : World} {φ : Value → List Ent → World → Prop} (Ds : List Nat) (vs : List Value) (v : Value) (hd : n.ds = Ds.map mark) (hr : fn.results = rs.toArray) (L1 : List Ent) (h1 : ∀ w, St S w0 w L → St S w0 w (Ds.map dfr ++ L1)) (hv : ∀ w, St S w0 w L1 → resAll P E w rs vs)
    (hvv : v = (if h : vs.length = 1 then vs[0] else .tuple vs.toArray)) (L' : List Ent) (hL : ∀ w, St S w0 w L1 → St S w0 w L') (hB : ∀ w L, St S w0 w L → St S1 w1 w L) (hφ : ∀ w, St S w0 w L1 → φ v L' w) :
    JX n S w0 (NP (bodyPostM Fence.wide 0 P fn (GivesW S1 w1 φ))) .ret E L := by
  intro a w hR hS
  show LeavesInM Fence.wide 0 P fn a.tmps (GivesW S1 w1 φ) a.defers .returning w
  rw [hR.defers, hd]
  refine leaves_marksW L1 L' hφ hL hB Ds w (h1 w hS) (fun w2 hS2 => ?_)
  have hR0 : Rep { n with ds := [] } E { a with defers := [] } := ⟨rfl, hR.size, hR.val⟩
  have h0 := JX_rets (P := P) (n := { n with ds := [] }) (S := S) (w0 := w0) (E := E) (L := L1) (fn := fn) (φ := fun u L2 => u = v) vs v hr hv hvv L1 (fun _ h => h) rfl rfl _ w2 hR0 hS2
  obtain ⟨_, u, hu, u2, L2, he, hp, _⟩ := h0
  cases he
  subst hp
  exact hu
theorem calls_JNW {f : FuncId} {fn : Func} {c : Code} {args : Array Value} {w : World} {φ : Value → List Ent → World → Prop} {L0 : List Ent} (S : List Nat) (n : Nat)
    (hf : P.funcs[f]? = some fn) (hb : fn.body = some c) (hm : fn.ntmps = n) (E : Env) (hE : E = envOf 0 args.toList) (hn : Nat.ble args.size n = true)
    (hg : Give S w L0) (h : J P { sz := n } S w c (NP (bodyPostM Fence.wide 0 P fn (GivesW S w φ))) E L0) : Calls P f args w (GivesW S w φ) := by
  subst hm
  have hn := Nat.le_of_ble_eq_true hn
  refine (callsIn_wide (n := 0)).1 (callsIn_of_wp_marks (F := Fence.wide) hf hb trivial (wpIn_mono (h _ w ⟨rfl, ?_, ?_⟩ hg.start) NP.of) rfl)
  · simp; omega
  · intro t v hv
    rw [hE] at hv
    have h1 : args[t]? = some v := by have := (get_envOf _ _ _ _ hv).2; simpa using this
    obtain ⟨hlt, h2⟩ := Array.getElem?_eq_some_iff.1 h1
    simp only [Array.getD_eq_getD_getElem?]
    rw [Array.getElem?_append_left hlt, h1]
    rfl
theorem ps_ {ps : List Tmp} {m : Nat} (h : (ps.all fun p => Nat.blt p m) = true) : ∀ p ∈ ps, p < m := fun p hp => by
  have := List.all_eq_true.1 h p hp
  rwa [Nat.blt_eq] at this
theorem lown_rangeF {w00 : World} (hS : St S w0 w L) (h0 : w00.heap.size ≤ w.heap.size) : ∀ b ∈ Lown L ++ List.range w00.heap.size, b ∈ List.range w.heap.size := fun b hb => by
  rcases List.mem_append.1 hb with h | h
  · exact lown_range hS b h
  · exact List.mem_range.2 (Nat.lt_of_lt_of_le (List.mem_range.1 h) h0)
theorem it_done {X α : Type} {S : List Nat} {w : World} {f : FuncId} {args : Array Value} {xs : List α} {I : List α → X → Prop} {Lf : List α → X → List Ent} (h : Calls P f args w (Gives S w fun v L => ∃ st : X, v = Value.tuple #[] ∧ L = Lf xs st ∧ I xs st)) :
    Calls P f args w fun e w' => (∃ v, e = .returned v) ∧ ∃ st, I xs st ∧ St S w w' (Lf xs st) := by
  refine h.mono ?_
  rintro e w' ⟨v, L, rfl, ⟨st, _, rfl, hI⟩, hS⟩
  exact ⟨⟨v, rfl⟩, st, hI, hS⟩
end
end Go.GV

namespace Go.Proofs.YtbfiibgmgopnaaaDoor
open Go.GV
namespace R39
def isW (c : UInt8) : Bool := decide ((32 : UInt8) < c) && decide (c ≤ (126 : UInt8)) && decide (c ≠ (39 : UInt8))
def trim (s : Bytes) : Bytes := s.dropWhile (· == 32)
def qw : Bytes → Option (Bytes × Bytes)
  | [] => none
  | [c] => if c = 39 then some ([], []) else none
  | c :: d :: t =>
    if c = 39 then (if d = 39 then (qw t).map fun p => (39 :: p.1, p.2) else some ([], d :: t))
    else if c < 32 ∨ 126 < c then none else (qw (d :: t)).map fun p => (c :: p.1, p.2)
def first : Bytes → Option (Bytes × Bytes)
  | [] => none
  | c :: t => if c = 39 then qw t else if isW c = true then some ((c :: t).takeWhile isW, (c :: t).dropWhile isW) else none
def scanN : Nat → Bytes → Option (List Bytes)
  | 0, _ => none
  | n + 1, s => if trim s = [] then some [] else match first (trim s) with
    | none => none
    | some (w, r) => if r = [] ∨ r.head? = some 32 then (scanN n r).map (w :: ·) else none
def scan (s : Bytes) : Option (List Bytes) := scanN (s.length + 1) s
def scanW (s : Bytes) : List Bytes := (scan s).getD []
theorem trim_le (s : Bytes) : (trim s).length ≤ s.length := (List.dropWhile_sublist _).length_le
theorem qw_le : ∀ {s w r : Bytes}, qw s = some (w, r) → w.length + r.length < s.length
  | [], w, r, h => by cases h
  | [c], w, r, h => by
    rw [qw] at h; split at h
    · cases h; simp
    · cases h
  | c :: d :: t, w, r, h => by
    rw [qw] at h; split at h
    · split at h
      · cases hq : qw t with
        | none => rw [hq] at h; cases h
        | some p =>
          rw [hq] at h; cases h
          have := qw_le (w := p.1) (r := p.2) hq
          simp only [List.length_cons]; omega
      · cases h; simp
    · split at h
      · cases h
      · cases hq : qw (d :: t) with
        | none => rw [hq] at h; cases h
        | some p =>
          rw [hq] at h; cases h
          have := qw_le (w := p.1) (r := p.2) hq
          simp only [List.length_cons] at *; omega
theorem first_le {s w r : Bytes} (h : first s = some (w, r)) : w.length + r.length ≤ s.length ∧ r.length < s.length := by
  cases s with
  | nil => cases h
  | cons c t =>
    rw [first] at h; split at h
    · have := qw_le h; simp only [List.length_cons]; omega
    · split at h
      · rename_i hw
        cases h
        have e := congrArg List.length (List.takeWhile_append_dropWhile (p := isW) (l := c :: t))
        rw [List.length_append] at e
        have h1 : 1 ≤ ((c :: t).takeWhile isW).length := by rw [List.takeWhile_cons, if_pos hw]; simp
        omega
      · cases h
theorem scanN_ok : ∀ (n m : Nat) (s : Bytes), s.length < n → s.length < m → scanN n s = scanN m s
  | 0, _, _, h, _ => absurd h (Nat.not_lt_zero _)
  | _ + 1, 0, _, _, h => absurd h (Nat.not_lt_zero _)
  | n + 1, m + 1, s, hn, hm => by
    rw [scanN, scanN]
    split
    · rfl
    · split
      · rfl
      · rename_i w r hf
        have h1 := (first_le hf).2; have h2 := trim_le s
        rw [scanN_ok n m r (by omega) (by omega)]
theorem scan_eq (s : Bytes) : scan s = if trim s = [] then some [] else match first (trim s) with
    | none => none
    | some (w, r) => if r = [] ∨ r.head? = some 32 then (scan r).map (w :: ·) else none := by
  unfold scan
  rw [scanN]
  split
  · rfl
  · split
    · rfl
    · rename_i w r hf
      have h1 := (first_le hf).2; have h2 := trim_le s
      rw [scanN_ok s.length (r.length + 1) r (by omega) (by omega)]
theorem trim_trim (s : Bytes) : trim (trim s) = trim s := by
  unfold trim
  induction s with
  | nil => rfl
  | cons c t ih =>
    rw [List.dropWhile_cons]; split
    · exact ih
    · rename_i h; rw [List.dropWhile_cons, if_neg h]
theorem scan_trim (s : Bytes) : scan (trim s) = scan s := by
  rw [scan_eq (trim s), trim_trim, scan_eq s]
theorem scan_nil {s : Bytes} (h : trim s = []) : scan s = some [] := by rw [scan_eq, if_pos h]
theorem scan_word {s w r : Bytes} (h : trim s ≠ []) (hf : first (trim s) = some (w, r)) (hr : r = [] ∨ r.head? = some 32) : scan s = (scan r).map (w :: ·) := by
  rw [scan_eq, if_neg h, hf]; exact if_pos hr
theorem scan_bad {s : Bytes} (h : trim s ≠ []) (hf : first (trim s) = none) : scan s = none := by
  rw [scan_eq, if_neg h, hf]
theorem scan_bad2 {s w r : Bytes} (h : trim s ≠ []) (hf : first (trim s) = some (w, r)) (hr : ¬ (r = [] ∨ r.head? = some 32)) : scan s = none := by
  rw [scan_eq, if_neg h, hf]; exact if_neg hr
end R39
end Go.Proofs.YtbfiibgmgopnaaaDoor

namespace Go.Proofs.YtbfiibgmgopnaaaDoor
open Go.GV
structure SortField where
  At : Int
  Length : Int
  Kind : Int
  Descending : Bool
deriving DecidableEq, Inhabited
def SortField.enc (a : SortField) : List Value := [vI a.At, vI a.Length, vI a.Kind, vB a.Descending]
end Go.Proofs.YtbfiibgmgopnaaaDoor

namespace Go.Proofs.YtbfiibgmgopnaaaDoor
namespace Srt
structure Cmp {α : Type} (c : α → α → Int) : Prop where
  anti : ∀ a b, c b a = -c a b
  trans : ∀ a b d, c a b ≤ 0 → c b d ≤ 0 → c a d ≤ 0
section
variable {α β : Type} {c : α → α → Int}
theorem Cmp.self (h : Cmp c) (a : α) : c a a = 0 := by have := h.anti a a; omega
theorem Cmp.le_lt (h : Cmp c) {a b d : α} (h1 : c a b ≤ 0) (h2 : c b d < 0) : c a d < 0 := by
  have h3 := h.trans a b d h1 (by omega)
  by_cases h4 : c a d = 0
  · have h5 := h.trans d a b (by have := h.anti a d; omega) h1
    have := h.anti b d; omega
  · omega
theorem Cmp.lt_le (h : Cmp c) {a b d : α} (h1 : c a b < 0) (h2 : c b d ≤ 0) : c a d < 0 := by
  have h3 := h.trans a b d (by omega) h2
  by_cases h4 : c a d = 0
  · have h5 := h.trans b d a h2 (by have := h.anti a d; omega)
    have := h.anti a b; omega
  · omega
def ins (c : α → α → Int) : List α → α → List α
  | [], x => [x]
  | y :: r, x => if c y x ≤ 0 then y :: ins c r x else x :: y :: r
def srt (c : α → α → Int) (l : List α) : List α := l.foldl (ins c) []
def lt (c : α → α → Int) (p q : α × Nat) : Prop := c p.1 q.1 < 0 ∨ (c p.1 q.1 = 0 ∧ p.2 < q.2)
theorem lt_asymm (h : Cmp c) {p q : α × Nat} (h1 : lt c p q) (h2 : lt c q p) : False := by
  have := h.anti p.1 q.1
  rcases h1 with h1 | h1 <;> rcases h2 with h2 | h2 <;> omega
theorem lt_le {p q : α × Nat} (h1 : lt c p q) : c p.1 q.1 ≤ 0 := by rcases h1 with h1 | h1 <;> omega
theorem lt_trans (h : Cmp c) {p q r : α × Nat} (h1 : lt c p q) (h2 : lt c q r) : lt c p r := by
  rcases h1 with h1 | ⟨h1, h3⟩
  · exact .inl (h.lt_le h1 (lt_le h2))
  · rcases h2 with h2 | ⟨h2, h4⟩
    · exact .inl (h.le_lt (by omega) h2)
    · refine .inr ⟨?_, by omega⟩
      have h5 := h.trans p.1 q.1 r.1 (by omega) (by omega)
      have h6 := h.trans r.1 q.1 p.1 (by have := h.anti q.1 r.1; omega) (by have := h.anti p.1 q.1; omega)
      have := h.anti p.1 r.1; omega
def Ordered (c : α → α → Int) (l : List α) : Prop := l.Pairwise fun a b => c a b ≤ 0
abbrev tc (c : α → α → Int) (p q : α × Nat) : Int := c p.1 q.1
theorem Cmp.tagged (h : Cmp c) : Cmp (tc c) := ⟨fun a b => h.anti a.1 b.1, fun a b d => h.trans a.1 b.1 d.1⟩
def hd (d : α) (l : List α) : α := l.headD d
def best (c : α → α → Int) (ls : List (List α)) : Nat → Option Nat
  | 0 => none
  | k + 1 => match ls.getD k [] with
    | [] => best c ls k
    | x :: _ => match best c ls k with
      | none => some k
      | some b => match ls.getD b [] with
        | [] => some k
        | y :: _ => if c x y < 0 then some k else some b
def BestOk (c : α → α → Int) (ls : List (List α)) (k : Nat) : Option Nat → Prop
  | none => ∀ j, j < k → ls.getD j [] = []
  | some b => b < k ∧ ∃ x r, ls.getD b [] = x :: r ∧ ∀ j, j < k → ∀ y s, ls.getD j [] = y :: s → c x y ≤ 0 ∧ (j < b → c x y < 0)
def mergeN (c : α → α → Int) : Nat → List (List α) → List α
  | 0, _ => []
  | n + 1, ls => match best c ls ls.length with
    | none => []
    | some b => match ls.getD b [] with
      | [] => []
      | x :: r => x :: mergeN c n (ls.set b r)
def total (ls : List (List α)) : Nat := ls.flatten.length
def merge (c : α → α → Int) (ls : List (List α)) : List α := mergeN c (total ls) ls
theorem getD_mem {ls : List (List α)} {b : Nat} {x : α} {r : List α} (h : ls.getD b [] = x :: r) : b < ls.length := by
  by_cases hb : b < ls.length
  · exact hb
  · rw [List.getD_eq_getElem?_getD, List.getElem?_eq_none (by omega)] at h; cases h
theorem set_perm : ∀ {ls : List (List α)} {b : Nat} {x : α} {r : List α}, ls.getD b [] = x :: r → ls.flatten.Perm (x :: (ls.set b r).flatten)
  | [], b, x, r, h => by cases h
  | l :: ls, 0, x, r, h => by
    have h : l = x :: r := h
    subst h; exact .refl _
  | l :: ls, b + 1, x, r, h => by
    have ih := set_perm (ls := ls) (b := b) h
    rw [List.set_cons_succ, List.flatten_cons, List.flatten_cons]
    exact (ih.append_left l).trans List.perm_middle
def Apart (c : α → α → Int) (l m : List (α × Nat)) : Prop := ∀ a ∈ l, ∀ b ∈ m, c a.1 b.1 = 0 → a.2 < b.2
structure Good (c : α → α → Int) (ls : List (List (α × Nat))) : Prop where
  each : ∀ l ∈ ls, l.Pairwise (lt c)
  cross : ls.Pairwise (Apart c)
theorem getD_of {ls : List (List β)} {j : Nat} (h : j < ls.length) : ls.getD j [] = ls[j] := by rw [List.getD_eq_getElem?_getD, List.getElem?_eq_getElem h]; rfl
theorem Good.set {ls : List (List (α × Nat))} (h : Good c ls) {b : Nat} {x : α × Nat} {r : List (α × Nat)} (hx : ls.getD b [] = x :: r) : Good c (ls.set b r) := by
  have hb := getD_mem hx
  rw [getD_of hb] at hx
  constructor
  · intro l hl
    rcases List.mem_or_eq_of_mem_set hl with hl | rfl
    · exact h.each l hl
    · have := h.each ls[b] (List.getElem_mem hb)
      rw [hx] at this
      exact (List.pairwise_cons.1 this).2
  · rw [List.pairwise_iff_getElem]
    intro i j hi hj hij
    have hc := List.pairwise_iff_getElem.1 h.cross i j (by simpa using hi) (by simpa using hj) hij
    intro p hp q hq
    refine hc p ?_ q ?_
    · rw [List.getElem_set] at hp
      split at hp
      · rename_i hbi; subst hbi; rw [hx]; exact List.mem_cons_of_mem _ hp
      · exact hp
    · rw [List.getElem_set] at hq
      split at hq
      · rename_i hbi; subst hbi; rw [hx]; exact List.mem_cons_of_mem _ hq
      · exact hq
def chunksN (n : Nat) : Nat → List α → List (List α)
  | 0, _ => []
  | m + 1, l => match l with
    | [] => []
    | x :: r => (x :: r).take n :: chunksN n m ((x :: r).drop n)
def chunks (n : Nat) (l : List α) : List (List α) := chunksN n l.length l
def pass (c : α → α → Int) (n : Nat) (ls : List (List α)) : List (List α) := (chunks n ls).map (merge c)
theorem Good.append {l m : List (List (α × Nat))} : Good c (l ++ m) ↔ Good c l ∧ Good c m ∧ ∀ x ∈ l, ∀ y ∈ m, Apart c x y := by
  constructor
  · intro h
    have h2 := List.pairwise_append.1 h.cross
    exact ⟨⟨fun x hx => h.each x (List.mem_append_left _ hx), h2.1⟩, ⟨fun x hx => h.each x (List.mem_append_right _ hx), h2.2.1⟩, h2.2.2⟩
  · rintro ⟨h1, h2, h3⟩
    exact ⟨fun x hx => (List.mem_append.1 hx).elim (h1.each x) (h2.each x), List.pairwise_append.2 ⟨h1.cross, h2.cross, h3⟩⟩
def roundsN (c : α → α → Int) (n : Nat) : Nat → List (List α) → List (List α) × Nat
  | 0, ls => (ls, 0)
  | m + 1, ls => if ls.length ≤ 1 then (ls, 0) else ((roundsN c n m (pass c n ls)).1, (roundsN c n m (pass c n ls)).2 + 1)
def rounds (c : α → α → Int) (n : Nat) (ls : List (List α)) : List (List α) × Nat := roundsN c n ls.length ls
def passes (fan : Nat) : Nat → Nat → Nat
  | 0, _ => 0
  | m + 1, n => if n ≤ 1 then 0 else passes fan m ((n + fan - 1) / fan) + 1
structure El (α : Type) where
  run : Nat
  no : Nat
  x : α
def El.tag (e : El α) : α × Nat := (e.x, e.no)
def El.lt (c : α → α → Int) (p q : El α) : Prop := p.run < q.run ∨ (p.run = q.run ∧ Srt.lt c p.tag q.tag)
instance (c : α → α → Int) (p q : El α) : Decidable (El.lt c p q) := by unfold El.lt Srt.lt; exact inferInstance
theorem El.tri (h : Cmp c) {p q : El α} (hn : p.no ≠ q.no) (hlt : ¬ El.lt c p q) : El.lt c q p := by
  unfold El.lt Srt.lt El.tag at *
  have := h.anti p.x q.x
  simp only at *
  omega
theorem El.asymm (h : Cmp c) {p q : El α} (h1 : El.lt c p q) (h2 : El.lt c q p) : False := by
  rcases h1 with h1 | ⟨h1, h3⟩ <;> rcases h2 with h2 | ⟨h2, h4⟩
  · omega
  · omega
  · omega
  · exact lt_asymm h h3 h4
theorem El.trans (h : Cmp c) {p q r : El α} (h1 : El.lt c p q) (h2 : El.lt c q r) : El.lt c p r := by
  rcases h1 with h1 | ⟨h1, h3⟩ <;> rcases h2 with h2 | ⟨h2, h4⟩
  · exact .inl (by omega)
  · exact .inl (by omega)
  · exact .inl (by omega)
  · exact .inr ⟨by omega, lt_trans h h3 h4⟩
def insE (c : α → α → Int) : List (El α) → El α → List (El α)
  | [], e => [e]
  | f :: r, e => if El.lt c f e then f :: insE c r e else e :: f :: r
theorem insE_perm : ∀ (l : List (El α)) (e : El α), (insE c l e).Perm (e :: l)
  | [], _ => .refl _
  | f :: r, e => by
    rw [insE]; split
    · exact ((insE_perm r e).cons f).trans (.swap _ _ _)
    · exact .refl _
theorem insE_mem {l : List (El α)} {e f : El α} : f ∈ insE c l e ↔ f = e ∨ f ∈ l := by rw [(insE_perm l e).mem_iff, List.mem_cons]
theorem insE_lt (h : Cmp c) : ∀ {l : List (El α)} {e : El α}, l.Pairwise (El.lt c) → (∀ f ∈ l, f.no < e.no) → (insE c l e).Pairwise (El.lt c)
  | [], _, _, _ => List.pairwise_singleton _ _
  | f :: r, e, ho, ht => by
    have ho' := List.pairwise_cons.1 ho
    rw [insE]; split
    · rename_i hc
      refine List.pairwise_cons.2 ⟨fun z hz => ?_, insE_lt h ho'.2 fun z hz => ht z (List.mem_cons_of_mem _ hz)⟩
      rcases insE_mem.1 hz with rfl | hz
      · exact hc
      · exact ho'.1 z hz
    · rename_i hc
      have hx := El.tri h (by have := ht f List.mem_cons_self; omega) hc
      refine List.pairwise_cons.2 ⟨fun z hz => ?_, ho⟩
      rcases List.mem_cons.1 hz with rfl | hz
      · exact hx
      · exact El.trans h hx (ho'.1 z hz)
def putR (out : List (List β)) (r : Nat) (p : β) : List (List β) := if r = out.length then out ++ [[p]] else out.set r (out.getD r [] ++ [p])
def sel (c : α → α → Int) : Nat → List (El α) → List (α × Nat) → List (List (α × Nat)) → List (List (α × Nat))
  | 0, _, _, out => out
  | _ + 1, [], _, out => out
  | m + 1, e :: mem, [], out => sel c m mem [] (putR out e.run e.tag)
  | m + 1, e :: mem, y :: rest, out => sel c m (insE c mem ⟨if c y.1 e.x < 0 then e.run + 1 else e.run, y.2, y.1⟩) rest (putR out e.run e.tag)
def fillE (c : α → α → Int) (l : List (α × Nat)) : List (El α) := l.foldl (fun m y => insE c m ⟨0, y.2, y.1⟩) []
def runsT (c : α → α → Int) (M : Nat) (l : List α) : List (List (α × Nat)) := sel c l.length (fillE c (l.zipIdx.take M)) (l.zipIdx.drop M) []
def runs (c : α → α → Int) (M : Nat) (l : List α) : List (List α) := (runsT c M l).map (List.map Prod.fst)
structure Sel (c : α → α → Int) (M : Nat) (l : List (α × Nat)) (mem : List (El α)) (rest : List (α × Nat)) (out : List (List (α × Nat))) (d : Nat) : Prop where
  ord : mem.Pairwise (El.lt c)
  good : Good c out
  runsE : ∀ e ∈ mem, e.run + 1 = out.length ∨ e.run = out.length
  later : ∀ i, ∀ p ∈ out.getD i [], ∀ e ∈ mem, i + 1 = out.length → e.run = i → lt c p e.tag
  less : ∀ i, i + 1 = out.length → ∀ e ∈ mem, e.run = out.length → ∃ p ∈ out.getD i [], c e.x p.1 < 0
  apart : ∀ i, ∀ p ∈ out.getD i [], ∀ e ∈ mem, i < e.run → c p.1 e.x = 0 → p.2 < e.no
  within : ∀ a ∈ mem, ∀ b ∈ mem, a.run < b.run → c a.x b.x = 0 → a.no < b.no
  tagsR : rest.Pairwise fun a b => a.2 < b.2
  tagsM : ∀ y ∈ rest, ∀ e ∈ mem, e.no < y.2
  tagsO : ∀ y ∈ rest, ∀ i, ∀ p ∈ out.getD i [], p.2 < y.2
  perm : (out.flatten ++ mem.map El.tag ++ rest).Perm l
  full : rest ≠ [] → mem.length + d = M
  ne : ∀ x ∈ out, x ≠ []
  long : ∀ i, i + 1 < out.length → M ≤ (out.getD i []).length
  now : (M ≤ (out.getD (out.length - 1) []).length + (mem.filter fun e => e.run + 1 == out.length).length ∧ out ≠ []) ∨ (rest = [] ∧ ((∀ e ∈ mem, e.run + 1 = out.length) ∨ out = [])) ∨ (out = [] ∧ M ≤ mem.length)
theorem Sel.push (h : Cmp c) {M : Nat} {l rest : List (α × Nat)} {e : El α} {y : α × Nat} {mem : List (El α)} {out : List (List (α × Nat))} (hs : Sel c M l mem (y :: rest) out 1)
    (hl : out.length = e.run + 1) (hle : ∀ p ∈ out.getD e.run [], p = e.tag ∨ lt c p e.tag) (hin : e.tag ∈ out.getD e.run []) :
    Sel c M l (insE c mem ⟨if c y.1 e.x < 0 then e.run + 1 else e.run, y.2, y.1⟩) rest out 0 := by
  have ht := List.pairwise_cons.1 hs.tagsR
  have hy : y ∈ y :: rest := List.mem_cons_self
  have hr' : ∀ z ∈ rest, z ∈ y :: rest := fun z hz => List.mem_cons_of_mem _ hz
  have hle' : ∀ p ∈ out.getD e.run [], c p.1 e.x ≤ 0 := fun p hp => by
    rcases hle p hp with rfl | h1
    · exact Int.le_of_eq (h.self _)
    · exact lt_le h1
  constructor
  · exact insE_lt h hs.ord (fun f hf => hs.tagsM y hy f hf)
  · exact hs.good
  · intro f hf
    rcases insE_mem.1 hf with rfl | hf
    · simp only; split
      · exact .inr (by omega)
      · exact .inl (by omega)
    · exact hs.runsE f hf
  · intro i p hp f hf hi hr
    rcases insE_mem.1 hf with rfl | hf
    · simp only at hr
      have hie : i = e.run := by omega
      subst hie
      split at hr
      · omega
      · rename_i hc
        have h1 := hle' p hp
        have h2 : c e.x y.1 ≤ 0 := by have := h.anti y.1 e.x; omega
        have h3 := h.trans _ _ _ h1 h2
        by_cases h0 : c p.1 y.1 = 0
        · exact .inr ⟨h0, hs.tagsO y hy _ p hp⟩
        · refine .inl ?_
          show c p.1 y.1 < 0
          omega
    · exact hs.later i p hp f hf hi hr
  · intro i hi f hf hr
    rcases insE_mem.1 hf with rfl | hf
    · simp only at hr
      split at hr
      · rename_i hc
        have hie : i = e.run := by omega
        subst hie
        exact ⟨e.tag, hin, hc⟩
      · omega
    · exact hs.less i hi f hf hr
  · intro i p hp f hf hi h0
    rcases insE_mem.1 hf with rfl | hf
    · exact hs.tagsO y hy i p hp
    · exact hs.apart i p hp f hf hi h0
  · intro a ha b hb hab h0
    rcases insE_mem.1 ha with rfl | ha
    · rcases insE_mem.1 hb with rfl | hb
      · exact absurd hab (Nat.lt_irrefl _)
      · simp only at hab h0
        have hbr := hs.runsE b hb
        split at hab
        · omega
        · rename_i hc
          obtain ⟨p, hp, hlt⟩ := hs.less e.run (by omega) b hb (by omega)
          have h1 := hle' p hp
          have h2 : c e.x y.1 ≤ 0 := by have := h.anti y.1 e.x; omega
          have h3 := h.lt_le hlt (h.trans _ _ _ h1 h2)
          have := h.anti y.1 b.x; omega
    · rcases insE_mem.1 hb with rfl | hb
      · exact hs.tagsM y hy a ha
      · exact hs.within a ha b hb hab h0
  · exact ht.2
  · intro z hz f hf
    rcases insE_mem.1 hf with rfl | hf
    · exact ht.1 z hz
    · exact hs.tagsM z (hr' z hz) f hf
  · exact fun z hz => hs.tagsO z (hr' z hz)
  · refine List.Perm.trans ?_ hs.perm
    rw [List.append_assoc, List.append_assoc]
    refine List.Perm.append_left _ ?_
    refine (((insE_perm _ _).map El.tag).append_right rest).trans ?_
    rw [List.map_cons]
    exact List.perm_middle.symm
  · intro hr
    have := hs.full (by simp)
    rw [(insE_perm _ _).length_eq, List.length_cons]; omega
  · exact hs.ne
  · exact hs.long
  · rcases hs.now with ⟨h1, h2⟩ | ⟨h1, _⟩ | ⟨h1, _⟩
    · refine .inl ⟨?_, h2⟩
      rw [((insE_perm _ _).filter _).length_eq]
      exact Nat.le_trans h1 (Nat.add_le_add_left ((List.sublist_cons_self _ _).filter _).length_le _)
    · cases h1
    · subst h1; simp at hl
end
end Srt
end Go.Proofs.YtbfiibgmgopnaaaDoor

namespace Go.Proofs.YtbfiibgmgopnaaaDoor
open Go.GV
namespace Ord
theorem less_self : ∀ (s : Bytes), Op.bytesLess s s = false
  | [] => rfl
  | x :: s => by unfold Op.bytesLess; simp [less_self s]
def lt (a b : Bytes) : Prop := Op.bytesLess a b = true
theorem irr (a : Bytes) : ¬ lt a a := by unfold lt; rw [less_self]; decide
theorem lt_cons {x y : UInt8} {a b : Bytes} : lt (x :: a) (y :: b) ↔ (x.toNat < y.toNat ∨ (x.toNat = y.toNat ∧ lt a b)) := by
  unfold lt
  rw [Op.bytesLess, Bool.or_eq_true, Bool.and_eq_true, decide_eq_true_eq, beq_iff_eq, UInt8.lt_iff_toNat_lt, ← UInt8.toNat_inj]
theorem trans : ∀ {a b c : Bytes}, lt a b → lt b c → lt a c
  | _, _, [], _, h => by simp [lt, Op.bytesLess] at h
  | _, [], _ :: _, h, _ => by simp [lt, Op.bytesLess] at h
  | [], _ :: _, _ :: _, _, _ => rfl
  | x :: a, y :: b, z :: c, h, h2 => by
    rw [lt_cons] at *
    rcases h with h | ⟨h, h3⟩ <;> rcases h2 with h2 | ⟨h2, h4⟩
    · left; omega
    · left; omega
    · left; omega
    · exact .inr ⟨by omega, trans h3 h4⟩
theorem tri : ∀ (a b : Bytes), lt a b ∨ a = b ∨ lt b a
  | [], [] => .inr (.inl rfl)
  | [], _ :: _ => .inl rfl
  | _ :: _, [] => .inr (.inr rfl)
  | x :: a, y :: b => by
    rw [lt_cons, lt_cons]
    rcases Nat.lt_trichotomy x.toNat y.toNat with h | h | h
    · exact .inl (.inl h)
    · rcases tri a b with h2 | h2 | h2
      · exact .inl (.inr ⟨h, h2⟩)
      · exact .inr (.inl (by rw [UInt8.toNat_inj.1 h, h2]))
      · exact .inr (.inr (.inr ⟨h.symm, h2⟩))
    · exact .inr (.inr (.inl h))
theorem asymm {a b : Bytes} (h : lt a b) : ¬ lt b a := fun h2 => irr a (trans h h2)
end Ord
end Go.Proofs.YtbfiibgmgopnaaaDoor

namespace Go.Proofs.YtbfiibgmgopnaaaDoor
open Go.GV Go.RowKit
def rep (s : Bytes) : Nat → Bytes
  | 0 => []
  | c + 1 => s ++ rep s c
end Go.Proofs.YtbfiibgmgopnaaaDoor

namespace Go.Proofs.YtbfiibgmgopnaaaDoor
open Go.GV
namespace R44
open Srt (Cmp)
def most (k : Int) : Int := if k = 0 then 200 else if k = 1 then 18 else if k = 2 then 8 else 0
def fok (f : SortField) : Bool := decide (0 ≤ f.At) && decide (f.At ≤ 1000) && decide (1 ≤ f.Length) && decide (f.Length ≤ most f.Kind) && decide (f.At + f.Length ≤ 1000)
def valid (l : List SortField) : Bool := l.all fok && decide ((l.length : Int) ≤ 8)
def fld (s : Bytes) (f : SortField) : Bytes := (List.range f.Length.toNat).map fun j => s.getD (f.At.toNat + j) 32
def num : Bytes → Int → Option Int
  | [], n => some n
  | c :: r, n => if 48 ≤ c.toNat ∧ c.toNat ≤ 57 then num r (10 * n + ((c.toNat : Int) - 48)) else none
def trimL (s : Bytes) : Bytes := s.dropWhile (· == 32)
def trimR (s : Bytes) : Bytes := (s.reverse.dropWhile (· == 32)).reverse
def dec (s : Bytes) : Option Int := if (trimR (trimL s)).head? = some 45 then (if (trimR (trimL s)).tail = [] then none else (num (trimR (trimL s)).tail 0).map fun n => -n) else if trimR (trimL s) = [] then none else num (trimR (trimL s)) 0
def bin (s : Bytes) : Int := s.tail.foldl (fun n c => 256 * n + c.toNat) (int8 (s.headD 0))
def cmpI (x y : Int) : Int := if x < y then -1 else if y < x then 1 else 0
def cmpO : Option Int → Option Int → Int
  | some x, some y => cmpI x y
  | some _, none => 1
  | none, some _ => -1
  | none, none => 0
def cmpS (a b : Bytes) : Int := if Op.bytesLess a b = true then -1 else if a = b then 0 else 1
def cmpF (f : SortField) (a b : Bytes) : Int := if f.Kind = 1 then cmpO (dec (fld a f)) (dec (fld b f)) else if f.Kind = 2 then cmpI (bin (fld a f)) (bin (fld b f)) else cmpS (fld a f) (fld b f)
def cmp1 (f : SortField) (a b : Bytes) : Int := if f.Descending = true then -cmpF f a b else cmpF f a b
def cmpL : List SortField → Bytes → Bytes → Int
  | [], _, _ => 0
  | f :: r, a, b => if cmp1 f a b ≠ 0 then cmp1 f a b else cmpL r a b
def Tri (n : Int) : Prop := n = -1 ∨ n = 0 ∨ n = 1
end R44
end Go.Proofs.YtbfiibgmgopnaaaDoor

namespace Go.Proofs.YtbfiibgmgopnaaaDoor
open Go.GV
namespace R44
def fldN (s : Bytes) (a k : Nat) : Bytes := (List.range k).map fun j => s.getD (a + j) 32
theorem drop_cons {α : Type} {l : List α} {k : Nat} {d : α} (h : k < l.length) : l.drop k = l.getD k d :: l.drop (k + 1) := by
  rw [List.drop_eq_getElem_cons h, List.getD_eq_getElem?_getD, List.getElem?_eq_getElem h]; rfl
def isDig (c : UInt8) : Bool := decide (48 ≤ c.toNat) && decide (c.toNat ≤ 57)
def val (l : Bytes) : Int := l.foldl (fun n c => 10 * n + ((c.toNat : Int) - 48)) 0
def RefNum (s : Bytes) (n : Int) (ok : Bool) : Prop := ok = (dec s).isSome ∧ ∀ x, dec s = some x → n = x
theorem take_snoc {α : Type} {l : List α} {k : Nat} {d : α} (h : k < l.length) : l.take (k + 1) = l.take k ++ [l.getD k d] := by
  rw [List.take_succ_eq_append_getElem h, List.getD_eq_getElem?_getD, List.getElem?_eq_getElem h]; rfl
theorem sub_none (s : Bytes) (i : Nat) : sub s i i = [] := by unfold sub; exact List.drop_of_length_le (by rw [List.length_take]; omega)
section
variable {f : SortField} {a b : Bytes}
variable {n m : Int} {o q : Bool}
end
def cmpV (l : List SortField) (a b : Bytes) : Int := if valid l = true then cmpL l a b else 0
theorem getD_mem {α : Type} {l : List α} {k : Nat} {d : α} (hk : k < l.length) : l.getD k d ∈ l := by
  rw [List.getD_eq_getElem?_getD, List.getElem?_eq_getElem hk]; exact List.getElem_mem hk
end R44
end Go.Proofs.YtbfiibgmgopnaaaDoor

namespace Go.Proofs.YtbfiibgmgopnaaaDoor
namespace R44
open Go.Lib
abbrev Bs := List UInt8
def wordsGo : Bs → Bs → List Bs
  | cur, [] => if cur = [] then [] else [cur]
  | cur, c :: r => if c = 32 then (if cur = [] then wordsGo [] r else cur :: wordsGo [] r) else wordsGo (cur ++ [c]) r
def words (s : Bs) : List Bs := wordsGo [] s
def piece (L : Bs) (x : Nat × Nat) : Bs := (L.drop x.1).take (x.2 - x.1)
theorem grow {L : Bs} {a pos w : Nat} (h : a ≤ pos) : (L.drop a).take (pos - a) ++ (L.drop pos).take w = (L.drop a).take (pos + w - a) := by
  have e : pos + w - a = (pos - a) + w := by omega
  rw [e, List.take_add, List.drop_drop, show a + (pos - a) = pos by omega]
def splitGo (b : UInt8) : Bs → Bs → List Bs
  | cur, [] => [cur]
  | cur, c :: r => if c = b then cur :: splitGo b [] r else splitGo b (cur ++ [c]) r
def splitC (b : UInt8) (s : Bs) : List Bs := splitGo b [] s
theorem splitGo_pre (b : UInt8) : ∀ (s cur : Bs), splitGo b cur s = (match splitGo b [] s with | [] => [] | x :: r => (cur ++ x) :: r)
  | [], cur => by simp [splitGo]
  | c :: r, cur => by
    rw [splitGo, splitGo]
    split
    · simp
    · rw [splitGo_pre b r (cur ++ [c]), splitGo_pre b r ([] ++ [c])]
      cases splitGo b [] r <;> simp
theorem splitK_go (b : UInt8) : ∀ (s : Bs) (k : Nat), s.count b ≤ k → splitK [b] 0 k s = splitC b s
  | [], 0, _ => rfl
  | [], k + 1, _ => rfl
  | c :: r, k, hk => by
    have hi : index (c :: r) [b] = if c = b then 0 else if index r [b] == -1 then -1 else index r [b] + 1 := by
      rw [index]
      by_cases h : c = b
      · subst h; rw [if_pos rfl, if_pos (by simp [List.isPrefixOf])]
      · rw [if_neg h, if_neg (by simp [List.isPrefixOf]; exact fun e => h e.symm)]
    by_cases h : c = b
    · subst h
      rw [List.count_cons_self] at hk
      obtain ⟨k, rfl⟩ : ∃ j, k = j + 1 := ⟨k - 1, by omega⟩
      rw [splitK, hi, if_pos rfl]
      show [] :: splitK [c] 0 k r = _
      rw [splitK_go c r k (by omega)]
      unfold splitC
      rw [splitGo, if_pos rfl]
    · rw [List.count_cons_of_ne (by simpa using h)] at hk
      unfold splitC
      rw [splitGo, if_neg h, splitGo_pre]
      have ih := splitK_go b r k hk
      unfold splitC at ih
      rw [← ih]
      cases k with
      | zero => rfl
      | succ k =>
        rw [splitK, splitK, hi, if_neg h]
        by_cases hm : index r [b] = -1
        · simp [hm]
        · have h0 := index_ge r [b]
          have e1 : (index r [b] == -1) = false := by simpa using hm
          have e2 : (index r [b] + 1 == -1) = false := by simp; omega
          have e3 : (index r [b] + 1).toNat = (index r [b]).toNat + 1 := by omega
          rw [e1]
          simp only [Bool.false_eq_true, if_false, e2, e3]
          simp
theorem split_lib (s : ByteArray) (b : UInt8) : (splitB ⟨#[b]⟩ 0 (countB s ⟨#[b]⟩) s).map (·.data.toList) = splitC b s.data.toList := by
  rw [splitB_data]
  refine splitK_go b _ _ ?_
  have : countB s ⟨#[b]⟩ = count s.data.toList [b] := rfl
  rw [this, count_one]; exact Nat.le_refl _
end R44
end Go.Proofs.YtbfiibgmgopnaaaDoor

namespace Go.Proofs.YtbfiibgmgopnaaaDoor
namespace R44
open Go.Lib
def vN (s : List UInt8) : Nat := s.foldl (fun n c => 10 * n + (c.toNat - 48)) 0
def isD (c : UInt8) : Bool := decide (48 ≤ c.toNat) && decide (c.toNat ≤ 57)
def numV (s : List UInt8) : Option Nat := if (s.length ≤ 4 ∧ s.all isD = true) ∧ decDigits (vN s) = s then some (vN s) else none
theorem dec_small {n : Nat} (h : n < 10) : decDigits n = [UInt8.ofNat (48 + n)] := by rw [decDigits, dif_pos h]
theorem dec_big {n : Nat} (h : ¬ n < 10) : decDigits n = decDigits (n / 10) ++ [UInt8.ofNat (48 + n % 10)] := by rw [decDigits, dif_neg h]
def AtoiJ (s : List UInt8) (n : Int) (er : Bool) : Prop := (er = true → atoiAll s = .ok n) ∧ (er = false → ∀ v, atoiAll s ≠ .ok v) ∧ -9223372036854775808 ≤ n ∧ n ≤ 9223372036854775807
def SmallJ (s : List UInt8) (n : Int) (ok : Bool) : Prop := (ok = true → numV s = some n.toNat ∧ 0 ≤ n ∧ n ≤ 9999) ∧ (ok = false → numV s = none)
def restD (m : Nat) : List UInt8 := if m = 0 then [] else decDigits m
def DigJ (n m : Nat) (s : List UInt8) : Prop := (s = [] ∧ m = n) ∨ (s ≠ [] ∧ decDigits n = restD m ++ s)
theorem DigJ.start (n : Nat) : DigJ n n [] := .inl ⟨rfl, rfl⟩
theorem dig_split {m : Nat} : decDigits m = restD (m / 10) ++ [UInt8.ofNat (48 + m % 10)] := by
  by_cases h : m < 10
  · rw [dec_small h]; unfold restD; rw [if_pos (by omega)]; simp; congr 2; omega
  · rw [dec_big h]; unfold restD; rw [if_neg (by omega)]
theorem DigJ.step {n m : Nat} {s : List UInt8} (h : DigJ n m s) (hc : 0 < m ∨ s = []) : DigJ n (m / 10) ([UInt8.ofNat (48 + m % 10)] ++ s) := by
  refine .inr ⟨by simp, ?_⟩
  rw [← List.append_assoc, ← dig_split]
  rcases h with ⟨h1, h2⟩ | ⟨h1, h2⟩
  · rw [h1, h2, List.append_nil]
  · rw [h2]
    rcases hc with hc | hc
    · unfold restD; rw [if_neg (by omega)]
    · exact absurd hc h1
theorem DigJ.done {n m : Nat} {s : List UInt8} (h : DigJ n m s) (h0 : m = 0) (hs : s ≠ []) : s = decDigits n := by
  rcases h with ⟨h1, _⟩ | ⟨_, h2⟩
  · exact absurd h1 hs
  · rw [h2, h0]; rfl
end R44
end Go.Proofs.YtbfiibgmgopnaaaDoor

namespace Go.Proofs.YtbfiibgmgopnaaaDoor
open Go.GV
namespace R44
def isUp (c : UInt8) : Bool := decide ((65 : UInt8) ≤ c) && decide (c ≤ (90 : UInt8))
def isDg (c : UInt8) : Bool := decide ((48 : UInt8) ≤ c) && decide (c ≤ (57 : UInt8))
def isPl (c : UInt8) : Bool := isUp c || isDg c
def isSt (c : UInt8) : Bool := isUp c || decide (c = (42 : UInt8))
def isPs (c : UInt8) : Bool := isPl c || decide (c = (42 : UInt8))
def qualV (f g : UInt8 → Bool) (s : Bytes) : Bool := ((decide (1 ≤ s.length) && decide (s.length ≤ 8)) && f (s.getD 0 0)) && (s.drop 1).all g
section
variable {f g : UInt8 → Bool} {s : Bytes} {k : Nat}
theorem qual_0 (h : (((decide (((s.length : Nat) : Int) < 1)) || (decide ((8 : Int) < ((s.length : Nat) : Int)))) || (!(f (s.getD 0 0)))) = true) : false = qualV f g s := by
  have : ((decide (1 ≤ s.length) && decide (s.length ≤ 8)) && f (s.getD 0 0)) = false := by
    cases hf : f (s.getD 0 0) with
    | false => simp
    | true =>
      rw [hf] at h
      simp only [Bool.not_true, Bool.or_false, Bool.or_eq_true, decide_eq_true_eq] at h
      rw [Bool.and_true, Bool.and_eq_false_iff, decide_eq_false_iff_not, decide_eq_false_iff_not]
      omega
  unfold qualV; rw [this]; rfl
theorem qual_step (h : ∀ i, 1 ≤ i → i < k → g (s.getD i 0) = true) (hk : g (s.getD k 0) = true) : ∀ i, 1 ≤ i → i < k + 1 → g (s.getD i 0) = true := fun i h1 h2 => by
  by_cases e : i = k
  · subst e; exact hk
  · exact h i h1 (by omega)
theorem drop_at1 (h1 : 1 ≤ k) (h2 : k < s.length) : s.getD k 0 ∈ s.drop 1 := by
  rw [List.getD_eq_getElem?_getD, List.getElem?_eq_getElem h2, List.mem_iff_getElem]
  exact ⟨k - 1, by rw [List.length_drop]; omega, by rw [List.getElem_drop]; simp only [Option.getD_some]; congr 1; omega⟩
theorem qual_bad (h1 : 1 ≤ k) (h2 : k < s.length) (h : g (s.getD k 0) = false) : false = qualV f g s := by
  have : (s.drop 1).all g = false := by
    cases ha : (s.drop 1).all g with
    | false => rfl
    | true => have := List.all_eq_true.1 ha _ (drop_at1 h1 h2); rw [h] at this; cases this
  unfold qualV; rw [this, Bool.and_false]
theorem qual_end (h : (((decide (((s.length : Nat) : Int) < 1)) || (decide ((8 : Int) < ((s.length : Nat) : Int)))) || (!(f (s.getD 0 0)))) = false) (ha : ∀ i, 1 ≤ i → i < s.length → g (s.getD i 0) = true) : true = qualV f g s := by
  rw [Bool.or_eq_false_iff, Bool.or_eq_false_iff, decide_eq_false_iff_not, decide_eq_false_iff_not] at h
  have hf : f (s.getD 0 0) = true := by have := h.2; simpa using this
  have : (s.drop 1).all g = true := List.all_eq_true.2 fun x hx => by
    obtain ⟨i, hi, rfl⟩ := List.mem_iff_getElem.1 hx
    rw [List.length_drop] at hi
    have := ha (1 + i) (by omega) (by omega)
    rw [List.getD_eq_getElem?_getD, List.getElem?_eq_getElem (by omega)] at this
    rw [List.getElem_drop]; exact this
  unfold qualV
  rw [this, hf, decide_eq_true (by omega), decide_eq_true (by omega)]; rfl
end
def nameV (p : Bytes → Bool) (s : Bytes) : Bool := (decide (1 ≤ s.length) && decide (s.length ≤ 31)) && (splitC 46 s).all p
section
variable {p : Bytes → Bool} {s : Bytes} {k : Nat}
theorem name_0 (h : ((decide (((s.length : Nat) : Int) < 1)) || (decide ((31 : Int) < ((s.length : Nat) : Int)))) = true) : false = nameV p s := by
  have : (decide (1 ≤ s.length) && decide (s.length ≤ 31)) = false := by
    simp only [Bool.or_eq_true, decide_eq_true_eq] at h
    rw [Bool.and_eq_false_iff, decide_eq_false_iff_not, decide_eq_false_iff_not]; omega
  unfold nameV; rw [this]; rfl
theorem name_bad (hk : k < (splitC 46 s).length) (h : p ((splitC 46 s).getD k []) = false) : false = nameV p s := by
  have : (splitC 46 s).all p = false := by
    cases ha : (splitC 46 s).all p with
    | false => rfl
    | true => have := List.all_eq_true.1 ha _ (getD_mem (d := []) hk); rw [h] at this; cases this
  unfold nameV; rw [this, Bool.and_false]
theorem name_end (h : ((decide (((s.length : Nat) : Int) < 1)) || (decide ((31 : Int) < ((s.length : Nat) : Int)))) = false) (ha : ∀ i, i < (splitC 46 s).length → p ((splitC 46 s).getD i []) = true) : true = nameV p s := by
  rw [Bool.or_eq_false_iff, decide_eq_false_iff_not, decide_eq_false_iff_not] at h
  have : (splitC 46 s).all p = true := List.all_eq_true.2 fun x hx => by
    obtain ⟨i, hi, rfl⟩ := List.mem_iff_getElem.1 hx
    have := ha i hi
    rwa [List.getD_eq_getElem?_getD, List.getElem?_eq_getElem hi] at this
  unfold nameV
  rw [this, decide_eq_true (by omega), decide_eq_true (by omega)]; rfl
theorem all_step (h : ∀ i, i < k → p ((splitC 46 s).getD i []) = true) (hk : p ((splitC 46 s).getD k []) = true) : ∀ i, i < k + 1 → p ((splitC 46 s).getD i []) = true := fun i h2 => by
  by_cases e : i = k
  · subst e; exact hk
  · exact h i (by omega)
end
def patV (q : Bytes) : Bool := decide (q = [42, 42]) || (qualV isSt isPs q && !(Lib.contains q [42, 42]))
def groupV (s : Bytes) : Bool := (decide (((s.length : Nat) : Int) ≤ 22) && nameV (qualV isUp isPl) s) && true
def numG (q : Bytes) : Nat := if (q.length = 8 ∧ q.getD 0 0 = 71 ∧ q.drop 5 = [86, 48, 48]) ∧ ((q.drop 1).take 4).all isD = true then vN ((q.drop 1).take 4) else 0
end R44
end Go.Proofs.YtbfiibgmgopnaaaDoor
