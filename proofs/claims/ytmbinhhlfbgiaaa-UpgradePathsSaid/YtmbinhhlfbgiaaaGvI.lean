/- GvI: values behind interfaces: they are made, and their methods are called. -/
import Derived.Test.YtmbinhhlfbgiaaaGvN
import Derived.ChangeKeysEq
namespace Go.GV
open Go.RowKit
def methIs (P : Program) (t : TypeId) (name : String) : Option FuncId := match P.info? t with
  | some i => match i.methods.find? (·.name == name) with
    | some m => if m.path.toList.isEmpty then (match m.func, P.underlying t with
      | some (f, false), some (.struct _) => some f
      | _, _ => none) else none
    | none => none
  | none => none
section
variable {E : Env} {P : Program} {w : World} {x : Operand} {dst : Option Nat} {t ty : TypeId} {pos : String} {af : Array Edge} {g : Option (Nat × Bool)}
theorem run_method {name : String} {f : FuncId} {v : Value} {n : Nat} (hm : methIs P t name = some f) : (method (n + 1) t v name).run P w = .ok (f, v) w := by
  unfold methIs at hm
  cases hi : P.info? t with
  | none => rw [hi] at hm; cases hm
  | some i =>
    rw [hi] at hm
    have hm : (match i.methods.find? (·.name == name) with
      | some m => if m.path.toList.isEmpty then (match m.func, P.underlying t with
        | some (f, false), some (.struct _) => some f
        | _, _ => none) else none
      | none => none) = some f := hm
    cases hfi : i.methods.find? (·.name == name) with
    | none => rw [hfi] at hm; cases hm
    | some m =>
      rw [hfi] at hm
      have hm : (if m.path.toList.isEmpty then (match m.func, P.underlying t with
        | some (f, false), some (.struct _) => some f
        | _, _ => none) else none) = some f := hm
      split at hm
      · rename_i hp
        have hp2 : m.path.toList = [] := by simpa using hp
        split at hm
        · rename_i f' fs hf hu
          cases hm
          unfold method
          simp only [Sem.run_bind, run_typeInfo w hi, Result.andThen_ok, hfi, hp2, follow, Sem.run_pure, hf]
          unfold receiverAt
          simp only [Sem.run_bind, run_underlying hu, Result.andThen_ok, Place.get, Sem.run_pure]
        · cases hm
      · cases hm
theorem x_invoke {f : FuncId} {v : Value} {name : String} {l : List Operand} {vs : List Value} {ts : Array TypeId} (hx : ev E x = .iface t v) (hm : methIs P t name = some f) (hc : Callable P f) (hd : 0 < P.types.size + Made.depth) (ha : v :: l.map (ev E) = vs) :
    (execOp (ev E) ⟨dst, .call ⟨.invoke x name, l.toArray, ts⟩, ty, pos, af, g⟩).run P w = .ok (.enter f vs.toArray) w := by
  subst ha
  obtain ⟨n, hn⟩ : ∃ n, P.types.size + Made.depth = n + 1 := ⟨P.types.size + Made.depth - 1, by omega⟩
  have h := run_callFunc_enter (P := P) (w := w) (args := (v :: l.map (ev E)).toArray) hc
  have hp : (program).run P w = .ok P w := rfl
  simp only [execOp, resolve, List.map_toArray, hx, Sem.run_bind, Sem.run_pure, Result.andThen_ok, invoke]
  have ht : List.take l.length (List.map (ev E) l) = List.map (ev E) l := List.take_of_length_le (by rw [List.length_map]; exact Nat.le_refl _)
  simp [callMethod, Sem.run_bind, hp, hn, run_method (n := n) (v := v) (w := w) hm, ht]
  simpa using h
theorem run_eq_ptr {e : TypeId} {b : Option Addr} (ht : P.underlying t = some (.pointer e)) : (Op.equal t (.pointer none) (.pointer b)).run P w = .ok b.isNone w := by
  show Sem.run P (Op.equalIn Op.maxDepth t (.pointer none) (.pointer b)) w = _
  have hd : Op.maxDepth = (Op.maxDepth - 1) + 1 := by decide
  rw [hd]
  unfold Op.equalIn
  rw [Sem.run_bind, run_underlying ht]
  rfl
theorem x_eql_nilp {y : Operand} {t' e : TypeId} (ht : P.underlying t = some (.pointer e)) (hx : ev E x = .pointer none) (hy : ev E y = .pointer none) : (execOp (ev E) ⟨dst, .binOp .eql t x y t', ty, pos, af, g⟩).run P w = .ok (.value (vB true)) w := by
  have h := run_eq_ptr (P := P) (w := w) (b := none) ht
  have hb : (binOp .eql t (.pointer none) (.pointer none)).run P w = .ok (vB true) w := by
    show Sem.run P (do pure (Value.bool (← Op.equal t (.pointer none) (.pointer none)))) w = _
    rw [Sem.run_bind, h]; rfl
  simp only [execOp, hx, hy]
  show Sem.run P (do let v ← binOp .eql t (.pointer none) (.pointer none); pure (Next.value v)) w = _
  rw [Sem.run_bind, hb]; rfl
theorem x_iface {y : TypeId} {v : Value} (hx : ev E x = v) (hu : (match P.underlying y with | some (.interface _) => false | some _ => true | none => false) = true) :
    (execOp (ev E) ⟨dst, .makeInterface y x, ty, pos, af, g⟩).run P w = .ok (.value (.iface y v)) w := by
  cases h : P.underlying y with
  | none => rw [h] at hu; cases hu
  | some d =>
    rw [h] at hu
    simp only [execOp, hx, Instr.makeInterface, Sem.run_bind, run_underlying h, Result.andThen_ok]
    cases d <;> first | rfl | cases hu
end
theorem ron_nil {α β : Type} [Inhabited α] {S : List Nat} {w : World} {fA : α → Option Addr} {fl : α → List β} {enc : β → List Value} (hd : RO S w (fA default) ((fl default).flatMap enc)) : ∀ i : Nat, RO S w (fA (([] : List α).getD i default)) ((fl (([] : List α).getD i default)).flatMap enc) := fun _ => hd
theorem ron_cons {α β : Type} [Inhabited α] {S : List Nat} {w : World} {fA : α → Option Addr} {fl : α → List β} {enc : β → List Value} {a : α} {l : List α} (h : RO S w (fA a) ((fl a).flatMap enc)) (h2 : ∀ i : Nat, RO S w (fA (l.getD i default)) ((fl (l.getD i default)).flatMap enc)) : ∀ i : Nat, RO S w (fA ((a :: l).getD i default)) ((fl ((a :: l).getD i default)).flatMap enc)
  | 0 => h
  | i + 1 => h2 i
end Go.GV
