/- GvAz, Mt40, Pw40d, Pw40e in one text. -/
import Derived.Test.YtngjdmhpljmkpaaDoorAll8
import Derived.Lib.AppendZerosOnto
import Derived.Test.YtngjdmhpljmkpaaDoorAll3
import Derived.Test.YtngjdmhpljmkpaaDoorAll4
import Derived.Test.YtngjdmhpljmkpaaDoorAll5
set_option linter.unusedVariables false
set_option linter.unusedSimpArgs false
namespace Go.GV
open Go.RowKit
section
variable {P : Program} {E : Env} {x y : Operand} {dst : Option Nat} {t u ty : TypeId} {pos : String} {af : Array Edge} {g : Option (Nat × Bool)}
theorem x_cap_sl {w : World} {e : TypeId} {A : Option Addr} {n c : Nat} (ht : P.underlying t = some (.slice e)) (hx : ev E x = .slice A n c) : (execOp (ev E) ⟨dst, .call ⟨.builtin .cap, #[x], #[t]⟩, ty, pos, af, g⟩).run P w = .ok (.value (vI (c : Int))) w := by
  have hr : (Builtin.cap_ #[t] ty #[.slice A n c]).run P w = .ok (vI (c : Int)) w := by simp [Builtin.cap_, run_underlying ht, goInt]
  simp [execOp, resolve, invoke, builtin, hx, hr]
theorem O_appendZ {S : List Nat} {w0 : World} {L : List Ent} {K : Value → List Ent → Prop} {e : TypeId} {by_ n : Nat} {zv : Value}
    (ht : P.underlying t = some (.slice e)) (hu : P.underlying u = some (.int .i64)) (hs : sizeIs P e = some 1) (hb : bytesIs P e = some by_) (hz : zeroIs P e = some zv) (hzs : zv.cells = #[zv])
    (hx : ev E x = .slice none 0 0) (hy : ev E y = .int .i64 (n : Int)) (h0 : 0 < n) (hbytes : n * by_ ≤ 140737488355328) (h63 : n ≤ 4611686018427387904)
    (k : ∀ A' c', K (.slice A' n c') (Ent.row (.slice A' n c') e 1 n (List.replicate n zv) :: L)) : OpJ P S w0 E L ⟨dst, .call ⟨.builtin .append, #[x, y], #[t, u]⟩, ty, pos, af, g⟩ K := by
  intro w hS
  obtain ⟨i, hi, hiz, his, hib⟩ := info_of hs hb hz
  have hr := Go.Lib.run_append_grow_zeros (P := P) w t u ty e i zv .i64 .i64 ht hu hi hiz none 0 0 [] (run_firstCells_none w.drew i.size 0 0 0) n h0 (by omega) (by omega) (by omega) (by rw [hib]; omega) (by
    rw [hib]
    unfold Builtin.nextslicecap
    rw [if_pos (by omega), Nat.zero_add]; omega)
  have hz1 : ∀ m, Builtin.zeroCells zv.cells m = (List.replicate m zv).toArray := fun m => by
    rw [hzs]
    apply Array.ext
    · simp [Builtin.zeroCells]
    · intro j h1 h2
      simp [Builtin.zeroCells, Nat.mod_one]
  have hge := grownCap_ge w (0 + n) 0 e
  have hle := grownCap_le_maxLen w (0 + n) 0 e (by simp only [maxLen]; omega)
  rw [hz1, hz1, show ([] : List Value).toArray ++ (List.replicate n zv).toArray ++ (List.replicate (grownCap w (0 + n) 0 e - (0 + n)) zv).toArray = (List.replicate n zv ++ List.replicate (grownCap w (0 + n) 0 e - (0 + n)) zv).toArray by simp] at hr
  refine ⟨.slice (some ⟨w.heap.size, 0, none⟩) (0 + n) (grownCap w (0 + n) 0 e), _, w.drew.alloc (Obj.cells (List.replicate n zv ++ List.replicate (grownCap w (0 + n) 0 e - (0 + n)) zv).toArray e), .inl ?_, (hS.step (Fr.drew [] w)).alloc _ (Ent.row (.slice (some ⟨w.heap.size, 0, none⟩) (0 + n) (grownCap w (0 + n) 0 e)) e 1 (0 + n) (List.replicate (0 + n) zv)) rfl ⟨by simp, .inr ⟨w.heap.size, _, _, rfl, rfl, hge, hle, ?_, ?_⟩⟩, ?_⟩
  · simp [execOp, resolve, invoke, builtin, hx, hy, hr]
  · rw [List.size_toArray, List.length_append, List.length_replicate, List.length_replicate, Nat.mul_one]; rw [Nat.zero_add] at *; omega
  · simp
  · rw [Nat.zero_add]; exact k _ _
end
end Go.GV

namespace Go.Proofs.YtngjdmhpljmkpaaDoor
open Go.GV
namespace Ty
theorem mtd : 0 < Tryd.prog.types.size + Made.depth := of_decide_eq_true (by kernel_rfl)
theorem mt114 : methIs Tryd.prog 48 "dasd/condition.strength" = some 114 := by kernel_rfl
theorem mt115 : methIs Tryd.prog 67 "dasd/condition.strength" = some 115 := by kernel_rfl
theorem mt44 : methIs Tryd.prog 70 "dasd/condition.strength" = some 44 := by kernel_rfl
end Ty
end Go.Proofs.YtngjdmhpljmkpaaDoor

namespace Go.Proofs.YtngjdmhpljmkpaaDoor
open Go.GV
namespace R40
section
variable {ls : List Rw} {k : Nat}
theorem flat_step (h : k < ls.length) : ((ls.map Rw.s).take (k + 1)).flatten.length = ((ls.map Rw.s).take k).flatten.length + (ls.getD k default).s.length := by
  rw [R44.take_snoc (d := []) (by rw [List.length_map]; exact h), List.flatten_append, List.length_append]
  congr 1
  rw [List.getD_eq_getElem?_getD, List.getElem?_map, List.getD_eq_getElem?_getD, List.getElem?_eq_getElem h]; simp
theorem flat_le (hq : (ls.map Rw.s).flatten.length ≤ 1000000) : ((ls.map Rw.s).take k).flatten.length ≤ 1000000 := by
  have e := congrArg (fun l => l.flatten.length) (List.take_append_drop k (ls.map Rw.s))
  simp only [List.flatten_append, List.length_append] at e
  omega
theorem flat_snoc (h : k < ls.length) : ((ls.map Rw.s).take (k + 1)).flatten = ((ls.map Rw.s).take k).flatten ++ (ls.getD k default).s := by
  rw [R44.take_snoc (d := []) (by rw [List.length_map]; exact h), List.flatten_append]
  congr 1
  rw [List.getD_eq_getElem?_getD, List.getElem?_map, List.getD_eq_getElem?_getD, List.getElem?_eq_getElem h]; simp
theorem flat_all {out : List Bytes} (h : out = ((ls.map Rw.s).take k).flatten) (hk : k = ls.length) : out = (ls.map Rw.s).flatten := by
  rw [h, List.take_of_length_le (by rw [List.length_map]; omega)]
end
theorem inP_le (b : Bool) (l : List Bytes) : (inP b l).length ≤ l.length + 2 := by unfold inP; split <;> simp
theorem words_le (x : Node) : ∀ n, (wordsV x n).length ≤ 6 * (post x).length := by
  induction x with
  | leaf t i =>
    intro n; rw [wordsV]
    have h1 := inP_le (decide (2 < n)) (leafW t)
    have h2 : (leafW t).length ≤ 4 := by unfold leafW; (repeat' split) <;> simp
    show _ ≤ 6 * 1; omega
  | neg x ih => intro n; have h0 := ih 2; rw [wordsV]; have h1 := inP_le (decide (2 < n)) ([wNOT] ++ wordsV x 2); simp only [List.length_append, List.length_cons, List.length_nil, post] at *; omega
  | pair b x y ih1 ih2 => intro n; have h1 := ih1 (if b = true then 1 else 0); have h2 := ih2 ((if b = true then 1 else 0) + 1); rw [wordsV]; have h3 := inP_le (decide ((if b = true then 1 else 0) < n)) (wordsV x (if b = true then 1 else 0) ++ [if b = true then wAND else wOR] ++ wordsV y ((if b = true then 1 else 0) + 1)); simp only [List.length_append, List.length_cons, List.length_nil, post] at *; omega
theorem leaf_rng {P : Bytes → Bool} {t : Test} (h : leafOk P t = true) : (t.Kind = 0 → 0 ≤ t.Op ∧ t.Op ≤ 5 ∧ 0 ≤ t.N ∧ t.N ≤ 4095) := fun hk => by
  rcases leaf_any h with h2 | h2 | h2
  · rw [h2] at hk; cases hk
  · omega
  · exact ⟨h2.2.1, h2.2.2.1, h2.2.2.2.1, h2.2.2.2.2.1⟩
end R40
end Go.Proofs.YtngjdmhpljmkpaaDoor

namespace Go.Proofs.YtngjdmhpljmkpaaDoor
open Go.GV
namespace R40
section
variable {t : Test} {i : Int} {n : Nat} {x y : Node} {b : Bool}
theorem wd_leaf (hn : n ≤ 2) : wordsV (.leaf t i) n = leafW t := by rw [wordsV, inP, if_neg (by simp; omega)]
theorem wd_0 (hn : n ≤ 2) (h : t.Kind = 0) : wordsV (.leaf t i) n = [t.Step, wRC, rels.getD t.Op.toNat [], Lib.decDigits t.N.toNat] := by rw [wd_leaf hn, leafW, if_pos h]
theorem wd_1 (hn : n ≤ 2) (h : t.Kind = 1) : wordsV (.leaf t i) n = [t.Step, wFAILED] := by rw [wd_leaf hn, leafW, if_neg (by omega), if_pos h]
theorem wd_2 (hn : n ≤ 2) (h : t.Kind = 2) : wordsV (.leaf t i) n = [t.Step, wRAN] := by rw [wd_leaf hn, leafW, if_neg (by omega), if_neg (by omega), if_pos h]
theorem wd_3 (hn : n ≤ 2) (h0 : ¬ t.Kind = 0) (h1 : ¬ t.Kind = 1) (h2 : ¬ t.Kind = 2) : wordsV (.leaf t i) n = [wFAILED] := by rw [wd_leaf hn, leafW, if_neg h0, if_neg h1, if_neg h2]
theorem wd_n (hn : n ≤ 2) : wordsV (.neg x) n = [wNOT] ++ wordsV x 2 := by rw [wordsV, inP, if_neg (by simp; omega)]
theorem wd_pp (h : (if b = true then 1 else 0) < n) {w : Bytes} (hw : (if b = true then wAND else wOR) = w) : wordsV (.pair b x y) n = [[wLP], [wordsV x (if b = true then 1 else 0), [w], wordsV y ((if b = true then 1 else 0) + 1)].flatten, [wRP]].flatten := by
  rw [wordsV, inP, if_pos (decide_eq_true h), hw]; simp
theorem wd_p (h : ¬ (if b = true then 1 else 0) < n) {w : Bytes} (hw : (if b = true then wAND else wOR) = w) : wordsV (.pair b x y) n = [wordsV x (if b = true then 1 else 0), [w], wordsV y ((if b = true then 1 else 0) + 1)].flatten := by
  rw [wordsV, inP, if_neg (by simpa using h), hw]; simp
end
end R40
theorem ron_nil1 {α : Type} [Inhabited α] {S : List Nat} {w : World} {fA : α → Option Addr} {fl : α → List Value} (hd : RO S w (fA default) (fl default)) : ∀ i : Nat, RO S w (fA (([] : List α).getD i default)) (fl (([] : List α).getD i default)) := fun _ => hd
theorem ron_cons1 {α : Type} [Inhabited α] {S : List Nat} {w : World} {fA : α → Option Addr} {fl : α → List Value} {a : α} {l : List α} (h : RO S w (fA a) (fl a)) (h2 : ∀ i : Nat, RO S w (fA (l.getD i default)) (fl (l.getD i default))) : ∀ i : Nat, RO S w (fA ((a :: l).getD i default)) (fl ((a :: l).getD i default))
  | 0 => h
  | i + 1 => h2 i
end Go.Proofs.YtngjdmhpljmkpaaDoor
