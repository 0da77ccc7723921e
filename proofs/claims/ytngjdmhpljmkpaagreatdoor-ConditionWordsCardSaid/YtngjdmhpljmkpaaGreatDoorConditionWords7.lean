/- Tc40, Eq40, Pn40, Pl40, Pl40b, Pl40c, Pl40d in one text. -/
import Derived.Test.YtngjdmhpljmkpaaGreatDoorRows
import Derived.Test.YtngjdmhpljmkpaaGreatDoorConditionWords6
import Derived.Test.YtngjdmhpljmkpaaGreatDoorConditionWords3
import Derived.ProofKit
import Derived.LaidMore
import Derived.Stop.Joined
import Derived.Lib.LaidTab
import Derived.Shelf.Vars
import Derived.Handed
import Derived.Lay
import Derived.Test.YtngjdmhpljmkpaaGreatDoorConditionWords5
set_option linter.unusedVariables false
set_option linter.unusedSimpArgs false
namespace Go.GV
open Go.RowKit
theorem iface_of {H : Type} {enc : TypeId × Value → H} {P : Program} {w : World} {base : Nat} {sp : Nat → Bool} {held : Bool} {fuel : Nat} {t : TypeId} {m : Array (String × TypeId)} {cs : List Value} {nm : String} {d : DataW H} {p : List MemPlace}
    (ht : P.underlying t = some (.interface m)) (h : DataW.trod enc P w base sp held fuel t cs = some (.iface nm d, p)) : ∃ te pe, cs = [.iface te pe] := by
  cases fuel with
  | zero => cases h
  | succ fuel =>
    unfold DataW.trod at h
    rw [ht] at h
    match cs, h with
    | [.iface te pe], _ => exact ⟨te, pe, rfl⟩
    | [.nilIface], h => cases h
section
variable {P : Program} {t : TypeId}
theorem open_cap {e : TypeId} (ht : P.underlying t = some (.slice e)) : OpenAt P t fun _ cs => ∃ (A : Option Addr) (l c : Nat), cs = [.slice A l c] ∧ l ≤ c := by
  intro H enc w fuel cs x hx
  rcases Deep.open_slice ht hx with ⟨rfl, _⟩ | ⟨a, len, cap, m, n, D, Pl, rfl, _, hlc, _⟩
  · exact ⟨none, 0, 0, rfl, Nat.le_refl _⟩
  · exact ⟨some a, len, cap, rfl, hlc⟩
theorem open_slW2 {α : Type} [Inhabited α] {e : TypeId} {N : Nat} {f : α → List Value} {B : World → α → Prop} (ht : P.underlying t = some (.slice e)) (hc : P.cellsOf e = N) (hN : ∀ a, (f a).length = N) (he : OpenAt P e fun w cs => ∃ a, cs = f a ∧ B w a) :
    OpenAt P t fun w cs => ∃ (A : Option Addr) (c : Nat) (xs : List α), cs = [.slice A xs.length c] ∧ RO [] w A (xs.flatMap f) ∧ (xs.length ≤ c ∧ xs.length ≤ 9223372036854775807) ∧ ∀ a ∈ xs, B w a := by
  intro H enc w fuel cs x hx
  obtain ⟨A, c, xs, rfl, hR, hl, hB⟩ := open_slW ht hc hN he H enc w fuel cs x hx
  obtain ⟨A2, l2, c2, e2, hle⟩ := open_cap ht H enc w fuel _ x hx
  cases e2
  exact ⟨A, c, xs, rfl, hR, ⟨hle, hl⟩, hB⟩
theorem open_sl2 {α : Type} [Inhabited α] {e : TypeId} {N : Nat} {f : α → List Value} {B : α → Prop} (ht : P.underlying t = some (.slice e)) (hc : P.cellsOf e = N) (hN : ∀ a, (f a).length = N) (he : OpenAt P e fun _ cs => ∃ a, cs = f a ∧ B a) :
    OpenAt P t fun w cs => ∃ (A : Option Addr) (c : Nat) (xs : List α), cs = [.slice A xs.length c] ∧ RO [] w A (xs.flatMap f) ∧ (xs.length ≤ c ∧ xs.length ≤ 9223372036854775807) ∧ ∀ a ∈ xs, B a :=
  open_slW2 (B := fun _ => B) ht hc hN he
end
theorem ro_one {w : World} {b : Nat} {v : Value} (h : w.cell? ⟨b, 0, none⟩ = some v) (hb : b < w.heap.size) : RO [] w (some ⟨b, 0, none⟩) [v] := fun j u hj => by
  cases j with
  | zero => cases hj; exact ⟨_, rfl, hb, List.not_mem_nil, h⟩
  | succ j => cases hj
end Go.GV
namespace Go
end Go
namespace Go.Proofs.YtngjdmhpljmkpaaGreatDoor
open Go.GV Go.RowKit
theorem own : ownKnob Tryz.prog.godebug = none := by kernel_rfl
theorem gN1 : Tryz.prog.globalNamed Rows.conditionReturnsRow.laid[2].1 = some 1 := by kernel_rfl
theorem gN2 : Tryz.prog.globalNamed Rows.conditionReturnsRow.laid[5].1 = some 2 := by kernel_rfl
theorem gN3 : Tryz.prog.globalNamed Rows.conditionReturnsRow.laid[4].1 = some 3 := by kernel_rfl
theorem gT1 : (Tryz.prog.globals[1]?).map (·.type) = some 146 := by kernel_rfl
theorem gT2 : (Tryz.prog.globals[2]?).map (·.type) = some 129 := by kernel_rfl
theorem gT3 : (Tryz.prog.globals[3]?).map (·.type) = some 129 := by kernel_rfl
theorem gMax {w : World} (h : w.ShapedOpen Tryz.prog) : ∃ m, w.cell? ⟨0, 0, none⟩ = some (.int .i64 m) :=
  Go.Proofs.cell_of_shapedOpen_int (zero := #[.int .i64 0]) (t := 3) h (of_decide_eq_true (by kernel_rfl)) (by kernel_rfl) rfl (by kernel_rfl) (by kernel_rfl) Tryz.underlying3
theorem dTab : (Rows.laid_internal_strconv_uint64pow10 : DataW Unit) = Lib.tabData .u64 Lib.pow10Tab := by kernel_rfl
theorem var_cells {W : World} {g : Nat} {cs : Array Value} {l : List Value} {nm : String} (hg : Tryz.prog.globalNamed nm = some g) (hv : W.var? Tryz.prog nm = some cs) (hc : cs.toList = l) : g < W.heap.size ∧ ∃ t f, W.heap[g]? = some (.cells l.toArray t f) := by
  unfold World.var? at hv
  rw [hg] at hv
  simp only [Option.bind_some] at hv
  cases ho : W.heap[g]? with
  | none => rw [ho] at hv; cases hv
  | some o =>
    rw [ho] at hv
    cases o with
    | cells c t f =>
      have hv : some c = some cs := hv
      obtain rfl := Option.some.inj hv
      exact ⟨(Array.getElem?_eq_some_iff.1 ho).1, t, f, by rw [← hc]⟩
    | _ => cases hv
theorem cell_at {W : World} {g : Nat} {v : Value} {t : TypeId} {f : Nat × Nat} (h : W.heap[g]? = some (.cells [v].toArray t f)) : W.cell? ⟨g, 0, none⟩ = some v := by
  simp [World.cell?, h]
noncomputable abbrev start (os : Os) : World := World.laidAll Tryz.prog os Rows.conditionReturnsRow.laid
theorem door_met (os : Os) (args : Array Value) : laidMetH Tryz.prog Rows.conditionReturnsRow.laid ((start os).forCall (fun _ _ => 0) ⟨#[], args, []⟩).memory := by
  rw [MakeChecks.laidMetH_plain _ _ _ (by kernel_rfl)]
  exact laidMet_laidAll args (by kernel_rfl) (by kernel_rfl)
theorem start_os (os : Os) : (start os).os = os := World.laidAll_os _ _ _
theorem tab_of {W : World} (hs : W.ShapedOpen Tryz.prog) (h : laidMetH Tryz.prog Rows.conditionReturnsRow.laid W) : Tab [] W := by
  rw [MakeChecks.laidMetH_plain _ _ _ (by kernel_rfl)] at h
  obtain ⟨ps, ⟨g0, t0, cs0, f0, p0, q0, hg0, ht0, hv0, hd0, ⟨g1, t1, cs1, f1, p1, q1, hg1, ht1, hv1, hd1, ⟨g2, t2, cs2, f2, p2, q2, hg2, ht2, hv2, hd2, ⟨g3, t3, cs3, f3, p3, q3, hg3, ht3, hv3, hd3, ⟨g4, t4, cs4, f4, p4, q4, hg4, ht4, hv4, hd4, ⟨g5, t5, cs5, f5, p5, q5, hg5, ht5, hv5, hd5, ⟨g6, t6, cs6, f6, p6, q6, hg6, ht6, hv6, hd6, _, _⟩, _⟩, _⟩, _⟩, _⟩, _⟩, _⟩, _, _⟩ := h
  obtain rfl := Option.some.inj (gN1.symm.trans hg2)
  obtain rfl := Option.some.inj (gN2.symm.trans hg5)
  obtain rfl := Option.some.inj (gN3.symm.trans hg4)
  obtain rfl := Option.some.inj (gT1.symm.trans ht2)
  obtain rfl := Option.some.inj (gT2.symm.trans ht5)
  obtain rfl := Option.some.inj (gT3.symm.trans ht4)
  rw [dTab] at hd2
  have hc := Lib.cells_of_tab Tryz.underlying146 Tryz.underlying119 (by kernel_rfl) (by kernel_rfl) hd2
  obtain ⟨h1, k1, k2, k3⟩ := var_cells hg2 hv2 hc
  obtain ⟨e5, f5', hc5⟩ := iface_of Tryz.underlying129 hd5
  obtain ⟨e4, f4', hc4⟩ := iface_of Tryz.underlying129 hd4
  obtain ⟨h5, _, _, y5⟩ := var_cells hg5 hv5 hc5
  obtain ⟨h4, _, _, y4⟩ := var_cells hg4 hv4 hc4
  obtain ⟨m, hm⟩ := gMax hs
  exact ⟨⟨List.not_mem_nil, h1, k1, k2, k3⟩, ⟨m, ro_one hm (by omega)⟩, ⟨_, .inr ⟨e5, f5', rfl⟩, ro_one (cell_at y5) h5⟩, ⟨_, .inr ⟨e4, f4', rfl⟩, ro_one (cell_at y4) h4⟩⟩
end Go.Proofs.YtngjdmhpljmkpaaGreatDoor

namespace Go.Proofs.YtngjdmhpljmkpaaGreatDoor
open Go.GV
namespace Ty
theorem eg40 : Tryz.prog.eqGuardType Tryz.prog.depth 40 = false := by kernel_rfl
theorem sh40 : Tryz.prog.stoodInHeld 40 = false := by kernel_rfl
set_option maxRecDepth 20000 in
theorem eq40 (d : Nat) (a b : Test) (w : World) : (Op.equalIn (d + 2) 40 (.agg (Test.enc a).toArray) (.agg (Test.enc b).toArray)).run Tryz.prog w = .ok (decide (a = b)) w := by
  have h := eq_struct (P := Tryz.prog) (d := d + 1) (t := 40) (xs := (Test.enc a).toArray) (ys := (Test.enc b).toArray) (bs := [decide (a.Kind = b.Kind), decide (a.Step = b.Step), decide (a.Op = b.Op), decide (a.N = b.N)]) Tryz.underlying40 sh40
    ⟨by decide, .i (d := d + 0) (a := a.Kind) (b := b.Kind) Ty.sc3 Tryz.underlying3 rfl rfl, by decide, .s (d := d + 0) (a := a.Step) (b := b.Step) Ty.sc9 Tryz.underlying9 rfl rfl, by decide, .i (d := d + 0) (a := a.Op) (b := b.Op) Ty.sc3 Tryz.underlying3 rfl rfl, by decide, .i (d := d + 0) (a := a.N) (b := b.N) Ty.sc3 Tryz.underlying3 rfl rfl, trivial⟩ w
  refine h.trans (congrArg (fun r => Result.ok r w) ?_)
  cases a; cases b
  rw [Bool.eq_iff_iff]
  simp only [List.all_cons, List.all_nil, id, Bool.and_eq_true, decide_eq_true_eq, Test.mk.injEq, and_true]
end Ty
end Go.Proofs.YtngjdmhpljmkpaaGreatDoor

namespace Go.Proofs.YtngjdmhpljmkpaaGreatDoor
open Go.GV
namespace R44
theorem dec_lenI (n : Int) (h : n ≤ 9223372036854775807) : (Lib.decDigits n.toNat).length ≤ 19 := dec_len19 (by omega)
theorem splitGo_len (b : UInt8) : ∀ (l cur : Bytes), ∀ x ∈ splitGo b cur l, x.length ≤ cur.length + l.length
  | [], cur, x, hx => by rw [splitGo] at hx; rw [List.mem_singleton.1 hx]; simp
  | c :: r, cur, x, hx => by
    rw [splitGo] at hx; rw [List.length_cons]
    split at hx
    · rcases List.mem_cons.1 hx with rfl | hx
      · omega
      · have := splitGo_len b r [] x hx; simp at this; omega
    · have := splitGo_len b r _ x hx; simp at this; omega
theorem splitC_len (b : UInt8) (s : Bytes) (i : Nat) : ((splitC b s).getD i []).length ≤ s.length := by
  by_cases h : i < (splitC b s).length
  · have := splitGo_len b s [] _ (getD_mem (d := []) h); rw [List.length_nil, Nat.zero_add] at this; exact this
  · rw [List.getD_eq_getElem?_getD, List.getElem?_eq_none (by omega)]; exact Nat.zero_le _
theorem splitGo_count (b : UInt8) : ∀ (l cur : Bytes), (splitGo b cur l).length ≤ l.length + 1
  | [], cur => by rw [splitGo]; simp
  | c :: r, cur => by
    rw [splitGo, List.length_cons]
    split
    · rw [List.length_cons]; have := splitGo_count b r []; omega
    · have := splitGo_count b r (cur ++ [c]); omega
theorem splitC_count (b : UInt8) (s : Bytes) : (splitC b s).length ≤ s.length + 1 := splitGo_count b s []
end R44
end Go.Proofs.YtngjdmhpljmkpaaGreatDoor

namespace Go.Proofs.YtngjdmhpljmkpaaGreatDoor
open Go.GV
namespace R40
def bare (k : Int) : Test := ⟨k, [], 0, 0⟩
def leafOk (P : Bytes → Bool) (t : Test) : Bool :=
  decide (t = bare 3) || ((decide (t.Kind = 1) || decide (t.Kind = 2)) && decide (t.Op = 0) && decide (t.N = 0) && P t.Step) || (decide (t.Kind = 0) && decide (0 ≤ t.Op) && decide (t.Op ≤ 5) && decide (0 ≤ t.N) && decide (t.N ≤ 4095) && P t.Step)
def stepT (P : Bytes → Bool) (l : List Node) (i : Nat) (t : Test) : Option (List Node) :=
  if t = bare 4 ∧ 1 ≤ l.length then some (l.set (l.length - 1) (.neg (l.getD (l.length - 1) default)))
  else if (t = bare 5 ∨ t = bare 6) ∧ 2 ≤ l.length then some (l.take (l.length - 2) ++ [.pair (decide (t.Kind = 5)) (l.getD (l.length - 2) default) (l.getD (l.length - 1) default)])
  else if leafOk P t = true then some (l ++ [.leaf t i]) else none
def treeG (P : Bytes → Bool) : Nat → List Node → List Test → Option (List Node)
  | _, l, [] => some l
  | i, l, t :: r => match stepT P l i t with
    | none => none
    | some l' => treeG P (i + 1) l' r
def one : Option (List Node) → Option Node
  | some [x] => some x
  | _ => none
def treeV (P : Bytes → Bool) (ts : List Test) : Option Node := if 32 < ts.length then none else one (treeG P 0 [] ts)
def onP (steps : List Bytes) (s : Bytes) : Bool := decide (s ∈ steps)
def onV (ts : List Test) (steps : List Bytes) : Option Node := if ts = [] then some (.neg (.leaf (bare 3) 0)) else treeV (onP steps) ts
def eval (v : Test → Int → Bool) : Node → Bool
  | .leaf t i => v t i
  | .neg x => !eval v x
  | .pair b x y => if b = true then eval v x && eval v y else eval v x || eval v y
def size : Node → Nat
  | .leaf _ _ => 0
  | .neg x => size x + 1
  | .pair _ x y => size x + size y + 1
def related (c op n : Int) : Bool := if op = 0 then decide (c < n) else if op = 1 then decide (c ≤ n) else if op = 2 then decide (c = n) else if op = 3 then decide (c ≠ n) else if op = 4 then decide (n ≤ c) else decide (n < c)
def holds (t : Test) (e : StepEnd) : Bool := if t.Kind = 0 then (e.Ran && !e.Failed) && related e.Code t.Op t.N else if t.Kind = 1 then e.Ran && e.Failed else e.Ran
def failed (e : StepEnd) : Bool := e.Ran && e.Failed
def idx : List Bytes → Bytes → Int
  | [], _ => -1
  | x :: r, s => if x = s then 0 else if idx r s < 0 then -1 else idx r s + 1
def cutE (steps : List Bytes) (ends : List StepEnd) : List StepEnd := ends.take (min ends.length steps.length)
def leafV (steps : List Bytes) (E : List StepEnd) (t : Test) (_i : Int) : Bool := if t.Kind = 3 then E.any failed else decide (idx steps t.Step < E.length) && holds t (E.getD (idx steps t.Step).toNat default)
def evalV (ts : List Test) (steps : List Bytes) (ends : List StepEnd) : Bool := match onV ts steps with
  | none => false
  | some x => eval (leafV steps (cutE steps ends)) x
theorem leaf_any {P : Bytes → Bool} {t : Test} (h : leafOk P t = true) : t = bare 3 ∨ ((t.Kind = 1 ∨ t.Kind = 2) ∧ t.Op = 0 ∧ t.N = 0 ∧ P t.Step = true) ∨ (t.Kind = 0 ∧ 0 ≤ t.Op ∧ t.Op ≤ 5 ∧ 0 ≤ t.N ∧ t.N ≤ 4095 ∧ P t.Step = true) := by
  unfold leafOk at h
  simp only [Bool.or_eq_true, Bool.and_eq_true, decide_eq_true_eq] at h
  rcases h with (h | h) | h
  · exact .inl h
  · exact .inr (.inl ⟨h.1.1.1, h.1.1.2, h.1.2, h.2⟩)
  · exact .inr (.inr ⟨h.1.1.1.1.1, h.1.1.1.1.2, h.1.1.1.2, h.1.1.2, h.1.2, h.2⟩)
def good (P : Bytes → Bool) : Node → Prop
  | .leaf t _ => leafOk P t = true
  | .neg x => good P x
  | .pair _ x y => good P x ∧ good P y
theorem idx_lt (l : List Bytes) (s : Bytes) : -1 ≤ idx l s ∧ idx l s < l.length := by
  induction l with
  | nil => simp [idx]
  | cons x r ih =>
    rw [idx]; split
    · simp only [List.length_cons]; omega
    · split <;> simp only [List.length_cons] <;> omega
theorem idx_mem {l : List Bytes} {s : Bytes} : 0 ≤ idx l s ↔ s ∈ l := by
  induction l with
  | nil => simp [idx]
  | cons x r ih =>
    rw [idx]; split
    · rename_i h; subst h; simp
    · rename_i h
      have hm : s ∈ x :: r ↔ s ∈ r := by simp [show s ≠ x from fun e => h e.symm]
      rw [hm, ← ih]
      split <;> omega
theorem idx_at {l : List Bytes} {s : Bytes} (h : 0 ≤ idx l s) : l.getD (idx l s).toNat [] = s := by
  induction l with
  | nil => simp [idx] at h
  | cons x r ih =>
    rw [idx] at h ⊢; split
    · rename_i e; subst e; rfl
    · rename_i hne
      rw [if_neg hne] at h
      split
      · rename_i h2; rw [if_pos h2] at h; omega
      · rename_i h2
        rw [show (idx r s + 1).toNat = (idx r s).toNat + 1 by omega]
        exact ih (by omega)
def post : Node → List Test
  | .leaf t _ => [t]
  | .neg x => post x ++ [bare 4]
  | .pair b x y => post x ++ (post y ++ [bare (if b = true then 5 else 6)])
def at_ : Nat → Node → Prop
  | i, .leaf _ j => j = (i : Int)
  | i, .neg x => at_ i x
  | i, .pair _ x y => at_ i x ∧ at_ (i + (post x).length) y
theorem post_len (x : Node) : 1 ≤ (post x).length := by
  cases x with
  | leaf => simp [post]
  | neg x => simp [post]
  | pair b x y => simp [post]; omega
theorem bare_not {P : Bytes → Bool} {k : Int} (h : 4 ≤ k) : leafOk P (bare k) = false := by
  unfold leafOk bare
  have h3 : decide ((⟨k, [], 0, 0⟩ : Test) = ⟨3, [], 0, 0⟩) = false := decide_eq_false fun e => by injection e; omega
  rw [h3, decide_eq_false (show ¬ k = 1 by omega), decide_eq_false (show ¬ k = 2 by omega), decide_eq_false (show ¬ k = 0 by omega)]; simp
theorem leaf_bare {P : Bytes → Bool} {t : Test} {k : Int} (h : leafOk P t = true) (hk : 4 ≤ k) : t ≠ bare k := fun e => by
  rw [e, bare_not hk] at h; cases h
section
variable {P : Bytes → Bool} {l : List Node} {x y : Node} {i : Nat} {t : Test}
theorem step_leaf (h : leafOk P t = true) : stepT P l i t = some (l ++ [.leaf t i]) := by
  unfold stepT
  rw [if_neg (fun e => leaf_bare h (by omega) e.1), if_neg (fun e => e.1.elim (leaf_bare h (by omega)) (leaf_bare h (by omega))), if_pos h]
theorem step_neg : stepT P (l ++ [x]) i (bare 4) = some (l ++ [.neg x]) := by
  unfold stepT
  rw [if_pos ⟨rfl, by simp⟩]
  congr 1
  have h1 : (l ++ [x]).length - 1 = l.length := by simp
  rw [h1, List.getD_eq_getElem?_getD, List.getElem?_append_right (Nat.le_refl _), Nat.sub_self]
  simp
theorem step_pair {b : Bool} : stepT P (l ++ [x, y]) i (bare (if b = true then 5 else 6)) = some (l ++ [.pair b x y]) := by
  unfold stepT
  have h1 : (l ++ [x, y]).length - 1 = l.length + 1 := by simp
  have h2 : (l ++ [x, y]).length - 2 = l.length := by simp
  have hx : (l ++ [x, y]).getD l.length default = x := by rw [List.getD_eq_getElem?_getD, List.getElem?_append_right (Nat.le_refl _), Nat.sub_self]; rfl
  have hy : (l ++ [x, y]).getD (l.length + 1) default = y := by rw [List.getD_eq_getElem?_getD, List.getElem?_append_right (Nat.le_succ _), show l.length + 1 - l.length = 1 by omega]; rfl
  rw [h1, h2, hx, hy, List.take_left']
  · cases b with
    | true => rw [if_neg (fun e => absurd e.1 (by decide)), if_pos ⟨.inl rfl, by simp⟩]; rfl
    | false => rw [if_neg (fun e => absurd e.1 (by decide)), if_pos ⟨.inr rfl, by simp⟩]; rfl
  · rfl
end
def rei : Nat → Node → Node
  | i, .leaf t _ => .leaf t i
  | i, .neg x => .neg (rei i x)
  | i, .pair b x y => .pair b (rei i x) (rei (i + (post x).length) y)
theorem rei_at {x : Node} : ∀ {i : Nat}, at_ i x → rei i x = x := by
  induction x with
  | leaf t j => intro i h; rw [rei, ← show j = (i : Int) from h]
  | neg x ih => intro i h; rw [rei, ih h]
  | pair b x y ih1 ih2 => intro i h; rw [rei, ih1 h.1, ih2 h.2]
section
variable {P : Bytes → Bool}
theorem tree_post {x : Node} : ∀ {i : Nat} {l : List Node} {r : List Test}, good P x → treeG P i l (post x ++ r) = treeG P (i + (post x).length) (l ++ [rei i x]) r := by
  induction x with
  | leaf t j =>
    intro i l r h
    show treeG P i l (t :: r) = _
    rw [treeG, step_leaf h]; rfl
  | neg x ih =>
    intro i l r h
    rw [post, List.append_assoc, ih h]
    show treeG P _ _ (bare 4 :: r) = _
    rw [treeG, step_neg, List.length_append]; rfl
  | pair b x y ih1 ih2 =>
    intro i l r h
    rw [post, List.append_assoc, ih1 h.1, List.append_assoc, ih2 h.2]
    show treeG P _ _ (bare (if b = true then 5 else 6) :: r) = _
    rw [treeG, List.append_assoc, show [rei i x] ++ [rei (i + (post x).length) y] = [rei i x, rei (i + (post x).length) y] from rfl, step_pair, List.length_append, List.length_append]
    show treeG P _ _ r = treeG P _ _ r
    rw [show i + (post x).length + (post y).length + 1 = i + ((post x).length + ((post y).length + 1)) by omega]; rfl
def Inv (P : Bytes → Bool) : Nat → List Node → Prop
  | _, [] => True
  | i, x :: l => good P x ∧ at_ i x ∧ Inv P (i + (post x).length) l
def posts (l : List Node) : List Test := l.flatMap post
theorem Inv_app : ∀ {i : Nat} {l m : List Node}, Inv P i (l ++ m) ↔ Inv P i l ∧ Inv P (i + (posts l).length) m
  | i, [], m => by simp [Inv, posts]
  | i, x :: l, m => by
    have ih := Inv_app (i := i + (post x).length) (l := l) (m := m)
    unfold posts at *
    rw [List.flatMap_cons, List.length_append, List.cons_append, Inv, Inv, ih, ← Nat.add_assoc, and_assoc, and_assoc]
theorem posts_app (l m : List Node) : posts (l ++ m) = posts l ++ posts m := List.flatMap_append
theorem list_two {α : Type} {l : List α} {d : α} (h : 2 ≤ l.length) : l = l.take (l.length - 2) ++ [l.getD (l.length - 2) d, l.getD (l.length - 1) d] := by
  have e := R44.take_snoc (l := l) (k := l.length - 2) (d := d) (by omega)
  have e2 := R44.take_snoc (l := l) (k := l.length - 1) (d := d) (by omega)
  rw [show l.length - 2 + 1 = l.length - 1 by omega] at e
  rw [show l.length - 1 + 1 = l.length by omega, List.take_length, e, List.append_assoc] at e2
  exact e2
theorem list_one {α : Type} {l : List α} {d : α} (h : 1 ≤ l.length) : l = l.take (l.length - 1) ++ [l.getD (l.length - 1) d] := by
  have e2 := R44.take_snoc (l := l) (k := l.length - 1) (d := d) (by omega)
  rwa [show l.length - 1 + 1 = l.length by omega, List.take_length] at e2
theorem step_inv {l l' : List Node} {t : Test} (h : stepT P l (posts l).length t = some l') (hI : Inv P 0 l) : Inv P 0 l' ∧ posts l' = posts l ++ [t] := by
  unfold stepT at h
  split at h
  · rename_i h1
    cases h
    have e := list_one (d := default) h1.2
    have e2 : l.set (l.length - 1) (.neg (l.getD (l.length - 1) default)) = l.take (l.length - 1) ++ [.neg (l.getD (l.length - 1) default)] := by
      generalize l.getD (l.length - 1) default = x at *
      rw [e]; simp
    rw [e2]
    rw [e, Inv_app] at hI
    rw [Inv_app, posts_app]
    refine ⟨⟨hI.1, hI.2.1, hI.2.2.1, trivial⟩, ?_⟩
    have e3 : posts l = posts (l.take (l.length - 1)) ++ posts [l.getD (l.length - 1) default] := by rw [← posts_app, ← e]
    rw [e3, List.append_assoc, h1.1]
    simp [posts, post]
  · split at h
    · rename_i h1
      cases h
      have e := list_two (d := default) h1.2
      have e3 : posts l = posts (l.take (l.length - 2)) ++ posts [l.getD (l.length - 2) default, l.getD (l.length - 1) default] := by rw [← posts_app, ← e]
      rw [e, Inv_app] at hI
      rw [Inv_app, posts_app]
      refine ⟨⟨hI.1, ⟨hI.2.1, hI.2.2.2.1⟩, ⟨hI.2.2.1, hI.2.2.2.2.1⟩, trivial⟩, ?_⟩
      rw [e3, List.append_assoc]
      have ht : t = bare (if decide (t.Kind = 5) = true then 5 else 6) := by
        rcases h1.1 with h2 | h2 <;> rw [h2] <;> rfl
      rw [show [t] = [bare (if decide (t.Kind = 5) = true then 5 else 6)] from congrArg (fun x => [x]) ht]
      simp [posts, post]
    · split at h
      · rename_i h1
        cases h
        rw [Inv_app, posts_app]
        refine ⟨⟨hI, h1, ?_, trivial⟩, rfl⟩
        show _ = ((0 + (posts l).length : Nat) : Int)
        rw [Nat.zero_add]
      · cases h
theorem tree_inv : ∀ {r : List Test} {l l' : List Node}, treeG P (posts l).length l r = some l' → Inv P 0 l → Inv P 0 l' ∧ posts l' = posts l ++ r
  | [], l, l', h, hI => by cases h; exact ⟨hI, (List.append_nil _).symm⟩
  | t :: r, l, l', h, hI => by
    rw [treeG] at h
    split at h
    · cases h
    · rename_i m hm
      obtain ⟨h1, h2⟩ := step_inv hm hI
      have hl : (posts m).length = (posts l).length + 1 := by rw [h2, List.length_append]; rfl
      rw [← hl] at h
      have h3 := tree_inv h h1
      rw [h2, List.append_assoc] at h3
      exact h3
theorem tree_iff {ts : List Test} {x : Node} : treeV P ts = some x ↔ ts.length ≤ 32 ∧ good P x ∧ at_ 0 x ∧ post x = ts := by
  unfold treeV
  constructor
  · intro h
    split at h
    · cases h
    · unfold one at h
      split at h
      · rename_i hg
        cases h
        obtain ⟨h1, h2⟩ := tree_inv (l := []) hg trivial
        refine ⟨by omega, h1.1, h1.2.1, ?_⟩
        simpa [posts] using h2
      · cases h
  · rintro ⟨h1, h2, h3, rfl⟩
    rw [if_neg (by omega)]
    have := tree_post (P := P) (i := 0) (l := []) (r := []) h2
    rw [List.append_nil] at this
    rw [this, rei_at h3]; rfl
end
end R40
end Go.Proofs.YtngjdmhpljmkpaaGreatDoor

namespace Go.Proofs.YtngjdmhpljmkpaaGreatDoor
open Go.GV
namespace R40
section
variable {P : Bytes → Bool} {steps : List Bytes} {ends : List StepEnd} {ts a b : List Test}
theorem onV_some {x : Node} (h : ts ≠ []) : onV ts steps = some x ↔ ts.length ≤ 32 ∧ good (onP steps) x ∧ at_ 0 x ∧ post x = ts := by
  unfold onV; rw [if_neg h]; exact tree_iff
def opp (o : Int) : Int := if o = 0 then 4 else if o = 1 then 5 else if o = 2 then 3 else if o = 3 then 2 else if o = 4 then 0 else if o = 5 then 1 else o
def pushT : Node → Bool → List Test
  | .neg x, o => pushT x (!o)
  | .pair b x y, o => pushT x o ++ pushT y o ++ [bare (if (b != o) = true then 5 else 6)]
  | .leaf t _, o => if o = false then [t] else if t.Kind = 0 then [⟨t.Kind, t.Step, opp t.Op, t.N⟩, ⟨1, t.Step, 0, 0⟩, bare 6, ⟨2, t.Step, 0, 0⟩, bare 4, bare 6] else [t, bare 4]
def pushN : Node → Bool → Node
  | .neg x, o => pushN x (!o)
  | .pair b x y, o => .pair (b != o) (pushN x o) (pushN y o)
  | .leaf t i, o => if o = false then .leaf t i else if t.Kind = 0 then .pair false (.pair false (.leaf ⟨t.Kind, t.Step, opp t.Op, t.N⟩ 0) (.leaf ⟨1, t.Step, 0, 0⟩ 0)) (.neg (.leaf ⟨2, t.Step, 0, 0⟩ 0)) else .neg (.leaf t i)
def leaves : Node → Nat
  | .leaf _ _ => 1
  | .neg x => leaves x
  | .pair _ x y => leaves x + leaves y
def NotsOk (l : List Test) : Prop := ∀ i, i < l.length → (l.getD i default).Kind = 4 → 0 < i ∧ ((l.getD (i - 1) default).Kind = 1 ∨ (l.getD (i - 1) default).Kind = 2 ∨ (l.getD (i - 1) default).Kind = 3)
theorem getD_app1 {α : Type} {l m : List α} {i : Nat} {d : α} (h : i < l.length) : (l ++ m).getD i d = l.getD i d := by
  rw [List.getD_eq_getElem?_getD, List.getElem?_append_left h, List.getD_eq_getElem?_getD]
theorem getD_app2 {α : Type} {l m : List α} {i : Nat} {d : α} (h : l.length ≤ i) : (l ++ m).getD i d = m.getD (i - l.length) d := by
  rw [List.getD_eq_getElem?_getD, List.getElem?_append_right h, List.getD_eq_getElem?_getD]
theorem NotsOk.app {l m : List Test} (hl : NotsOk l) (hm : NotsOk m) : NotsOk (l ++ m) := fun i hi hk => by
  rw [List.length_append] at hi
  by_cases h : i < l.length
  · rw [getD_app1 h] at hk
    have h2 := hl i h hk
    rw [getD_app1 (by omega)]; exact h2
  · rw [getD_app2 (by omega)] at hk
    have h2 := hm (i - l.length) (by omega) hk
    rw [getD_app2 (by omega), show i - 1 - l.length = i - l.length - 1 by omega]
    exact ⟨by omega, h2.2⟩
theorem NotsOk.one {t : Test} (h : t.Kind ≠ 4) : NotsOk [t] := fun i hi hk => by
  have : i = 0 := by simp at hi; exact hi
  subst this; exact absurd hk h
theorem NotsOk.two {t : Test} (h : t.Kind = 1 ∨ t.Kind = 2 ∨ t.Kind = 3) : NotsOk [t, bare 4] := fun i hi hk => by
  have : i = 0 ∨ i = 1 := by simp at hi; omega
  rcases this with rfl | rfl
  · have hk : t.Kind = 4 := hk; omega
  · exact ⟨by decide, h⟩
def stepV (s : Bytes) : Bool := R44.nameV (R44.qualV R44.isUp R44.isPl) s && decide ((((s.count 46 : Nat) : Int)) < 2)
def notV (ts : List Test) : List Test := if ts = [] then [bare 3] else match treeV stepV ts with
  | none => []
  | some x => if 32 < (pushT x true).length then [] else pushT x true
end
end R40
end Go.Proofs.YtngjdmhpljmkpaaGreatDoor

namespace Go.Proofs.YtngjdmhpljmkpaaGreatDoor
open Go.GV
namespace R40
abbrev wOR : Bytes := [111, 114]
abbrev wAND : Bytes := [97, 110, 100]
abbrev wNOT : Bytes := [110, 111, 116]
abbrev wLP : Bytes := [40]
abbrev wRP : Bytes := [41]
abbrev wFAILED : Bytes := [102, 97, 105, 108, 101, 100]
abbrev wRAN : Bytes := [114, 97, 110]
abbrev wRC : Bytes := [114, 99]
abbrev rels : List Bytes := [[60], [60, 61], [61], [33, 61], [62, 61], [62]]
def numC (s : Bytes) : Option Int := if R44.vN s ≤ 4095 ∧ Lib.decDigits (R44.vN s) = s then some (R44.vN s) else none
structure PR where
  ok : Bool
  pos : Nat
  out : List Test
def isA (ws : List Bytes) (i : Nat) (w : Bytes) : Bool := decide (i < ws.length) && decide (ws.getD i [] = w)
section
variable (ws : List Bytes)
def basicK (i : Nat) : Option (Test × Nat) ⊕ Nat :=
  if isA ws (i + 1) wFAILED = true then .inl (some (⟨1, ws.getD i [], 0, 0⟩, 2))
  else if isA ws (i + 1) wRAN = true then .inl (some (⟨2, ws.getD i [], 0, 0⟩, 2))
  else if isA ws (i + 1) wRC = true then
    (if i + 2 < ws.length ∧ 0 ≤ idx rels (ws.getD (i + 2) []) then
      (if i + 3 < ws.length then (match numC (ws.getD (i + 3) []) with
        | some n => .inl (some (⟨0, ws.getD i [], idx rels (ws.getD (i + 2) []), n⟩, 4))
        | none => .inr 3) else .inr 3)
    else .inr 2)
  else .inr 1
def basicV (i : Nat) : PR :=
  if i < ws.length ∧ stepV (ws.getD i []) = true then (match basicK ws i with
    | .inl (some (t, k)) => ⟨true, i + k, [t]⟩
    | .inl none => ⟨false, i, []⟩
    | .inr k => ⟨false, i + k, []⟩)
  else ⟨false, i, []⟩
def nots (i : Nat) : Nat := ((ws.drop i).takeWhile fun w => decide (w = wNOT)).length
def coreG (orF : Nat → PR) (j : Nat) : PR :=
  if isA ws j wLP = true then (if (orF (j + 1)).ok = true then (if isA ws (orF (j + 1)).pos wRP = true then ⟨true, (orF (j + 1)).pos + 1, (orF (j + 1)).out⟩ else ⟨false, (orF (j + 1)).pos, (orF (j + 1)).out⟩) else ⟨false, (orF (j + 1)).pos, (orF (j + 1)).out⟩)
  else if isA ws j wFAILED = true then ⟨true, j + 1, [bare 3]⟩
  else basicV ws j
def partG (orF : Nat → PR) (i : Nat) : PR :=
  ⟨(coreG ws orF (i + nots ws i)).ok, (coreG ws orF (i + nots ws i)).pos, (coreG ws orF (i + nots ws i)).out ++ List.replicate (nots ws i) (bare 4)⟩
def chainL (pf : Nat → PR) (w : Bytes) (k : Int) : Nat → PR → PR
  | 0, a => a
  | n + 1, a => if isA ws a.pos w = true then
      (if (pf (a.pos + 1)).ok = true then chainL pf w k n ⟨true, (pf (a.pos + 1)).pos, a.out ++ (pf (a.pos + 1)).out ++ [bare k]⟩
      else ⟨false, (pf (a.pos + 1)).pos, a.out ++ (pf (a.pos + 1)).out⟩)
    else a
def chainG (pf : Nat → PR) (w : Bytes) (k : Int) (i : Nat) : PR :=
  if (pf i).ok = true then chainL ws pf w k (ws.length + 1) (pf i) else pf i
def andG (orF : Nat → PR) (i : Nat) : PR := chainG ws (partG ws orF) wAND 5 i
def orN : Nat → Nat → PR
  | 0, i => ⟨false, i, []⟩
  | m + 1, i => chainG ws (andG ws (orN m)) wOR 6 i
def kindW (w : Bytes) : Int := if w = wOR then 6 else if w = wAND then 5 else 4
def red (all : Bool) : List Test → List Bytes → List Test × List Bytes
  | out, [] => (out, [])
  | out, w :: o => if w = wLP ∨ (w = wOR ∧ all = false) then (out, w :: o) else red all (out ++ [bare (kindW w)]) o
def mach (i : Nat) (out : List Test) (op : List Bytes) (operand : Bool) : Except Nat (List Test) :=
  if h : i < ws.length then
    (if operand = true ∧ (ws.getD i [] = wNOT ∨ ws.getD i [] = wLP) then mach (i + 1) out (ws.getD i [] :: op) true
    else if operand = true ∧ ws.getD i [] = wFAILED then mach (i + 1) (out ++ [bare 3]) op false
    else if operand = true ∧ stepV (ws.getD i []) = true then (match basicK ws i with
      | .inl (some (t, k)) => if 0 < k then mach (i + k) (out ++ [t]) op false else .error i
      | .inl none => .error i
      | .inr k => .error (i + k))
    else if operand = false ∧ (ws.getD i [] = wAND ∨ ws.getD i [] = wOR) then mach (i + 1) (red (decide (ws.getD i [] = wOR)) out op).1 (ws.getD i [] :: (red (decide (ws.getD i [] = wOR)) out op).2) true
    else if operand = false ∧ ws.getD i [] = wRP then (if (red true out op).2 = [] then .error i else mach (i + 1) (red true out op).1 (red true out op).2.tail false)
    else .error i)
  else if operand = true ∨ (red true out op).2 ≠ [] then .error ws.length else .ok (red true out op).1
termination_by ws.length - i
end
section
variable {ws : List Bytes}
def pk (P : List Bytes) : List Test := P.map fun w => bare (kindW w)
theorem red_app {all : Bool} : ∀ {P O : List Bytes} {out : List Test}, (∀ w ∈ P, w ≠ wLP ∧ (all = false → w ≠ wOR)) → red all out (P ++ O) = red all (out ++ pk P) O
  | [], O, out, _ => by show red all out O = red all (out ++ []) O; rw [List.append_nil]
  | w :: P, O, out, h => by
    have hw := h w List.mem_cons_self
    rw [List.cons_append, red, if_neg (fun e => e.elim hw.1 (fun e => hw.2 e.2 e.1)), red_app (fun x hx => h x (List.mem_cons_of_mem _ hx)), List.append_assoc]; rfl
theorem nots_take : ∀ (l : List Bytes) (i : Nat), ws.drop i = l → (nots ws i = 0 ∧ (i < ws.length → ws.getD i [] ≠ wNOT)) ∨ (nots ws i = nots ws (i + 1) + 1 ∧ i < ws.length ∧ ws.getD i [] = wNOT)
  | [], i, h => .inl ⟨by unfold nots; rw [h]; rfl, fun h2 => absurd (List.drop_eq_nil_iff.1 h) (by omega)⟩
  | x :: l, i, h => by
    have hi : i < ws.length := by
      by_cases h2 : i < ws.length
      · exact h2
      · rw [List.drop_of_length_le (by omega)] at h; cases h
    have hx : ws.getD i [] = x := by
      have := congrArg List.head? h
      rw [List.head?_drop, List.head?_cons] at this
      rw [List.getD_eq_getElem?_getD, this]; rfl
    have hr : ws.drop (i + 1) = l := by rw [← List.tail_drop, h]; rfl
    by_cases hn : x = wNOT
    · right
      refine ⟨?_, hi, by rw [hx, hn]⟩
      unfold nots
      rw [h, hr, List.takeWhile_cons, if_pos (by simpa using hn), List.length_cons]
    · left
      refine ⟨?_, fun _ => by rw [hx]; exact hn⟩
      unfold nots
      rw [h, List.takeWhile_cons, if_neg (by simpa using hn)]; rfl
theorem nots_case (i : Nat) : (nots ws i = 0 ∧ (i < ws.length → ws.getD i [] ≠ wNOT)) ∨ (nots ws i = nots ws (i + 1) + 1 ∧ i < ws.length ∧ ws.getD i [] = wNOT) := nots_take _ i rfl
theorem isA_iff {i : Nat} {w : Bytes} : isA ws i w = true ↔ i < ws.length ∧ ws.getD i [] = w := by unfold isA; simp
theorem isA_no {i : Nat} {w : Bytes} (h : ¬ isA ws i w = true) (hi : i < ws.length) : ws.getD i [] ≠ w := fun e => h (isA_iff.2 ⟨hi, e⟩)
theorem mach_not {i : Nat} {out : List Test} {op : List Bytes} (hi : i < ws.length) (h : ws.getD i [] = wNOT ∨ ws.getD i [] = wLP) : mach ws i out op true = mach ws (i + 1) out (ws.getD i [] :: op) true := by
  rw [mach, dif_pos hi, if_pos ⟨rfl, h⟩]
theorem mach_nots (out : List Test) : ∀ (n i : Nat) (op : List Bytes), nots ws i = n → mach ws i out op true = mach ws (i + n) out (List.replicate n wNOT ++ op) true
  | 0, i, op, _ => rfl
  | n + 1, i, op, h => by
    rcases nots_case (ws := ws) i with h2 | ⟨h2, h3, h4⟩
    · omega
    · rw [mach_not h3 (.inl h4), mach_nots out n (i + 1) (ws.getD i [] :: op) (by omega), h4, show i + 1 + n = i + (n + 1) by omega, List.replicate_succ']
      simp
theorem nots_stop : ∀ (n i : Nat), nots ws i = n → i + n < ws.length → ws.getD (i + n) [] ≠ wNOT
  | 0, i, h, hi => by
    rcases nots_case (ws := ws) i with h2 | h2
    · exact h2.2 hi
    · omega
  | n + 1, i, h, hi => by
    rcases nots_case (ws := ws) i with h2 | h2
    · omega
    · have := nots_stop n (i + 1) (by omega) (by omega)
      rwa [show i + 1 + n = i + (n + 1) by omega] at this
def Sim (ok : List Bytes → Prop) (f : Nat → PR) (O : List Bytes) : Prop := ∀ i out,
  ((f i).ok = true → ∃ out' P, ok P ∧ out' ++ pk P = out ++ (f i).out ∧ mach ws i out O true = mach ws (f i).pos out' (P ++ O) false) ∧
  ((f i).ok = false → mach ws i out O true = .error (f i).pos)
def okP (P : List Bytes) : Prop := ∀ w ∈ P, w = wNOT
def okA (P : List Bytes) : Prop := ∀ w ∈ P, w = wNOT ∨ w = wAND
def okO (P : List Bytes) : Prop := ∀ w ∈ P, w = wNOT ∨ w = wAND ∨ w = wOR
theorem okA_red {P : List Bytes} {all : Bool} (h : okA P) : ∀ w ∈ P, w ≠ wLP ∧ (all = false → w ≠ wOR) := fun w hw => by
  rcases h w hw with rfl | rfl <;> exact ⟨by decide, fun _ => by decide⟩
theorem okO_red {P : List Bytes} (h : okO P) : ∀ w ∈ P, w ≠ wLP ∧ (true = false → w ≠ wOR) := fun w hw => by
  rcases h w hw with rfl | rfl | rfl <;> exact ⟨by decide, fun e => by cases e⟩
theorem pk_nots (n : Nat) : pk (List.replicate n wNOT) = List.replicate n (bare 4) := by unfold pk; rw [List.map_replicate]; rfl
theorem mach_rp {i : Nat} {out' : List Test} {P O : List Bytes} (hP : okO P) (h : isA ws i wRP = true) : mach ws i out' (P ++ wLP :: O) false = mach ws (i + 1) (out' ++ pk P) O false := by
  obtain ⟨hi, hw⟩ := isA_iff.1 h
  have hr : red true out' (P ++ wLP :: O) = (out' ++ pk P, wLP :: O) := by
    rw [red_app (okO_red hP), red, if_pos (.inl rfl)]
  rw [mach, dif_pos hi, if_neg (by simp), if_neg (by simp), if_neg (by simp), if_neg (by rw [hw]; decide), if_pos ⟨rfl, hw⟩, hr, if_neg (by simp)]; rfl
theorem mach_bad {i : Nat} {out' : List Test} {P O : List Bytes} (hP : okO P) (h1 : ¬ isA ws i wRP = true) (h2 : ¬ isA ws i wAND = true) (h3 : ¬ isA ws i wOR = true) (hl : i ≤ ws.length) : mach ws i out' (P ++ wLP :: O) false = .error i := by
  by_cases hi : i < ws.length
  · have a1 := isA_no h1 hi; have a2 := isA_no h2 hi; have a3 := isA_no h3 hi
    rw [mach, dif_pos hi, if_neg (by simp), if_neg (by simp), if_neg (by simp), if_neg (fun e => e.2.elim a2 a3), if_neg (fun e => a1 e.2)]
  · have hr : red true out' (P ++ wLP :: O) = (out' ++ pk P, wLP :: O) := by
      rw [red_app (okO_red hP), red, if_pos (.inl rfl)]
    rw [mach, dif_neg hi, hr, if_pos (.inr (by simp))]
    rw [show ws.length = i by omega]
def Prog (ws : List Bytes) (f : Nat → PR) : Prop := ∀ i, i ≤ ws.length → (f i).pos ≤ ws.length ∧ ((f i).ok = true → i < (f i).pos)
end
end R40
end Go.Proofs.YtngjdmhpljmkpaaGreatDoor

namespace Go.Proofs.YtngjdmhpljmkpaaGreatDoor
open Go.GV
namespace R40
section
variable {ws : List Bytes}
theorem basic_k {i : Nat} : (∃ t k, basicK ws i = .inl (some (t, k)) ∧ 0 < k ∧ i + k ≤ ws.length) ∨ ∃ k, basicK ws i = .inr k ∧ (i < ws.length → i + k ≤ ws.length) := by
  unfold basicK
  split
  · rename_i h; exact .inl ⟨_, _, rfl, by decide, by have := (isA_iff.1 h).1; omega⟩
  · split
    · rename_i h; exact .inl ⟨_, _, rfl, by decide, by have := (isA_iff.1 h).1; omega⟩
    · split
      · rename_i h
        have h0 := (isA_iff.1 h).1
        split
        · rename_i h2
          split
          · rename_i h3
            cases numC (ws.getD (i + 3) []) with
            | some n => exact .inl ⟨_, _, rfl, by decide, by omega⟩
            | none => exact .inr ⟨_, rfl, fun _ => by omega⟩
          · exact .inr ⟨_, rfl, fun _ => by omega⟩
        · exact .inr ⟨_, rfl, fun _ => by omega⟩
      · exact .inr ⟨_, rfl, fun _ => by omega⟩
theorem basicV_prog : Prog ws (basicV ws) := fun i hi => by
  unfold basicV
  split
  · rename_i h
    rcases basic_k (ws := ws) (i := i) with ⟨t, k, e, h1, h2⟩ | ⟨k, e, h2⟩
    · rw [e]; exact ⟨h2, fun _ => by show i < i + k; omega⟩
    · rw [e]; exact ⟨h2 h.1, fun h => by cases h⟩
  · exact ⟨hi, fun h => by cases h⟩
theorem nots_le : ∀ (n i : Nat), nots ws i = n → i ≤ ws.length → i + n ≤ ws.length
  | 0, i, _, hi => hi
  | n + 1, i, h, hi => by
    rcases nots_case (ws := ws) i with h2 | ⟨h2, h3, _⟩
    · omega
    · have := nots_le n (i + 1) (by omega) (by omega); omega
theorem core_prog {orF : Nat → PR} (h : Prog ws orF) : Prog ws (coreG ws orF) := fun i hi => by
  unfold coreG
  split
  · rename_i h1
    have h0 := (isA_iff.1 h1).1
    have h2 := h (i + 1) (by omega)
    split
    · rename_i h3
      have := h2.2 h3
      split
      · rename_i h4; have := (isA_iff.1 h4).1
        exact ⟨by show _ + 1 ≤ _; omega, fun _ => by show i < _ + 1; omega⟩
      · exact ⟨h2.1, fun h => by cases h⟩
    · exact ⟨h2.1, fun h => by cases h⟩
  · split
    · rename_i h1; have h0 := (isA_iff.1 h1).1
      exact ⟨by show i + 1 ≤ _; omega, fun _ => Nat.lt_succ_self _⟩
    · exact basicV_prog i hi
theorem part_prog {orF : Nat → PR} (h : Prog ws orF) : Prog ws (partG ws orF) := fun i hi => by
  have h1 := core_prog h (i + nots ws i) (nots_le _ i rfl hi)
  exact ⟨h1.1, fun h2 => Nat.lt_of_le_of_lt (Nat.le_add_right _ _) (h1.2 h2)⟩
theorem chainL_prog {pf : Nat → PR} {w : Bytes} {k : Int} (h : Prog ws pf) : ∀ (n : Nat) (a : PR), a.pos ≤ ws.length → (chainL ws pf w k n a).pos ≤ ws.length ∧ a.pos ≤ (chainL ws pf w k n a).pos ∨ ((chainL ws pf w k n a).ok = false ∧ (chainL ws pf w k n a).pos ≤ ws.length)
  | 0, a, ha => .inl ⟨ha, Nat.le_refl _⟩
  | n + 1, a, ha => by
    rw [chainL]
    split
    · rename_i h1
      have h0 := (isA_iff.1 h1).1
      have h2 := h (a.pos + 1) (by omega)
      split
      · rename_i h3
        have := h2.2 h3
        rcases chainL_prog h n ⟨true, (pf (a.pos + 1)).pos, a.out ++ (pf (a.pos + 1)).out ++ [bare k]⟩ h2.1 with h4 | h4
        · exact .inl ⟨h4.1, Nat.le_trans (show a.pos ≤ (pf (a.pos + 1)).pos by omega) h4.2⟩
        · exact .inr h4
      · exact .inr ⟨rfl, h2.1⟩
    · exact .inl ⟨ha, Nat.le_refl _⟩
theorem chain_prog {pf : Nat → PR} {w : Bytes} {k : Int} (h : Prog ws pf) : Prog ws (chainG ws pf w k) := fun i hi => by
  have h1 := h i hi
  unfold chainG
  split
  · rename_i h2
    have := h1.2 h2
    rcases chainL_prog (w := w) (k := k) h (ws.length + 1) (pf i) h1.1 with h4 | h4
    · exact ⟨h4.1, fun _ => by omega⟩
    · exact ⟨h4.2, fun h5 => by rw [h4.1] at h5; cases h5⟩
  · exact h1
theorem or_prog : ∀ (m : Nat), Prog ws (orN ws m)
  | 0 => fun i hi => ⟨hi, fun h => by cases h⟩
  | m + 1 => chain_prog (chain_prog (part_prog (or_prog m)))
theorem chainL_end {pf : Nat → PR} {w : Bytes} {k : Int} (h : Prog ws pf) : ∀ (n : Nat) (a : PR), a.pos ≤ ws.length → ws.length < a.pos + n → (chainL ws pf w k n a).ok = true → ¬ isA ws (chainL ws pf w k n a).pos w = true
  | 0, a, ha, hn, _ => absurd hn (by omega)
  | n + 1, a, ha, hn, hok => by
    rw [chainL] at hok ⊢
    split
    · rename_i h1
      rw [if_pos h1] at hok
      have h0 := (isA_iff.1 h1).1
      have h2 := h (a.pos + 1) (by omega)
      split
      · rename_i h3
        rw [if_pos h3] at hok
        have := h2.2 h3
        exact chainL_end h n _ h2.1 (by show _ < (pf (a.pos + 1)).pos + n; omega) hok
      · rename_i h3; rw [if_neg h3] at hok; cases hok
    · rename_i h1; exact h1
theorem chain_end {pf : Nat → PR} {w : Bytes} {k : Int} (h : Prog ws pf) {i : Nat} (hi : i ≤ ws.length) (hok : (chainG ws pf w k i).ok = true) : ¬ isA ws (chainG ws pf w k i).pos w = true := by
  unfold chainG at hok ⊢
  split
  · rename_i h2
    rw [if_pos h2] at hok
    exact chainL_end h _ _ (h i hi).1 (by omega) hok
  · rename_i h2; rw [if_neg h2] at hok; exact absurd hok h2
theorem sim_basic (O : List Bytes) (i : Nat) (out : List Test) (hn : i < ws.length → ws.getD i [] ≠ wNOT ∧ ws.getD i [] ≠ wLP ∧ ws.getD i [] ≠ wFAILED) :
    ((basicV ws i).ok = true → mach ws i out O true = mach ws (basicV ws i).pos (out ++ (basicV ws i).out) O false) ∧
    ((basicV ws i).ok = false → i ≤ ws.length → mach ws i out O true = .error (basicV ws i).pos) := by
  unfold basicV
  by_cases h : i < ws.length ∧ stepV (ws.getD i []) = true
  · rw [if_pos h]
    have hm : mach ws i out O true = match basicK ws i with
      | .inl (some (t, k)) => if 0 < k then mach ws (i + k) (out ++ [t]) O false else .error i
      | .inl none => .error i
      | .inr k => .error (i + k) := by
      have h2 := hn h.1
      rw [mach, dif_pos h.1, if_neg (fun e => e.2.elim h2.1 h2.2.1), if_neg (fun e => h2.2.2 e.2), if_pos ⟨rfl, h.2⟩]
      all_goals rfl
    rcases basic_k (ws := ws) (i := i) with ⟨t, k, e, h1, h2⟩ | ⟨k, e, h2⟩
    · rw [e] at hm ⊢
      dsimp only at hm ⊢
      rw [if_pos h1] at hm
      exact ⟨fun _ => hm, fun h => (by cases h)⟩
    · rw [e] at hm ⊢
      exact ⟨fun h => (by cases h), fun _ _ => hm⟩
  · rw [if_neg h]
    refine ⟨fun h => (by cases h), fun _ hi => ?_⟩
    by_cases hl : i < ws.length
    · have h2 := hn hl
      rw [mach, dif_pos hl, if_neg (fun e => e.2.elim h2.1 h2.2.1), if_neg (fun e => h2.2.2 e.2), if_neg (fun e => h ⟨hl, e.2⟩), if_neg (by simp), if_neg (by simp)]
    · rw [mach, dif_neg hl, if_pos (.inl rfl)]
      show _ = Except.error i
      rw [show ws.length = i by omega]
theorem sim_core {orF : Nat → PR} (hp : Prog ws orF) (O : List Bytes) {lo : Nat} (hs : ∀ O, ∀ i, lo < i → i ≤ ws.length → ∀ out, ((orF i).ok = true → ∃ out' P, okO P ∧ out' ++ pk P = out ++ (orF i).out ∧ mach ws i out (wLP :: O) true = mach ws (orF i).pos out' (P ++ wLP :: O) false ∧ ¬ isA ws (orF i).pos wAND = true ∧ ¬ isA ws (orF i).pos wOR = true) ∧ ((orF i).ok = false → mach ws i out (wLP :: O) true = .error (orF i).pos))
    (i : Nat) (out : List Test) (hlo : lo ≤ i) (hi : i ≤ ws.length) (hn : i < ws.length → ws.getD i [] ≠ wNOT) :
    ((coreG ws orF i).ok = true → mach ws i out O true = mach ws (coreG ws orF i).pos (out ++ (coreG ws orF i).out) O false) ∧
    ((coreG ws orF i).ok = false → mach ws i out O true = .error (coreG ws orF i).pos) := by
  unfold coreG
  split
  · rename_i h1
    obtain ⟨h0, hw⟩ := isA_iff.1 h1
    have hm := mach_not (out := out) (op := O) h0 (.inr hw)
    rw [hw] at hm
    obtain ⟨s1, s2⟩ := hs O (i + 1) (by omega) (by omega) out
    split
    · rename_i h2
      obtain ⟨out', P, hP, he, hm2, hA, hO⟩ := s1 h2
      split
      · rename_i h3
        refine ⟨fun _ => ?_, fun h => by cases h⟩
        rw [hm, hm2, mach_rp hP h3, he]
      · rename_i h3
        refine ⟨fun h => (by cases h), fun _ => ?_⟩
        rw [hm, hm2, mach_bad hP h3 hA hO (hp (i + 1) (by omega)).1]
    · rename_i h2
      refine ⟨fun h => (by cases h), fun _ => ?_⟩
      rw [hm]; exact s2 (by simpa using h2)
  · rename_i h1
    split
    · rename_i h2
      obtain ⟨h0, hw⟩ := isA_iff.1 h2
      refine ⟨fun _ => ?_, fun h => by cases h⟩
      rw [mach, dif_pos h0, if_neg (fun e => e.2.elim (hn h0) (isA_no h1 h0)), if_pos ⟨rfl, hw⟩]
    · rename_i h2
      have h3 := sim_basic (ws := ws) O i out fun h => ⟨hn h, isA_no h1 h, isA_no h2 h⟩
      exact ⟨h3.1, fun h => h3.2 h hi⟩
def SimP (ws : List Bytes) (lo : Nat) (ok : List Bytes → Prop) (f : Nat → PR) (O : List Bytes) : Prop := ∀ i, lo ≤ i → i ≤ ws.length → ∀ out,
  ((f i).ok = true → ∃ out' P, ok P ∧ out' ++ pk P = out ++ (f i).out ∧ mach ws i out O true = mach ws (f i).pos out' (P ++ O) false) ∧
  ((f i).ok = false → mach ws i out O true = .error (f i).pos)
theorem sim_part {orF : Nat → PR} (hp : Prog ws orF) {lo : Nat} (hs : ∀ O, ∀ i, lo < i → i ≤ ws.length → ∀ out, ((orF i).ok = true → ∃ out' P, okO P ∧ out' ++ pk P = out ++ (orF i).out ∧ mach ws i out (wLP :: O) true = mach ws (orF i).pos out' (P ++ wLP :: O) false ∧ ¬ isA ws (orF i).pos wAND = true ∧ ¬ isA ws (orF i).pos wOR = true) ∧ ((orF i).ok = false → mach ws i out (wLP :: O) true = .error (orF i).pos))
    (O : List Bytes) : SimP ws lo okP (partG ws orF) O := fun i hlo hi out => by
  have hm := mach_nots (ws := ws) out _ i O rfl
  have hl := nots_le (ws := ws) _ i rfl hi
  have hc := sim_core hp (List.replicate (nots ws i) wNOT ++ O) hs (i + nots ws i) out (by omega) hl (fun h => nots_stop _ i rfl h)
  refine ⟨fun h => ⟨out ++ (coreG ws orF (i + nots ws i)).out, List.replicate (nots ws i) wNOT, fun w hw => List.eq_of_mem_replicate hw, ?_, ?_⟩, fun h => ?_⟩
  · rw [pk_nots, List.append_assoc]; rfl
  · rw [hm, hc.1 h]; rfl
  · rw [hm, hc.2 h]; rfl
theorem sim_chain {pf : Nat → PR} {w : Bytes} {k : Int} {okp okc : List Bytes → Prop} {O : List Bytes} {lo : Nat} (hp : Prog ws pf) (hk : k = kindW w) (hw : w = wAND ∨ w = wOR) (hcc : ∀ P, okp P → okc P)
    (happ : ∀ P, okp P → okc (P ++ [w])) (hred : ∀ P, okc P → ∀ x ∈ P, x ≠ wLP ∧ (decide (w = wOR) = false → x ≠ wOR)) (hO : ∀ out, red (decide (w = wOR)) out O = (out, O))
    (h1 : SimP ws lo okp pf O) (h2 : SimP ws lo okp pf (w :: O)) : ∀ (n : Nat) (a : PR) (i : Nat) (out out' : List Test) (P : List Bytes), lo ≤ a.pos → a.pos ≤ ws.length → okc P → out' ++ pk P = out ++ a.out → mach ws i out O true = mach ws a.pos out' (P ++ O) false → a.ok = true →
    ((chainL ws pf w k n a).ok = true → ∃ out' P, okc P ∧ out' ++ pk P = out ++ (chainL ws pf w k n a).out ∧ mach ws i out O true = mach ws (chainL ws pf w k n a).pos out' (P ++ O) false) ∧
    ((chainL ws pf w k n a).ok = false → mach ws i out O true = .error (chainL ws pf w k n a).pos)
  | 0, a, i, out, out', P, hlo, ha, hP, he, hm, hok => ⟨fun _ => ⟨out', P, hP, he, hm⟩, fun h => by rw [chainL, hok] at h; cases h⟩
  | n + 1, a, i, out, out', P, hlo, ha, hP, he, hm, hok => by
    rw [chainL]
    split
    · rename_i h3
      obtain ⟨h0, hwd⟩ := isA_iff.1 h3
      have hr : red (decide (w = wOR)) out' (P ++ O) = (out ++ a.out, O) := by
        rw [red_app (hred P hP), hO, he]
      have hstep : mach ws a.pos out' (P ++ O) false = mach ws (a.pos + 1) (out ++ a.out) (w :: O) true := by
        rw [mach, dif_pos h0, if_neg (by simp), if_neg (by simp), if_neg (by simp), if_pos ⟨rfl, by rw [hwd]; exact hw⟩, hwd, hr]
      have hs := h2 (a.pos + 1) (by omega) (by omega) (out ++ a.out)
      have hpr := hp (a.pos + 1) (by omega)
      split
      · rename_i h4
        obtain ⟨out2, P2, hP2, he2, hm2⟩ := hs.1 h4
        refine sim_chain hp hk hw hcc happ hred hO h1 h2 n _ i out out2 (P2 ++ [w]) (by have := hpr.2 h4; show lo ≤ (pf (a.pos + 1)).pos; omega) hpr.1 (happ P2 hP2) ?_ ?_ rfl
        · unfold pk at *
          rw [List.map_append, ← List.append_assoc, he2, hk]; simp
        · rw [hm, hstep, hm2, show P2 ++ [w] ++ O = P2 ++ (w :: O) by rw [List.append_assoc]; rfl]
      · rename_i h4
        refine ⟨fun h => (by cases h), fun _ => ?_⟩
        rw [hm, hstep]; exact hs.2 (by simpa using h4)
    · exact ⟨fun _ => ⟨out', P, hP, he, hm⟩, fun h => by rw [hok] at h; cases h⟩
theorem sim_chainG {pf : Nat → PR} {w : Bytes} {k : Int} {okp okc : List Bytes → Prop} {O : List Bytes} {lo : Nat} (hp : Prog ws pf) (hk : k = kindW w) (hw : w = wAND ∨ w = wOR) (hcc : ∀ P, okp P → okc P)
    (happ : ∀ P, okp P → okc (P ++ [w])) (hred : ∀ P, okc P → ∀ x ∈ P, x ≠ wLP ∧ (decide (w = wOR) = false → x ≠ wOR)) (hO : ∀ out, red (decide (w = wOR)) out O = (out, O))
    (h1 : SimP ws lo okp pf O) (h2 : SimP ws lo okp pf (w :: O)) : SimP ws lo okc (chainG ws pf w k) O := fun i hlo hi out => by
  have h3 := h1 i hlo hi out
  have hpr := hp i hi
  unfold chainG
  split
  · rename_i h4
    obtain ⟨out', P, hP, he, hm⟩ := h3.1 h4
    exact sim_chain hp hk hw hcc happ hred hO h1 h2 (ws.length + 1) (pf i) i out out' P (by have := hpr.2 h4; omega) hpr.1 (hcc P hP) he hm h4
  · rename_i h4
    exact ⟨fun h => absurd h h4, h3.2⟩
def Base (O : List Bytes) : Prop := O = [] ∨ ∃ r, O = wLP :: r
theorem Base.red {O : List Bytes} (h : Base O) (all : Bool) (out : List Test) : R40.red all out O = (out, O) := by
  rcases h with rfl | ⟨r, rfl⟩
  · rfl
  · rw [R40.red, if_pos (.inl rfl)]
theorem chainL_and {pf qf : Nat → PR} {w v : Bytes} {k : Int} (hv : ∀ i, i ≤ ws.length → (pf i).ok = true → ¬ isA ws (pf i).pos v = true) (hp : Prog ws pf) : ∀ (n : Nat) (a : PR), a.pos ≤ ws.length → ¬ isA ws a.pos v = true → (chainL ws pf w k n a).ok = true → ¬ isA ws (chainL ws pf w k n a).pos v = true
  | 0, a, _, ha, _ => ha
  | n + 1, a, hl, ha, hok => by
    rw [chainL] at hok ⊢
    split
    · rename_i h1
      rw [if_pos h1] at hok
      have h0 := (isA_iff.1 h1).1
      split
      · rename_i h3
        rw [if_pos h3] at hok
        exact chainL_and (qf := qf) hv hp n _ (hp (a.pos + 1) (by omega)).1 (hv _ (by omega) h3) hok
      · rename_i h3; rw [if_neg h3] at hok; cases hok
    · exact ha
theorem or_and {pf : Nat → PR} (hp : Prog ws pf) {i : Nat} (hi : i ≤ ws.length) (hok : (chainG ws (chainG ws pf wAND 5) wOR 6 i).ok = true) : ¬ isA ws (chainG ws (chainG ws pf wAND 5) wOR 6 i).pos wAND = true := by
  have hpa := chain_prog (w := wAND) (k := 5) hp
  rw [chainG] at hok ⊢
  split
  · rename_i h2
    rw [if_pos h2] at hok
    exact chainL_and (qf := pf) (fun i hi h => chain_end hp hi h) hpa _ _ (hpa i hi).1 (chain_end hp hi h2) hok
  · rename_i h2; rw [if_neg h2] at hok; exact absurd hok h2
theorem sim_or : ∀ (m : Nat) (O : List Bytes), Base O → ∀ i, i ≤ ws.length → ws.length < i + m → ∀ out,
    ((orN ws m i).ok = true → ∃ out' P, okO P ∧ out' ++ pk P = out ++ (orN ws m i).out ∧ mach ws i out O true = mach ws (orN ws m i).pos out' (P ++ O) false ∧ ¬ isA ws (orN ws m i).pos wAND = true ∧ ¬ isA ws (orN ws m i).pos wOR = true) ∧
    ((orN ws m i).ok = false → mach ws i out O true = .error (orN ws m i).pos)
  | 0, O, hO, i, hi, hm, out => absurd hm (by omega)
  | m + 1, O, hO, i, hi, hm, out => by
    have hpo := or_prog (ws := ws) m
    have hs : ∀ O, ∀ j, i < j → j ≤ ws.length → ∀ out, ((orN ws m j).ok = true → ∃ out' P, okO P ∧ out' ++ pk P = out ++ (orN ws m j).out ∧ mach ws j out (wLP :: O) true = mach ws (orN ws m j).pos out' (P ++ wLP :: O) false ∧ ¬ isA ws (orN ws m j).pos wAND = true ∧ ¬ isA ws (orN ws m j).pos wOR = true) ∧ ((orN ws m j).ok = false → mach ws j out (wLP :: O) true = .error (orN ws m j).pos) :=
      fun O j hj hjl out => sim_or m (wLP :: O) (.inr ⟨O, rfl⟩) j hjl (by omega) out
    have hpp := part_prog hpo
    have hP := fun O => sim_part (lo := i) hpo hs O
    have hA : ∀ O, (∀ out, red false out O = (out, O)) → SimP ws i okA (andG ws (orN ws m)) O := fun O h =>
      sim_chainG (okp := okP) (okc := okA) hpp rfl (.inl rfl) (fun P h w hw => .inl (h w hw)) (fun P h w hw => by
        rcases List.mem_append.1 hw with h2 | h2
        · exact .inl (h w h2)
        · exact .inr (List.mem_singleton.1 h2)) (fun P h => okA_red h) h (hP O) (hP (wAND :: O))
    have hpa := chain_prog (w := wAND) (k := 5) hpp
    have hOr : SimP ws i okO (chainG ws (andG ws (orN ws m)) wOR 6) O :=
      sim_chainG (okp := okA) (okc := okO) hpa rfl (.inr rfl) (fun P h w hw => (h w hw).imp id .inl) (fun P h w hw => by
        rcases List.mem_append.1 hw with h2 | h2
        · exact (h w h2).imp id .inl
        · exact .inr (.inr (List.mem_singleton.1 h2))) (fun P h x hx => by
        rcases h x hx with rfl | rfl | rfl <;> exact ⟨by decide, fun e => by revert e; decide⟩) (hO.red _) (hA O (hO.red false)) (hA (wOR :: O) (fun out => by rw [red, if_pos (.inr ⟨rfl, rfl⟩)]))
    have h1 := hOr i (Nat.le_refl _) hi out
    refine ⟨fun hok => ?_, h1.2⟩
    obtain ⟨out', P, h2, h3, h4⟩ := h1.1 hok
    refine ⟨out', P, h2, h3, h4, ?_, chain_end hpa hi hok⟩
    exact or_and hpp hi hok
end
end R40
end Go.Proofs.YtngjdmhpljmkpaaGreatDoor
