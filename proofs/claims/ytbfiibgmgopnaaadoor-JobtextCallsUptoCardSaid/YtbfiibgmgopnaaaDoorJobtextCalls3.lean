/- GvO, GvH, GvF, GvM, GvR, GvT, GvN, GvI, GvK in one text. -/
import Derived.Test.YtbfiibgmgopnaaaDoorJobtextCalls2
import Derived.Deep.Slices
import Derived.Carry
import Derived.Laws.StructEq
import Derived.Laws.IdiomStrings
import Derived.Test.YtbfiibgmgopnaaaDoorRows
import Derived.MapKept
import Derived.Laws.IdiomRangeMap
import Derived.Sort.Row
import Derived.Sort.Grow
import Derived.ChangeKeysEq
set_option linter.unusedVariables false
set_option linter.unusedSimpArgs false
namespace Go.GV
open Go.RowKit Go.WideShapes Go.ChangeShapes
def OpenAt (P : Program) (t : TypeId) (R : World → List Value → Prop) : Prop :=
  ∀ (H : Type) (enc : TypeId × Value → H) (w : World) (fuel : Nat) (cs : List Value) (x : DataW H × List MemPlace), DataW.trod enc P w 0 (fun _ => true) true fuel t cs = some x → R w cs
section
variable {P : Program} {t : TypeId}
theorem open_s (ht : P.underlying t = some .string) : OpenAt P t fun _ cs => ∃ s : Bytes, cs = [vS s] ∧ s.length ≤ 9223372036854775807 := by
  intro H enc w fuel cs x h
  obtain ⟨s, rfl, _, hs⟩ := DataW.trod_string ht h
  have h2 : s.data.size ≤ 9223372036854775807 := hs
  exact ⟨s.data.toList, rfl, by rw [Array.length_toList]; exact h2⟩
def RFs : List (World → List Value → Prop) → World → List Value → Prop
  | [], _, cs => cs = []
  | R :: rs, w, cs => ∃ p q, cs = p ++ q ∧ R w p ∧ RFs rs w q
def FsOk (P : Program) (N : Nat) : Nat → List Field → List (World → List Value → Prop) → Prop
  | off, [], [] => off = N
  | off, f :: fs, R :: rs => f.offset = off ∧ OpenAt P f.type R ∧ FsOk P N (off + P.cellsOf f.type) fs rs
  | _, _, _ => False
theorem FsOk.nil {N off : Nat} (h : off = N) : FsOk P N off [] [] := h
theorem FsOk.cons {N off : Nat} {f : Field} {fs : List Field} {R : World → List Value → Prop} {rs : List (World → List Value → Prop)} (h1 : f.offset = off) (h2 : OpenAt P f.type R) (h3 : FsOk P N (off + P.cellsOf f.type) fs rs) : FsOk P N off (f :: fs) (R :: rs) := ⟨h1, h2, h3⟩
theorem open_slW {α : Type} [Inhabited α] {e : TypeId} {N : Nat} {f : α → List Value} {B : World → α → Prop} (ht : P.underlying t = some (.slice e)) (hc : P.cellsOf e = N) (hN : ∀ a, (f a).length = N) (he : OpenAt P e fun w cs => ∃ a, cs = f a ∧ B w a) :
    OpenAt P t fun w cs => ∃ (A : Option Addr) (c : Nat) (xs : List α), cs = [.slice A xs.length c] ∧ RO [] w A (xs.flatMap f) ∧ xs.length ≤ 9223372036854775807 ∧ ∀ a ∈ xs, B w a := by
  intro H enc w fuel cs x hx
  rcases Deep.open_slice ht hx with ⟨rfl, _⟩ | ⟨a, len, cap, m, n, D, Pl, rfl, _, hlc, hcm, hm, _, hall⟩
  · exact ⟨none, 0, [], rfl, RO.nil, by simp, by simp⟩
  · have hm2 : m = cap := by rw [hm]; rfl
    have hex : ∀ i, i < len → ∃ y : α, w.cells? 0 (a.add (i * N)) N = some (f y) ∧ B w y := by
      intro i hi
      obtain ⟨cs', h1, h2⟩ := hall i (by omega)
      obtain ⟨y, rfl, hB⟩ := he H enc w n cs' _ h2
      rw [hc] at h1
      exact ⟨y, h1, hB⟩
    obtain ⟨g, hg⟩ := Deep.choose_lt hex
    refine ⟨some a, cap, (List.range len).map g, by simp, ?_, by simp [maxLen] at hcm ⊢; omega, ?_⟩
    · intro j v hv
      by_cases hN0 : N = 0
      · exfalso
        have : ((List.range len).map g).flatMap f = [] := by
          rw [List.flatMap_eq_nil_iff]
          intro y _
          exact List.eq_nil_of_length_eq_zero (by rw [hN, hN0])
        rw [this] at hv; simp at hv
      · have hNp : 0 < N := Nat.pos_of_ne_zero hN0
        -- the cell j is part (j % N) of element (j / N)
        have hget : ∀ (l : List α) (j : Nat), (l.flatMap f)[j]? = (l[j / N]?).bind fun y => (f y)[j % N]? := by
          intro l
          induction l with
          | nil => intro j; simp
          | cons y l ih =>
            intro j
            rw [List.flatMap_cons]
            by_cases hj : j < N
            · rw [List.getElem?_append_left (by rw [hN]; exact hj), Nat.div_eq_of_lt hj, Nat.mod_eq_of_lt hj]; rfl
            · rw [List.getElem?_append_right (by rw [hN]; omega), hN, ih (j - N)]
              have h1 : j / N = (j - N) / N + 1 := by rw [Nat.div_eq_sub_div hNp (by omega)]
              have h2 : j % N = (j - N) % N := by rw [Nat.mod_eq_sub_mod (by omega)]
              rw [h1, h2, List.getElem?_cons_succ]
        rw [hget] at hv
        by_cases hi : j / N < len
        · rw [List.getElem?_map, List.getElem?_range hi] at hv
          have hv : (f (g (j / N)))[j % N]? = some v := hv
          obtain ⟨hcell, _⟩ := hg (j / N) hi
          obtain ⟨_, _, hall2⟩ := World.cells?_some hcell
          have hc2 := hall2 (j % N) (Nat.mod_lt _ hNp)
          rw [Deep.add_add, hv, Nat.mul_comm, Nat.div_add_mod] at hc2
          refine ⟨a, rfl, ?_, by simp, hc2⟩
          have hb : (a.add j).block < w.heap.size := by
            unfold World.cell? at hc2
            rcases Nat.lt_or_ge (a.add j).block w.heap.size with h | h
            · exact h
            · rw [Array.getElem?_eq_none h] at hc2; simp at hc2
          rwa [add_block] at hb
        · rw [List.getElem?_eq_none (by simp; omega)] at hv
          simp at hv
    · intro y hy
      obtain ⟨i, hi, rfl⟩ := List.mem_map.1 hy
      exact (hg i (List.mem_range.1 hi)).2
end
theorem slice_inj {a A : Option Addr} {l n c C : Nat} (h : (Value.slice a l c).cells.toList = [.slice A n C]) : a = A ∧ l = n ∧ c = C := by simpa [Value.cells] using h
end Go.GV

namespace Go.GV
def EqF (P : Program) (d : Nat) (xs ys : Array Value) (f : Field) (b : Bool) : Prop :=
  ∃ va vb, (∀ w, (part f.type xs f.offset).run P w = .ok va w) ∧ (∀ w, (part f.type ys f.offset).run P w = .ok vb w) ∧ ∀ w, (Op.equalIn d f.type va vb).run P w = .ok b w
def EqFs (P : Program) (d : Nat) (xs ys : Array Value) : List Field → List Bool → Prop
  | [], [] => True
  | f :: fs, b :: bs => f.name ≠ "_" ∧ EqF P d xs ys f b ∧ EqFs P d xs ys fs bs
  | _, _ => False
section
variable {P : Program} {d : Nat} {xs ys : Array Value} {f : Field}
theorem EqF.i {a b : Int} {k : IntKind} (hs : scal P f.type = true) (hu : P.underlying f.type = some (.int k)) (hx : xs[f.offset]? = some (.int k a)) (hy : ys[f.offset]? = some (.int k b)) : EqF P (d + 1) xs ys f (decide (a = b)) :=
  ⟨_, _, fun _ => run_part_scal hs hx, fun _ => run_part_scal hs hy, fun w => by rw [run_equalIn_int w d f.type k k a b hu]; rfl⟩
theorem EqF.b {a b : Bool} (hs : scal P f.type = true) (hu : P.underlying f.type = some .bool) (hx : xs[f.offset]? = some (vB a)) (hy : ys[f.offset]? = some (vB b)) : EqF P (d + 1) xs ys f (decide (a = b)) :=
  ⟨_, _, fun _ => run_part_scal hs hx, fun _ => run_part_scal hs hy, fun w => by rw [run_equalIn_bool w d f.type a b hu]; cases a <;> cases b <;> rfl⟩
theorem EqF.s {a b : Bytes} (hs : scal P f.type = true) (hu : P.underlying f.type = some .string) (hx : xs[f.offset]? = some (vS a)) (hy : ys[f.offset]? = some (vS b)) : EqF P (d + 1) xs ys f (decide (a = b)) :=
  ⟨_, _, fun _ => run_part_scal hs hx, fun _ => run_part_scal hs hy, fun w => by
    rw [run_equalIn_string w d f.type _ _ hu, ByteArray.toList_mk, ByteArray.toList_mk]
    congr 1
    rw [Bool.eq_iff_iff]; simp⟩
theorem EqF.agg {xa bs : List Value} {n : Nat} {r : Bool} (hs : aggs P f.type = true) (hn : sizeIs P f.type = some n) (hx : xs.extract f.offset (f.offset + n) = xa.toArray) (hy : ys.extract f.offset (f.offset + n) = bs.toArray)
    (h : ∀ w, (Op.equalIn d f.type (.agg xa.toArray) (.agg bs.toArray)).run P w = .ok r w) : EqF P d xs ys f r :=
  ⟨_, _, fun _ => run_part_aggs hs hn, fun _ => run_part_aggs hs hn, fun w => by rw [hx, hy]; exact h w⟩
end
section
variable {E : Env} {P : Program} {w : World} {x y : Operand} {dst : Option Nat} {t e ty : TypeId} {pos : String} {af : Array Edge} {g : Option (Nat × Bool)}
end
theorem all_nil {p : Nat → Prop} : ∀ i, i ∈ ([] : List Nat) → p i := fun _ h => absurd h List.not_mem_nil
abbrev pB (b k : Nat) : Value := .pointer (some ⟨b, k, none⟩)
abbrev pA (A : Option Addr) (k : Nat) : Value := .pointer (some (adr A k))
abbrev vG (l : List Value) : Value := .agg l.toArray
abbrev vL (A : Option Addr) (n c : Nat) : Value := .slice A n c
end Go.GV

namespace Go.Proofs.YtbfiibgmgopnaaaDoor
open Go.GV
namespace Ty
theorem sc3 : scal Tryd.prog 3 = true := by kernel_rfl
theorem sz3 : sizeIs Tryd.prog 3 = some 1 := by kernel_rfl
theorem sc4 : scal Tryd.prog 4 = true := by kernel_rfl
theorem sz5 : sizeIs Tryd.prog 5 = some 1 := by kernel_rfl
theorem by5 : bytesIs Tryd.prog 5 = some 1 := by kernel_rfl
theorem ze5 : zeroIs Tryd.prog 5 = some (vU8 0) := by kernel_rfl
theorem sc9 : scal Tryd.prog 9 = true := by kernel_rfl
theorem sz9 : sizeIs Tryd.prog 9 = some 1 := by kernel_rfl
theorem by9 : bytesIs Tryd.prog 9 = some 16 := by kernel_rfl
theorem ze9 : zeroIs Tryd.prog 9 = some (vS []) := by kernel_rfl
theorem sc22 : scal Tryd.prog 22 = true := by kernel_rfl
theorem sz22 : sizeIs Tryd.prog 22 = some 1 := by kernel_rfl
theorem sc24 : scal Tryd.prog 24 = true := by kernel_rfl
theorem sz24 : sizeIs Tryd.prog 24 = some 1 := by kernel_rfl
theorem sc25 : scal Tryd.prog 25 = true := by kernel_rfl
theorem sc36 : scal Tryd.prog 36 = true := by kernel_rfl
theorem sz36 : sizeIs Tryd.prog 36 = some 1 := by kernel_rfl
theorem ag40 : aggs Tryd.prog 40 = true := by kernel_rfl
theorem sz40 : sizeIs Tryd.prog 40 = some 4 := by kernel_rfl
theorem by40 : bytesIs Tryd.prog 40 = some 72 := by kernel_rfl
theorem ze40 : zeroIs Tryd.prog 40 = some (vG [vI 0, vS [], vL none 0 0, vL none 0 0]) := by kernel_rfl
theorem fi40_0 : fieldIs Tryd.prog 40 0 = some (0, 3) := by kernel_rfl
theorem fi40_1 : fieldIs Tryd.prog 40 1 = some (1, 9) := by kernel_rfl
theorem fi40_2 : fieldIs Tryd.prog 40 2 = some (2, 24) := by kernel_rfl
theorem fi40_3 : fieldIs Tryd.prog 40 3 = some (3, 24) := by kernel_rfl
theorem sc51 : scal Tryd.prog 51 = true := by kernel_rfl
theorem sz51 : sizeIs Tryd.prog 51 = some 1 := by kernel_rfl
theorem sc52 : scal Tryd.prog 52 = true := by kernel_rfl
theorem sz52 : sizeIs Tryd.prog 52 = some 1 := by kernel_rfl
theorem sz54 : sizeIs Tryd.prog 54 = some 2 := by kernel_rfl
theorem ze54 : zeroIs Tryd.prog 54 = some (vG [Value.pointer none, vL none 0 0]) := by kernel_rfl
theorem fi54_0 : fieldIs Tryd.prog 54 0 = some (0, 51) := by kernel_rfl
theorem fi54_1 : fieldIs Tryd.prog 54 1 = some (1, 52) := by kernel_rfl
theorem sc68 : scal Tryd.prog 68 = true := by kernel_rfl
theorem sz68 : sizeIs Tryd.prog 68 = some 1 := by kernel_rfl
theorem ze68 : zeroIs Tryd.prog 68 = some (vL none 0 0) := by kernel_rfl
theorem ag73 : aggs Tryd.prog 73 = true := by kernel_rfl
theorem sz73 : sizeIs Tryd.prog 73 = some 2 := by kernel_rfl
theorem by73 : bytesIs Tryd.prog 73 = some 24 := by kernel_rfl
theorem ze73 : zeroIs Tryd.prog 73 = some (vG [vI 0, vS []]) := by kernel_rfl
theorem fi73_0 : fieldIs Tryd.prog 73 0 = some (0, 3) := by kernel_rfl
theorem fi73_1 : fieldIs Tryd.prog 73 1 = some (1, 9) := by kernel_rfl
theorem sc75 : scal Tryd.prog 75 = true := by kernel_rfl
theorem fi77_0 : fieldIs Tryd.prog 77 0 = some (0, 22) := by kernel_rfl
theorem fi77_1 : fieldIs Tryd.prog 77 1 = some (1, 75) := by kernel_rfl
theorem fi77_2 : fieldIs Tryd.prog 77 2 = some (2, 36) := by kernel_rfl
theorem ag79 : aggs Tryd.prog 79 = true := by kernel_rfl
theorem sz79 : sizeIs Tryd.prog 79 = some 2 := by kernel_rfl
theorem ze79 : zeroIs Tryd.prog 79 = some (vG [vI 0, vI 0]) := by kernel_rfl
theorem fi79_0 : fieldIs Tryd.prog 79 0 = some (0, 3) := by kernel_rfl
theorem fi79_1 : fieldIs Tryd.prog 79 1 = some (1, 25) := by kernel_rfl
theorem ag82 : aggs Tryd.prog 82 = true := by kernel_rfl
theorem sz82 : sizeIs Tryd.prog 82 = some 3 := by kernel_rfl
theorem fi82_0 : fieldIs Tryd.prog 82 0 = some (0, 68) := by kernel_rfl
theorem fi82_1 : fieldIs Tryd.prog 82 1 = some (1, 9) := by kernel_rfl
theorem fi82_2 : fieldIs Tryd.prog 82 2 = some (2, 4) := by kernel_rfl
theorem ze124 : zeroIs Tryd.prog 124 = some (Value.nilFunc) := by kernel_rfl
theorem sz137 : sizeIs Tryd.prog 137 = some 2 := by kernel_rfl
theorem ze137 : zeroIs Tryd.prog 137 = some (vG [Value.map none, vL none 0 0]) := by kernel_rfl
theorem fi137_0 : fieldIs Tryd.prog 137 0 = some (0, 22) := by kernel_rfl
theorem fi137_1 : fieldIs Tryd.prog 137 1 = some (1, 68) := by kernel_rfl
theorem ca9 : Callable Tryd.prog 9 := ⟨Tryd.f9, Tryd.func9, by kernel_rfl, by kernel_rfl⟩
theorem ca10 : Callable Tryd.prog 10 := ⟨Tryd.f10, Tryd.func10, by kernel_rfl, by kernel_rfl⟩
theorem ca12 : Callable Tryd.prog 12 := ⟨Tryd.f12, Tryd.func12, by kernel_rfl, by kernel_rfl⟩
theorem ca14 : Callable Tryd.prog 14 := ⟨Tryd.f14, Tryd.func14, by kernel_rfl, by kernel_rfl⟩
theorem ca15 : Callable Tryd.prog 15 := ⟨Tryd.f15, Tryd.func15, by kernel_rfl, by kernel_rfl⟩
theorem ca17 : Callable Tryd.prog 17 := ⟨Tryd.f17, Tryd.func17, by kernel_rfl, by kernel_rfl⟩
theorem ca18 : Callable Tryd.prog 18 := ⟨Tryd.f18, Tryd.func18, by kernel_rfl, by kernel_rfl⟩
theorem ca19 : Callable Tryd.prog 19 := ⟨Tryd.f19, Tryd.func19, by kernel_rfl, by kernel_rfl⟩
theorem ca20 : Callable Tryd.prog 20 := ⟨Tryd.f20, Tryd.func20, by kernel_rfl, by kernel_rfl⟩
theorem ca23 : Callable Tryd.prog 23 := ⟨Tryd.f23, Tryd.func23, by kernel_rfl, by kernel_rfl⟩
theorem ca24 : Callable Tryd.prog 24 := ⟨Tryd.f24, Tryd.func24, by kernel_rfl, by kernel_rfl⟩
theorem ca25 : Callable Tryd.prog 25 := ⟨Tryd.f25, Tryd.func25, by kernel_rfl, by kernel_rfl⟩
theorem ca26 : Callable Tryd.prog 26 := ⟨Tryd.f26, Tryd.func26, by kernel_rfl, by kernel_rfl⟩
theorem ca27 : Callable Tryd.prog 27 := ⟨Tryd.f27, Tryd.func27, by kernel_rfl, by kernel_rfl⟩
theorem ca28 : Callable Tryd.prog 28 := ⟨Tryd.f28, Tryd.func28, by kernel_rfl, by kernel_rfl⟩
theorem ca29 : Callable Tryd.prog 29 := ⟨Tryd.f29, Tryd.func29, by kernel_rfl, by kernel_rfl⟩
theorem ca30 : Callable Tryd.prog 30 := ⟨Tryd.f30, Tryd.func30, by kernel_rfl, by kernel_rfl⟩
theorem ca31 : Callable Tryd.prog 31 := ⟨Tryd.f31, Tryd.func31, by kernel_rfl, by kernel_rfl⟩
theorem ca32 : Callable Tryd.prog 32 := ⟨Tryd.f32, Tryd.func32, by kernel_rfl, by kernel_rfl⟩
theorem ca34 : Callable Tryd.prog 34 := ⟨Tryd.f34, Tryd.func34, by kernel_rfl, by kernel_rfl⟩
theorem ca37 : Callable Tryd.prog 37 := ⟨Tryd.f37, Tryd.func37, by kernel_rfl, by kernel_rfl⟩
theorem ca38 : Callable Tryd.prog 38 := ⟨Tryd.f38, Tryd.func38, by kernel_rfl, by kernel_rfl⟩
theorem ca39 : Callable Tryd.prog 39 := ⟨Tryd.f39, Tryd.func39, by kernel_rfl, by kernel_rfl⟩
theorem ca40 : Callable Tryd.prog 40 := ⟨Tryd.f40, Tryd.func40, by kernel_rfl, by kernel_rfl⟩
theorem ca49 : Callable Tryd.prog 49 := ⟨Tryd.f49, Tryd.func49, by kernel_rfl, by kernel_rfl⟩
theorem ca50 : Callable Tryd.prog 50 := ⟨Tryd.f50, Tryd.func50, by kernel_rfl, by kernel_rfl⟩
theorem ca52 : Callable Tryd.prog 52 := ⟨Tryd.f52, Tryd.func52, by kernel_rfl, by kernel_rfl⟩
theorem ca55 : Callable Tryd.prog 55 := ⟨Tryd.f55, Tryd.func55, by kernel_rfl, by kernel_rfl⟩
theorem ca60 : Callable Tryd.prog 60 := ⟨Tryd.f60, Tryd.func60, by kernel_rfl, by kernel_rfl⟩
theorem ca62 : Callable Tryd.prog 62 := ⟨Tryd.f62, Tryd.func62, by kernel_rfl, by kernel_rfl⟩
theorem ca63 : Callable Tryd.prog 63 := ⟨Tryd.f63, Tryd.func63, by kernel_rfl, by kernel_rfl⟩
theorem ca72 : Callable Tryd.prog 72 := ⟨Tryd.f72, Tryd.func72, by kernel_rfl, by kernel_rfl⟩
theorem ca73 : Callable Tryd.prog 73 := ⟨Tryd.f73, Tryd.func73, by kernel_rfl, by kernel_rfl⟩
theorem ca74 : Callable Tryd.prog 74 := ⟨Tryd.f74, Tryd.func74, by kernel_rfl, by kernel_rfl⟩
theorem ca75 : Callable Tryd.prog 75 := ⟨Tryd.f75, Tryd.func75, by kernel_rfl, by kernel_rfl⟩
theorem ca76 : Callable Tryd.prog 76 := ⟨Tryd.f76, Tryd.func76, by kernel_rfl, by kernel_rfl⟩
theorem ca86 : Callable Tryd.prog 86 := ⟨Tryd.f86, Tryd.func86, by kernel_rfl, by kernel_rfl⟩
theorem ca87 : Callable Tryd.prog 87 := ⟨Tryd.f87, Tryd.func87, by kernel_rfl, by kernel_rfl⟩
theorem ca88 : Callable Tryd.prog 88 := ⟨Tryd.f88, Tryd.func88, by kernel_rfl, by kernel_rfl⟩
theorem ca89 : Callable Tryd.prog 89 := ⟨Tryd.f89, Tryd.func89, by kernel_rfl, by kernel_rfl⟩
theorem ca90 : Callable Tryd.prog 90 := ⟨Tryd.f90, Tryd.func90, by kernel_rfl, by kernel_rfl⟩
theorem ca91 : Callable Tryd.prog 91 := ⟨Tryd.f91, Tryd.func91, by kernel_rfl, by kernel_rfl⟩
theorem ca93 : Callable Tryd.prog 93 := ⟨Tryd.f93, Tryd.func93, by kernel_rfl, by kernel_rfl⟩
theorem ca94 : Callable Tryd.prog 94 := ⟨Tryd.f94, Tryd.func94, by kernel_rfl, by kernel_rfl⟩
theorem ca98 : Callable Tryd.prog 98 := ⟨Tryd.f98, Tryd.func98, by kernel_rfl, by kernel_rfl⟩
theorem ca99 : Callable Tryd.prog 99 := ⟨Tryd.f99, Tryd.func99, by kernel_rfl, by kernel_rfl⟩
theorem ca100 : Callable Tryd.prog 100 := ⟨Tryd.f100, Tryd.func100, by kernel_rfl, by kernel_rfl⟩
theorem ca101 : Callable Tryd.prog 101 := ⟨Tryd.f101, Tryd.func101, by kernel_rfl, by kernel_rfl⟩
theorem mixed : Tryd.prog.follows .mixedOrders = true := by kernel_rfl
end Ty
end Go.Proofs.YtbfiibgmgopnaaaDoor

namespace Go.GV
open Go.RowKit Go.MapKept
structure MapK {κ : Type} (P : Program) (kt : TypeId) (f : κ → Value) : Prop where
  ex : ∃ d, P.underlying kt = some d ∧ (∀ a, IsKey d (f a)) ∧ ∀ a b, f a = f b → a = b
theorem mapK_s {P : Program} {kt : TypeId} (h : P.underlying kt = some .string) : MapK P kt vS := ⟨_, h, fun _ => trivial, fun a b h => by simpa using h⟩
def Born (es : Array MapEntry) (clock : Nat) : Prop := (es.toList.map (·.born)).Nodup ∧ ∀ e ∈ es.toList, e.born < clock
theorem Born.nil : Born #[] 0 := ⟨List.nodup_nil, fun _ h => by simp at h⟩
theorem Born.push {es : Array MapEntry} {clock : Nat} (h : Born es clock) (k v : Value) : Born (es.push ⟨k, v, clock⟩) (clock + 1) := by
  refine ⟨?_, fun e he => ?_⟩
  · rw [Array.toList_push, List.map_append, List.nodup_append]
    refine ⟨h.1, by simp, fun a ha b hb => ?_⟩
    simp only [List.map_cons, List.map_nil, List.mem_singleton] at hb
    subst hb
    obtain ⟨e, he, rfl⟩ := List.mem_map.1 ha
    have := h.2 e he
    omega
  · rw [Array.toList_push, List.mem_append, List.mem_singleton] at he
    rcases he with he | rfl
    · have := h.2 e he; omega
    · exact Nat.lt_succ_self _
theorem Born.modify {es : Array MapEntry} {clock : Nat} (h : Born es clock) (i : Nat) (g : MapEntry → MapEntry) (hg : ∀ e, (g e).born = e.born) : Born (es.modify i g) clock := by
  have e1 : (es.modify i g).toList.map (·.born) = es.toList.map (·.born) := by
    apply List.ext_getElem?
    intro j
    simp only [Array.toList_modify, List.getElem?_map, List.getElem?_modify]
    by_cases hij : i = j
    · subst hij
      cases es.toList[i]? <;> simp [hg]
    · simp [hij]
  refine ⟨by rw [e1]; exact h.1, fun e he => ?_⟩
  have : e.born ∈ es.toList.map (·.born) := by rw [← e1]; exact List.mem_map.2 ⟨e, he, rfl⟩
  obtain ⟨e', he', h2⟩ := List.mem_map.1 this
  have := h.2 e' he'
  omega
def Ent.mp {κ : Type} (f : κ → Value) (b : Nat) (l : List (κ × Value)) : Ent :=
  ⟨some b, fun o => ∃ es clock, o = some (.map es clock) ∧ es.toList.map (fun e => (e.key, e.val)) = l.map (fun p => (f p.1, p.2)) ∧ Born es clock⟩
def lk {κ : Type} [DecidableEq κ] : List (κ × Value) → κ → Option Value
  | [], _ => none
  | (a, v) :: l, k => if k = a then some v else lk l k
def upd {κ : Type} [DecidableEq κ] : List (κ × Value) → κ → Value → List (κ × Value)
  | [], k, v => [(k, v)]
  | (a, u) :: l, k, v => if k = a then (k, v) :: l else (a, u) :: upd l k v
section
variable {κ : Type} [DecidableEq κ] {a k : κ} {v u : Value} {l : List (κ × Value)} {r : Option Value}
theorem lk_nil : lk [] k = none := rfl
theorem lk_hit (h : k = a) : lk ((a, v) :: l) k = some v := if_pos h
theorem lk_ne (h : k ≠ a) (hr : lk l k = r) : lk ((a, v) :: l) k = r := (if_neg h).trans hr
theorem upd_new (h : lk l k = none) : upd l k v = l ++ [(k, v)] := by
  induction l with
  | nil => rfl
  | cons p l ih =>
    obtain ⟨a, u⟩ := p
    unfold lk at h
    split at h
    · cases h
    · rename_i hne
      unfold upd
      rw [if_neg hne, ih h]; rfl
theorem find_lk {d : TypeDesc} {f : κ → Value} (hd : ∀ a, IsKey d (f a)) (hi : ∀ a b, f a = f b → a = b) (k : κ) : ∀ (es : List MapEntry) (l : List (κ × Value)) (i : Nat), es.map (fun e => (e.key, e.val)) = l.map (fun p => (f p.1, p.2)) →
    (Instr.findNow d (f k) es i = some none ∧ lk l k = none) ∨ ∃ j v, Instr.findNow d (f k) es i = some (some (i + j, v)) ∧ lk l k = some v ∧ (∃ e, es[j]? = some e ∧ e.key = f k) ∧ ∀ u, (upd l k u).map (fun p => (f p.1, p.2)) = (l.map (fun p => (f p.1, p.2))).set j (f k, u)
  | [], [], i, _ => .inl ⟨rfl, rfl⟩
  | [], _ :: _, i, h => by cases h
  | _ :: _, [], i, h => by cases h
  | e :: es, (a, v) :: l, i, h => by
    simp only [List.map_cons, List.cons.injEq, Prod.mk.injEq] at h
    obtain ⟨⟨h1, h2⟩, h3⟩ := h
    obtain ⟨r, hr, hiff⟩ := sameNow_of_keys (hd k) (h1 ▸ hd a : IsKey d e.key)
    cases r with
    | true =>
      have hk : k = a := hi _ _ ((hiff.1 rfl).trans h1)
      refine .inr ⟨0, v, by simp [Instr.findNow, hr, h2], by rw [lk, if_pos hk], ⟨e, rfl, (hiff.1 rfl).symm⟩, fun u => ?_⟩
      simp [upd, if_pos hk]
    | false =>
      have hne : k ≠ a := fun q => by have := hiff.2 (by rw [h1, q]); cases this
      rcases find_lk hd hi k es l (i + 1) h3 with ⟨x1, x2⟩ | ⟨j, u, x1, x2, x3, x4⟩
      · exact .inl ⟨by simp [Instr.findNow, hr, x1], by rw [lk, if_neg hne, x2]⟩
      · refine .inr ⟨j + 1, u, by simp [Instr.findNow, hr, x1]; omega, by rw [lk, if_neg hne, x2], by simpa using x3, fun u => ?_⟩
        rw [upd, if_neg hne, List.map_cons, x4 u]; rfl
end
theorem mp_at {κ : Type} {f : κ → Value} {b : Nat} {l : List (κ × Value)} {w : World} (h : (Ent.mp f b l).at w) : ∃ es clock, w.heap[b]? = some (.map es clock) ∧ es.toList.map (fun e => (e.key, e.val)) = l.map (fun p => (f p.1, p.2)) ∧ Born es clock := by
  simpa [Ent.at, Ent.mp] using h.1
section
variable {E : Env} {P : Program} {x y z : Operand} {dst : Option Nat} {t t' ty u : TypeId} {pos : String} {af : Array Edge} {g : Option (Nat × Bool)} {κ : Type} [DecidableEq κ]
theorem run_lookup_mp {f : κ → Value} {b : Nat} {l : List (κ × Value)} {w : World} {kt et : TypeId} {zv : Value} {k : κ} (hat : (Ent.mp f b l).at w) (ht : P.underlying t = some (.map kt et)) (hK : MapK P kt f) (hz : zeroIs P et = some zv) (ok : Bool) :
    (Instr.lookup t (.map (some b)) (f k) ok).run P w = .ok (if ok then .tuple #[(lk l k).getD zv, .bool (lk l k).isSome] else (lk l k).getD zv) w := by
  obtain ⟨es, clock, hb, hes, hborn⟩ := mp_at hat
  obtain ⟨d, hd, hkey, hinj⟩ := hK.ex
  unfold Instr.lookup
  simp only [Sem.run_bind, run_underlying ht, Result.andThen_ok, MapKept.run_getObj_map hb, Sem.run_pure, MapKept.run_checkKey hd (hkey k)]
  rcases find_lk hkey hinj k es.toList l 0 hes with ⟨h1, h2⟩ | ⟨j, v, h1, h2, _⟩
  · simp only [MapKept.run_findKey hd h1, Result.andThen_ok, Sem.run_bind, run_zeroValue_is hz, Sem.run_pure, h2]
    cases ok <;> rfl
  · simp only [MapKept.run_findKey hd h1, Result.andThen_ok, Sem.run_bind, Sem.run_pure, h2]
    cases ok <;> rfl
theorem x_lookup_ok {S : List Nat} {w0 : World} {L : List Ent} (j : Nat) {f : κ → Value} {b : Nat} {l : List (κ × Value)} {kt et : TypeId} {zv : Value} {k : κ} {r : Option Value} (hx : ev E x = .map (some b)) (hy : ev E y = f k) (hj : L[j]? = some (Ent.mp f b l)) (ht : P.underlying t = some (.map kt et)) (hK : MapK P kt f) (hz : zeroIs P et = some zv) (hr : lk l k = r) :
    ∀ w, St S w0 w L → (execOp (ev E) ⟨dst, .lookup t x y true, ty, pos, af, g⟩).run P w = .ok (.value (.tuple #[r.getD zv, vB r.isSome])) w := by
  intro w hS
  subst hr
  simp only [execOp, hx, hy]
  show Sem.run P (do let v ← Instr.lookup t (.map (some b)) (f k) true; pure (Next.value v)) w = _
  rw [Sem.run_bind, run_lookup_mp (k := k) (hS.mem hj) ht hK hz true]; rfl
theorem x_lookup_okv {S : List Nat} {w0 : World} {L : List Ent} (j : Nat) {f : κ → Value} {b : Nat} {l : List (κ × Value)} {kt et : TypeId} {zv v : Value} {o : Bool} {k : κ} {r : Option Value} (hx : ev E x = .map (some b)) (hy : ev E y = f k) (hj : L[j]? = some (Ent.mp f b l)) (ht : P.underlying t = some (.map kt et)) (hK : MapK P kt f) (hz : zeroIs P et = some zv) (hr : lk l k = r) (hv : r.getD zv = v) (ho : r.isSome = o) :
    ∀ w, St S w0 w L → (execOp (ev E) ⟨dst, .lookup t x y true, ty, pos, af, g⟩).run P w = .ok (.value (.tuple #[v, vB o])) w := by
  subst hv; subst ho; exact x_lookup_ok j hx hy hj ht hK hz hr
omit [DecidableEq κ] in
theorem O_makeMap {S : List Nat} {w0 : World} {L : List Ent} {K : Value → List Ent → Prop} (f : κ → Value) (k : ∀ b, K (.map (some b)) (Ent.mp f b [] :: L)) : OpJ P S w0 E L ⟨dst, .makeMap t none, ty, pos, af, g⟩ K := by
  intro w hS
  refine ⟨_, _, _, .inl ?_, hS.alloc (.map #[] 0) (Ent.mp f w.heap.size []) rfl ⟨_, _, rfl, rfl, Born.nil⟩, k w.heap.size⟩
  have hr : (Instr.makeMap t none).run P w = .ok (.map (some w.heap.size)) (w.alloc (.map #[] 0)) := by
    simp [Instr.makeMap, newObj, Sem.run]
  simp only [execOp]
  show Sem.run P (do let v ← Instr.makeMap t none; pure (Next.value v)) w = _
  rw [Sem.run_bind, hr]; rfl
theorem run_update_mp {f : κ → Value} {b : Nat} {l : List (κ × Value)} {w : World} {kt et : TypeId} {k : κ} {v : Value} (hat : (Ent.mp f b l).at w) (ht : P.underlying t = some (.map kt et)) (hK : MapK P kt f) :
    ∃ w', (Instr.mapUpdate t (.map (some b)) (f k) v).run P w = .ok () w' ∧ Fr [b] w w' ∧ (Ent.mp f b (upd l k v)).prop w'.heap[b]? := by
  obtain ⟨es, clock, hb, hes, hborn⟩ := mp_at hat
  obtain ⟨d, hd, hkey, hinj⟩ := hK.ex
  have fr : ∀ o, Fr [b] w { w with heap := w.heap.setIfInBounds b o } := fun o => ⟨rfl, rfl, rfl, by simp, fun i hi hn => (MapKept.heap_set (o' := o) hb).2 i (by simpa using hn)⟩
  unfold Instr.mapUpdate
  simp only [Sem.run_bind, run_underlying ht, Result.andThen_ok, MapKept.run_getObj_map hb, MapKept.run_checkKey hd (hkey k)]
  rcases find_lk hkey hinj k es.toList l 0 hes with ⟨h1, h2⟩ | ⟨j, v', h1, h2, ⟨e, he, hek⟩, h4⟩
  · simp only [MapKept.run_findKey hd h1, Result.andThen_ok, MapKept.run_setObj_map _ hb]
    refine ⟨_, rfl, fr _, _, _, (MapKept.heap_set hb).1, ?_, hborn.push _ _⟩
    rw [upd_new h2]
    simp [hes]
  · have he' : es[j]? = some e := by simpa using he
    simp only [MapKept.run_findKey hd h1, Result.andThen_ok, Nat.zero_add, he', Option.map_some, Option.getD_some, hek, MapKept.run_keyThatStays (hkey k), MapKept.run_setObj_map _ hb, Sem.run_bind]
    refine ⟨_, rfl, fr _, _, _, (MapKept.heap_set hb).1, ?_, hborn.modify _ _ fun _ => rfl⟩
    rw [h4 v, ← hes]
    apply List.ext_getElem?
    intro i
    simp only [Array.toList_modify, List.getElem?_map, List.getElem?_modify, List.getElem?_set, List.length_map]
    by_cases hij : j = i
    · subst hij
      have hlt : j < es.toList.length := (List.getElem?_eq_some_iff.1 he).1
      have hlt' : j < es.size := by simpa using hlt
      simp [hlt']
    · simp [hij]
theorem O_mapUpdate {S : List Nat} {w0 : World} {L : List Ent} {K : Value → List Ent → Prop} (j : Nat) {f : κ → Value} {b : Nat} {l : List (κ × Value)} {kt et : TypeId} {k : κ} {v : Value} (l' : List (κ × Value)) (L' : List Ent) (hx : ev E x = .map (some b)) (hy : ev E y = f k) (hz : ev E z = v) (hj : L[j]? = some (Ent.mp f b l)) (ht : P.underlying t = some (.map kt et)) (hK : MapK P kt f)
    (hl : upd l k v = l') (hL : L.set j (Ent.mp f b l') = L') (kk : K undef L') : OpJ P S w0 E L ⟨dst, .mapUpdate t x y z, ty, pos, af, g⟩ K := by
  intro w hS
  subst hl; subst hL
  obtain ⟨w', hr, hF, hB⟩ := run_update_mp (P := P) (t := t) (k := k) (v := v) (hS.mem hj) ht hK
  refine ⟨undef, _, w', .inr ⟨?_, rfl⟩, hS.writeAt hj b rfl rfl hF hB, kk⟩
  simp only [execOp, hx, hy, hz]
  show Sem.run P (do Instr.mapUpdate t (.map (some b)) (f k) v; pure Next.skip) w = _
  rw [Sem.run_bind, hr]; rfl
theorem O_insert {S : List Nat} {w0 : World} {L : List Ent} {K : Value → List Ent → Prop} (j : Nat) {f : κ → Value} {b : Nat} {l : List (κ × Value)} {kt et : TypeId} {k : κ} {v : Value} (l' : List (κ × Value)) (L' : List Ent) (hx : ev E x = .map (some b)) (hy : ev E y = f k) (hz : ev E z = v) (hj : L[j]? = some (Ent.mp f b l)) (ht : P.underlying t = some (.map kt et)) (hK : MapK P kt f)
    (hl : upd l k v = l') (hL : L.set j (Ent.mp f b l') = L') (kk : K undef L') : OpJ P S w0 E L ⟨dst, .insert t x y z, ty, pos, af, g⟩ K := by
  intro w hS
  subst hl; subst hL
  obtain ⟨w', hr, hF, hB⟩ := run_update_mp (P := P) (t := t) (k := k) (v := v) (hS.mem hj) ht hK
  refine ⟨undef, _, w', .inr ⟨?_, rfl⟩, hS.writeAt hj b rfl rfl hF hB, kk⟩
  simp only [execOp, hx, hy, hz]
  show Sem.run P (do Instr.mapUpdate t (.map (some b)) (f k) v; pure Next.skip) w = _
  rw [Sem.run_bind, hr]; rfl
end
section
variable {E : Env} {P : Program} {w : World} {x y : Operand} {dst : Option Nat} {t t' ty : TypeId} {pos : String} {af : Array Edge} {g : Option (Nat × Bool)}
def isFn : Value → Bool
  | .func .. => true
  | _ => false
end
end Go.GV

namespace Go.GV
open Go.RowKit Go.MapKept
def Ent.mx (b : Nat) (es : Array MapEntry) (clock : Nat) : Ent := ⟨some b, fun o => o = some (.map es clock)⟩
def Ent.rng {κ : Type} (f : κ → Value) (b bm : Nat) (es : Array MapEntry) (clock : Nat) (left : List (κ × Value)) (cur : Option (κ × Value)) : Ent :=
  ⟨some b, fun o => ∃ seen, o = some (.mapIter (some bm) clock seen clock) ∧ (leftOf es seen).toList.map (fun e => (e.key, e.val)) = left.map (fun p => (f p.1, p.2)) ∧ ∀ p, cur = some p → ∃ e ∈ es.toList, seen.back? = some e.born ∧ e.key = f p.1 ∧ e.val = p.2⟩
def Holds' {κ : Type} (f : κ → Value) (es : Array MapEntry) (l : List (κ × Value)) : Prop := es.toList.map (fun e => (e.key, e.val)) = l.map (fun p => (f p.1, p.2))
section
variable {E : Env} {P : Program} {x : Operand} {dst : Option Nat} {t ty : TypeId} {pos : String} {af : Array Edge} {g : Option (Nat × Bool)} {κ : Type}
theorem leftOf_none (es : Array MapEntry) : leftOf es #[] = es := by
  unfold leftOf
  exact Array.filter_eq_self.2 (fun _ _ => by simp)
theorem run_next_at (w : World) (ty : TypeId) (it bm clock : Nat) (seen : Array Nat) (es : Array MapEntry) (hi : w.heap[it]? = some (.mapIter (some bm) clock seen clock)) (hb : w.heap[bm]? = some (.map es clock)) (hB : Born es clock) :
    ((leftOf es seen).size = 0 ∧ (Instr.next (.pointer (some ⟨it, 0, none⟩)) false ty).run P w = .ok (.tuple #[.bool false]) w) ∨
    ∃ j, ∃ h : j < (leftOf es seen).size, ∃ w1 : World, (w1.heap = w.heap ∧ w1.os = w.os ∧ w1.output = w.output ∧ w1.tape = w.tape) ∧ (Instr.next (.pointer (some ⟨it, 0, none⟩)) false ty).run P w = .ok (.tuple #[.bool true, ((leftOf es seen)[j]).key, ((leftOf es seen)[j]).val]) { w1 with heap := w1.heap.setIfInBounds it (.mapIter (some bm) clock (seen.push ((leftOf es seen)[j]).born) clock) } := by
  simp only [Instr.next, getObj, Sem.run_bind, Sem.run, hi, hb, Result.andThen, next_test_false seen es clock clock hB.2 (Nat.le_refl _), Bool.false_eq_true, if_false]
  unfold leftOf
  have hmem : ∀ x ∈ (Array.filter (fun e => !seen.contains e.born) es).toList, x.born < clock := fun x hx => hB.2 x (by simp at hx ⊢; exact hx.1)
  generalize Array.filter (fun e => !seen.contains e.born) es = L at hmem ⊢
  have e1 : L.filter (fun x => decide (x.born < clock)) = L := Array.filter_eq_self.2 (fun x hx => by simpa using hmem x (by simpa using hx))
  have e2 : L.filter (fun x => decide (x.born ≥ clock)) = #[] := by
    rw [Array.filter_eq_empty_iff]
    intro x hx
    have := hmem x (by simpa using hx)
    simp
    omega
  simp only [e1, e2, Array.append_empty]
  by_cases h0 : L.size = 0
  · left
    have : L = #[] := Array.eq_empty_of_size_eq_zero h0
    subst this
    refine ⟨rfl, ?_⟩
    simp [choose, Sem.run, Question.forced]
  · right
    have hne : L.isEmpty = false := by simp [Array.isEmpty, h0]
    simp only [hne, Bool.false_eq_true, if_false, Array.empty_append, Array.size_map]
    have hch : ∃ (j : Nat) (w1 : World), j < L.size ∧ (w1.heap = w.heap ∧ w1.os = w.os ∧ w1.output = w.output ∧ w1.tape = w.tape) ∧ (choose (Question.mapNext L.size)).run P w = .ok j w1 := by
      by_cases hf : L.size ≤ 1
      · exact ⟨0, w, by omega, ⟨rfl, rfl, rfl, rfl⟩, by simp [choose, Sem.run, Question.forced, hf]⟩
      · exact ⟨_, w.drew, Nat.mod_lt _ (by omega), ⟨rfl, rfl, rfl, rfl⟩, by
          simp only [choose, Sem.run, Question.forced, decide_eq_true_eq, hf, if_false, Question.cut]
          rfl⟩
    obtain ⟨j, w1, hj, hal, hrun⟩ := hch
    refine ⟨j, hj, w1, hal, ?_⟩
    have hi' : w1.heap[it]? = some (.mapIter (some bm) clock seen clock) := by rw [hal.1]; exact hi
    have hset : ∀ (o' : Obj), (setObj it o').run P w1 = .ok () { w1 with heap := w1.heap.setIfInBounds it o' } := fun o' => by
      simp only [setObj, Sem.run, hi']
    simp only [hrun, Array.getElem?_map, Array.getElem?_eq_getElem hj, Option.map_some, Sem.run_bind, hset, Result.andThen]
    rfl
theorem filter_erase : ∀ (l : List MapEntry) (j : Nat) (hj : j < l.length), (l.map (·.born)).Nodup → l.filter (fun e => !(e.born == l[j].born)) = l.eraseIdx j
  | x :: l, 0, _, hn => by
    rw [List.map_cons, List.nodup_cons] at hn
    rw [List.eraseIdx_cons_zero, List.filter_cons]
    simp only [List.getElem_cons_zero, beq_self_eq_true, Bool.not_true, Bool.false_eq_true, if_false]
    rw [List.filter_eq_self]
    intro a ha
    rw [Bool.not_eq_true', beq_eq_false_iff_ne]
    intro e
    exact hn.1 (List.mem_map.2 ⟨a, ha, e⟩)
  | x :: l, j + 1, hj, hn => by
    rw [List.map_cons, List.nodup_cons] at hn
    rw [List.eraseIdx_cons_succ, List.filter_cons]
    have hj' : j < l.length := by simpa using hj
    simp only [List.getElem_cons_succ]
    have : (x.born == l[j].born) = false := by
      rw [beq_eq_false_iff_ne]
      intro e
      exact hn.1 (List.mem_map.2 ⟨l[j], List.getElem_mem _, e.symm⟩)
    rw [this]
    simp only [Bool.not_false, if_true]
    rw [filter_erase l j hj' hn.2]
theorem leftOf_push (es : Array MapEntry) (clock : Nat) (hB : Born es clock) (seen : Array Nat) (j : Nat) (h : j < (leftOf es seen).size) : (leftOf es (seen.push (leftOf es seen)[j].born)).toList = (leftOf es seen).toList.eraseIdx j := by
  have hn : ((leftOf es seen).toList.map (·.born)).Nodup := by
    unfold leftOf
    rw [Array.toList_filter]
    exact List.Nodup.sublist (List.Sublist.map _ List.filter_sublist) hB.1
  rw [← filter_erase _ j (by simpa using h) hn]
  simp only [Array.getElem_toList]
  generalize (leftOf es seen)[j].born = b
  unfold leftOf
  rw [Array.toList_filter, Array.toList_filter, List.filter_filter]
  congr 1
  funext e
  simp only [Array.contains_push, Bool.not_or]
  cases seen.contains e.born <;> cases (e.born == b) <;> rfl
theorem map_eraseIdx {α β : Type} (f : α → β) : ∀ (l : List α) (n : Nat), (l.eraseIdx n).map f = (l.map f).eraseIdx n
  | [], n => by simp
  | _ :: _, 0 => rfl
  | x :: l, n + 1 => by simp only [List.eraseIdx_cons_succ, List.map_cons, map_eraseIdx f l n]
end
def wpV (a : Nat) (o : Nat) : Value := .pointer (some ⟨a, o, none⟩)
def putV : List Value → List Nat → List Int → Nat → List Value
  | cs, [], _, _ => cs
  | cs, o :: os, vs, i => putV (cs.set o (vI (vs.getD i 0))) os vs (i + 1)
section
variable {E : Env} {P : Program} {x y : Operand} {dst : Option Nat} {t ty : TypeId} {pos : String} {af : Array Edge} {g : Option (Nat × Bool)}
end
def kT {κ : Type} (s : κ) : κ × Value := (s, vB true)
section
variable {κ : Type} [DecidableEq κ]
def addK (l : List κ) (s : κ) : List κ := if s ∈ l then l else l ++ [s]
def hasK (l : List κ) (s : κ) : Bool := decide (s ∈ l)
end
end Go.GV

namespace Go.GV
theorem lt_ {p : Prop} (h : p := by first | omega | (simp only [List.length_append, List.length_cons, List.length_nil]; omega) | (simp; omega) | (simp_all; omega) | (simp_all; done)) : p := h
theorem hy_ {p : Prop} (h : p := by first | omega | assumption | (simp only [List.length_append, List.length_cons, List.length_nil]; omega) | (simp only [sub, List.length_drop, List.length_take]; omega) | (simp; omega) | (simp_all; done) | (simp_all; omega) | decide) : p := h
theorem st_all {cs vs : List Value} {n : Nat} (h : Nat.ble cs.length (0 + n) = true) : cs.take 0 ++ (vs ++ cs.drop (0 + n)) = vs := by
  rw [List.drop_of_length_le (Nat.le_of_ble_eq_true h), List.append_nil]; rfl
section
variable {n : Dim} {S : List Nat} {w0 : World} {P : Program} {ops : Array Oper} {Q : Post} {E : Env} {L Lg Lu : List Ent} {us : List Nat} {fuel : Nat} {listed : Array Bool}
theorem jr_ {o : Oper} {rest : List Oper} (v : Value) (h : JO P n S w0 ops rest Q (put E o.dst v) L) (hfit : fit n E o = true := by rfl) (hw : wants ops E o := by exact trivial) (hr : ∀ w, St S w0 w L → (execOp (ev E) o).run P w = .ok (.value v) w := by exact fun _ _ => rfl) : JO P n S w0 ops (o :: rest) Q E L := JO_read v hfit hw hr h
theorem js_ {o : Oper} {rest : List Oper} (v : Value) (hr : ∀ {w}, (execOp (ev E) o).run P w = .ok (.value v) w) (h : JO P n S w0 ops rest Q (put E o.dst v) L) (hfit : fit n E o = true := by rfl) (hw : wants ops E o := by exact trivial) : JO P n S w0 ops (o :: rest) Q E L := JO_read v hfit hw (fun _ _ => hr) h
theorem jg_ {o : Oper} {rest : List Oper} {t b : Bool} {j : Nat} (hg : t = b) (v : Value) (hr : ∀ {w}, (execOp (ev E) o).run P w = .ok (.value v) w) (h : JO P n S w0 ops rest Q (put E o.dst v) L) (hfit : fit n E o = true := by rfl) (h1 : o.guard = some (j, b) := by rfl) (h2 : gval ops E j = some t := by rfl) : JO P n S w0 ops (o :: rest) Q E L := JO_read v hfit (by unfold wants; rw [h1]; exact ⟨t, h2, hg⟩) (fun _ _ => hr) h
theorem jt_ (i : Nat) {o : Oper} (v : Value) (hi : ops[i]? = some o) (hv : ∀ w, St S w0 w Lg → (execOp (ev E) o).run P w = .ok (.value v) w) (h : JA P n S w0 ops Q Lg us Lu fuel (listed.setIfInBounds i true) (put E o.dst v) L)
    (hs : Region.noSelect ops = true := by kernel_rfl) (hf : Region.free .any ops listed i = true := by kernel_rfl) (hr : (Region.ready .any ops listed).contains i = true := by kernel_rfl) (hu : us.contains i = false := by rfl)
    (hQ : ∀ c a w, Q (.panic c) (a.put o.dst v) w → Q (.panic c) a w := by exact fun _ _ _ h => h) (hfit : fit n E o = true := by rfl) (hw : wants ops E o := by exact trivial) : JA P n S w0 ops Q Lg us Lu (fuel + 1) listed E L := JA_take i v hi hs hf hr hu hQ hfit hw hv h
end
end Go.GV

namespace Go.GV
open Go.RowKit Go.Sort
def Lown (L : List Ent) : List Nat := L.filterMap Ent.own
theorem lown_mem {L : List Ent} : ∀ b ∈ Lown L, ∃ e ∈ L, e.own = some b := fun b h => by
  obtain ⟨e, he, ho⟩ := List.mem_filterMap.1 h
  exact ⟨e, he, ho⟩
theorem lown_in {L : List Ent} : ∀ e ∈ L, ∀ b, e.own = some b → b ∈ Lown L := fun e he _ ho => List.mem_filterMap.2 ⟨e, he, ho⟩
section
variable {α : Type} [Inhabited α] {f : α → Value} {w : World} {e : TypeId} {c : Nat} {xs : List α}
end
def subA (A : Option Addr) (cap lo sz : Nat) : Option Addr := if cap = lo then A else A.map (·.add (lo * sz))
section
variable {E : Env} {P : Program} {w : World} {x y : Operand} {dst : Option Nat} {t t' ty e : TypeId} {pos : String} {af : Array Edge} {g : Option (Nat × Bool)}
theorem x_subrow {A : Option Addr} {len cap n lo hi : Nat} {olo ohi : Option Operand} (hx : ev E x = .slice A len cap) (ht : P.underlying t = some (.slice e)) (hn : sizeIs P e = some n) (hlo : olo.map (ev E) = some (vI (lo : Int)) ∨ (olo.map (ev E) = none ∧ lo = 0)) (hhi : ohi.map (ev E) = some (vI (hi : Int)) ∨ (ohi.map (ev E) = none ∧ hi = len))
    (h1 : lo ≤ hi) (h2 : hi ≤ cap) : (execOp (ev E) ⟨dst, .slice t x olo ohi none, ty, pos, af, g⟩).run P w = .ok (.value (.slice (subA A cap lo n) (hi - lo) (cap - lo))) w := by
  have e1 : (0 : Int) ≤ (hi : Int) ∧ (hi : Int) ≤ ((cap : Nat) : Int) := by omega
  have e2 : (0 : Int) ≤ (lo : Int) ∧ (lo : Int) ≤ ((hi : Nat) : Int) := by omega
  have hr : (Instr.sliceAt t (.slice A len cap) (olo.map (ev E)) (ohi.map (ev E)) none).run P w = .ok (.slice (subA A cap lo n) (hi - lo) (cap - lo)) w := by
    rcases hlo with hlo | ⟨hlo, rfl⟩ <;> rcases hhi with hhi | ⟨hhi, rfl⟩ <;> rw [hlo, hhi]
    · simp only [Instr.sliceAt, Instr.slice, Instr.sliceBounds, Instr.sliceBound, asIntOf, run_underlying ht, run_sizeOf_is hn, Sem.run_bind, Sem.run_pure, Result.andThen_ok, if_pos e1, if_pos e2, Int.toNat_natCast]; rfl
    · simp only [Instr.sliceAt, Instr.slice, Instr.sliceBounds, Instr.sliceBound, asIntOf, run_underlying ht, run_sizeOf_is hn, Sem.run_bind, Sem.run_pure, Result.andThen_ok, if_pos e2, Int.toNat_natCast]; rfl
    · simp only [Instr.sliceAt, Instr.slice, Instr.sliceBounds, Instr.sliceBound, asIntOf, run_underlying ht, run_sizeOf_is hn, Sem.run_bind, Sem.run_pure, Result.andThen_ok, if_pos e1, Int.toNat_natCast]; rfl
    · simp only [Instr.sliceAt, Instr.slice, Instr.sliceBounds, run_underlying ht, run_sizeOf_is hn, Sem.run_bind, Sem.run_pure, Result.andThen_ok]; rfl
  simp only [execOp, hx]
  show Sem.run P (do let v ← Instr.sliceAt t (.slice A len cap) (olo.map (ev E)) (ohi.map (ev E)) none; pure (Next.value v)) w = _
  rw [Sem.run_bind, hr]; rfl
theorem row_le {A : Option Addr} {n c sz : Nat} {cs : List Value} (h : (Ent.row (.slice A n c) e sz n cs).at w) : n ≤ c := by
  rcases (row_owns h).2 with ⟨h1, h2⟩ | ⟨g, cap, cur, h1, _, ho, h3, h4, h5, h6⟩
  · omega
  · cases h1; exact h3
end
end Go.GV

namespace Go.GV
open Go.RowKit
def methIs (P : Program) (t : TypeId) (name : String) : Option FuncId := match P.info? t with
  | some i => match i.methods.find? (·.name == name) with
    | some m => if m.path.toList.isEmpty then (match m.func, P.underlying t with
      | some (f, false), some (.struct _) => some f
      | _, _ => none) else none
    | none => none
  | none => none
section
variable {E : Env} {P : Program} {w : World} {x : Operand} {dst : Option Nat} {t ty : TypeId} {pos : String} {af : Array Edge} {g : Option (Nat × Bool)}
theorem run_eq_ptr {e : TypeId} {b : Option Addr} (ht : P.underlying t = some (.pointer e)) : (Op.equal t (.pointer none) (.pointer b)).run P w = .ok b.isNone w := by
  show Sem.run P (Op.equalIn Op.maxDepth t (.pointer none) (.pointer b)) w = _
  have hd : Op.maxDepth = (Op.maxDepth - 1) + 1 := by decide
  rw [hd]
  unfold Op.equalIn
  rw [Sem.run_bind, run_underlying ht]
  rfl
theorem run_eq_ptr2 {e : TypeId} {a : Addr} (ht : P.underlying t = some (.pointer e)) : (Op.equal t (.pointer (some a)) (.pointer none)).run P w = .ok false w := by
  show Sem.run P (Op.equalIn Op.maxDepth t (.pointer (some a)) (.pointer none)) w = _
  have hd : Op.maxDepth = (Op.maxDepth - 1) + 1 := by decide
  rw [hd]
  unfold Op.equalIn
  rw [Sem.run_bind, run_underlying ht]
  rfl
theorem x_eql_nilp {y : Operand} {t' e : TypeId} (ht : P.underlying t = some (.pointer e)) (hx : ev E x = .pointer none) (hy : ev E y = .pointer none) : (execOp (ev E) ⟨dst, .binOp .eql t x y t', ty, pos, af, g⟩).run P w = .ok (.value (vB true)) w := by
  have h := run_eq_ptr (P := P) (w := w) (b := none) ht
  have hb : (binOp .eql t (.pointer none) (.pointer none)).run P w = .ok (vB true) w := by
    show Sem.run P (do pure (Value.bool (← Op.equal t (.pointer none) (.pointer none)))) w = _
    rw [Sem.run_bind, h]; rfl
  simp only [execOp, hx, hy]
  show Sem.run P (do let v ← binOp .eql t (.pointer none) (.pointer none); pure (Next.value v)) w = _
  rw [Sem.run_bind, hb]; rfl
theorem x_eql_ptr {y : Operand} {t' e : TypeId} {a : Addr} (ht : P.underlying t = some (.pointer e)) (hx : ev E x = .pointer (some a)) (hy : ev E y = .pointer none) : (execOp (ev E) ⟨dst, .binOp .eql t x y t', ty, pos, af, g⟩).run P w = .ok (.value (vB false)) w := by
  have h := run_eq_ptr2 (P := P) (w := w) (a := a) ht
  have hb : (binOp .eql t (.pointer (some a)) (.pointer none)).run P w = .ok (vB false) w := by
    show Sem.run P (do pure (Value.bool (← Op.equal t (.pointer (some a)) (.pointer none)))) w = _
    rw [Sem.run_bind, h]; rfl
  simp only [execOp, hx, hy]
  show Sem.run P (do let v ← binOp .eql t (.pointer (some a)) (.pointer none); pure (Next.value v)) w = _
  rw [Sem.run_bind, hb]; rfl
theorem x_iface {y : TypeId} {v : Value} (hx : ev E x = v) (hu : (match P.underlying y with | some (.interface _) => false | some _ => true | none => false) = true) :
    (execOp (ev E) ⟨dst, .makeInterface y x, ty, pos, af, g⟩).run P w = .ok (.value (.iface y v)) w := by
  cases h : P.underlying y with
  | none => rw [h] at hu; cases hu
  | some d =>
    rw [h] at hu
    simp only [execOp, hx, Instr.makeInterface, Sem.run_bind, run_underlying h, Result.andThen_ok]
    cases d <;> first | rfl | cases hu
end
end Go.GV

namespace Go.GV
open Go.RowKit
theorem RO.again {S : List Nat} {w0 w : World} {A : Option Addr} {cs : List Value} {L : List Ent} (h : RO S w0 A cs) (hS : St S w0 w L) : RO (Lown L) w A cs :=
  h.on (Lc := L) (Lr := []) (by rw [List.append_nil]; exact hS) lown_mem
theorem RO.mono {S S' : List Nat} {w : World} {A : Option Addr} {cs : List Value} (h : RO S w A cs) (hs : ∀ b ∈ S', b ∈ S) : RO S' w A cs := fun j v hv => by
  obtain ⟨a, e, hb, hn, hc⟩ := h j v hv
  exact ⟨a, e, hb, fun hh => hn (hs _ hh), hc⟩
theorem RO.no {S : List Nat} {w : World} {A : Option Addr} {cs : List Value} (h : RO S w A cs) : RO [] w A cs := h.mono (fun _ hb => by cases hb)
theorem RO.fromF {S F : List Nat} {w : World} {A : Option Addr} {cs : List Value} (h : RO (S ++ F) w A cs) : RO S w A cs := h.mono fun _ hb => List.mem_append.2 (.inl hb)
theorem RO.freshF {S F : List Nat} {w : World} {A : Option Addr} {cs : List Value} (h : RO (S ++ F) w A cs) : RO F w A cs := h.mono fun _ hb => List.mem_append.2 (.inr hb)
theorem RO.againF {S F : List Nat} {w0 w : World} {A : Option Addr} {cs : List Value} {L : List Ent} (h : RO (S ++ F) w0 A cs) (hS : St S w0 w L) : RO (Lown L ++ F) w A cs := fun j v hv => by
  obtain ⟨a, e, hb, hn, hc⟩ := h.fromF.again hS j v hv
  refine ⟨a, e, hb, fun hh => ?_, hc⟩
  rcases List.mem_append.1 hh with hh | hh
  · exact hn hh
  · obtain ⟨a2, e2, _, hn2, _⟩ := h.freshF j v hv
    rw [e] at e2; injection e2 with e2; subst e2
    exact hn2 hh
theorem RO.of_rowF {S : List Nat} {w00 w0 w : World} {Lc Lr : List Ent} (hS : St S w0 w (Lc ++ Lr)) (h0 : St [] w00 w (Lc ++ Lr)) (j : Nat) {e : TypeId} {sz n c : Nat} {A : Option Addr} {cs : List Value} (hj : Lr[j]? = some (Ent.row (.slice A n c) e sz n cs)) : RO (Lown Lc ++ List.range w00.heap.size) w A cs := fun jj v hv => by
  obtain ⟨a, ha, hb, hn, hc⟩ := RO.of_rowS (Sc := Lown Lc) hS lown_mem j hj jj v hv
  refine ⟨a, ha, hb, fun hh => ?_, hc⟩
  rcases List.mem_append.1 hh with hh | hh
  · exact hn hh
  · subst ha
    rcases h0.own _ (List.mem_append.2 (.inr (List.mem_of_getElem? hj))) a.block rfl with h1 | h1
    · cases h1
    · exact absurd (List.mem_range.1 hh) (by omega)
theorem lown_range {S : List Nat} {w0 w : World} {L : List Ent} (hS : St S w0 w L) : ∀ b ∈ Lown L, b ∈ List.range w.heap.size := fun b hb => by
  obtain ⟨e, he, ho⟩ := lown_mem b hb
  exact List.mem_range.2 ((hS.hold e he).2 b ho)
theorem St.back {S : List Nat} {w0 wb : World} {L0 : List Ent} (h : St S w0 wb L0) (w : World) (L : List Ent) (h' : St (Lown L0) wb w L) : St S w0 w L := by
  have := St.after (Lc := L0) (Lr := []) (by rw [List.append_nil]; exact h) lown_mem h'
  rwa [List.append_nil] at this
theorem St.base {S : List Nat} {w0 w : World} {L : List Ent} (h : St S w0 w L) : St (Lown L) w w L :=
  ⟨Fr.refl _ _, h.hold, h.dis, fun e he b hb => .inl (lown_in e he b hb)⟩
def GivesW (S : List Nat) (w : World) (φ : Value → List Ent → World → Prop) : Ending → World → Prop :=
  fun e w' => ∃ v L', e = .returned v ∧ φ v L' w' ∧ St S w w' L'
section
variable {P : Program} {n : Dim} {S : List Nat} {w0 : World} {Q : Post} {E : Env} {L : List Ent}
theorem calls_JW {f : FuncId} {fn : Func} {c : Code} {args : Array Value} {w : World} {φ : Value → List Ent → World → Prop} {L0 : List Ent} (S : List Nat) (n : Nat)
    (hf : P.funcs[f]? = some fn) (hb : fn.body = some c) (hm : fn.ntmps = n) (E : Env) (hE : E = envOf 0 args.toList) (hn : Nat.ble args.size n = true)
    (hg : Give S w L0) (h : J P { sz := n } S w c (bodyPost P fn (GivesW S w φ)) E L0) : Calls P f args w (GivesW S w φ) := by
  subst hm
  have hn := Nat.le_of_ble_eq_true hn
  refine (callsIn_wide (n := 0)).1 (callsIn_of_wp (F := Fence.wide) hf hb trivial (h _ w ⟨rfl, ?_, ?_⟩ hg.start) rfl)
  · simp; omega
  · intro t v hv
    rw [hE] at hv
    have h1 : args[t]? = some v := by have := (get_envOf _ _ _ _ hv).2; simpa using this
    obtain ⟨hlt, h2⟩ := Array.getElem?_eq_some_iff.1 h1
    simp only [Array.getD_eq_getD_getElem?]
    rw [Array.getElem?_append_left hlt, h1]
    rfl
theorem JX_retsB {fn : Func} {rs : List ResultVar} {S1 : List Nat} {w1 : World} {φ : Value → List Ent → World → Prop} (vs : List Value) (v : Value) (hr : fn.results = rs.toArray) (hv : ∀ w, St S w0 w L → resAll P E w rs vs)
    (hvv : v = (if h : vs.length = 1 then vs[0] else .tuple vs.toArray)) (L' : List Ent) (hL : ∀ w, St S w0 w L → St S w0 w L') (hB : ∀ w L, St S w0 w L → St S1 w1 w L) (hφ : ∀ w, St S w0 w L' → φ v L' w) (hd : n.ds = [] := by rfl) :
    JX n S w0 (bodyPost P fn (GivesW S1 w1 φ)) .ret E L := by
  intro a w hR hS
  have h0 := JX_rets (P := P) (n := n) (S := S) (w0 := w0) (E := E) (L := L) (φ := fun u L2 => u = v ∧ L2 = L') vs v hr hv hvv L' hL ⟨rfl, rfl⟩ hd a w hR hS
  obtain ⟨hd, u, hu, u2, L2, he, hp, hs⟩ := h0
  obtain ⟨rfl, rfl⟩ := hp
  exact ⟨hd, u, hu, u2, L2, he, hφ w hs, hB w _ hs⟩
theorem JX_retsC {fn : Func} {rs : List ResultVar} {S1 : List Nat} {w1 : World} {φ : Value → List Ent → Prop} (vs : List Value) (v : Value) (hr : fn.results = rs.toArray) (hv : ∀ w, St S w0 w L → resAll P E w rs vs)
    (hvv : v = (if h : vs.length = 1 then vs[0] else .tuple vs.toArray)) (L' : List Ent) (hL : ∀ w, St S w0 w L → St S w0 w L') (hB : ∀ w L, St S w0 w L → St S1 w1 w L) (hφ : φ v L') (hd : n.ds = [] := by rfl) :
    JX n S w0 (bodyPost P fn (Gives S1 w1 φ)) .ret E L := JX_retsB (φ := fun v L _ => φ v L) vs v hr hv hvv L' hL hB (fun _ _ => hφ) hd
def RoundB {X : Type} (n : Dim) (S : List Nat) (w0 : World) (I : X → Prop) (W : X → World → Prop) (Ef : X → Env) (Lf : X → List Ent) (μ : X → Nat) (m : Nat) (Q : Post) : Post :=
  Exit.then (fun a w => ∃ x, I x ∧ W x w ∧ μ x < m ∧ Rep n (Ef x) a ∧ St S w0 w (Lf x)) Q
theorem J_loopB {X : Type} {c : Code} (I : X → Prop) (W : X → World → Prop) (Ef : X → Env) (Lf : X → List Ent) (μ : X → Nat) (x0 : X) (h0 : I x0) (hE : SubE E (Ef x0)) (hL : ∀ w, St S w0 w L → St S w0 w (Lf x0)) (hW : ∀ w, St S w0 w L → W x0 w)
    (round : ∀ x wb, I x → W x wb → St S w0 wb (Lf x) → J P n (Lown (Lf x)) wb c (RoundB n S w0 I W Ef Lf μ (μ x) Q) (Ef x) (Lf x)) : J P n S w0 (.loop c) Q E L := by
  intro a w hR hS
  refine wpIn_loop_ghost (fun m a w => ∃ x, I x ∧ W x w ∧ μ x = m ∧ Rep n (Ef x) a ∧ St S w0 w (Lf x)) (μ x0) ⟨x0, h0, hW w hS, rfl, hR.sub hE, hL w hS⟩ ?_
  rintro m a w ⟨x, hI, hWx, rfl, hR, hS⟩
  refine wpIn_mono (round x w hI hWx hS a w hR hS.base) ?_
  intro e a' w' hq
  cases e with
  | normal => obtain ⟨x', h1, h2, h3, h4, h5⟩ := hq; exact ⟨μ x', h3, x', h1, h2, rfl, h4, h5⟩
  | _ => exact hq
theorem JX_roundB {X : Type} {S1 : List Nat} {w1 : World} {I : X → Prop} {W : X → World → Prop} {Ef : X → Env} {Lf : X → List Ent} {μ : X → Nat} {m : Nat} (x : X) (hI : I x) (hm : μ x < m) (hE : SubE E (Ef x)) (hB : ∀ w L, St S w0 w L → St S1 w1 w L) (hL : ∀ w, St S w0 w L → St S w0 w (Lf x)) (hW : ∀ w, St S w0 w L → W x w) :
    JX n S w0 (RoundB n S1 w1 I W Ef Lf μ m Q) .normal E L := fun _ w hR hS => ⟨x, hI, hW w hS, hm, hR.sub hE, hB w _ (hL w hS)⟩
theorem JX_roundB_exit {X : Type} {S1 : List Nat} {w1 : World} {I : X → Prop} {W : X → World → Prop} {Ef : X → Env} {Lf : X → List Ent} {μ : X → Nat} {m id : Nat} (h : JX n S w0 Q (.exit id) E L) : JX n S w0 (RoundB n S1 w1 I W Ef Lf μ m Q) (.exit id) E L := h
theorem JX_roundB_ret {X : Type} {S1 : List Nat} {w1 : World} {I : X → Prop} {W : X → World → Prop} {Ef : X → Env} {Lf : X → List Ent} {μ : X → Nat} {m : Nat} (h : JX n S w0 Q .ret E L) : JX n S w0 (RoundB n S1 w1 I W Ef Lf μ m Q) .ret E L := h
section
variable {ops : Array Oper} {o : Oper} {Lg Lu : List Ent} {us : List Nat} {fuel : Nat} {listed : Array Bool}
end
section
variable {ops : Array Oper} {o : Oper} {rest : List Oper}
theorem JO_callB (Sc : List Nat) (Lc Lr : List Ent) {f : FuncId} {args : Array Value} {φ : World → Value → List Ent → World → Prop} (hfit : fit n E o = true) (hw : wants ops E o)
    (hr : ∀ w, (execOp (ev E) o).run P w = .ok (.enter f args) w) (hL : ∀ w, St S w0 w L → St S w0 w (Lc ++ Lr)) (hS : ∀ b ∈ Sc, ∃ e ∈ Lc, e.own = some b)
    (hc : ∀ w, St S w0 w (Lc ++ Lr) → Calls P f args w (GivesW Sc w (φ w))) (h : ∀ w v L' w', φ w v L' w' → St S w0 w (Lc ++ Lr) → St S w0 w' (L' ++ Lr) → JO P n (Lown (L' ++ Lr)) w' ops rest Q (put E o.dst v) (L' ++ Lr)) : JO P n S w0 ops (o :: rest) Q E L := by
  intro a w hR hSt
  unfold wpListIn
  rw [if_pos (wants_wanted hR hw)]
  refine ⟨fun _ _ => trivial, ?_⟩
  rw [fit_sem hfit hR, hr w]
  refine ⟨fun h => (by cases h), (callsIn_wd (m := 0 - 1)).2 ((hc w (hL w hSt)).mono ?_)⟩
  rintro e w' ⟨v, L', rfl, hφ, hS'⟩
  have hs := (hL w hSt).after hS hS'
  exact h w v L' w' hφ (hL w hSt) hs _ _ (hR.put (fit_dst hfit) v) hs.base
end
end
end Go.GV
