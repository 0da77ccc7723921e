/- GvO: what an argument of the world outside is, by its type: a struct's fields, a slice's elements. -/
import Derived.Test.YtmbinhhlfbgiaaaGvP
import Derived.Deep.Slices
import Derived.Carry
namespace Go.GV
open Go.RowKit Go.WideShapes Go.ChangeShapes
def OpenAt (P : Program) (t : TypeId) (R : World → List Value → Prop) : Prop :=
  ∀ (H : Type) (enc : TypeId × Value → H) (w : World) (fuel : Nat) (cs : List Value) (x : DataW H × List MemPlace), DataW.trod enc P w 0 (fun _ => true) true fuel t cs = some x → R w cs
section
variable {P : Program} {t : TypeId}
theorem open_i (ht : P.underlying t = some (.int .i64)) : OpenAt P t fun _ cs => ∃ n : Int, cs = [vI n] ∧ -9223372036854775808 ≤ n ∧ n ≤ 9223372036854775807 := by
  intro H enc w fuel cs x h
  obtain ⟨n, rfl, _, hw⟩ := DataW.trod_int ht h
  simp only [Lit.wf, IntKind.min, IntKind.max, IntKind.signed, IntKind.bits, Bool.and_eq_true, decide_eq_true_eq] at hw
  refine ⟨n, rfl, ?_, ?_⟩
  · have := hw.1; simp at this; omega
  · have := hw.2; simp at this; omega
theorem open_b (ht : P.underlying t = some .bool) : OpenAt P t fun _ cs => ∃ b : Bool, cs = [vB b] := by
  intro H enc w fuel cs x h
  obtain ⟨n, rfl, _⟩ := DataW.trod_bool ht h
  exact ⟨n, rfl⟩
theorem open_s (ht : P.underlying t = some .string) : OpenAt P t fun _ cs => ∃ s : Bytes, cs = [vS s] ∧ s.length ≤ 9223372036854775807 := by
  intro H enc w fuel cs x h
  obtain ⟨s, rfl, _, hs⟩ := DataW.trod_string ht h
  have h2 : s.data.size ≤ 9223372036854775807 := hs
  exact ⟨s.data.toList, rfl, by rw [Array.length_toList]; exact h2⟩
def RFs : List (World → List Value → Prop) → World → List Value → Prop
  | [], _, cs => cs = []
  | R :: rs, w, cs => ∃ p q, cs = p ++ q ∧ R w p ∧ RFs rs w q
def FsOk (P : Program) (N : Nat) : Nat → List Field → List (World → List Value → Prop) → Prop
  | off, [], [] => off = N
  | off, f :: fs, R :: rs => f.offset = off ∧ OpenAt P f.type R ∧ FsOk P N (off + P.cellsOf f.type) fs rs
  | _, _, _ => False
theorem FsOk.nil {N off : Nat} (h : off = N) : FsOk P N off [] [] := h
theorem FsOk.cons {N off : Nat} {f : Field} {fs : List Field} {R : World → List Value → Prop} {rs : List (World → List Value → Prop)} (h1 : f.offset = off) (h2 : OpenAt P f.type R) (h3 : FsOk P N (off + P.cellsOf f.type) fs rs) : FsOk P N off (f :: fs) (R :: rs) := ⟨h1, h2, h3⟩
theorem fs_open {H : Type} {enc : TypeId × Value → H} {w : World} {N n : Nat} {cs : List Value} : ∀ (fs : List Field) (rs : List (World → List Value → Prop)) (off : Nat), FsOk P N off fs rs → cs.length = N → off ≤ N →
    (∀ f ∈ fs, ∃ x, DataW.trod enc P w 0 (fun _ => true) true n f.type ((cs.drop f.offset).take (P.cellsOf f.type)) = some x) → RFs rs w (cs.drop off)
  | [], [], off, h, hl, _, _ => by
    show cs.drop off = []
    have h : off = N := h
    rw [List.drop_of_length_le (by omega)]
  | f :: fs, R :: rs, off, ⟨ho, hR, hr⟩, hl, hle, ha => by
    obtain ⟨x, hx⟩ := ha f (by simp)
    refine ⟨(cs.drop off).take (P.cellsOf f.type), (cs.drop off).drop (P.cellsOf f.type), (List.take_append_drop _ _).symm, ?_, ?_⟩
    · rw [← ho]; exact hR H enc w n _ x hx
    · rw [List.drop_drop]
      by_cases hc : off + P.cellsOf f.type ≤ N
      · exact fs_open fs rs _ hr hl hc (fun g hg => ha g (by simp [hg]))
      · exfalso
        have : ∀ (fs : List Field) (rs : List (World → List Value → Prop)) (o : Nat), FsOk P N o fs rs → o ≤ N := by
          intro fs
          induction fs with
          | nil => intro rs o h; cases rs with
            | nil => exact Nat.le_of_eq h
            | cons => cases h
          | cons g gs ih => intro rs o h; cases rs with
            | nil => cases h
            | cons r rs => have := ih rs _ h.2.2; omega
        exact hc (this fs rs _ hr)
  | [], _ :: _, _, h, _, _, _ => by cases h
  | _ :: _, [], _, h, _, _, _ => by cases h
theorem open_struct {fs : Array Field} {rs : List (World → List Value → Prop)} (ht : P.underlying t = some (.struct fs)) (h : FsOk P (P.cellsOf t) 0 fs.toList rs) : OpenAt P t (RFs rs) := by
  intro H enc w fuel cs x hx
  obtain ⟨xs, n, _, _, hl, hlen, hf⟩ := DataW.trod_struct ht hx
  have := fs_open (H := H) (enc := enc) (w := w) (n := n) (cs := cs) fs.toList rs 0 h hl (Nat.zero_le _) (by
    intro f hfm
    obtain ⟨i, hi, rfl⟩ := List.getElem_of_mem hfm
    have hi' : i < fs.size := by simpa using hi
    refine ⟨xs[i], ?_⟩
    have := hf i fs.toList[i] (by simp [hi'])
    rw [this, List.getElem?_eq_getElem (by omega)])
  simpa using this
theorem open_slW {α : Type} [Inhabited α] {e : TypeId} {N : Nat} {f : α → List Value} {B : World → α → Prop} (ht : P.underlying t = some (.slice e)) (hc : P.cellsOf e = N) (hN : ∀ a, (f a).length = N) (he : OpenAt P e fun w cs => ∃ a, cs = f a ∧ B w a) :
    OpenAt P t fun w cs => ∃ (A : Option Addr) (c : Nat) (xs : List α), cs = [.slice A xs.length c] ∧ RO [] w A (xs.flatMap f) ∧ xs.length ≤ 9223372036854775807 ∧ ∀ a ∈ xs, B w a := by
  intro H enc w fuel cs x hx
  rcases Deep.open_slice ht hx with ⟨rfl, _⟩ | ⟨a, len, cap, m, n, D, Pl, rfl, _, hlc, hcm, hm, _, hall⟩
  · exact ⟨none, 0, [], rfl, RO.nil, by simp, by simp⟩
  · have hm2 : m = cap := by rw [hm]; rfl
    have hex : ∀ i, i < len → ∃ y : α, w.cells? 0 (a.add (i * N)) N = some (f y) ∧ B w y := by
      intro i hi
      obtain ⟨cs', h1, h2⟩ := hall i (by omega)
      obtain ⟨y, rfl, hB⟩ := he H enc w n cs' _ h2
      rw [hc] at h1
      exact ⟨y, h1, hB⟩
    obtain ⟨g, hg⟩ := Deep.choose_lt hex
    refine ⟨some a, cap, (List.range len).map g, by simp, ?_, by simp [maxLen] at hcm ⊢; omega, ?_⟩
    · intro j v hv
      by_cases hN0 : N = 0
      · exfalso
        have : ((List.range len).map g).flatMap f = [] := by
          rw [List.flatMap_eq_nil_iff]
          intro y _
          exact List.eq_nil_of_length_eq_zero (by rw [hN, hN0])
        rw [this] at hv; simp at hv
      · have hNp : 0 < N := Nat.pos_of_ne_zero hN0
        -- the cell j is part (j % N) of element (j / N)
        have hget : ∀ (l : List α) (j : Nat), (l.flatMap f)[j]? = (l[j / N]?).bind fun y => (f y)[j % N]? := by
          intro l
          induction l with
          | nil => intro j; simp
          | cons y l ih =>
            intro j
            rw [List.flatMap_cons]
            by_cases hj : j < N
            · rw [List.getElem?_append_left (by rw [hN]; exact hj), Nat.div_eq_of_lt hj, Nat.mod_eq_of_lt hj]; rfl
            · rw [List.getElem?_append_right (by rw [hN]; omega), hN, ih (j - N)]
              have h1 : j / N = (j - N) / N + 1 := by rw [Nat.div_eq_sub_div hNp (by omega)]
              have h2 : j % N = (j - N) % N := by rw [Nat.mod_eq_sub_mod (by omega)]
              rw [h1, h2, List.getElem?_cons_succ]
        rw [hget] at hv
        by_cases hi : j / N < len
        · rw [List.getElem?_map, List.getElem?_range hi] at hv
          have hv : (f (g (j / N)))[j % N]? = some v := hv
          obtain ⟨hcell, _⟩ := hg (j / N) hi
          obtain ⟨_, _, hall2⟩ := World.cells?_some hcell
          have hc2 := hall2 (j % N) (Nat.mod_lt _ hNp)
          rw [Deep.add_add, hv, Nat.mul_comm, Nat.div_add_mod] at hc2
          refine ⟨a, rfl, ?_, by simp, hc2⟩
          have hb : (a.add j).block < w.heap.size := by
            unfold World.cell? at hc2
            rcases Nat.lt_or_ge (a.add j).block w.heap.size with h | h
            · exact h
            · rw [Array.getElem?_eq_none h] at hc2; simp at hc2
          rwa [add_block] at hb
        · rw [List.getElem?_eq_none (by simp; omega)] at hv
          simp at hv
    · intro y hy
      obtain ⟨i, hi, rfl⟩ := List.mem_map.1 hy
      exact (hg i (List.mem_range.1 hi)).2
theorem open_sl {α : Type} [Inhabited α] {e : TypeId} {N : Nat} {f : α → List Value} {B : α → Prop} (ht : P.underlying t = some (.slice e)) (hc : P.cellsOf e = N) (hN : ∀ a, (f a).length = N) (he : OpenAt P e fun _ cs => ∃ a, cs = f a ∧ B a) :
    OpenAt P t fun w cs => ∃ (A : Option Addr) (c : Nat) (xs : List α), cs = [.slice A xs.length c] ∧ RO [] w A (xs.flatMap f) ∧ xs.length ≤ 9223372036854775807 ∧ ∀ a ∈ xs, B a :=
  open_slW (B := fun _ => B) ht hc hN he
end
theorem agg_inj {a : Array Value} {l : List Value} (h : (Value.agg a).cells.toList = l) : a = l.toArray := by subst h; simp [Value.cells]
theorem str_inj {z : ByteArray} {s : Bytes} (h : (Value.string z).cells.toList = [vS s]) : z = ⟨s.toArray⟩ := by simpa [Value.cells] using h
theorem slice_inj {a A : Option Addr} {l n c C : Nat} (h : (Value.slice a l c).cells.toList = [.slice A n C]) : a = A ∧ l = n ∧ c = C := by simpa [Value.cells] using h
end Go.GV
