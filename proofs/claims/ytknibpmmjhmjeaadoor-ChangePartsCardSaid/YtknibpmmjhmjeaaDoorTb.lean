/- Tb: strconv.Itoa, by the shelf's contract; the table that it reads. -/
import Derived.Test.YtknibpmmjhmjeaaDoorSh47
import Derived.Test.YtknibpmmjhmjeaaDoorGvE
import Derived.Lib.AppendIntMem
namespace Go.Proofs.YtknibpmmjhmjeaaDoor
open Go.GV Go.RowKit
/-- The table of powers stands where the program's text lays it, in a block that is not written. -/
def Tab (S : List Nat) (w : World) : Prop := 0 ∉ S ∧ 0 < w.heap.size ∧ ∃ t f, w.heap[0]? = some (.cells (Lib.pow10Tab.map fun z => Value.int .u64 z).toArray t f)
theorem Tab.on {S Sc : List Nat} {w0 w : World} {Lc Lr : List Ent} (h : Tab S w0) (hS : St S w0 w (Lc ++ Lr)) (hSc : ∀ b ∈ Sc, ∃ e ∈ Lc, e.own = some b) : Tab Sc w := by
  obtain ⟨h1, h2, t, f, h3⟩ := h
  refine ⟨fun hc => ?_, Nat.lt_of_lt_of_le h2 hS.fr.size, t, f, (hS.fr.block _ h2 h1).trans h3⟩
  obtain ⟨e, he, ho⟩ := hSc _ hc
  rcases hS.own e (List.mem_append_left _ he) _ ho with h4 | h4
  · exact h1 h4
  · omega
theorem tab_is {S : List Nat} {w : World} {name : String} (h : Tab S w) (hg : Tryd.prog.globalNamed name = some 0) : Lib.TabIs Tryd.prog w name .u64 Lib.pow10Tab := by
  obtain ⟨h1, h2, t, f, h3⟩ := h
  unfold Lib.TabIs World.var?
  rw [hg]
  simp only [Option.bind_some, h3]
theorem itoa_ok (n : Int) (w : World) (hT : Tab [] w) (q0 : 0 ≤ n) (q1 : n ≤ 9223372036854775807) : Calls Tryd.prog 38 #[vI n] w (Gives [] w fun v L => v = vS (Lib.decDigits n.toNat) ∧ L = []) := by
  have h := Any.strconv_Itoa Tryd.laysM171 n (by omega) q1 w (tab_is hT (by kernel_rfl))
  refine h.mono ?_
  rintro e w' ⟨rfl, k, os, rfl⟩
  refine ⟨_, _, rfl, ⟨?_, rfl⟩, St.nil ?_⟩
  · rw [Lib.itoa, if_neg (by omega)]
  · exact Fr.of_below (Lib.below_grow _ _ (Nat.le_refl _) k os)
end Go.Proofs.YtknibpmmjhmjeaaDoor
