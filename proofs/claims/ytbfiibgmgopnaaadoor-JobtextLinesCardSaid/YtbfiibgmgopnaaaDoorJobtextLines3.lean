/- GvG, GvP, GvO, GvH, GvF, GvM in one text. -/
import Derived.Test.YtbfiibgmgopnaaaDoorJobtextLines2
import Derived.Maps.AppendAt
import Derived.Deep.AppendSrc
import Derived.Below
import Derived.ChangeSame
import Derived.WalkKit
import Derived.ProofKit
import Derived.OpenShut
import Derived.ShutString
import Derived.Deep.Slices
import Derived.Carry
import Derived.Laws.StructEq
import Derived.Laws.IdiomStrings
import Derived.Test.YtbfiibgmgopnaaaDoorRows
import Derived.MapKept
set_option linter.unusedVariables false
set_option linter.unusedSimpArgs false
namespace Go.GV
open Go.RowKit
def Ent.row (v : Value) (e : TypeId) (sz n : Nat) (cs : List Value) : Ent :=
  ⟨v.ownBlock, fun o => cs.length = n * sz ∧ ((v = .slice none 0 0 ∧ n = 0) ∨ ∃ g cap cur, v = .slice (some ⟨g, 0, none⟩) n cap ∧ o = some (.cells cur e (0, 0)) ∧ n ≤ cap ∧ cap ≤ maxLen ∧ cur.size = cap * sz ∧ cur.toList.take (n * sz) = cs)⟩
section
variable {w : World} {v : Value} {e : TypeId} {sz n : Nat} {cs : List Value}
theorem row_owns (h : (Ent.row v e sz n cs).at w) : w.ownsRow 0 e sz v n cs := by
  obtain ⟨⟨h1, h2⟩, _⟩ := h
  refine ⟨h1, ?_⟩
  rcases h2 with h2 | ⟨g, cap, cur, rfl, ho, h3⟩
  · exact .inl h2
  · exact .inr ⟨g, cap, cur, rfl, Nat.zero_le _, by simpa [Ent.row, Value.ownBlock] using ho, h3⟩
theorem owns_row {base : Nat} (h : w.ownsRow base e sz v n cs) : (Ent.row v e sz n cs).at w := by
  refine ⟨⟨h.1, ?_⟩, fun b hb => (h.lt b hb).2⟩
  rcases h.2 with h2 | ⟨g, cap, cur, rfl, _, ho, h3⟩
  · exact .inl h2
  · exact .inr ⟨g, cap, cur, rfl, by simpa [Ent.row, Value.ownBlock] using ho, h3⟩
end
theorem St.nilrow {S : List Nat} {w0 w : World} {L : List Ent} (h : St S w0 w L) (e : TypeId) (sz : Nat) : St S w0 w (Ent.row (.slice none 0 0) e sz 0 [] :: L) := by
  refine ⟨h.fr, ?_, List.pairwise_cons.2 ⟨fun x _ b hb => ?_, h.dis⟩, ?_⟩
  · intro x hx
    rcases List.mem_cons.1 hx with rfl | hx
    · exact owns_row (World.ownsRow_nil w 0 e sz)
    · exact h.hold x hx
  · simp [Ent.row, Value.ownBlock] at hb
  · intro x hx b hb
    rcases List.mem_cons.1 hx with rfl | hx
    · simp [Ent.row, Value.ownBlock] at hb
    · exact h.own x hx b hb
theorem St.torow {S : List Nat} {w0 w : World} {L : List Ent} {b : Nat} {e : TypeId} {cs : List Value} (h : St S w0 w (Ent.blk b e cs :: L)) (sz n : Nat) (hl : cs.length = n * sz) (hm : n ≤ maxLen) : St S w0 w (Ent.row (.slice (some ⟨b, 0, none⟩) n n) e sz n cs :: L) := by
  have h0 := h.hold (Ent.blk b e cs) (by simp)
  obtain ⟨hb, _⟩ := blk_at h0
  refine ⟨h.fr, ?_, ?_, ?_⟩
  · intro x hx
    rcases List.mem_cons.1 hx with rfl | hx
    · refine owns_row (base := 0) ⟨hl, .inr ⟨b, n, _, rfl, Nat.zero_le _, hb, Nat.le_refl _, hm, by simpa using hl, ?_⟩⟩
      simp [← hl]
    · exact h.hold x (by simp [hx])
  · have hd := List.pairwise_cons.1 h.dis
    exact List.pairwise_cons.2 ⟨fun x hx c hc => hd.1 x hx c (by simpa [Ent.row, Value.ownBlock, Ent.blk] using hc), hd.2⟩
  · intro x hx c hc
    rcases List.mem_cons.1 hx with rfl | hx
    · exact h.own (Ent.blk b e cs) (by simp) c (by simpa [Ent.row, Value.ownBlock, Ent.blk] using hc)
    · exact h.own x (by simp [hx]) c hc
theorem St.swap {S : List Nat} {w0 w w' : World} {e e' : Ent} {L : List Ent} (h : St S w0 w (e :: L)) (hf : Fr e.own.toList w w') (hat : e'.at w') (ho : ∀ b, e'.own = some b → e.own = some b ∨ w.heap.size ≤ b) : St S w0 w' (e' :: L) := by
  have hd := List.pairwise_cons.1 h.dis
  have hown : ∀ b, b ∈ e.own.toList → e.own = some b := fun b hb => by simpa using hb
  refine ⟨?_, ?_, ?_, ?_⟩
  · refine ⟨hf.os.trans h.fr.os, hf.tape.trans h.fr.tape, hf.output.trans h.fr.output, Nat.le_trans h.fr.size hf.size, fun i hi hn => ?_⟩
    refine (hf.block i (Nat.lt_of_lt_of_le hi h.fr.size) ?_).trans (h.fr.block i hi hn)
    intro hib
    rcases h.own e (by simp) _ (hown i hib) with h1 | h1
    · exact hn h1
    · omega
  · intro x hx
    rcases List.mem_cons.1 hx with rfl | hx
    · exact hat
    · refine Ent.at_frame (h.hold x (by simp [hx])) hf.size fun c hc => hf.block c ((h.hold x (by simp [hx])).2 c hc) ?_
      intro hcb
      exact hd.1 x hx c (hown c hcb) hc
  · refine List.pairwise_cons.2 ⟨fun x hx c hc hc' => ?_, hd.2⟩
    rcases ho c hc with h1 | h1
    · exact hd.1 x hx c h1 hc'
    · exact absurd ((h.hold x (by simp [hx])).2 c hc') (by omega)
  · intro x hx c hc
    rcases List.mem_cons.1 hx with rfl | hx
    · rcases ho c hc with h1 | h1
      · exact h.own e (by simp) c h1
      · exact .inr (Nat.le_trans h.fr.size h1)
    · exact h.own x (by simp [hx]) c hc
theorem St.swapAt {S : List Nat} {w0 w w' : World} {e e' : Ent} {L : List Ent} {j : Nat} (h : St S w0 w L) (hj : L[j]? = some e) (hf : Fr e.own.toList w w') (hat : e'.at w') (ho : ∀ b, e'.own = some b → e.own = some b ∨ w.heap.size ≤ b) : St S w0 w' (L.set j e') :=
  ((h.front j e hj).swap hf hat ho).perm (set_perm L j e' (List.getElem?_eq_some_iff.1 hj).1)
theorem Fr.of_grownBy {w w' : World} {row : Option Nat} (h : w.grownBy w' row) : Fr row.toList w w' :=
  ⟨h.os, h.tape, h.output, h.size, fun i hi hn => h.block i hi (fun e => hn (by rw [← e]; simp))⟩
def Cells (w : World) (A : Option Addr) (cs : List Value) : Prop := ∀ j v, cs[j]? = some v → ∃ a, A = some a ∧ w.cell? (a.add j) = some v
section
variable {E : Env} {P : Program} {w : World} {x y z : Operand} {dst : Option Nat} {t t' ty u : TypeId} {pos : String} {af : Array Edge} {g : Option (Nat × Bool)}
theorem info_of {e : TypeId} {sz by_ : Nat} {z : Value} (hs : sizeIs P e = some sz) (hb : bytesIs P e = some by_) (hz : zeroIs P e = some z) : ∃ i, P.info? e = some i ∧ i.zero = some z ∧ i.size = sz ∧ i.bytes = by_ := by
  unfold sizeIs at hs; unfold zeroIs at hz; unfold bytesIs at hb
  cases hi : P.info? e with
  | none => rw [hi] at hs; cases hs
  | some i => rw [hi] at hs hz hb; simp at hs hz hb; exact ⟨i, rfl, hz, hs, hb⟩
theorem O_append {S : List Nat} {w0 : World} {L : List Ent} {K : Value → List Ent → Prop} (j : Nat) {e : TypeId} {sz by_ n m c : Nat} {zv v : Value} {A : Option Addr} {cs news : List Value}
    (ht : P.underlying t = some (.slice e)) (hs : sizeIs P e = some sz) (hb : bytesIs P e = some by_) (hz : zeroIs P e = some zv) (hzs : zv.cells.size = sz)
    (hx : ev E x = v) (hy : ev E y = .slice A m c) (hj : L[j]? = some (Ent.row v e sz n cs)) (hl : news.length = m * sz) (hsz : 0 < sz) (h1 : news.all Value.oneCell' = true) (hread : ∀ w, St S w0 w L → Cells w A news)
    (hbytes : (n + m) * by_ ≤ 140737488355328) (h63 : n + m ≤ 9223372036854775807)
    (k : ∀ A' c', K (.slice A' (n + m) c') (L.set j (Ent.row (.slice A' (n + m) c') e sz (n + m) (cs ++ news)))) : OpJ P S w0 E L ⟨dst, .call ⟨.builtin .append, #[x, y], #[t, t]⟩, ty, pos, af, g⟩ K := by
  intro w hS
  obtain ⟨i, hi, hiz, his, hib⟩ := info_of hs hb hz
  have hown := row_owns (hS.mem hj)
  have hc := hread w hS
  have hmax : n + m ≤ maxLen := by unfold maxLen; omega
  have hone : ∀ u ∈ news, u.oneCell' = true := fun u hu => List.all_eq_true.1 h1 u hu
  have key : ∃ v' w', (Builtin.append_ #[t, t] ty #[v, .slice A m c]).run P w = .ok v' w' ∧ w'.ownsRow 0 e sz v' (n + m) (cs ++ news) ∧ w.grownBy w' v.ownBlock ∧ (v'.ownBlock = v.ownBlock ∨ v'.ownBlock = some w.heap.size) := by
    rcases Nat.eq_zero_or_pos m with hm | hm
    · subst hm
      have hn : news = [] := List.eq_nil_of_length_eq_zero (by simpa using hl)
      subst hn
      cases A with
      | some a =>
        obtain ⟨v', w', hr, h2, h3, _, h5⟩ := run_append_own_at (P := P) w 0 t ty e i zv sz by_ ht hi hiz his hib hzs hsz v n cs hown a 0 c [] (by simp) (by simp) (by simp) hmax hbytes (Nat.zero_le _)
        exact ⟨v', w', hr, h2, h3, h5⟩
      | none =>
        refine ⟨v, w, ?_, by simpa using hown, ⟨rfl, rfl, rfl, Nat.le_refl _, fun _ _ _ => rfl⟩, .inl rfl⟩
        rcases hown.2 with ⟨rfl, rfl⟩ | ⟨g, cap, cur, rfl, _, _, hnc, _⟩
        · simp [Builtin.append_, run_underlying ht, sizeOf, typeInfo, hi, Builtin.lenOf, Builtin.firstCells]
        · simp [Builtin.append_, run_underlying ht, sizeOf, typeInfo, hi, Builtin.lenOf, Builtin.firstCells, hnc, storeCells]
    · have hpos : 0 < news.length := by rw [hl]; exact Nat.mul_pos hm hsz
      obtain ⟨a, rfl, _⟩ := hc 0 _ (List.getElem?_eq_getElem hpos)
      obtain ⟨v', w', hr, h2, h3, _, h5⟩ := run_append_own_at (P := P) w 0 t ty e i zv sz by_ ht hi hiz his hib hzs hsz v n cs hown a m c news hl (fun jj u hu => by
        obtain ⟨a', ha, hcell⟩ := hc jj u hu
        injection ha with ha; subst ha; exact hcell) hone hmax hbytes (Nat.zero_le _)
      exact ⟨v', w', hr, h2, h3, h5⟩
  obtain ⟨v', w', hr, h2, h3, h4⟩ := key
  obtain ⟨A', c', rfl⟩ : ∃ A' c', v' = .slice A' (n + m) c' := by
    rcases h2.2 with ⟨rfl, h0⟩ | ⟨g, cap, cur, rfl, _⟩
    · exact ⟨none, 0, by rw [h0]⟩
    · exact ⟨_, _, rfl⟩
  refine ⟨_, _, w', .inl ?_, hS.swapAt hj (Fr.of_grownBy h3) (owns_row h2) ?_, k A' c'⟩
  · simp [execOp, resolve, invoke, builtin, hx, hy, hr]
  · intro b hb
    have hb' : (Value.slice A' (n + m) c').ownBlock = some b := hb
    rcases h4 with h4 | h4
    · left; show v.ownBlock = some b; rw [← h4]; exact hb'
    · right; rw [h4] at hb'; injection hb' with hb'; omega
theorem cells_blk {S : List Nat} {w0 : World} {L : List Ent} (i : Nat) {b off m : Nat} {tb : TypeId} {cs news : List Value} {fz : Nat × Nat} (hi : L[i]? = some (Ent.blk b tb cs fz)) (hn : (cs.drop off).take m = news) :
    ∀ w, St S w0 w L → Cells w (some ⟨b, off, none⟩) news := by
  intro w h jj v hv
  refine ⟨_, rfl, ?_⟩
  rw [add_lit]
  refine blk_cell (h.mem hi) ?_
  rw [← hn, List.getElem?_take] at hv
  split at hv
  · simpa using hv
  · cases hv
theorem cells_row {S : List Nat} {w0 : World} {L : List Ent} (i : Nat) {A : Option Addr} {n c : Nat} {e : TypeId} {sz : Nat} {cs : List Value} (hi : L[i]? = some (Ent.row (.slice A n c) e sz n cs)) :
    ∀ w, St S w0 w L → Cells w A cs := by
  intro w h jj v hv
  have hown := row_owns (h.mem hi)
  rcases hown.2 with ⟨hv', rfl⟩ | ⟨g, cap, cur, hv', _, hg, _, _, _, ht⟩
  · have : cs = [] := List.eq_nil_of_length_eq_zero (by simpa using hown.1)
    subst this; simp at hv
  · injection hv' with h1 h2 h3
    subst h1
    refine ⟨_, rfl, ?_⟩
    rw [add_lit, Nat.zero_add, World.cell?, hg]
    rw [← ht, List.getElem?_take] at hv
    split at hv
    · simpa using hv
    · cases hv
def adr (A : Option Addr) (j : Nat) : Addr := (A.getD ⟨0, 0, none⟩).add j
theorem Cells.adr {w : World} {A : Option Addr} {cs : List Value} (h : Cells w A cs) {j : Nat} {v : Value} (hv : cs[j]? = some v) : w.cell? (adr A j) = some v := by
  obtain ⟨a, rfl, hc⟩ := h j v hv
  exact hc
theorem Cells.some {w : World} {A : Option Addr} {cs : List Value} (h : Cells w A cs) (hl : 0 < cs.length) : A.isSome = true := by
  obtain ⟨a, rfl, _⟩ := h 0 _ (List.getElem?_eq_getElem hl)
  rfl
theorem x_indexAddr_at {S : List Nat} {w0 : World} {L : List Ent} {kd : IntKind} {e : TypeId} {sz n c k off : Nat} {A : Option Addr} {cs : List Value} (hr : ∀ w, St S w0 w L → Cells w A cs) (ht : P.underlying t = Option.some (.slice e)) (hs : sizeIs P e = Option.some sz) (hx : ev E x = .slice A n c) (hy : ev E y = .int kd (k : Int)) (hk : k < n) (hl : 0 < cs.length) (hoff : k * sz = off) :
    ∀ w, St S w0 w L → (execOp (ev E) ⟨dst, .indexAddr t x y, ty, pos, af, g⟩).run P w = .ok (.value (.pointer (Option.some (adr A off)))) w := by
  intro w h
  subst hoff
  have := (hr w h).some hl
  cases A with
  | none => cases this
  | some a => exact x_indexAddr_sl ht hs hx hy hk rfl
theorem x_load_at {S : List Nat} {w0 : World} {L : List Ent} {A : Option Addr} {off : Nat} {cs : List Value} {u : Value} (hr : ∀ w, St S w0 w L → Cells w A cs) (hx : ev E x = .pointer (Option.some (adr A off))) (hs : scal P t = true) (hc : cs[off]? = Option.some u) :
    ∀ w, St S w0 w L → (execOp (ev E) ⟨dst, .load t x, ty, pos, af, g⟩).run P w = .ok (.value u) w :=
  fun w h => exec_load hx (run_loadVar_scal hs ((hr w h).adr hc))
def RO (S : List Nat) (w0 : World) (A : Option Addr) (cs : List Value) : Prop :=
  ∀ j v, cs[j]? = some v → ∃ a, A = some a ∧ a.block < w0.heap.size ∧ a.block ∉ S ∧ w0.cell? (a.add j) = some v
theorem add_block (a : Addr) (n : Nat) : (a.add n).block = a.block := by unfold Addr.add; split <;> rfl
theorem add_add (a : Addr) (i j : Nat) : (a.add i).add j = a.add (i + j) := by
  unfold Addr.add
  by_cases hi : i = 0 <;> by_cases hj : j = 0 <;> simp [hi, hj, Nat.add_assoc]
theorem adr_add (A : Option Addr) (i j : Nat) : (adr A i).add j = adr A (i + j) := add_add _ _ _
theorem RO.cell {S : List Nat} {w0 w : World} {A : Option Addr} {cs : List Value} (h : RO S w0 A cs) (hf : Fr S w0 w) {j : Nat} {v : Value} (hv : cs[j]? = some v) : w.cell? (adr A j) = some v := by
  obtain ⟨a, rfl, hb, hn, hc⟩ := h j v hv
  show w.cell? (a.add j) = some v
  rw [← hc]
  exact World.cell?_of_block (hf.block _ (by rw [add_block]; exact hb) (by rw [add_block]; exact hn))
theorem RO.on {S Sc : List Nat} {w0 w : World} {A : Option Addr} {cs : List Value} {Lc Lr : List Ent} (h : RO S w0 A cs) (hS : St S w0 w (Lc ++ Lr)) (hSc : ∀ b ∈ Sc, ∃ e ∈ Lc, e.own = some b) : RO Sc w A cs := by
  intro j v hv
  obtain ⟨a, rfl, hb, hn, hc⟩ := h j v hv
  refine ⟨a, rfl, Nat.lt_of_lt_of_le hb hS.fr.size, fun hin => ?_, ?_⟩
  · obtain ⟨e, he, ho⟩ := hSc _ hin
    rcases hS.own e (by simp [he]) _ ho with h1 | h1
    · exact hn h1
    · omega
  · rw [← hc]
    exact World.cell?_of_block (hS.fr.block _ (by rw [add_block]; exact hb) (by rw [add_block]; exact hn))
theorem RO.on0 {S : List Nat} {w0 w : World} {A : Option Addr} {cs : List Value} {L : List Ent} (h : RO S w0 A cs) (hS : St S w0 w L) : RO [] w A cs :=
  h.on (Lc := []) (Lr := L) hS (by simp)
theorem RO.nil {S : List Nat} {w0 : World} {A : Option Addr} : RO S w0 A [] := fun j v h => by simp at h
theorem RO.drop {S : List Nat} {w0 : World} {A : Option Addr} {cs : List Value} (h : RO S w0 A cs) (k : Nat) : RO S w0 (A.map (·.add k)) (cs.drop k) := by
  intro j v hv
  rw [List.getElem?_drop] at hv
  obtain ⟨a, rfl, hb, hn, hc⟩ := h (k + j) v hv
  exact ⟨a.add k, rfl, by rw [add_block]; exact hb, by rw [add_block]; exact hn, by rw [add_add]; exact hc⟩
theorem RO.take {S : List Nat} {w0 : World} {A : Option Addr} {cs : List Value} (h : RO S w0 A cs) (k : Nat) : RO S w0 A (cs.take k) := by
  intro j v hv
  rw [List.getElem?_take] at hv
  split at hv
  · exact h j v hv
  · cases hv
theorem RO.of_row {S : List Nat} {w0 w : World} {L : List Ent} (hS : St S w0 w L) (j : Nat) {e : TypeId} {sz n c : Nat} {A : Option Addr} {cs : List Value} (hj : L[j]? = some (Ent.row (.slice A n c) e sz n cs)) : RO [] w A cs := by
  intro jj u hu
  obtain ⟨a, rfl, hc⟩ := cells_row j hj w hS jj u hu
  have hat := hS.mem hj
  exact ⟨a, rfl, hat.2 _ rfl, by simp, hc⟩
theorem own_apart {S Sc : List Nat} {w0 w : World} {Lc Lr : List Ent} (hS : St S w0 w (Lc ++ Lr)) (hSc : ∀ b ∈ Sc, ∃ e ∈ Lc, e.own = some b) {e : Ent} (he : e ∈ Lr) {b : Nat} (ho : e.own = some b) : b ∉ Sc := by
  intro hin
  obtain ⟨x, hx, hxo⟩ := hSc b hin
  exact (List.pairwise_append.1 hS.dis).2.2 x hx e he b hxo ho
theorem RO.of_rowS {S Sc : List Nat} {w0 w : World} {Lc Lr : List Ent} (hS : St S w0 w (Lc ++ Lr)) (hSc : ∀ b ∈ Sc, ∃ e ∈ Lc, e.own = some b) (j : Nat) {e : TypeId} {sz n c : Nat} {A : Option Addr} {cs : List Value} (hj : Lr[j]? = some (Ent.row (.slice A n c) e sz n cs)) : RO Sc w A cs := by
  intro jj v hv
  obtain ⟨a, ha, hb, _, hc⟩ := RO.of_row hS (Lc.length + j) (by rw [List.getElem?_append_right (by omega)]; simpa using hj) jj v hv
  subst ha
  exact ⟨_, rfl, hb, own_apart hS hSc (List.mem_of_getElem? hj) rfl, hc⟩
theorem cells_ro {S : List Nat} {w0 : World} {L : List Ent} {A : Option Addr} {cs : List Value} (h : RO S w0 A cs) : ∀ w, St S w0 w L → Cells w A cs := by
  intro w hS j v hv
  have hc := h.cell hS.fr hv
  obtain ⟨a, rfl, _⟩ := h j v hv
  exact ⟨a, rfl, hc⟩
theorem x_loadN_at {S : List Nat} {w0 : World} {L : List Ent} {A : Option Addr} {off : Nat} {cs : List Value} (vs : List Value) (hr : ∀ w, St S w0 w L → Cells w A cs) (hx : ev E x = .pointer (some (adr A off))) (hs : aggs P t = true) (hn : sizeIs P t = some vs.length) (hc : (cs.drop off).take vs.length = vs) :
    ∀ w, St S w0 w L → (execOp (ev E) ⟨dst, .load t x, ty, pos, af, g⟩).run P w = .ok (.value (.agg vs.toArray)) w := by
  intro w hS
  refine exec_load hx (run_loadVar_aggs hs hn fun i u hu => ?_)
  rw [adr_add]
  refine (hr w hS).adr ?_
  rw [← hc, List.getElem?_take] at hu
  split at hu
  · simpa using hu
  · cases hu
end
theorem flat_at {α : Type} (f : α → List Value) (sz : Nat) (hf : ∀ a, (f a).length = sz) : ∀ (xs : List α) (d : α) (k o : Nat), k < xs.length → o < sz → (xs.flatMap f)[k * sz + o]? = (f (xs.getD k d))[o]?
  | x :: xs, d, 0, o, _, ho => by
    simp only [List.flatMap_cons, Nat.zero_mul, Nat.zero_add, List.getD_cons_zero]
    rw [List.getElem?_append_left (by rw [hf]; exact ho)]
  | x :: xs, d, k + 1, o, hk, ho => by
    simp only [List.flatMap_cons, List.getD_cons_succ]
    rw [List.getElem?_append_right (by rw [hf, Nat.add_mul]; omega), hf]
    have e : (k + 1) * sz + o - sz = k * sz + o := by rw [Nat.add_mul]; omega
    rw [e]
    exact flat_at f sz hf xs d k o (by simpa using hk) ho
theorem flat_length {α : Type} (f : α → List Value) (sz : Nat) (hf : ∀ a, (f a).length = sz) (xs : List α) : (xs.flatMap f).length = xs.length * sz := by
  induction xs with
  | nil => simp
  | cons x xs ih => simp [List.flatMap_cons, ih, hf, Nat.add_mul, Nat.add_comm]
theorem flat_drop {α : Type} (f : α → List Value) (sz : Nat) (hf : ∀ a, (f a).length = sz) (xs : List α) (d : α) (k : Nat) (hk : k < xs.length) : ((xs.flatMap f).drop (k * sz)).take sz = f (xs.getD k d) := by
  apply List.ext_getElem?
  intro o
  rw [List.getElem?_take]
  by_cases ho : o < sz
  · rw [if_pos ho, List.getElem?_drop, flat_at f sz hf xs d k o hk ho]
  · rw [if_neg ho, List.getElem?_eq_none (by rw [hf]; omega)]
end Go.GV
namespace Go.GV
open Go.RowKit
section
variable {E : Env} {P : Program} {w : World} {x y z : Operand} {dst : Option Nat} {t t' ty u : TypeId} {pos : String} {af : Array Edge} {g : Option (Nat × Bool)}
theorem O_append_m {α : Type} {S : List Nat} {w0 : World} {L : List Ent} {K : Value → List Ent → Prop} (j : Nat) (f : α → Value) (xs ys : List α) {e : TypeId} {by_ m c c0 : Nat} {zv : Value} {A A0 : Option Addr}
    (ht : P.underlying t = some (.slice e)) (hs : sizeIs P e = some 1) (hb : bytesIs P e = some by_) (hz : zeroIs P e = some zv) (hzs : zv.cells.size = 1)
    (hx : ev E x = .slice A0 xs.length c0) (hy : ev E y = .slice A m c) (hj : L[j]? = some (Ent.row (.slice A0 xs.length c0) e 1 xs.length (xs.map f))) (hm : m = ys.length) (h1 : ∀ a, one (f a) = true) (hread : ∀ w, St S w0 w L → Cells w A (ys.map f))
    (hbytes : (xs.length + ys.length) * by_ ≤ 140737488355328) (h63 : xs.length + ys.length ≤ 9223372036854775807)
    (k : ∀ A' c', K (.slice A' (xs ++ ys).length c') (L.set j (Ent.row (.slice A' (xs ++ ys).length c') e 1 (xs ++ ys).length ((xs ++ ys).map f)))) : OpJ P S w0 E L ⟨dst, .call ⟨.builtin .append, #[x, y], #[t, t]⟩, ty, pos, af, g⟩ K := by
  subst hm
  refine O_append j ht hs hb hz hzs hx hy hj (by simp) (by omega) ?_ hread hbytes h63 fun A' c' => ?_
  · rw [List.all_map, List.all_eq_true]; intro a _; exact one_cell' (h1 a)
  · have := k A' c'
    rw [List.map_append, List.length_append] at this
    exact this
theorem O_append_f {α : Type} {S : List Nat} {w0 : World} {L : List Ent} {K : Value → List Ent → Prop} (j : Nat) (f : α → List Value) (sz : Nat) (xs ys : List α) {e : TypeId} {by_ m c c0 : Nat} {zv : Value} {A A0 : Option Addr}
    (ht : P.underlying t = some (.slice e)) (hs : sizeIs P e = some sz) (hb : bytesIs P e = some by_) (hz : zeroIs P e = some zv) (hzs : zv.cells.size = sz) (hsz : 0 < sz)
    (hx : ev E x = .slice A0 xs.length c0) (hy : ev E y = .slice A m c) (hj : L[j]? = some (Ent.row (.slice A0 xs.length c0) e sz xs.length (xs.flatMap f))) (hm : m = ys.length) (hf : ∀ a, (f a).length = sz) (h1 : ∀ a, (f a).all Value.oneCell' = true) (hread : ∀ w, St S w0 w L → Cells w A (ys.flatMap f))
    (hbytes : (xs.length + ys.length) * by_ ≤ 140737488355328) (h63 : xs.length + ys.length ≤ 9223372036854775807)
    (k : ∀ A' c', K (.slice A' (xs ++ ys).length c') (L.set j (Ent.row (.slice A' (xs ++ ys).length c') e sz (xs ++ ys).length ((xs ++ ys).flatMap f)))) : OpJ P S w0 E L ⟨dst, .call ⟨.builtin .append, #[x, y], #[t, t]⟩, ty, pos, af, g⟩ K := by
  subst hm
  refine O_append j ht hs hb hz hzs hx hy hj (flat_length f sz hf ys) hsz ?_ hread hbytes h63 fun A' c' => ?_
  · rw [List.all_eq_true]; intro v hv
    obtain ⟨a, _, ha⟩ := List.mem_flatMap.1 hv
    exact List.all_eq_true.1 (h1 a) v ha
  · have := k A' c'
    rw [List.flatMap_append, List.length_append] at this
    exact this
theorem O_append_s {S : List Nat} {w0 : World} {L : List Ent} {K : Value → List Ent → Prop} (j : Nat) (xs s : Bytes) {e : TypeId} {c0 : Nat} {A0 : Option Addr} {zv : Value}
    (ht : P.underlying t = some (.slice e)) (hu : P.underlying u = some .string) (hs : sizeIs P e = some 1) (hb : bytesIs P e = some 1) (hz : zeroIs P e = some zv) (hzs : zv.cells.size = 1)
    (hx : ev E x = .slice A0 xs.length c0) (hy : ev E y = vS s) (hj : L[j]? = some (Ent.row (.slice A0 xs.length c0) e 1 xs.length (xs.map vU8)))
    (hbytes : xs.length + s.length ≤ 140737488355328)
    (k : ∀ A' c', K (.slice A' (xs ++ s).length c') (L.set j (Ent.row (.slice A' (xs ++ s).length c') e 1 (xs ++ s).length ((xs ++ s).map vU8)))) : OpJ P S w0 E L ⟨dst, .call ⟨.builtin .append, #[x, y], #[t, u]⟩, ty, pos, af, g⟩ K := by
  intro w hS
  obtain ⟨i, hi, hiz, his, hib⟩ := info_of hs hb hz
  have hown := row_owns (hS.mem hj)
  have hmax : xs.length + s.length ≤ maxLen := by unfold maxLen; omega
  have hsz : (⟨s.toArray⟩ : ByteArray).size = s.length := by simp [ByteArray.size]
  have hsrc := fun w => Src.ofString (P := P) w hu (⟨s.toArray⟩ : ByteArray)
  have hbc : byteCells (⟨s.toArray⟩ : ByteArray) = s.map vU8 := by simp [byteCells]
  simp only [hbc, hsz] at hsrc
  have grow : ∀ (base : Option Addr) (cap : Nat), cap < xs.length + s.length → (Builtin.firstCells i.size xs.length (.slice base xs.length cap)).run P w.drew = .ok (xs.map vU8).toArray w.drew →
      ∃ A' c', (Builtin.append_ #[t, u] ty #[.slice base xs.length cap, vS s]).run P w = .ok (.slice A' (xs ++ s).length c') (w.drew.alloc (.cells (((xs.map vU8) ++ (s.map vU8)).toArray ++ Builtin.zeroCells zv.cells (grownCap w (xs.length + s.length) cap e - (xs.length + s.length))) e)) ∧
        (w.drew.alloc (.cells (((xs.map vU8) ++ (s.map vU8)).toArray ++ Builtin.zeroCells zv.cells (grownCap w (xs.length + s.length) cap e - (xs.length + s.length))) e)).ownsRow 0 e 1 (.slice A' (xs ++ s).length c') (xs ++ s).length ((xs ++ s).map vU8) ∧ A' = some ⟨w.heap.size, 0, none⟩ := by
    intro base cap hlt hf
    have hr := run_append_grow_src (P := P) w t u ty e i zv ht hi hiz base xs.length cap (xs.map vU8) hf (vS s) s.length (s.map vU8) (by rw [his]; exact hsrc w) hlt (by omega) (growslice_fits hlt (by rw [hib]; omega))
    have hge := grownCap_ge w (xs.length + s.length) cap e
    have hcm := grownCap_le_maxLen w (xs.length + s.length) cap e hmax
    have el : (xs ++ s).length = xs.length + s.length := List.length_append
    rw [el]
    refine ⟨_, _, hr, ⟨by simp, .inr ⟨w.heap.size, _, _, rfl, Nat.zero_le _, heap_alloc_new w.drew _, by simpa using hge, by simpa using hcm, ?_, ?_⟩⟩, rfl⟩
    · simp only [Array.size_append, List.size_toArray, size_zeroCells, hzs, List.length_append, List.length_map, Nat.mul_one]
      omega
    · simp only [Array.toList_append, List.map_append, Nat.mul_one]
      rw [List.take_left' (by simp)]
  have key : ∃ A' c' w', (Builtin.append_ #[t, u] ty #[.slice A0 xs.length c0, vS s]).run P w = .ok (.slice A' (xs ++ s).length c') w' ∧ (Ent.row (.slice A' (xs ++ s).length c') e 1 (xs ++ s).length ((xs ++ s).map vU8)).at w' ∧ Fr (Ent.row (.slice A0 xs.length c0) e 1 xs.length (xs.map vU8)).own.toList w w' ∧
      ∀ b, (Value.slice A' (xs ++ s).length c').ownBlock = some b → (Value.slice A0 xs.length c0).ownBlock = some b ∨ w.heap.size ≤ b := by
    have frg : ∀ (o : Obj) (l : List Nat), Fr l w (w.drew.alloc o) := fun o l => ⟨rfl, rfl, rfl, by simp, fun i hi _ => Below.heap_alloc w.drew o i hi⟩
    rcases hown.2 with ⟨h0, hn0⟩ | ⟨g, cap, cur, h0, _, hg, hnc, hcm, hcs, htake⟩
    · injection h0 with hA hn hc
      subst hA; subst hc
      have hx0 : xs = [] := List.eq_nil_of_length_eq_zero hn0
      subst hx0
      by_cases hs0 : s = []
      · subst hs0
        refine ⟨none, 0, w, ?_, owns_row (World.ownsRow_nil w 0 e 1), Fr.refl _ _, fun b hb => by simp [Value.ownBlock] at hb⟩
        have hf0 := (hsrc w).cells
        have hl0 := (hsrc w).len w
        simp only [List.length_nil, List.map_nil] at hf0 hl0
        simp [Builtin.append_, run_underlying ht, run_underlying hu, sizeOf, typeInfo, hi, his, hf0, hl0]
      · have hpos : 0 < s.length := by cases s with | nil => exact absurd rfl hs0 | cons a b => simp
        obtain ⟨A', c', hr, h2, h3⟩ := grow none 0 (by simpa using hpos) (by simp [Builtin.firstCells])
        exact ⟨A', c', _, hr, owns_row h2, frg _ _, fun b hb => by subst h3; simp [Value.ownBlock] at hb; omega⟩
    · injection h0 with hA hn hc
      subst hA; subst hc
      by_cases hroom : xs.length + s.length ≤ c0
      · have hat : (Ent.blk g e cur.toList).at w := ⟨by simpa [Ent.blk] using hg, fun b hb => by simp [Ent.blk] at hb; subst hb; exact (Array.getElem?_eq_some_iff.1 hg).1⟩
        have hb2 := (blk_at hat)
        have hlen : cur.toList.length = c0 := by simpa using hcs
        obtain ⟨w', hr, hF, hB⟩ := run_storeCells_blk (P := P) (o := xs.length) (s.map vU8) 0 cur.toList w hb2.1 hb2.2 (by rw [List.length_map, hlen]; omega) (by intro v hv; obtain ⟨a, _, rfl⟩ := List.mem_map.1 hv; rfl)
        refine ⟨some ⟨g, 0, none⟩, c0, w', ?_, ?_, by simpa [Ent.row, Value.ownBlock] using hF, fun b hb => .inl (by simpa [Value.ownBlock] using hb)⟩
        · have hf0 := (hsrc w).cells
          have hl0 := (hsrc w).len w
          simp [Builtin.append_, run_underlying ht, run_underlying hu, sizeOf, typeInfo, hi, his, hf0, hl0, hroom, Addr.add_lit, hr]
        · refine owns_row (base := 0) ⟨by simp, .inr ⟨g, c0, _, rfl, Nat.zero_le _, hB, by simpa using hroom, hcm, ?_, ?_⟩⟩
          · rw [List.size_toArray, splice_length, hlen, Nat.mul_one]
          · rw [Nat.add_zero, splice_eq _ _ _ (by rw [List.length_map, hlen]; omega)]
            simp only [Nat.mul_one] at htake
            rw [htake]
            simp only [List.map_append, Nat.mul_one]
            rw [List.take_left' (by simp)]
      · have hcells := hown.cells (g := g) rfl
        have hfc := run_firstCells_some (P := P) w.drew i.size xs.length ⟨g, 0, none⟩ xs.length c0 (xs.map vU8) (by simp [his]) (by simpa using hcells)
        obtain ⟨A', c', hr, h2, h3⟩ := grow (some ⟨g, 0, none⟩) c0 (by omega) hfc
        exact ⟨A', c', _, hr, owns_row h2, frg _ _, fun b hb => by subst h3; simp [Value.ownBlock] at hb; omega⟩
  obtain ⟨A', c', w', hr, hat, hF, ho⟩ := key
  refine ⟨_, _, w', .inl ?_, hS.swapAt hj hF hat ho, k A' c'⟩
  simp [execOp, resolve, invoke, builtin, hx, hy, hr]
end
end Go.GV
namespace Go.GV
open Go.RowKit
theorem own_mem {Sc : List Nat} {Lc : List Ent} (h : Lc.filterMap Ent.own = Sc) : ∀ b ∈ Sc, ∃ e ∈ Lc, e.own = some b := by
  subst h; intro b hb; exact List.mem_filterMap.1 hb
theorem own_in {Sc : List Nat} {Lc : List Ent} (h : Lc.filterMap Ent.own = Sc) : ∀ e ∈ Lc, ∀ b, e.own = some b → b ∈ Sc := by
  subst h; intro e he b hb; exact List.mem_filterMap.2 ⟨e, he, hb⟩
abbrev vN (n : Nat) : Value := vI (n : Int)
section
variable {E : Env} {P : Program} {w : World} {x y z : Operand} {dst : Option Nat} {t t' ty u : TypeId} {pos : String} {af : Array Edge} {g : Option (Nat × Bool)}
theorem x_str_at {S : List Nat} {w0 : World} {L : List Ent} {n c : Nat} {e : TypeId} {A : Option Addr} {xs : Bytes} (hx : ev E x = .slice A n c) (hs : P.underlying t = some (.slice e)) (he : P.underlying e = some (.int .u8)) (hd : P.underlying u = some .string)
    (hr : ∀ w, St S w0 w L → Cells w A (xs.map vU8)) (hn : n = xs.length) : ∀ w, St S w0 w L → (execOp (ev E) ⟨dst, .convert t u x, ty, pos, af, g⟩).run P w = .ok (.value (vS xs)) w := by
  intro w h
  subst hn
  have hc := hr w h
  have hb : (Conv.bytesToString (.slice A xs.length c)).run P w = .ok (vS xs) w := by
    cases A with
    | none =>
      have : xs = [] := by
        cases xs with
        | nil => rfl
        | cons a r => obtain ⟨a', h', _⟩ := hc 0 (vU8 a) (by simp); cases h'
      subst this; rfl
    | some a =>
      refine run_bytesS rfl fun i v hv => ?_
      obtain ⟨a', h', hcell⟩ := hc i v hv
      injection h' with h'; subst h'; exact hcell
  have hr2 : (convert t u (.slice A xs.length c)).run P w = .ok (vS xs) w := by rw [run_convert_bytes_string w t u e _ _ c hs he hd, hb]
  simp only [execOp, hx]
  show (Sem.run P (do let v ← convert t u (.slice A xs.length c); pure (Next.value v)) w) = _
  rw [Sem.run_bind, hr2]; rfl
theorem x_makeFunc {fn : Fn} {l1 l2 : List Operand} {v1 v2 : List Value} (h1 : l1.map (ev E) = v1) (h2 : l2.map (ev E) = v2) : (execOp (ev E) ⟨dst, .makeFunc fn l1.toArray l2.toArray, ty, pos, af, g⟩).run P w = .ok (.value (.func fn v1.toArray v2.toArray)) w := by
  subst h1; subst h2
  simp only [execOp, List.map_toArray]; rfl
end
end Go.GV
namespace Go.GV
open Go.RowKit
abbrev vP (a : Addr) : Value := .pointer (some a)
def derefs (S : List Nat) (w : World) : List Addr → List Int → Prop
  | [], [] => True
  | a :: ads, x :: xs => RO S w (some a) [vI x] ∧ derefs S w ads xs
  | _, _ => False
theorem RO.later {S Sc : List Nat} {w0 w : World} {A : Option Addr} {cs : List Value} {Lc Lr : List Ent} (hS : St S w0 w (Lc ++ Lr)) (hSc : ∀ b ∈ Sc, ∃ e ∈ Lc, e.own = some b) (h : RO S w0 A cs) : RO Sc w A cs := h.on hS hSc
theorem derefs.on {S Sc : List Nat} {w0 w : World} {Lc Lr : List Ent} (hS : St S w0 w (Lc ++ Lr)) (hSc : ∀ b ∈ Sc, ∃ e ∈ Lc, e.own = some b) : ∀ {ads : List Addr} {xs : List Int}, derefs S w0 ads xs → derefs Sc w ads xs
  | [], [], _ => trivial
  | _ :: _, _ :: _, h => ⟨h.1.on hS hSc, derefs.on hS hSc h.2⟩
  | [], _ :: _, h => h.elim
  | _ :: _, [], h => h.elim
section
variable {E : Env} {P : Program} {w : World} {x y z : Operand} {dst : Option Nat} {t t' ty u : TypeId} {pos : String} {af : Array Edge} {g : Option (Nat × Bool)}
end
end Go.GV

namespace Go.GV
open Go.RowKit Go.WideShapes Go.ChangeShapes
section
variable {H : Type} {enc : TypeId × Value → H} {P : Program}
end
theorem Calls.to_below {P : Program} {f : FuncId} {args : Array Value} {w : World} {φ : Value → List Ent → Prop} (h : Calls P f args w (Gives [] w φ)) {b : Bool} (hφ : ∀ v L, φ v L → v = vB b) :
    Calls P f args w fun e w' => e = .returned (.bool b) ∧ Below w.heap.size w w' :=
  h.mono fun e w' ⟨v, L, he, hv, hS⟩ => ⟨by rw [he, hφ v L hv], hS.fr.below⟩
end Go.GV

namespace Go.GV
open Go.RowKit Go.WideShapes Go.ChangeShapes
def OpenAt (P : Program) (t : TypeId) (R : World → List Value → Prop) : Prop :=
  ∀ (H : Type) (enc : TypeId × Value → H) (w : World) (fuel : Nat) (cs : List Value) (x : DataW H × List MemPlace), DataW.trod enc P w 0 (fun _ => true) true fuel t cs = some x → R w cs
section
variable {P : Program} {t : TypeId}
theorem open_s (ht : P.underlying t = some .string) : OpenAt P t fun _ cs => ∃ s : Bytes, cs = [vS s] ∧ s.length ≤ 9223372036854775807 := by
  intro H enc w fuel cs x h
  obtain ⟨s, rfl, _, hs⟩ := DataW.trod_string ht h
  have h2 : s.data.size ≤ 9223372036854775807 := hs
  exact ⟨s.data.toList, rfl, by rw [Array.length_toList]; exact h2⟩
def RFs : List (World → List Value → Prop) → World → List Value → Prop
  | [], _, cs => cs = []
  | R :: rs, w, cs => ∃ p q, cs = p ++ q ∧ R w p ∧ RFs rs w q
def FsOk (P : Program) (N : Nat) : Nat → List Field → List (World → List Value → Prop) → Prop
  | off, [], [] => off = N
  | off, f :: fs, R :: rs => f.offset = off ∧ OpenAt P f.type R ∧ FsOk P N (off + P.cellsOf f.type) fs rs
  | _, _, _ => False
theorem FsOk.nil {N off : Nat} (h : off = N) : FsOk P N off [] [] := h
theorem FsOk.cons {N off : Nat} {f : Field} {fs : List Field} {R : World → List Value → Prop} {rs : List (World → List Value → Prop)} (h1 : f.offset = off) (h2 : OpenAt P f.type R) (h3 : FsOk P N (off + P.cellsOf f.type) fs rs) : FsOk P N off (f :: fs) (R :: rs) := ⟨h1, h2, h3⟩
end
theorem str_inj {z : ByteArray} {s : Bytes} (h : (Value.string z).cells.toList = [vS s]) : z = ⟨s.toArray⟩ := by simpa [Value.cells] using h
end Go.GV

namespace Go.GV
def EqF (P : Program) (d : Nat) (xs ys : Array Value) (f : Field) (b : Bool) : Prop :=
  ∃ va vb, (∀ w, (part f.type xs f.offset).run P w = .ok va w) ∧ (∀ w, (part f.type ys f.offset).run P w = .ok vb w) ∧ ∀ w, (Op.equalIn d f.type va vb).run P w = .ok b w
def EqFs (P : Program) (d : Nat) (xs ys : Array Value) : List Field → List Bool → Prop
  | [], [] => True
  | f :: fs, b :: bs => f.name ≠ "_" ∧ EqF P d xs ys f b ∧ EqFs P d xs ys fs bs
  | _, _ => False
section
variable {P : Program} {d : Nat} {xs ys : Array Value} {f : Field}
theorem EqF.i {a b : Int} {k : IntKind} (hs : scal P f.type = true) (hu : P.underlying f.type = some (.int k)) (hx : xs[f.offset]? = some (.int k a)) (hy : ys[f.offset]? = some (.int k b)) : EqF P (d + 1) xs ys f (decide (a = b)) :=
  ⟨_, _, fun _ => run_part_scal hs hx, fun _ => run_part_scal hs hy, fun w => by rw [run_equalIn_int w d f.type k k a b hu]; rfl⟩
theorem EqF.b {a b : Bool} (hs : scal P f.type = true) (hu : P.underlying f.type = some .bool) (hx : xs[f.offset]? = some (vB a)) (hy : ys[f.offset]? = some (vB b)) : EqF P (d + 1) xs ys f (decide (a = b)) :=
  ⟨_, _, fun _ => run_part_scal hs hx, fun _ => run_part_scal hs hy, fun w => by rw [run_equalIn_bool w d f.type a b hu]; cases a <;> cases b <;> rfl⟩
theorem EqF.s {a b : Bytes} (hs : scal P f.type = true) (hu : P.underlying f.type = some .string) (hx : xs[f.offset]? = some (vS a)) (hy : ys[f.offset]? = some (vS b)) : EqF P (d + 1) xs ys f (decide (a = b)) :=
  ⟨_, _, fun _ => run_part_scal hs hx, fun _ => run_part_scal hs hy, fun w => by
    rw [run_equalIn_string w d f.type _ _ hu, ByteArray.toList_mk, ByteArray.toList_mk]
    congr 1
    rw [Bool.eq_iff_iff]; simp⟩
theorem EqF.agg {xa bs : List Value} {n : Nat} {r : Bool} (hs : aggs P f.type = true) (hn : sizeIs P f.type = some n) (hx : xs.extract f.offset (f.offset + n) = xa.toArray) (hy : ys.extract f.offset (f.offset + n) = bs.toArray)
    (h : ∀ w, (Op.equalIn d f.type (.agg xa.toArray) (.agg bs.toArray)).run P w = .ok r w) : EqF P d xs ys f r :=
  ⟨_, _, fun _ => run_part_aggs hs hn, fun _ => run_part_aggs hs hn, fun w => by rw [hx, hy]; exact h w⟩
end
section
variable {E : Env} {P : Program} {w : World} {x y : Operand} {dst : Option Nat} {t e ty : TypeId} {pos : String} {af : Array Edge} {g : Option (Nat × Bool)}
end
theorem all_nil {p : Nat → Prop} : ∀ i, i ∈ ([] : List Nat) → p i := fun _ h => absurd h List.not_mem_nil
abbrev pB (b k : Nat) : Value := .pointer (some ⟨b, k, none⟩)
abbrev pA (A : Option Addr) (k : Nat) : Value := .pointer (some (adr A k))
abbrev vG (l : List Value) : Value := .agg l.toArray
abbrev vL (A : Option Addr) (n c : Nat) : Value := .slice A n c
end Go.GV

namespace Go.Proofs.YtbfiibgmgopnaaaDoor
open Go.GV
namespace Ty
theorem sc3 : scal Tryd.prog 3 = true := by kernel_rfl
theorem sc4 : scal Tryd.prog 4 = true := by kernel_rfl
theorem sz5 : sizeIs Tryd.prog 5 = some 1 := by kernel_rfl
theorem by5 : bytesIs Tryd.prog 5 = some 1 := by kernel_rfl
theorem ze5 : zeroIs Tryd.prog 5 = some (vU8 0) := by kernel_rfl
theorem sc9 : scal Tryd.prog 9 = true := by kernel_rfl
theorem sz9 : sizeIs Tryd.prog 9 = some 1 := by kernel_rfl
theorem by9 : bytesIs Tryd.prog 9 = some 16 := by kernel_rfl
theorem ze9 : zeroIs Tryd.prog 9 = some (vS []) := by kernel_rfl
theorem sc22 : scal Tryd.prog 22 = true := by kernel_rfl
theorem sz22 : sizeIs Tryd.prog 22 = some 1 := by kernel_rfl
theorem sz24 : sizeIs Tryd.prog 24 = some 1 := by kernel_rfl
theorem sc25 : scal Tryd.prog 25 = true := by kernel_rfl
theorem sc36 : scal Tryd.prog 36 = true := by kernel_rfl
theorem sz36 : sizeIs Tryd.prog 36 = some 1 := by kernel_rfl
theorem ag40 : aggs Tryd.prog 40 = true := by kernel_rfl
theorem sz40 : sizeIs Tryd.prog 40 = some 4 := by kernel_rfl
theorem by40 : bytesIs Tryd.prog 40 = some 72 := by kernel_rfl
theorem ze40 : zeroIs Tryd.prog 40 = some (vG [vI 0, vS [], vL none 0 0, vL none 0 0]) := by kernel_rfl
theorem fi40_0 : fieldIs Tryd.prog 40 0 = some (0, 3) := by kernel_rfl
theorem fi40_3 : fieldIs Tryd.prog 40 3 = some (3, 24) := by kernel_rfl
theorem sc51 : scal Tryd.prog 51 = true := by kernel_rfl
theorem sz51 : sizeIs Tryd.prog 51 = some 1 := by kernel_rfl
theorem sc52 : scal Tryd.prog 52 = true := by kernel_rfl
theorem sz52 : sizeIs Tryd.prog 52 = some 1 := by kernel_rfl
theorem sz54 : sizeIs Tryd.prog 54 = some 2 := by kernel_rfl
theorem ze54 : zeroIs Tryd.prog 54 = some (vG [Value.pointer none, vL none 0 0]) := by kernel_rfl
theorem fi54_0 : fieldIs Tryd.prog 54 0 = some (0, 51) := by kernel_rfl
theorem fi54_1 : fieldIs Tryd.prog 54 1 = some (1, 52) := by kernel_rfl
theorem sc68 : scal Tryd.prog 68 = true := by kernel_rfl
theorem sz68 : sizeIs Tryd.prog 68 = some 1 := by kernel_rfl
theorem ze68 : zeroIs Tryd.prog 68 = some (vL none 0 0) := by kernel_rfl
theorem ag73 : aggs Tryd.prog 73 = true := by kernel_rfl
theorem sz73 : sizeIs Tryd.prog 73 = some 2 := by kernel_rfl
theorem by73 : bytesIs Tryd.prog 73 = some 24 := by kernel_rfl
theorem ze73 : zeroIs Tryd.prog 73 = some (vG [vI 0, vS []]) := by kernel_rfl
theorem fi73_0 : fieldIs Tryd.prog 73 0 = some (0, 3) := by kernel_rfl
theorem fi73_1 : fieldIs Tryd.prog 73 1 = some (1, 9) := by kernel_rfl
theorem sc75 : scal Tryd.prog 75 = true := by kernel_rfl
theorem fi77_0 : fieldIs Tryd.prog 77 0 = some (0, 22) := by kernel_rfl
theorem fi77_1 : fieldIs Tryd.prog 77 1 = some (1, 75) := by kernel_rfl
theorem fi77_2 : fieldIs Tryd.prog 77 2 = some (2, 36) := by kernel_rfl
theorem ag79 : aggs Tryd.prog 79 = true := by kernel_rfl
theorem sz79 : sizeIs Tryd.prog 79 = some 2 := by kernel_rfl
theorem ze79 : zeroIs Tryd.prog 79 = some (vG [vI 0, vI 0]) := by kernel_rfl
theorem fi79_0 : fieldIs Tryd.prog 79 0 = some (0, 3) := by kernel_rfl
theorem fi79_1 : fieldIs Tryd.prog 79 1 = some (1, 25) := by kernel_rfl
theorem ag82 : aggs Tryd.prog 82 = true := by kernel_rfl
theorem sz82 : sizeIs Tryd.prog 82 = some 3 := by kernel_rfl
theorem fi82_0 : fieldIs Tryd.prog 82 0 = some (0, 68) := by kernel_rfl
theorem fi82_1 : fieldIs Tryd.prog 82 1 = some (1, 9) := by kernel_rfl
theorem fi82_2 : fieldIs Tryd.prog 82 2 = some (2, 4) := by kernel_rfl
theorem ze124 : zeroIs Tryd.prog 124 = some (Value.nilFunc) := by kernel_rfl
theorem sz137 : sizeIs Tryd.prog 137 = some 2 := by kernel_rfl
theorem ze137 : zeroIs Tryd.prog 137 = some (vG [Value.map none, vL none 0 0]) := by kernel_rfl
theorem fi137_0 : fieldIs Tryd.prog 137 0 = some (0, 22) := by kernel_rfl
theorem fi137_1 : fieldIs Tryd.prog 137 1 = some (1, 68) := by kernel_rfl
theorem ca9 : Callable Tryd.prog 9 := ⟨Tryd.f9, Tryd.func9, by kernel_rfl, by kernel_rfl⟩
theorem ca10 : Callable Tryd.prog 10 := ⟨Tryd.f10, Tryd.func10, by kernel_rfl, by kernel_rfl⟩
theorem ca11 : Callable Tryd.prog 11 := ⟨Tryd.f11, Tryd.func11, by kernel_rfl, by kernel_rfl⟩
theorem ca12 : Callable Tryd.prog 12 := ⟨Tryd.f12, Tryd.func12, by kernel_rfl, by kernel_rfl⟩
theorem ca13 : Callable Tryd.prog 13 := ⟨Tryd.f13, Tryd.func13, by kernel_rfl, by kernel_rfl⟩
theorem ca14 : Callable Tryd.prog 14 := ⟨Tryd.f14, Tryd.func14, by kernel_rfl, by kernel_rfl⟩
theorem ca15 : Callable Tryd.prog 15 := ⟨Tryd.f15, Tryd.func15, by kernel_rfl, by kernel_rfl⟩
theorem ca16 : Callable Tryd.prog 16 := ⟨Tryd.f16, Tryd.func16, by kernel_rfl, by kernel_rfl⟩
theorem ca17 : Callable Tryd.prog 17 := ⟨Tryd.f17, Tryd.func17, by kernel_rfl, by kernel_rfl⟩
theorem ca18 : Callable Tryd.prog 18 := ⟨Tryd.f18, Tryd.func18, by kernel_rfl, by kernel_rfl⟩
theorem ca19 : Callable Tryd.prog 19 := ⟨Tryd.f19, Tryd.func19, by kernel_rfl, by kernel_rfl⟩
theorem ca23 : Callable Tryd.prog 23 := ⟨Tryd.f23, Tryd.func23, by kernel_rfl, by kernel_rfl⟩
theorem ca24 : Callable Tryd.prog 24 := ⟨Tryd.f24, Tryd.func24, by kernel_rfl, by kernel_rfl⟩
theorem ca25 : Callable Tryd.prog 25 := ⟨Tryd.f25, Tryd.func25, by kernel_rfl, by kernel_rfl⟩
theorem ca26 : Callable Tryd.prog 26 := ⟨Tryd.f26, Tryd.func26, by kernel_rfl, by kernel_rfl⟩
theorem ca27 : Callable Tryd.prog 27 := ⟨Tryd.f27, Tryd.func27, by kernel_rfl, by kernel_rfl⟩
theorem ca28 : Callable Tryd.prog 28 := ⟨Tryd.f28, Tryd.func28, by kernel_rfl, by kernel_rfl⟩
theorem ca29 : Callable Tryd.prog 29 := ⟨Tryd.f29, Tryd.func29, by kernel_rfl, by kernel_rfl⟩
theorem ca30 : Callable Tryd.prog 30 := ⟨Tryd.f30, Tryd.func30, by kernel_rfl, by kernel_rfl⟩
theorem ca31 : Callable Tryd.prog 31 := ⟨Tryd.f31, Tryd.func31, by kernel_rfl, by kernel_rfl⟩
theorem ca32 : Callable Tryd.prog 32 := ⟨Tryd.f32, Tryd.func32, by kernel_rfl, by kernel_rfl⟩
theorem ca33 : Callable Tryd.prog 33 := ⟨Tryd.f33, Tryd.func33, by kernel_rfl, by kernel_rfl⟩
theorem ca34 : Callable Tryd.prog 34 := ⟨Tryd.f34, Tryd.func34, by kernel_rfl, by kernel_rfl⟩
theorem ca37 : Callable Tryd.prog 37 := ⟨Tryd.f37, Tryd.func37, by kernel_rfl, by kernel_rfl⟩
theorem ca38 : Callable Tryd.prog 38 := ⟨Tryd.f38, Tryd.func38, by kernel_rfl, by kernel_rfl⟩
theorem ca39 : Callable Tryd.prog 39 := ⟨Tryd.f39, Tryd.func39, by kernel_rfl, by kernel_rfl⟩
theorem ca49 : Callable Tryd.prog 49 := ⟨Tryd.f49, Tryd.func49, by kernel_rfl, by kernel_rfl⟩
theorem ca50 : Callable Tryd.prog 50 := ⟨Tryd.f50, Tryd.func50, by kernel_rfl, by kernel_rfl⟩
theorem ca52 : Callable Tryd.prog 52 := ⟨Tryd.f52, Tryd.func52, by kernel_rfl, by kernel_rfl⟩
theorem ca55 : Callable Tryd.prog 55 := ⟨Tryd.f55, Tryd.func55, by kernel_rfl, by kernel_rfl⟩
theorem ca56 : Callable Tryd.prog 56 := ⟨Tryd.f56, Tryd.func56, by kernel_rfl, by kernel_rfl⟩
theorem ca60 : Callable Tryd.prog 60 := ⟨Tryd.f60, Tryd.func60, by kernel_rfl, by kernel_rfl⟩
theorem ca62 : Callable Tryd.prog 62 := ⟨Tryd.f62, Tryd.func62, by kernel_rfl, by kernel_rfl⟩
theorem ca63 : Callable Tryd.prog 63 := ⟨Tryd.f63, Tryd.func63, by kernel_rfl, by kernel_rfl⟩
theorem ca72 : Callable Tryd.prog 72 := ⟨Tryd.f72, Tryd.func72, by kernel_rfl, by kernel_rfl⟩
theorem ca73 : Callable Tryd.prog 73 := ⟨Tryd.f73, Tryd.func73, by kernel_rfl, by kernel_rfl⟩
theorem ca74 : Callable Tryd.prog 74 := ⟨Tryd.f74, Tryd.func74, by kernel_rfl, by kernel_rfl⟩
theorem ca75 : Callable Tryd.prog 75 := ⟨Tryd.f75, Tryd.func75, by kernel_rfl, by kernel_rfl⟩
theorem ca76 : Callable Tryd.prog 76 := ⟨Tryd.f76, Tryd.func76, by kernel_rfl, by kernel_rfl⟩
theorem ca77 : Callable Tryd.prog 77 := ⟨Tryd.f77, Tryd.func77, by kernel_rfl, by kernel_rfl⟩
theorem ca78 : Callable Tryd.prog 78 := ⟨Tryd.f78, Tryd.func78, by kernel_rfl, by kernel_rfl⟩
theorem ca86 : Callable Tryd.prog 86 := ⟨Tryd.f86, Tryd.func86, by kernel_rfl, by kernel_rfl⟩
theorem ca87 : Callable Tryd.prog 87 := ⟨Tryd.f87, Tryd.func87, by kernel_rfl, by kernel_rfl⟩
theorem ca88 : Callable Tryd.prog 88 := ⟨Tryd.f88, Tryd.func88, by kernel_rfl, by kernel_rfl⟩
theorem ca89 : Callable Tryd.prog 89 := ⟨Tryd.f89, Tryd.func89, by kernel_rfl, by kernel_rfl⟩
theorem ca90 : Callable Tryd.prog 90 := ⟨Tryd.f90, Tryd.func90, by kernel_rfl, by kernel_rfl⟩
theorem ca91 : Callable Tryd.prog 91 := ⟨Tryd.f91, Tryd.func91, by kernel_rfl, by kernel_rfl⟩
theorem ca93 : Callable Tryd.prog 93 := ⟨Tryd.f93, Tryd.func93, by kernel_rfl, by kernel_rfl⟩
theorem ca94 : Callable Tryd.prog 94 := ⟨Tryd.f94, Tryd.func94, by kernel_rfl, by kernel_rfl⟩
theorem ca95 : Callable Tryd.prog 95 := ⟨Tryd.f95, Tryd.func95, by kernel_rfl, by kernel_rfl⟩
theorem ca98 : Callable Tryd.prog 98 := ⟨Tryd.f98, Tryd.func98, by kernel_rfl, by kernel_rfl⟩
theorem ca99 : Callable Tryd.prog 99 := ⟨Tryd.f99, Tryd.func99, by kernel_rfl, by kernel_rfl⟩
theorem ca100 : Callable Tryd.prog 100 := ⟨Tryd.f100, Tryd.func100, by kernel_rfl, by kernel_rfl⟩
theorem ca101 : Callable Tryd.prog 101 := ⟨Tryd.f101, Tryd.func101, by kernel_rfl, by kernel_rfl⟩
theorem ca103 : Callable Tryd.prog 103 := ⟨Tryd.f103, Tryd.func103, by kernel_rfl, by kernel_rfl⟩
theorem ca106 : Callable Tryd.prog 106 := ⟨Tryd.f106, Tryd.func106, by kernel_rfl, by kernel_rfl⟩
theorem ca107 : Callable Tryd.prog 107 := ⟨Tryd.f107, Tryd.func107, by kernel_rfl, by kernel_rfl⟩
theorem mixed : Tryd.prog.follows .mixedOrders = true := by kernel_rfl
end Ty
end Go.Proofs.YtbfiibgmgopnaaaDoor

namespace Go.GV
open Go.RowKit Go.MapKept
structure MapK {κ : Type} (P : Program) (kt : TypeId) (f : κ → Value) : Prop where
  ex : ∃ d, P.underlying kt = some d ∧ (∀ a, IsKey d (f a)) ∧ ∀ a b, f a = f b → a = b
theorem mapK_s {P : Program} {kt : TypeId} (h : P.underlying kt = some .string) : MapK P kt vS := ⟨_, h, fun _ => trivial, fun a b h => by simpa using h⟩
def Born (es : Array MapEntry) (clock : Nat) : Prop := (es.toList.map (·.born)).Nodup ∧ ∀ e ∈ es.toList, e.born < clock
theorem Born.nil : Born #[] 0 := ⟨List.nodup_nil, fun _ h => by simp at h⟩
theorem Born.push {es : Array MapEntry} {clock : Nat} (h : Born es clock) (k v : Value) : Born (es.push ⟨k, v, clock⟩) (clock + 1) := by
  refine ⟨?_, fun e he => ?_⟩
  · rw [Array.toList_push, List.map_append, List.nodup_append]
    refine ⟨h.1, by simp, fun a ha b hb => ?_⟩
    simp only [List.map_cons, List.map_nil, List.mem_singleton] at hb
    subst hb
    obtain ⟨e, he, rfl⟩ := List.mem_map.1 ha
    have := h.2 e he
    omega
  · rw [Array.toList_push, List.mem_append, List.mem_singleton] at he
    rcases he with he | rfl
    · have := h.2 e he; omega
    · exact Nat.lt_succ_self _
theorem Born.modify {es : Array MapEntry} {clock : Nat} (h : Born es clock) (i : Nat) (g : MapEntry → MapEntry) (hg : ∀ e, (g e).born = e.born) : Born (es.modify i g) clock := by
  have e1 : (es.modify i g).toList.map (·.born) = es.toList.map (·.born) := by
    apply List.ext_getElem?
    intro j
    simp only [Array.toList_modify, List.getElem?_map, List.getElem?_modify]
    by_cases hij : i = j
    · subst hij
      cases es.toList[i]? <;> simp [hg]
    · simp [hij]
  refine ⟨by rw [e1]; exact h.1, fun e he => ?_⟩
  have : e.born ∈ es.toList.map (·.born) := by rw [← e1]; exact List.mem_map.2 ⟨e, he, rfl⟩
  obtain ⟨e', he', h2⟩ := List.mem_map.1 this
  have := h.2 e' he'
  omega
def Ent.mp {κ : Type} (f : κ → Value) (b : Nat) (l : List (κ × Value)) : Ent :=
  ⟨some b, fun o => ∃ es clock, o = some (.map es clock) ∧ es.toList.map (fun e => (e.key, e.val)) = l.map (fun p => (f p.1, p.2)) ∧ Born es clock⟩
def lk {κ : Type} [DecidableEq κ] : List (κ × Value) → κ → Option Value
  | [], _ => none
  | (a, v) :: l, k => if k = a then some v else lk l k
def upd {κ : Type} [DecidableEq κ] : List (κ × Value) → κ → Value → List (κ × Value)
  | [], k, v => [(k, v)]
  | (a, u) :: l, k, v => if k = a then (k, v) :: l else (a, u) :: upd l k v
section
variable {κ : Type} [DecidableEq κ] {a k : κ} {v u : Value} {l : List (κ × Value)} {r : Option Value}
theorem lk_nil : lk [] k = none := rfl
theorem lk_hit (h : k = a) : lk ((a, v) :: l) k = some v := if_pos h
theorem lk_ne (h : k ≠ a) (hr : lk l k = r) : lk ((a, v) :: l) k = r := (if_neg h).trans hr
theorem upd_new (h : lk l k = none) : upd l k v = l ++ [(k, v)] := by
  induction l with
  | nil => rfl
  | cons p l ih =>
    obtain ⟨a, u⟩ := p
    unfold lk at h
    split at h
    · cases h
    · rename_i hne
      unfold upd
      rw [if_neg hne, ih h]; rfl
theorem find_lk {d : TypeDesc} {f : κ → Value} (hd : ∀ a, IsKey d (f a)) (hi : ∀ a b, f a = f b → a = b) (k : κ) : ∀ (es : List MapEntry) (l : List (κ × Value)) (i : Nat), es.map (fun e => (e.key, e.val)) = l.map (fun p => (f p.1, p.2)) →
    (Instr.findNow d (f k) es i = some none ∧ lk l k = none) ∨ ∃ j v, Instr.findNow d (f k) es i = some (some (i + j, v)) ∧ lk l k = some v ∧ (∃ e, es[j]? = some e ∧ e.key = f k) ∧ ∀ u, (upd l k u).map (fun p => (f p.1, p.2)) = (l.map (fun p => (f p.1, p.2))).set j (f k, u)
  | [], [], i, _ => .inl ⟨rfl, rfl⟩
  | [], _ :: _, i, h => by cases h
  | _ :: _, [], i, h => by cases h
  | e :: es, (a, v) :: l, i, h => by
    simp only [List.map_cons, List.cons.injEq, Prod.mk.injEq] at h
    obtain ⟨⟨h1, h2⟩, h3⟩ := h
    obtain ⟨r, hr, hiff⟩ := sameNow_of_keys (hd k) (h1 ▸ hd a : IsKey d e.key)
    cases r with
    | true =>
      have hk : k = a := hi _ _ ((hiff.1 rfl).trans h1)
      refine .inr ⟨0, v, by simp [Instr.findNow, hr, h2], by rw [lk, if_pos hk], ⟨e, rfl, (hiff.1 rfl).symm⟩, fun u => ?_⟩
      simp [upd, if_pos hk]
    | false =>
      have hne : k ≠ a := fun q => by have := hiff.2 (by rw [h1, q]); cases this
      rcases find_lk hd hi k es l (i + 1) h3 with ⟨x1, x2⟩ | ⟨j, u, x1, x2, x3, x4⟩
      · exact .inl ⟨by simp [Instr.findNow, hr, x1], by rw [lk, if_neg hne, x2]⟩
      · refine .inr ⟨j + 1, u, by simp [Instr.findNow, hr, x1]; omega, by rw [lk, if_neg hne, x2], by simpa using x3, fun u => ?_⟩
        rw [upd, if_neg hne, List.map_cons, x4 u]; rfl
end
theorem mp_at {κ : Type} {f : κ → Value} {b : Nat} {l : List (κ × Value)} {w : World} (h : (Ent.mp f b l).at w) : ∃ es clock, w.heap[b]? = some (.map es clock) ∧ es.toList.map (fun e => (e.key, e.val)) = l.map (fun p => (f p.1, p.2)) ∧ Born es clock := by
  simpa [Ent.at, Ent.mp] using h.1
section
variable {E : Env} {P : Program} {x y z : Operand} {dst : Option Nat} {t t' ty u : TypeId} {pos : String} {af : Array Edge} {g : Option (Nat × Bool)} {κ : Type} [DecidableEq κ]
theorem run_lookup_mp {f : κ → Value} {b : Nat} {l : List (κ × Value)} {w : World} {kt et : TypeId} {zv : Value} {k : κ} (hat : (Ent.mp f b l).at w) (ht : P.underlying t = some (.map kt et)) (hK : MapK P kt f) (hz : zeroIs P et = some zv) (ok : Bool) :
    (Instr.lookup t (.map (some b)) (f k) ok).run P w = .ok (if ok then .tuple #[(lk l k).getD zv, .bool (lk l k).isSome] else (lk l k).getD zv) w := by
  obtain ⟨es, clock, hb, hes, hborn⟩ := mp_at hat
  obtain ⟨d, hd, hkey, hinj⟩ := hK.ex
  unfold Instr.lookup
  simp only [Sem.run_bind, run_underlying ht, Result.andThen_ok, MapKept.run_getObj_map hb, Sem.run_pure, MapKept.run_checkKey hd (hkey k)]
  rcases find_lk hkey hinj k es.toList l 0 hes with ⟨h1, h2⟩ | ⟨j, v, h1, h2, _⟩
  · simp only [MapKept.run_findKey hd h1, Result.andThen_ok, Sem.run_bind, run_zeroValue_is hz, Sem.run_pure, h2]
    cases ok <;> rfl
  · simp only [MapKept.run_findKey hd h1, Result.andThen_ok, Sem.run_bind, Sem.run_pure, h2]
    cases ok <;> rfl
theorem x_lookup_ok {S : List Nat} {w0 : World} {L : List Ent} (j : Nat) {f : κ → Value} {b : Nat} {l : List (κ × Value)} {kt et : TypeId} {zv : Value} {k : κ} {r : Option Value} (hx : ev E x = .map (some b)) (hy : ev E y = f k) (hj : L[j]? = some (Ent.mp f b l)) (ht : P.underlying t = some (.map kt et)) (hK : MapK P kt f) (hz : zeroIs P et = some zv) (hr : lk l k = r) :
    ∀ w, St S w0 w L → (execOp (ev E) ⟨dst, .lookup t x y true, ty, pos, af, g⟩).run P w = .ok (.value (.tuple #[r.getD zv, vB r.isSome])) w := by
  intro w hS
  subst hr
  simp only [execOp, hx, hy]
  show Sem.run P (do let v ← Instr.lookup t (.map (some b)) (f k) true; pure (Next.value v)) w = _
  rw [Sem.run_bind, run_lookup_mp (k := k) (hS.mem hj) ht hK hz true]; rfl
theorem x_lookup_okv {S : List Nat} {w0 : World} {L : List Ent} (j : Nat) {f : κ → Value} {b : Nat} {l : List (κ × Value)} {kt et : TypeId} {zv v : Value} {o : Bool} {k : κ} {r : Option Value} (hx : ev E x = .map (some b)) (hy : ev E y = f k) (hj : L[j]? = some (Ent.mp f b l)) (ht : P.underlying t = some (.map kt et)) (hK : MapK P kt f) (hz : zeroIs P et = some zv) (hr : lk l k = r) (hv : r.getD zv = v) (ho : r.isSome = o) :
    ∀ w, St S w0 w L → (execOp (ev E) ⟨dst, .lookup t x y true, ty, pos, af, g⟩).run P w = .ok (.value (.tuple #[v, vB o])) w := by
  subst hv; subst ho; exact x_lookup_ok j hx hy hj ht hK hz hr
omit [DecidableEq κ] in
theorem O_makeMap {S : List Nat} {w0 : World} {L : List Ent} {K : Value → List Ent → Prop} (f : κ → Value) (k : ∀ b, K (.map (some b)) (Ent.mp f b [] :: L)) : OpJ P S w0 E L ⟨dst, .makeMap t none, ty, pos, af, g⟩ K := by
  intro w hS
  refine ⟨_, _, _, .inl ?_, hS.alloc (.map #[] 0) (Ent.mp f w.heap.size []) rfl ⟨_, _, rfl, rfl, Born.nil⟩, k w.heap.size⟩
  have hr : (Instr.makeMap t none).run P w = .ok (.map (some w.heap.size)) (w.alloc (.map #[] 0)) := by
    simp [Instr.makeMap, newObj, Sem.run]
  simp only [execOp]
  show Sem.run P (do let v ← Instr.makeMap t none; pure (Next.value v)) w = _
  rw [Sem.run_bind, hr]; rfl
theorem run_update_mp {f : κ → Value} {b : Nat} {l : List (κ × Value)} {w : World} {kt et : TypeId} {k : κ} {v : Value} (hat : (Ent.mp f b l).at w) (ht : P.underlying t = some (.map kt et)) (hK : MapK P kt f) :
    ∃ w', (Instr.mapUpdate t (.map (some b)) (f k) v).run P w = .ok () w' ∧ Fr [b] w w' ∧ (Ent.mp f b (upd l k v)).prop w'.heap[b]? := by
  obtain ⟨es, clock, hb, hes, hborn⟩ := mp_at hat
  obtain ⟨d, hd, hkey, hinj⟩ := hK.ex
  have fr : ∀ o, Fr [b] w { w with heap := w.heap.setIfInBounds b o } := fun o => ⟨rfl, rfl, rfl, by simp, fun i hi hn => (MapKept.heap_set (o' := o) hb).2 i (by simpa using hn)⟩
  unfold Instr.mapUpdate
  simp only [Sem.run_bind, run_underlying ht, Result.andThen_ok, MapKept.run_getObj_map hb, MapKept.run_checkKey hd (hkey k)]
  rcases find_lk hkey hinj k es.toList l 0 hes with ⟨h1, h2⟩ | ⟨j, v', h1, h2, ⟨e, he, hek⟩, h4⟩
  · simp only [MapKept.run_findKey hd h1, Result.andThen_ok, MapKept.run_setObj_map _ hb]
    refine ⟨_, rfl, fr _, _, _, (MapKept.heap_set hb).1, ?_, hborn.push _ _⟩
    rw [upd_new h2]
    simp [hes]
  · have he' : es[j]? = some e := by simpa using he
    simp only [MapKept.run_findKey hd h1, Result.andThen_ok, Nat.zero_add, he', Option.map_some, Option.getD_some, hek, MapKept.run_keyThatStays (hkey k), MapKept.run_setObj_map _ hb, Sem.run_bind]
    refine ⟨_, rfl, fr _, _, _, (MapKept.heap_set hb).1, ?_, hborn.modify _ _ fun _ => rfl⟩
    rw [h4 v, ← hes]
    apply List.ext_getElem?
    intro i
    simp only [Array.toList_modify, List.getElem?_map, List.getElem?_modify, List.getElem?_set, List.length_map]
    by_cases hij : j = i
    · subst hij
      have hlt : j < es.toList.length := (List.getElem?_eq_some_iff.1 he).1
      have hlt' : j < es.size := by simpa using hlt
      simp [hlt']
    · simp [hij]
theorem O_mapUpdate {S : List Nat} {w0 : World} {L : List Ent} {K : Value → List Ent → Prop} (j : Nat) {f : κ → Value} {b : Nat} {l : List (κ × Value)} {kt et : TypeId} {k : κ} {v : Value} (l' : List (κ × Value)) (L' : List Ent) (hx : ev E x = .map (some b)) (hy : ev E y = f k) (hz : ev E z = v) (hj : L[j]? = some (Ent.mp f b l)) (ht : P.underlying t = some (.map kt et)) (hK : MapK P kt f)
    (hl : upd l k v = l') (hL : L.set j (Ent.mp f b l') = L') (kk : K undef L') : OpJ P S w0 E L ⟨dst, .mapUpdate t x y z, ty, pos, af, g⟩ K := by
  intro w hS
  subst hl; subst hL
  obtain ⟨w', hr, hF, hB⟩ := run_update_mp (P := P) (t := t) (k := k) (v := v) (hS.mem hj) ht hK
  refine ⟨undef, _, w', .inr ⟨?_, rfl⟩, hS.writeAt hj b rfl rfl hF hB, kk⟩
  simp only [execOp, hx, hy, hz]
  show Sem.run P (do Instr.mapUpdate t (.map (some b)) (f k) v; pure Next.skip) w = _
  rw [Sem.run_bind, hr]; rfl
theorem O_insert {S : List Nat} {w0 : World} {L : List Ent} {K : Value → List Ent → Prop} (j : Nat) {f : κ → Value} {b : Nat} {l : List (κ × Value)} {kt et : TypeId} {k : κ} {v : Value} (l' : List (κ × Value)) (L' : List Ent) (hx : ev E x = .map (some b)) (hy : ev E y = f k) (hz : ev E z = v) (hj : L[j]? = some (Ent.mp f b l)) (ht : P.underlying t = some (.map kt et)) (hK : MapK P kt f)
    (hl : upd l k v = l') (hL : L.set j (Ent.mp f b l') = L') (kk : K undef L') : OpJ P S w0 E L ⟨dst, .insert t x y z, ty, pos, af, g⟩ K := by
  intro w hS
  subst hl; subst hL
  obtain ⟨w', hr, hF, hB⟩ := run_update_mp (P := P) (t := t) (k := k) (v := v) (hS.mem hj) ht hK
  refine ⟨undef, _, w', .inr ⟨?_, rfl⟩, hS.writeAt hj b rfl rfl hF hB, kk⟩
  simp only [execOp, hx, hy, hz]
  show Sem.run P (do Instr.mapUpdate t (.map (some b)) (f k) v; pure Next.skip) w = _
  rw [Sem.run_bind, hr]; rfl
end
section
variable {E : Env} {P : Program} {w : World} {x y : Operand} {dst : Option Nat} {t t' ty : TypeId} {pos : String} {af : Array Edge} {g : Option (Nat × Bool)}
def isFn : Value → Bool
  | .func .. => true
  | _ => false
end
end Go.GV
