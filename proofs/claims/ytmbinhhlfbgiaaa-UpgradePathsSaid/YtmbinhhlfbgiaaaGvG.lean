/- GvG: rows that grow: a slice of the call's own, nil or at the head of a block, appended to; slices that came in and are only read. -/
import Derived.Test.YtmbinhhlfbgiaaaGvE
import Derived.Maps.AppendAt
import Derived.Deep.AppendSrc
namespace Go.GV
open Go.RowKit
def Ent.row (v : Value) (e : TypeId) (sz n : Nat) (cs : List Value) : Ent :=
  ⟨v.ownBlock, fun o => cs.length = n * sz ∧ ((v = .slice none 0 0 ∧ n = 0) ∨ ∃ g cap cur, v = .slice (some ⟨g, 0, none⟩) n cap ∧ o = some (.cells cur e (0, 0)) ∧ n ≤ cap ∧ cap ≤ maxLen ∧ cur.size = cap * sz ∧ cur.toList.take (n * sz) = cs)⟩
section
variable {w : World} {v : Value} {e : TypeId} {sz n : Nat} {cs : List Value}
theorem row_owns (h : (Ent.row v e sz n cs).at w) : w.ownsRow 0 e sz v n cs := by
  obtain ⟨⟨h1, h2⟩, _⟩ := h
  refine ⟨h1, ?_⟩
  rcases h2 with h2 | ⟨g, cap, cur, rfl, ho, h3⟩
  · exact .inl h2
  · exact .inr ⟨g, cap, cur, rfl, Nat.zero_le _, by simpa [Ent.row, Value.ownBlock] using ho, h3⟩
theorem owns_row {base : Nat} (h : w.ownsRow base e sz v n cs) : (Ent.row v e sz n cs).at w := by
  refine ⟨⟨h.1, ?_⟩, fun b hb => (h.lt b hb).2⟩
  rcases h.2 with h2 | ⟨g, cap, cur, rfl, _, ho, h3⟩
  · exact .inl h2
  · exact .inr ⟨g, cap, cur, rfl, by simpa [Ent.row, Value.ownBlock] using ho, h3⟩
end
theorem St.nilrow {S : List Nat} {w0 w : World} {L : List Ent} (h : St S w0 w L) (e : TypeId) (sz : Nat) : St S w0 w (Ent.row (.slice none 0 0) e sz 0 [] :: L) := by
  refine ⟨h.fr, ?_, List.pairwise_cons.2 ⟨fun x _ b hb => ?_, h.dis⟩, ?_⟩
  · intro x hx
    rcases List.mem_cons.1 hx with rfl | hx
    · exact owns_row (World.ownsRow_nil w 0 e sz)
    · exact h.hold x hx
  · simp [Ent.row, Value.ownBlock] at hb
  · intro x hx b hb
    rcases List.mem_cons.1 hx with rfl | hx
    · simp [Ent.row, Value.ownBlock] at hb
    · exact h.own x hx b hb
theorem St.torow {S : List Nat} {w0 w : World} {L : List Ent} {b : Nat} {e : TypeId} {cs : List Value} (h : St S w0 w (Ent.blk b e cs :: L)) (sz n : Nat) (hl : cs.length = n * sz) (hm : n ≤ maxLen) : St S w0 w (Ent.row (.slice (some ⟨b, 0, none⟩) n n) e sz n cs :: L) := by
  have h0 := h.hold (Ent.blk b e cs) (by simp)
  obtain ⟨hb, _⟩ := blk_at h0
  refine ⟨h.fr, ?_, ?_, ?_⟩
  · intro x hx
    rcases List.mem_cons.1 hx with rfl | hx
    · refine owns_row (base := 0) ⟨hl, .inr ⟨b, n, _, rfl, Nat.zero_le _, hb, Nat.le_refl _, hm, by simpa using hl, ?_⟩⟩
      simp [← hl]
    · exact h.hold x (by simp [hx])
  · have hd := List.pairwise_cons.1 h.dis
    exact List.pairwise_cons.2 ⟨fun x hx c hc => hd.1 x hx c (by simpa [Ent.row, Value.ownBlock, Ent.blk] using hc), hd.2⟩
  · intro x hx c hc
    rcases List.mem_cons.1 hx with rfl | hx
    · exact h.own (Ent.blk b e cs) (by simp) c (by simpa [Ent.row, Value.ownBlock, Ent.blk] using hc)
    · exact h.own x (by simp [hx]) c hc
theorem St.swap {S : List Nat} {w0 w w' : World} {e e' : Ent} {L : List Ent} (h : St S w0 w (e :: L)) (hf : Fr e.own.toList w w') (hat : e'.at w') (ho : ∀ b, e'.own = some b → e.own = some b ∨ w.heap.size ≤ b) : St S w0 w' (e' :: L) := by
  have hd := List.pairwise_cons.1 h.dis
  have hown : ∀ b, b ∈ e.own.toList → e.own = some b := fun b hb => by simpa using hb
  refine ⟨?_, ?_, ?_, ?_⟩
  · refine ⟨hf.os.trans h.fr.os, hf.tape.trans h.fr.tape, hf.output.trans h.fr.output, Nat.le_trans h.fr.size hf.size, fun i hi hn => ?_⟩
    refine (hf.block i (Nat.lt_of_lt_of_le hi h.fr.size) ?_).trans (h.fr.block i hi hn)
    intro hib
    rcases h.own e (by simp) _ (hown i hib) with h1 | h1
    · exact hn h1
    · omega
  · intro x hx
    rcases List.mem_cons.1 hx with rfl | hx
    · exact hat
    · refine Ent.at_frame (h.hold x (by simp [hx])) hf.size fun c hc => hf.block c ((h.hold x (by simp [hx])).2 c hc) ?_
      intro hcb
      exact hd.1 x hx c (hown c hcb) hc
  · refine List.pairwise_cons.2 ⟨fun x hx c hc hc' => ?_, hd.2⟩
    rcases ho c hc with h1 | h1
    · exact hd.1 x hx c h1 hc'
    · exact absurd ((h.hold x (by simp [hx])).2 c hc') (by omega)
  · intro x hx c hc
    rcases List.mem_cons.1 hx with rfl | hx
    · rcases ho c hc with h1 | h1
      · exact h.own e (by simp) c h1
      · exact .inr (Nat.le_trans h.fr.size h1)
    · exact h.own x (by simp [hx]) c hc
theorem St.swapAt {S : List Nat} {w0 w w' : World} {e e' : Ent} {L : List Ent} {j : Nat} (h : St S w0 w L) (hj : L[j]? = some e) (hf : Fr e.own.toList w w') (hat : e'.at w') (ho : ∀ b, e'.own = some b → e.own = some b ∨ w.heap.size ≤ b) : St S w0 w' (L.set j e') :=
  ((h.front j e hj).swap hf hat ho).perm (set_perm L j e' (List.getElem?_eq_some_iff.1 hj).1)
theorem Fr.of_grownBy {w w' : World} {row : Option Nat} (h : w.grownBy w' row) : Fr row.toList w w' :=
  ⟨h.os, h.tape, h.output, h.size, fun i hi hn => h.block i hi (fun e => hn (by rw [← e]; simp))⟩
def Cells (w : World) (A : Option Addr) (cs : List Value) : Prop := ∀ j v, cs[j]? = some v → ∃ a, A = some a ∧ w.cell? (a.add j) = some v
section
variable {E : Env} {P : Program} {w : World} {x y z : Operand} {dst : Option Nat} {t t' ty u : TypeId} {pos : String} {af : Array Edge} {g : Option (Nat × Bool)}
theorem info_of {e : TypeId} {sz by_ : Nat} {z : Value} (hs : sizeIs P e = some sz) (hb : bytesIs P e = some by_) (hz : zeroIs P e = some z) : ∃ i, P.info? e = some i ∧ i.zero = some z ∧ i.size = sz ∧ i.bytes = by_ := by
  unfold sizeIs at hs; unfold zeroIs at hz; unfold bytesIs at hb
  cases hi : P.info? e with
  | none => rw [hi] at hs; cases hs
  | some i => rw [hi] at hs hz hb; simp at hs hz hb; exact ⟨i, rfl, hz, hs, hb⟩
theorem O_append {S : List Nat} {w0 : World} {L : List Ent} {K : Value → List Ent → Prop} (j : Nat) {e : TypeId} {sz by_ n m c : Nat} {zv v : Value} {A : Option Addr} {cs news : List Value}
    (ht : P.underlying t = some (.slice e)) (hs : sizeIs P e = some sz) (hb : bytesIs P e = some by_) (hz : zeroIs P e = some zv) (hzs : zv.cells.size = sz)
    (hx : ev E x = v) (hy : ev E y = .slice A m c) (hj : L[j]? = some (Ent.row v e sz n cs)) (hl : news.length = m * sz) (hsz : 0 < sz) (h1 : news.all Value.oneCell' = true) (hread : ∀ w, St S w0 w L → Cells w A news)
    (hbytes : (n + m) * by_ ≤ 140737488355328) (h63 : n + m ≤ 9223372036854775807)
    (k : ∀ A' c', K (.slice A' (n + m) c') (L.set j (Ent.row (.slice A' (n + m) c') e sz (n + m) (cs ++ news)))) : OpJ P S w0 E L ⟨dst, .call ⟨.builtin .append, #[x, y], #[t, t]⟩, ty, pos, af, g⟩ K := by
  intro w hS
  obtain ⟨i, hi, hiz, his, hib⟩ := info_of hs hb hz
  have hown := row_owns (hS.mem hj)
  have hc := hread w hS
  have hmax : n + m ≤ maxLen := by unfold maxLen; omega
  have hone : ∀ u ∈ news, u.oneCell' = true := fun u hu => List.all_eq_true.1 h1 u hu
  have key : ∃ v' w', (Builtin.append_ #[t, t] ty #[v, .slice A m c]).run P w = .ok v' w' ∧ w'.ownsRow 0 e sz v' (n + m) (cs ++ news) ∧ w.grownBy w' v.ownBlock ∧ (v'.ownBlock = v.ownBlock ∨ v'.ownBlock = some w.heap.size) := by
    rcases Nat.eq_zero_or_pos m with hm | hm
    · subst hm
      have hn : news = [] := List.eq_nil_of_length_eq_zero (by simpa using hl)
      subst hn
      cases A with
      | some a =>
        obtain ⟨v', w', hr, h2, h3, _, h5⟩ := run_append_own_at (P := P) w 0 t ty e i zv sz by_ ht hi hiz his hib hzs hsz v n cs hown a 0 c [] (by simp) (by simp) (by simp) hmax hbytes (Nat.zero_le _)
        exact ⟨v', w', hr, h2, h3, h5⟩
      | none =>
        refine ⟨v, w, ?_, by simpa using hown, ⟨rfl, rfl, rfl, Nat.le_refl _, fun _ _ _ => rfl⟩, .inl rfl⟩
        rcases hown.2 with ⟨rfl, rfl⟩ | ⟨g, cap, cur, rfl, _, _, hnc, _⟩
        · simp [Builtin.append_, run_underlying ht, sizeOf, typeInfo, hi, Builtin.lenOf, Builtin.firstCells]
        · simp [Builtin.append_, run_underlying ht, sizeOf, typeInfo, hi, Builtin.lenOf, Builtin.firstCells, hnc, storeCells]
    · have hpos : 0 < news.length := by rw [hl]; exact Nat.mul_pos hm hsz
      obtain ⟨a, rfl, _⟩ := hc 0 _ (List.getElem?_eq_getElem hpos)
      obtain ⟨v', w', hr, h2, h3, _, h5⟩ := run_append_own_at (P := P) w 0 t ty e i zv sz by_ ht hi hiz his hib hzs hsz v n cs hown a m c news hl (fun jj u hu => by
        obtain ⟨a', ha, hcell⟩ := hc jj u hu
        injection ha with ha; subst ha; exact hcell) hone hmax hbytes (Nat.zero_le _)
      exact ⟨v', w', hr, h2, h3, h5⟩
  obtain ⟨v', w', hr, h2, h3, h4⟩ := key
  obtain ⟨A', c', rfl⟩ : ∃ A' c', v' = .slice A' (n + m) c' := by
    rcases h2.2 with ⟨rfl, h0⟩ | ⟨g, cap, cur, rfl, _⟩
    · exact ⟨none, 0, by rw [h0]⟩
    · exact ⟨_, _, rfl⟩
  refine ⟨_, _, w', .inl ?_, hS.swapAt hj (Fr.of_grownBy h3) (owns_row h2) ?_, k A' c'⟩
  · simp [execOp, resolve, invoke, builtin, hx, hy, hr]
  · intro b hb
    have hb' : (Value.slice A' (n + m) c').ownBlock = some b := hb
    rcases h4 with h4 | h4
    · left; show v.ownBlock = some b; rw [← h4]; exact hb'
    · right; rw [h4] at hb'; injection hb' with hb'; omega
theorem cells_blk {S : List Nat} {w0 : World} {L : List Ent} (i : Nat) {b off m : Nat} {tb : TypeId} {cs news : List Value} {fz : Nat × Nat} (hi : L[i]? = some (Ent.blk b tb cs fz)) (hn : (cs.drop off).take m = news) :
    ∀ w, St S w0 w L → Cells w (some ⟨b, off, none⟩) news := by
  intro w h jj v hv
  refine ⟨_, rfl, ?_⟩
  rw [add_lit]
  refine blk_cell (h.mem hi) ?_
  rw [← hn, List.getElem?_take] at hv
  split at hv
  · simpa using hv
  · cases hv
theorem cells_row {S : List Nat} {w0 : World} {L : List Ent} (i : Nat) {A : Option Addr} {n c : Nat} {e : TypeId} {sz : Nat} {cs : List Value} (hi : L[i]? = some (Ent.row (.slice A n c) e sz n cs)) :
    ∀ w, St S w0 w L → Cells w A cs := by
  intro w h jj v hv
  have hown := row_owns (h.mem hi)
  rcases hown.2 with ⟨hv', rfl⟩ | ⟨g, cap, cur, hv', _, hg, _, _, _, ht⟩
  · have : cs = [] := List.eq_nil_of_length_eq_zero (by simpa using hown.1)
    subst this; simp at hv
  · injection hv' with h1 h2 h3
    subst h1
    refine ⟨_, rfl, ?_⟩
    rw [add_lit, Nat.zero_add, World.cell?, hg]
    rw [← ht, List.getElem?_take] at hv
    split at hv
    · simpa using hv
    · cases hv
def adr (A : Option Addr) (j : Nat) : Addr := (A.getD ⟨0, 0, none⟩).add j
theorem Cells.adr {w : World} {A : Option Addr} {cs : List Value} (h : Cells w A cs) {j : Nat} {v : Value} (hv : cs[j]? = some v) : w.cell? (adr A j) = some v := by
  obtain ⟨a, rfl, hc⟩ := h j v hv
  exact hc
theorem Cells.some {w : World} {A : Option Addr} {cs : List Value} (h : Cells w A cs) (hl : 0 < cs.length) : A.isSome = true := by
  obtain ⟨a, rfl, _⟩ := h 0 _ (List.getElem?_eq_getElem hl)
  rfl
theorem x_indexAddr_at {S : List Nat} {w0 : World} {L : List Ent} {kd : IntKind} {e : TypeId} {sz n c k off : Nat} {A : Option Addr} {cs : List Value} (hr : ∀ w, St S w0 w L → Cells w A cs) (ht : P.underlying t = Option.some (.slice e)) (hs : sizeIs P e = Option.some sz) (hx : ev E x = .slice A n c) (hy : ev E y = .int kd (k : Int)) (hk : k < n) (hl : 0 < cs.length) (hoff : k * sz = off) :
    ∀ w, St S w0 w L → (execOp (ev E) ⟨dst, .indexAddr t x y, ty, pos, af, g⟩).run P w = .ok (.value (.pointer (Option.some (adr A off)))) w := by
  intro w h
  subst hoff
  have := (hr w h).some hl
  cases A with
  | none => cases this
  | some a => exact x_indexAddr_sl ht hs hx hy hk rfl
theorem x_load_at {S : List Nat} {w0 : World} {L : List Ent} {A : Option Addr} {off : Nat} {cs : List Value} {u : Value} (hr : ∀ w, St S w0 w L → Cells w A cs) (hx : ev E x = .pointer (Option.some (adr A off))) (hs : scal P t = true) (hc : cs[off]? = Option.some u) :
    ∀ w, St S w0 w L → (execOp (ev E) ⟨dst, .load t x, ty, pos, af, g⟩).run P w = .ok (.value u) w :=
  fun w h => exec_load hx (run_loadVar_scal hs ((hr w h).adr hc))
def RO (S : List Nat) (w0 : World) (A : Option Addr) (cs : List Value) : Prop :=
  ∀ j v, cs[j]? = some v → ∃ a, A = some a ∧ a.block < w0.heap.size ∧ a.block ∉ S ∧ w0.cell? (a.add j) = some v
theorem add_block (a : Addr) (n : Nat) : (a.add n).block = a.block := by unfold Addr.add; split <;> rfl
theorem add_add (a : Addr) (i j : Nat) : (a.add i).add j = a.add (i + j) := by
  unfold Addr.add
  by_cases hi : i = 0 <;> by_cases hj : j = 0 <;> simp [hi, hj, Nat.add_assoc]
theorem adr_add (A : Option Addr) (i j : Nat) : (adr A i).add j = adr A (i + j) := add_add _ _ _
theorem RO.cell {S : List Nat} {w0 w : World} {A : Option Addr} {cs : List Value} (h : RO S w0 A cs) (hf : Fr S w0 w) {j : Nat} {v : Value} (hv : cs[j]? = some v) : w.cell? (adr A j) = some v := by
  obtain ⟨a, rfl, hb, hn, hc⟩ := h j v hv
  show w.cell? (a.add j) = some v
  rw [← hc]
  exact World.cell?_of_block (hf.block _ (by rw [add_block]; exact hb) (by rw [add_block]; exact hn))
theorem RO.on {S Sc : List Nat} {w0 w : World} {A : Option Addr} {cs : List Value} {Lc Lr : List Ent} (h : RO S w0 A cs) (hS : St S w0 w (Lc ++ Lr)) (hSc : ∀ b ∈ Sc, ∃ e ∈ Lc, e.own = some b) : RO Sc w A cs := by
  intro j v hv
  obtain ⟨a, rfl, hb, hn, hc⟩ := h j v hv
  refine ⟨a, rfl, Nat.lt_of_lt_of_le hb hS.fr.size, fun hin => ?_, ?_⟩
  · obtain ⟨e, he, ho⟩ := hSc _ hin
    rcases hS.own e (by simp [he]) _ ho with h1 | h1
    · exact hn h1
    · omega
  · rw [← hc]
    exact World.cell?_of_block (hS.fr.block _ (by rw [add_block]; exact hb) (by rw [add_block]; exact hn))
theorem RO.nil {S : List Nat} {w0 : World} {A : Option Addr} : RO S w0 A [] := fun j v h => by simp at h
theorem RO.drop {S : List Nat} {w0 : World} {A : Option Addr} {cs : List Value} (h : RO S w0 A cs) (k : Nat) : RO S w0 (A.map (·.add k)) (cs.drop k) := by
  intro j v hv
  rw [List.getElem?_drop] at hv
  obtain ⟨a, rfl, hb, hn, hc⟩ := h (k + j) v hv
  exact ⟨a.add k, rfl, by rw [add_block]; exact hb, by rw [add_block]; exact hn, by rw [add_add]; exact hc⟩
theorem RO.take {S : List Nat} {w0 : World} {A : Option Addr} {cs : List Value} (h : RO S w0 A cs) (k : Nat) : RO S w0 A (cs.take k) := by
  intro j v hv
  rw [List.getElem?_take] at hv
  split at hv
  · exact h j v hv
  · cases hv
theorem RO.of_blk {S : List Nat} {w0 w : World} {L : List Ent} (hS : St S w0 w L) (j : Nat) {b off m : Nat} {tb : TypeId} {cs news : List Value} {fz : Nat × Nat} (hj : L[j]? = some (Ent.blk b tb cs fz)) (hn : (cs.drop off).take m = news) : RO [] w (some ⟨b, off, none⟩) news := by
  intro jj v hv
  obtain ⟨a, ha, hc⟩ := cells_blk j hj hn w hS jj v hv
  injection ha with ha; subst ha
  exact ⟨_, rfl, (hS.mem hj).2 b rfl, by simp, hc⟩
theorem RO.of_row {S : List Nat} {w0 w : World} {L : List Ent} (hS : St S w0 w L) (j : Nat) {e : TypeId} {sz n c : Nat} {A : Option Addr} {cs : List Value} (hj : L[j]? = some (Ent.row (.slice A n c) e sz n cs)) : RO [] w A cs := by
  intro jj u hu
  obtain ⟨a, rfl, hc⟩ := cells_row j hj w hS jj u hu
  have hat := hS.mem hj
  exact ⟨a, rfl, hat.2 _ rfl, by simp, hc⟩
theorem own_apart {S Sc : List Nat} {w0 w : World} {Lc Lr : List Ent} (hS : St S w0 w (Lc ++ Lr)) (hSc : ∀ b ∈ Sc, ∃ e ∈ Lc, e.own = some b) {e : Ent} (he : e ∈ Lr) {b : Nat} (ho : e.own = some b) : b ∉ Sc := by
  intro hin
  obtain ⟨x, hx, hxo⟩ := hSc b hin
  exact (List.pairwise_append.1 hS.dis).2.2 x hx e he b hxo ho
theorem RO.of_rowS {S Sc : List Nat} {w0 w : World} {Lc Lr : List Ent} (hS : St S w0 w (Lc ++ Lr)) (hSc : ∀ b ∈ Sc, ∃ e ∈ Lc, e.own = some b) (j : Nat) {e : TypeId} {sz n c : Nat} {A : Option Addr} {cs : List Value} (hj : Lr[j]? = some (Ent.row (.slice A n c) e sz n cs)) : RO Sc w A cs := by
  intro jj v hv
  obtain ⟨a, ha, hb, _, hc⟩ := RO.of_row hS (Lc.length + j) (by rw [List.getElem?_append_right (by omega)]; simpa using hj) jj v hv
  subst ha
  exact ⟨_, rfl, hb, own_apart hS hSc (List.mem_of_getElem? hj) rfl, hc⟩
theorem cells_ro {S : List Nat} {w0 : World} {L : List Ent} {A : Option Addr} {cs : List Value} (h : RO S w0 A cs) : ∀ w, St S w0 w L → Cells w A cs := by
  intro w hS j v hv
  have hc := h.cell hS.fr hv
  obtain ⟨a, rfl, _⟩ := h j v hv
  exact ⟨a, rfl, hc⟩
theorem x_loadN_at {S : List Nat} {w0 : World} {L : List Ent} {A : Option Addr} {off : Nat} {cs : List Value} (vs : List Value) (hr : ∀ w, St S w0 w L → Cells w A cs) (hx : ev E x = .pointer (some (adr A off))) (hs : aggs P t = true) (hn : sizeIs P t = some vs.length) (hc : (cs.drop off).take vs.length = vs) :
    ∀ w, St S w0 w L → (execOp (ev E) ⟨dst, .load t x, ty, pos, af, g⟩).run P w = .ok (.value (.agg vs.toArray)) w := by
  intro w hS
  refine exec_load hx (run_loadVar_aggs hs hn fun i u hu => ?_)
  rw [adr_add]
  refine (hr w hS).adr ?_
  rw [← hc, List.getElem?_take] at hu
  split at hu
  · simpa using hu
  · cases hu
end
theorem flat_at {α : Type} (f : α → List Value) (sz : Nat) (hf : ∀ a, (f a).length = sz) : ∀ (xs : List α) (d : α) (k o : Nat), k < xs.length → o < sz → (xs.flatMap f)[k * sz + o]? = (f (xs.getD k d))[o]?
  | x :: xs, d, 0, o, _, ho => by
    simp only [List.flatMap_cons, Nat.zero_mul, Nat.zero_add, List.getD_cons_zero]
    rw [List.getElem?_append_left (by rw [hf]; exact ho)]
  | x :: xs, d, k + 1, o, hk, ho => by
    simp only [List.flatMap_cons, List.getD_cons_succ]
    rw [List.getElem?_append_right (by rw [hf, Nat.add_mul]; omega), hf]
    have e : (k + 1) * sz + o - sz = k * sz + o := by rw [Nat.add_mul]; omega
    rw [e]
    exact flat_at f sz hf xs d k o (by simpa using hk) ho
theorem flat_length {α : Type} (f : α → List Value) (sz : Nat) (hf : ∀ a, (f a).length = sz) (xs : List α) : (xs.flatMap f).length = xs.length * sz := by
  induction xs with
  | nil => simp
  | cons x xs ih => simp [List.flatMap_cons, ih, hf, Nat.add_mul, Nat.add_comm]
theorem flat_drop {α : Type} (f : α → List Value) (sz : Nat) (hf : ∀ a, (f a).length = sz) (xs : List α) (d : α) (k : Nat) (hk : k < xs.length) : ((xs.flatMap f).drop (k * sz)).take sz = f (xs.getD k d) := by
  apply List.ext_getElem?
  intro o
  rw [List.getElem?_take]
  by_cases ho : o < sz
  · rw [if_pos ho, List.getElem?_drop, flat_at f sz hf xs d k o hk ho]
  · rw [if_neg ho, List.getElem?_eq_none (by rw [hf]; omega)]
end Go.GV
namespace Go.GV
open Go.RowKit
section
variable {E : Env} {P : Program} {w : World} {x y z : Operand} {dst : Option Nat} {t t' ty u : TypeId} {pos : String} {af : Array Edge} {g : Option (Nat × Bool)}
theorem O_append_m {α : Type} {S : List Nat} {w0 : World} {L : List Ent} {K : Value → List Ent → Prop} (j : Nat) (f : α → Value) (xs ys : List α) {e : TypeId} {by_ m c c0 : Nat} {zv : Value} {A A0 : Option Addr}
    (ht : P.underlying t = some (.slice e)) (hs : sizeIs P e = some 1) (hb : bytesIs P e = some by_) (hz : zeroIs P e = some zv) (hzs : zv.cells.size = 1)
    (hx : ev E x = .slice A0 xs.length c0) (hy : ev E y = .slice A m c) (hj : L[j]? = some (Ent.row (.slice A0 xs.length c0) e 1 xs.length (xs.map f))) (hm : m = ys.length) (h1 : ∀ a, one (f a) = true) (hread : ∀ w, St S w0 w L → Cells w A (ys.map f))
    (hbytes : (xs.length + ys.length) * by_ ≤ 140737488355328) (h63 : xs.length + ys.length ≤ 9223372036854775807)
    (k : ∀ A' c', K (.slice A' (xs ++ ys).length c') (L.set j (Ent.row (.slice A' (xs ++ ys).length c') e 1 (xs ++ ys).length ((xs ++ ys).map f)))) : OpJ P S w0 E L ⟨dst, .call ⟨.builtin .append, #[x, y], #[t, t]⟩, ty, pos, af, g⟩ K := by
  subst hm
  refine O_append j ht hs hb hz hzs hx hy hj (by simp) (by omega) ?_ hread hbytes h63 fun A' c' => ?_
  · rw [List.all_map, List.all_eq_true]; intro a _; exact one_cell' (h1 a)
  · have := k A' c'
    rw [List.map_append, List.length_append] at this
    exact this
theorem O_append_f {α : Type} {S : List Nat} {w0 : World} {L : List Ent} {K : Value → List Ent → Prop} (j : Nat) (f : α → List Value) (sz : Nat) (xs ys : List α) {e : TypeId} {by_ m c c0 : Nat} {zv : Value} {A A0 : Option Addr}
    (ht : P.underlying t = some (.slice e)) (hs : sizeIs P e = some sz) (hb : bytesIs P e = some by_) (hz : zeroIs P e = some zv) (hzs : zv.cells.size = sz) (hsz : 0 < sz)
    (hx : ev E x = .slice A0 xs.length c0) (hy : ev E y = .slice A m c) (hj : L[j]? = some (Ent.row (.slice A0 xs.length c0) e sz xs.length (xs.flatMap f))) (hm : m = ys.length) (hf : ∀ a, (f a).length = sz) (h1 : ∀ a, (f a).all Value.oneCell' = true) (hread : ∀ w, St S w0 w L → Cells w A (ys.flatMap f))
    (hbytes : (xs.length + ys.length) * by_ ≤ 140737488355328) (h63 : xs.length + ys.length ≤ 9223372036854775807)
    (k : ∀ A' c', K (.slice A' (xs ++ ys).length c') (L.set j (Ent.row (.slice A' (xs ++ ys).length c') e sz (xs ++ ys).length ((xs ++ ys).flatMap f)))) : OpJ P S w0 E L ⟨dst, .call ⟨.builtin .append, #[x, y], #[t, t]⟩, ty, pos, af, g⟩ K := by
  subst hm
  refine O_append j ht hs hb hz hzs hx hy hj (flat_length f sz hf ys) hsz ?_ hread hbytes h63 fun A' c' => ?_
  · rw [List.all_eq_true]; intro v hv
    obtain ⟨a, _, ha⟩ := List.mem_flatMap.1 hv
    exact List.all_eq_true.1 (h1 a) v ha
  · have := k A' c'
    rw [List.flatMap_append, List.length_append] at this
    exact this
end
end Go.GV
namespace Go.GV
open Go.RowKit
theorem own_mem {Sc : List Nat} {Lc : List Ent} (h : Lc.filterMap Ent.own = Sc) : ∀ b ∈ Sc, ∃ e ∈ Lc, e.own = some b := by
  subst h; intro b hb; exact List.mem_filterMap.1 hb
theorem own_in {Sc : List Nat} {Lc : List Ent} (h : Lc.filterMap Ent.own = Sc) : ∀ e ∈ Lc, ∀ b, e.own = some b → b ∈ Sc := by
  subst h; intro e he b hb; exact List.mem_filterMap.2 ⟨e, he, hb⟩
abbrev vN (n : Nat) : Value := vI (n : Int)
section
variable {E : Env} {P : Program} {w : World} {x y z : Operand} {dst : Option Nat} {t t' ty u : TypeId} {pos : String} {af : Array Edge} {g : Option (Nat × Bool)}
theorem x_makeFunc {fn : Fn} {l1 l2 : List Operand} {v1 v2 : List Value} (h1 : l1.map (ev E) = v1) (h2 : l2.map (ev E) = v2) : (execOp (ev E) ⟨dst, .makeFunc fn l1.toArray l2.toArray, ty, pos, af, g⟩).run P w = .ok (.value (.func fn v1.toArray v2.toArray)) w := by
  subst h1; subst h2
  simp only [execOp, List.map_toArray]; rfl
end
end Go.GV
namespace Go.GV
open Go.RowKit
abbrev vP (a : Addr) : Value := .pointer (some a)
def derefs (S : List Nat) (w : World) : List Addr → List Int → Prop
  | [], [] => True
  | a :: as, x :: xs => RO S w (some a) [vI x] ∧ derefs S w as xs
  | _, _ => False
theorem RO.later {S Sc : List Nat} {w0 w : World} {A : Option Addr} {cs : List Value} {Lc Lr : List Ent} (hS : St S w0 w (Lc ++ Lr)) (hSc : ∀ b ∈ Sc, ∃ e ∈ Lc, e.own = some b) (h : RO S w0 A cs) : RO Sc w A cs := h.on hS hSc
theorem derefs.on {S Sc : List Nat} {w0 w : World} {Lc Lr : List Ent} (hS : St S w0 w (Lc ++ Lr)) (hSc : ∀ b ∈ Sc, ∃ e ∈ Lc, e.own = some b) : ∀ {as : List Addr} {xs : List Int}, derefs S w0 as xs → derefs Sc w as xs
  | [], [], _ => trivial
  | _ :: _, _ :: _, h => ⟨h.1.on hS hSc, derefs.on hS hSc h.2⟩
  | [], _ :: _, h => h.elim
  | _ :: _, [], h => h.elim
section
variable {E : Env} {P : Program} {w : World} {x y z : Operand} {dst : Option Nat} {t t' ty u : TypeId} {pos : String} {af : Array Edge} {g : Option (Nat × Bool)}
end
end Go.GV
