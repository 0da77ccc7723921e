/- GvY, GvZ, GvLt, GvKp, St39, Op39 in one text. -/
import Derived.Test.YtbfiibgmgopnaaaDoorJobtextLines4
import Derived.RangeFuncRecord
import Derived.Test.YtbfiibgmgopnaaaDoorJobtextLines3
set_option linter.unusedVariables false
set_option linter.unusedSimpArgs false
namespace Go.GV
open Go.RowKit
def Ent.obj (b : Nat) (o : Obj) : Ent := ⟨some b, fun x => x = some o⟩
def mark (D : Nat) : Deferred := { target := .collected D, args := #[] }
abbrev dfr (D : Nat) : Ent := Ent.obj D (.deferred (some []))
abbrev lp (r : Loop) (s : LoopState) : Obj := .loop { r with state := s, pending := none }
def Old (S : List Nat) (w0 : World) (S2 : List Nat) (w2 : World) : Prop := ∀ i, i < w0.heap.size → i ∉ S → i < w2.heap.size ∧ i ∉ S2 ∧ w2.heap[i]? = w0.heap[i]?
theorem Old.trans {S1 S2 S3 : List Nat} {w1 w2 w3 : World} (h : Old S1 w1 S2 w2) (k : Old S2 w2 S3 w3) : Old S1 w1 S3 w3 := fun i hi hs => by
  obtain ⟨h1, h2, h3⟩ := h i hi hs
  obtain ⟨k1, k2, k3⟩ := k i h1 h2
  exact ⟨k1, k2, k3.trans h3⟩
theorem Old.of_st {S Sc : List Nat} {w0 w : World} {Lc Lr : List Ent} (hS : St S w0 w (Lc ++ Lr)) (hSc : ∀ b ∈ Sc, ∃ e ∈ Lc, e.own = some b) : Old S w0 Sc w := fun i hi hs => by
  refine ⟨Nat.lt_of_lt_of_le hi hS.fr.size, fun hc => ?_, hS.fr.block i hi hs⟩
  obtain ⟨e, he, ho⟩ := hSc _ hc
  rcases hS.own e (List.mem_append_left _ he) _ ho with h4 | h4
  · exact hs h4
  · omega
theorem RO.old {S S2 : List Nat} {w0 w2 : World} {A : Option Addr} {cs : List Value} (h : RO S w0 A cs) (ho : Old S w0 S2 w2) : RO S2 w2 A cs := fun j v hv => by
  obtain ⟨a, ha, hb, hn, hc⟩ := h j v hv
  obtain ⟨h1, h2, h3⟩ := ho _ hb hn
  refine ⟨a, ha, h1, h2, ?_⟩
  rw [← hc]
  exact World.cell?_of_block (by rw [add_block]; exact h3)
section
variable {P : Program} {n : Dim} {S : List Nat} {w0 w : World} {Q : Post} {E : Env} {L : List Ent}
theorem fr_putObj (w : World) (b : Nat) (o : Obj) : Fr [b] w (w.putObj b o) := ⟨rfl, rfl, rfl, by simp, fun i _ hn => World.putObj_heap_other (fun e => hn (by simp [e]))⟩
theorem obj_at {b : Nat} {o : Obj} (h : (Ent.obj b o).at w) : w.heap[b]? = some o := h.1
theorem St.putObj {b : Nat} {o : Obj} (h : St S w0 w (Ent.obj b o :: L)) (o' : Obj) : St S w0 (w.putObj b o') (Ent.obj b o' :: L) :=
  h.write b rfl rfl (fr_putObj w b o') (World.putObj_heap_same ((h.hold _ List.mem_cons_self).2 b rfl))
theorem St.allocObj (h : St S w0 w L) (o : Obj) : St S w0 (w.alloc o) (Ent.obj w.heap.size o :: L) := h.alloc o _ rfl rfl
theorem St.togive (h : St S w0 w L) : Give (Lown L) w L := ⟨h.hold, h.dis, fun e he b hb => lown_in e he b hb⟩
def YieldOk (P : Program) (l : Nat) (S : List Nat) (w0 : World) {α X : Type} (enc : α → List Value) (I : List α → X → Prop) (Lf : List α → X → List Ent) (xs : List α) : Prop :=
  ∀ pre a rest st (Lo : List Ent) (w : World), xs = pre ++ a :: rest → I pre st → St S w0 w (Lo ++ Lf pre st) →
    ∃ fn tmps assign body, (∀ vs, vs = enc a → (Instr.yield l vs.toArray).run P w = .ok (.round l fn tmps assign body) w) ∧
      RoundIn Fence.wide 0 P l fn tmps assign body w fun e w' => e = .returned (.bool true) ∧ ∃ st', I (pre ++ [a]) st' ∧ St S w0 w' (Lo ++ Lf (pre ++ [a]) st')
theorem x_yield {x : Operand} {dst : Option Nat} {ty : TypeId} {pos : String} {af : Array Edge} {g : Option (Nat × Bool)} {l : Nat} {os : List Operand} {vs : List Value} {ts : Array TypeId} {r : Next} (hx : ev E x = .func (.yield l) #[] #[]) (ha : os.map (ev E) = vs) (hy : (Instr.yield l vs.toArray).run P w = .ok r w) :
    (execOp (ev E) ⟨dst, .call ⟨.value x, os.toArray, ts⟩, ty, pos, af, g⟩).run P w = .ok r w := by
  subst ha
  simp only [execOp, resolve, List.map_toArray, hx, Deferred.ofValue, Sem.run_bind, Sem.run_pure, Result.andThen_ok, invoke, List.append_toArray]
  simpa using hy
section
variable {ops : Array Oper} {rest : List Oper}
theorem JO_yield {x : Operand} {dst : Option Nat} {ty : TypeId} {pos : String} {af : Array Edge} {g : Option (Nat × Bool)} {l : Nat} {os : List Operand} {ts : Array TypeId} {α X : Type} {enc : α → List Value} {I : List α → X → Prop} {Lf : List α → X → List Ent} {xs : List α}
    (hY : YieldOk P l S w0 enc I Lf xs) {pre : List α} {a : α} {ys : List α} {st : X} (hp : xs = pre ++ a :: ys) (hI : I pre st) (Lo : List Ent)
    (hfit : fit n E ⟨dst, .call ⟨.value x, os.toArray, ts⟩, ty, pos, af, g⟩ = true) (hw : wants ops E ⟨dst, .call ⟨.value x, os.toArray, ts⟩, ty, pos, af, g⟩)
    (hx : ev E x = .func (.yield l) #[] #[]) (ha : os.map (ev E) = enc a) (hL : ∀ w, St S w0 w L → St S w0 w (Lo ++ Lf pre st))
    (h : ∀ st', I (pre ++ [a]) st' → JO P n S w0 ops rest Q (put E dst (vB true)) (Lo ++ Lf (pre ++ [a]) st')) : JO P n S w0 ops (⟨dst, .call ⟨.value x, os.toArray, ts⟩, ty, pos, af, g⟩ :: rest) Q E L := by
  intro act w hR hS
  obtain ⟨fn, tmps, assign, body, hy, hround⟩ := hY pre a ys st Lo w hp hI (hL w hS)
  unfold wpListIn
  rw [if_pos (wants_wanted hR hw)]
  refine ⟨fun _ _ => trivial, ?_⟩
  rw [fit_sem hfit hR, x_yield hx rfl (hy _ ha)]
  refine ⟨fun h => (by cases h), RoundIn.mono (F := Wd n.ro) hround ?_⟩
  rintro e w' ⟨rfl, st', hI', hS'⟩
  exact h st' hI' _ _ (hR.put (fit_dst hfit) _) hS'
end
theorem JX_begin {l : Nat} {r : Loop} {body : Code} {RR : Ending → World → Prop}
    (h : J P n S w0 body (roundPost P l RR) E (Ent.obj l (lp r .busy) :: L)) :
    JX n S w0 (Exit.then (fun a₁ w₁ => ∃ w₂, (Instr.beginRound l).run P w₁ = .ok () w₂ ∧ body.wpIn (Wd n.ro) 0 P (roundPost P l RR) a₁ w₂) (fun _ _ _ => False)) .normal E (Ent.obj l (lp r .ready) :: L) := by
  intro a w hR hS
  exact ⟨_, run_beginRound (obj_at (hS.hold _ List.mem_cons_self)) rfl, h a _ hR (hS.putObj _)⟩
theorem JX_end {l : Nat} {r : Loop} {RR : Ending → World → Prop} (L' : List Ent) (hL : ∀ w, St S w0 w L → St S w0 w (Ent.obj l (lp r .busy) :: L')) (hRR : ∀ w, St S w0 w (Ent.obj l (lp r .ready) :: L') → RR (.returned (.bool true)) w) :
    JX n S w0 (roundPost P l RR) .normal E L := by
  intro a w hR hS
  have hS' := hL w hS
  exact ⟨_, _, run_endRound none (obj_at (hS'.hold _ List.mem_cons_self)), hRR _ (hS'.putObj _)⟩
theorem foldl_rep : ∀ (ps : List Nat) (vs : List Value) (tmps : Array Value) (E : Env) (m : Nat), tmps.size = m → (∀ p ∈ ps, p < m) → (∀ t v, get E t = some v → tmps.getD t undef = v) →
    ((ps.zip vs).foldl (fun t (p : Nat × Value) => t.setIfInBounds p.1 p.2) tmps).size = m ∧ ∀ t v, get ((ps.zip vs).reverse ++ E) t = some v → ((ps.zip vs).foldl (fun t (p : Nat × Value) => t.setIfInBounds p.1 p.2) tmps).getD t undef = v
  | [], _, tmps, E, m, hs, _, hv => ⟨hs, hv⟩
  | p :: ps, [], tmps, E, m, hs, _, hv => ⟨hs, hv⟩
  | p :: ps, u :: vs, tmps, E, m, hs, hp, hv => by
    have ih := foldl_rep ps vs (tmps.setIfInBounds p u) ((p, u) :: E) m (by simp [hs]) (fun q hq => hp q (List.mem_cons_of_mem _ hq)) (fun t v ht => by
      simp only [get] at ht
      cases hb : Nat.beq p t with
      | true =>
        have := Nat.eq_of_beq_eq_true hb; subst this
        rw [hb] at ht; simp at ht; subst ht
        have := hp p List.mem_cons_self
        simp [hs, this]
      | false =>
        rw [hb] at ht
        have hne : p ≠ t := fun e => by subst e; rw [Nat.beq_refl] at hb; cases hb
        have := hv t v ht
        simpa [Array.getElem?_setIfInBounds_ne hne] using this)
    rw [List.zip_cons_cons, List.foldl_cons, List.reverse_cons, List.append_assoc]
    exact ih
abbrev LF {α X : Type} (l D : Nat) (r : Loop) (Lf : List α → X → List Ent) (pre : List α) (st : X) : List Ent := Ent.obj l (lp r .ready) :: dfr D :: Lf pre st
def RR {α X : Type} (l D : Nat) (r : Loop) (I : List α → X → Prop) (Lf : List α → X → List Ent) (S : List Nat) (w0 : World) (pre : List α) : Ending → World → Prop :=
  fun e w' => e = .returned (.bool true) ∧ ∃ st', I pre st' ∧ St S w0 w' (LF l D r Lf pre st')
theorem run_dist {l : Nat} {g : Operand} {gf : FuncId} {lb : List Value} {a : Act} (hg : a.eval g = .func (.func gf) #[] lb.toArray) {w : World} :
    (resolve a.eval (rangeCall g l) 0).run P w = .ok { target := .fn (.func gf) lb.toArray, args := #[.func (.yield l) #[] #[]] } w := by
  simp only [resolve, hg]
  simp [go_sem]
theorem J_rangeFunc {g : Operand} {ps : List Tmp} {assign body : Code} {gf : FuncId} {lb : List Value} {α X : Type} {enc : α → List Value} {xs : List α} (I : List α → X → Prop) (Lf : List α → X → List Ent) (x0 : X) (Li : List Ent)
    (hro : n.ro = none) (hg : ev E g = .func (.func gf) #[] lb.toArray) (hk : known E g = true) (hc : Callable P gf) (hps : ∀ p ∈ ps, p < n.sz) (hn : ∀ a, (enc a).length = ps.length)
    (hL : ∀ w, St S w0 w L → St S w0 w (Li ++ Lf [] x0))
    (hit : ∀ (w1 : World) (l D : Nat) (r : Loop), Old S w0 (Lown (Li ++ LF l D r Lf [] x0)) w1 → Give (Lown (Li ++ LF l D r Lf [] x0)) w1 (Li ++ LF l D r Lf [] x0) → YieldOk P l (Lown (Li ++ LF l D r Lf [] x0)) w1 enc I (LF l D r Lf) xs →
      Calls P gf (Value.func (.yield l) #[] #[] :: lb).toArray w1 fun e w' => (∃ v, e = .returned v) ∧ ∃ st, I xs st ∧ St (Lown (Li ++ LF l D r Lf [] x0)) w1 w' (LF l D r Lf xs st))
    (hbody : ∀ (w2 : World) (l D : Nat) (r : Loop) pre a rest st, xs = pre ++ a :: rest → I pre st → Old S w0 (Lown (LF l D r Lf pre st)) w2 →
      J P ⟨n.sz, [], some l⟩ (Lown (LF l D r Lf pre st)) w2 assign (Exit.then (fun a₁ w₁ => ∃ w₂, (Instr.beginRound l).run P w₁ = .ok () w₂ ∧ body.wpIn (Wd (some l)) 0 P (roundPost P l (RR l D r I Lf (Lown (LF l D r Lf pre st)) w2 (pre ++ [a]))) a₁ w₂) (fun _ _ _ => False)) ((ps.zip (enc a)).reverse ++ E) (LF l D r Lf pre st))
    (hdone : ∀ D st, I xs st → JX { n with ds := mark D :: n.ds } S w0 Q .normal E (dfr D :: Lf xs st)) :
    J P n S w0 (.rangeFunc g ps.toArray assign body) Q E L := by
  intro act w hR hS
  rw [hro]
  refine wpIn_rangeFunc ?_
  intro fn _
  obtain ⟨r, hr⟩ : ∃ r : Loop, r = { state := .ready, pending := none, fn, tmps := act.tmps, params := ps.toArray, assign, body, defers := w.heap.size } := ⟨_, rfl⟩
  obtain ⟨W1, hW1⟩ : ∃ W1, (w.alloc (.deferred (some []))).alloc (lp r .ready) = W1 := ⟨_, rfl⟩
  have hS0 := hL w hS
  have hS1 : St S w0 W1 (LF (w.heap.size + 1) w.heap.size r (fun (_ : List α) (_ : X) => Li ++ Lf [] x0) [] x0) := by
    rw [← hW1]
    have h1 := (hS0.allocObj (.deferred (some []))).allocObj (lp r .ready)
    rwa [World.size_alloc] at h1
  have hS2 : St S w0 W1 (Li ++ LF (w.heap.size + 1) w.heap.size r Lf [] x0) := by
    refine hS1.perm ?_
    have e : ∀ (a b : Ent) (l m : List Ent), (a :: b :: (l ++ m)).Perm (l ++ a :: b :: m) := fun a b l m =>
      ((List.perm_middle (a := b) (l₁ := l) (l₂ := m)).symm.cons a).trans (List.perm_middle (a := a) (l₁ := l) (l₂ := b :: m)).symm
    exact e _ _ _ _
  have hgv : act.eval g = .func (.func gf) #[] lb.toArray := (hR.eval hk).trans hg
  have hS2' : St S w0 W1 ((Li ++ LF (w.heap.size + 1) w.heap.size r Lf [] x0) ++ []) := by rw [List.append_nil]; exact hS2
  have hOld := Old.of_st hS2' (lown_mem (L := Li ++ LF (w.heap.size + 1) w.heap.size r Lf [] x0))
  refine ⟨w.heap.size + 1, [mark w.heap.size], W1, { target := .fn (.func gf) lb.toArray, args := #[.func (.yield (w.heap.size + 1)) #[] #[]] }, W1, gf,
    (Value.func (.yield (w.heap.size + 1)) #[] #[] :: lb).toArray, W1, ?_, ?_, fun _ _ => trivial, ?_, fun h => (by cases h), ?_⟩
  · rw [← hW1, hr]; exact run_enterLoop_outer _ _ _ _ _
  · exact run_dist hgv
  · have h := run_callFunc_enter (P := P) (w := W1) (args := (Value.func (.yield (w.heap.size + 1)) #[] #[] :: lb).toArray) hc
    simp only [invoke]
    simpa using h
  · refine (callsIn_wd (ro := none) (m := 0 - 1)).2 ((hit W1 (w.heap.size + 1) w.heap.size r hOld hS2.togive ?_).mono ?_)
    · -- a round
      intro pre a rest st Lo W hp hI hSW
      have hlb := obj_at (hSW.hold (Ent.obj (w.heap.size + 1) (lp r .ready)) (List.mem_append_right _ List.mem_cons_self))
      refine ⟨fn, (ps.toArray.zip (enc a).toArray).foldl (fun tmps (t, a) => tmps.setIfInBounds t a) act.tmps, assign, body, ?_, ?_⟩
      · rintro vs rfl
        have := run_yield (P := P) (args := (enc a).toArray) hlb (by rw [hr]; simp [hn a])
        rw [hr] at this
        exact this
      · have hSW2 : St (Lown (Li ++ LF (w.heap.size + 1) w.heap.size r Lf [] x0)) W1 W (LF (w.heap.size + 1) w.heap.size r Lf pre st ++ Lo) := hSW.perm List.perm_append_comm
        have hold2 := hOld.trans (Old.of_st hSW2 lown_mem)
        have hb := hbody W (w.heap.size + 1) w.heap.size r pre a rest st hp hI hold2
        have hbase : St (Lown (LF (w.heap.size + 1) w.heap.size r Lf pre st)) W W (LF (w.heap.size + 1) w.heap.size r Lf pre st) := (hSW2.sublist (List.sublist_append_left _ _)).base
        have hf := foldl_rep ps (enc a) act.tmps E n.sz hR.size hps hR.val
        have hrep : Rep ⟨n.sz, [], some (w.heap.size + 1)⟩ ((ps.zip (enc a)).reverse ++ E) { tmps := (ps.toArray.zip (enc a).toArray).foldl (fun tmps (t, a) => tmps.setIfInBounds t a) act.tmps, defers := [] } := by
          rw [List.zip_toArray, List.foldl_toArray]
          exact ⟨rfl, hf.1, hf.2⟩
        have hro := roundIn_of_wpIn (F := Fence.wide) (n := 0) (f := fn) trivial (hb _ W hrep hbase)
        refine hro.mono ?_
        rintro e w' ⟨rfl, st', hI', hS'⟩
        refine ⟨rfl, st', hI', ?_⟩
        exact (hSW2.after lown_mem hS').perm List.perm_append_comm
    · rintro e w3 ⟨⟨v, rfl⟩, st, hI, hS3⟩
      have hS4 : St S w0 w3 (LF (w.heap.size + 1) w.heap.size r Lf xs st) := by
        have := hS2'.after lown_mem hS3
        rwa [List.append_nil] at this
      refine ⟨none, _, run_endLoop (obj_at (hS4.hold _ List.mem_cons_self)) (by simp), ?_⟩
      refine hdone w.heap.size st hI _ _ ⟨?_, hR.size, hR.val⟩ (hS4.putObj _).tail
      show mark w.heap.size :: act.defers = mark w.heap.size :: n.ds
      rw [hR.defers]
end
end Go.GV

namespace Go.GV
open Go.RowKit
section
variable {E : Env} {P : Program} {w : World} {x y : Operand} {dst : Option Nat} {t t' ty e : TypeId} {pos : String} {af : Array Edge} {g : Option (Nat × Bool)}
end
theorem take_flat {α : Type} (f : α → List Value) (sz : Nat) (hf : ∀ a, (f a).length = sz) : ∀ (xs : List α) (n : Nat), (xs.take n).flatMap f = (xs.flatMap f).take (n * sz)
  | [], n => by simp
  | x :: xs, 0 => by simp
  | x :: xs, n + 1 => by
    rw [List.take_succ_cons, List.flatMap_cons, List.flatMap_cons, take_flat f sz hf xs n, Nat.succ_mul, Nat.add_comm (n * sz) sz, List.take_append, hf, List.take_of_length_le (l := f x) (by rw [hf]; omega), show sz + n * sz - sz = n * sz by omega]
theorem drop_flat {α : Type} (f : α → List Value) (sz : Nat) (hf : ∀ a, (f a).length = sz) : ∀ (xs : List α) (n : Nat), (xs.drop n).flatMap f = (xs.flatMap f).drop (n * sz)
  | [], n => by simp
  | x :: xs, 0 => by simp
  | x :: xs, n + 1 => by
    rw [List.drop_succ_cons, List.flatMap_cons, drop_flat f sz hf xs n, Nat.succ_mul, Nat.add_comm (n * sz) sz, List.drop_append, hf, List.drop_of_length_le (l := f x) (by rw [hf]; omega), show sz + n * sz - sz = n * sz by omega]; rfl
theorem RO.sub {S : List Nat} {w : World} {A : Option Addr} {cs : List Value} (h : RO S w A cs) (cap lo n sz : Nat) (hn : n = 0 ∨ lo < cap) : RO S w (subA A cap lo sz) ((cs.drop (lo * sz)).take (n * sz)) := by
  rcases hn with rfl | hn
  · rw [Nat.zero_mul, List.take_zero]; exact RO.nil
  · refine RO.take ?_ _
    unfold subA
    rw [if_neg (by omega)]
    exact RO.drop h _
theorem RO.subF {α : Type} {S : List Nat} {w : World} {A : Option Addr} {xs : List α} {f : α → List Value} {sz : Nat} (h : RO S w A (xs.flatMap f)) (hf : ∀ a, (f a).length = sz) (cap lo n : Nat) (hn : n = 0 ∨ lo < cap) : RO S w (subA A cap lo sz) (((xs.drop lo).take n).flatMap f) := by
  rw [take_flat f sz hf, drop_flat f sz hf]; exact h.sub cap lo n sz hn
theorem RO.subM {α : Type} {S : List Nat} {w : World} {A : Option Addr} {xs : List α} {f : α → Value} (h : RO S w A (xs.map f)) (cap lo n : Nat) (hn : n = 0 ∨ lo < cap) : RO S w (subA A cap lo 1) (((xs.drop lo).take n).map f) := by
  have := h.sub cap lo n 1 hn
  rwa [Nat.mul_one, Nat.mul_one, ← List.map_drop, ← List.map_take] at this
def int8 (c : UInt8) : Int := if c.toNat < 128 then (c.toNat : Int) else (c.toNat : Int) - 256
section
variable {E : Env} {P : Program} {w : World} {x y z : Operand} {dst : Option Nat} {t t' ty u : TypeId} {pos : String} {af : Array Edge} {g : Option (Nat × Bool)}
end
section
variable {n : Dim} {S : List Nat} {w0 : World} {P : Program} {ops : Array Oper} {Q : Post} {E : Env} {L : List Ent} {rest : List Oper} {d : Nat}
end
end Go.GV

namespace Go.GV
open Go.RowKit
def lateB (ops : Array Oper) : Nat → Nat → Nat → Bool
  | 0, _, _ => false
  | f + 1, u, i => match ops[u]? with
    | some x => x.after.any fun e => Region.binds .any e && (e.on == i || lateB ops f e.on i)
    | none => false
theorem getD_up {l : Array Bool} {i : Nat} (h : l.getD i false = true) : l.getD i true = true := by
  rw [Array.getD_eq_getD_getElem?] at *
  cases hc : l[i]? with
  | none => rw [hc] at h; cases h
  | some b => rw [hc] at h; exact h
theorem late_listed {ops : Array Oper} {l : Array Bool} (hl : Closed ops l) : ∀ (f u i : Nat), lateB ops f u i = true → l.getD u true = true → l.getD i false = true
  | 0, u, i, h, _ => by cases h
  | f + 1, u, i, h, hu => by
    rw [lateB] at h
    cases hx : ops[u]? with
    | none => rw [hx] at h; cases h
    | some x =>
      rw [hx] at h
      obtain ⟨e, he, hb⟩ := Array.any_eq_true'.1 h
      rw [Bool.and_eq_true, Bool.or_eq_true] at hb
      have h2 := hl.2 u x hx hu e he hb.1
      rcases hb.2 with h3 | h3
      · rw [beq_iff_eq] at h3; rw [h3] at h2; exact h2
      · exact late_listed hl f e.on i h3 (getD_up h2)
section
variable {P : Program} {n : Dim} {S : List Nat} {w0 : World} {Q : Post} {E : Env} {L : List Ent}
variable {ops : Array Oper} {Lg Lu : List Ent} {us : List Nat} {fuel : Nat} {listed : Array Bool}
theorem JA_earlyT (i : Nat) {o : Oper} (v : Value) (hi : ops[i]? = some o) (hs : Region.noSelect ops = true) (hf : Region.free .any ops listed i = true) (hr : (Region.ready .any ops listed).contains i = true) (hu : us.contains i = false)
    (hlate : (us.all fun u => lateB ops 64 u i) = true)
    (hQ : ∀ c a w, Q (.panic c) (a.put o.dst v) w → Q (.panic c) a w) (hfit : fit n E o = true) (hw : wants ops E o) (hv : ∀ w, St S w0 w Lu → (execOp (ev E) o).run P w = .ok (.value v) w)
    (h : JA P n S w0 ops Q Lg us Lu fuel (listed.setIfInBounds i true) (put E o.dst v) L) : JA P n S w0 ops Q Lg us Lu (fuel + 1) listed E L := by
  intro a w hR hS hcl
  have hr' : i ∈ Region.ready .any ops listed := by simpa using hr
  have hnone : ∀ l : Array Bool, Closed ops l → l.getD i true = false → (us.all fun u => !l.getD u true) = true := by
    intro l hl hun
    rw [List.all_eq_true] at hlate ⊢
    intro u hu'
    cases hc : l.getD u true with
    | false => rfl
    | true =>
      have h2 := late_listed hl 64 u i (hlate u hu') hc
      have h3 := getD_up h2
      rw [hun] at h3; cases h3
  refine wpAnyG_first (H := fun w => St S w0 w Lu) hi (Region.noSelect_spec hs) hQ
    (fun l w hc hl h => h.2 (by rw [all_unset hu]; exact hnone l hc hl)) (fun l w _ hl h => ⟨h.1, fun hh => h.2 (by rw [all_unset hu]; exact hh)⟩) fuel listed a w hcl (Region.free_spec hi hf) hr' (.inl ⟨wants_wanted hR hw, fit_nodefer hfit, fun w' hG => ?_⟩) (h _ w (hR.put (fit_dst hfit) v) hS (hcl.add hr'))
  rw [fit_exec hfit hR]; exact hv w' hG
end
end Go.GV
namespace Go.GV
open Go.RowKit
section
variable {α : Type} {S : List Nat} {w : World} {A : Option Addr} {xs : List α}
theorem RO.head {cs : List Value} (h : RO S w A cs) (n : Nat) : RO S w A (cs.take n) := fun j v hj => by
  rw [List.getElem?_take] at hj
  split at hj
  · exact h j v hj
  · cases hj
end
end Go.GV
namespace Go.GV
open Go.RowKit Go.MapKept
end Go.GV

namespace Go.GV
open Go.RowKit
def Kp (S : List Nat) (w : World) (C : World → Prop) : Prop :=
  ∃ B : Nat → Prop, (∀ b, B b → b < w.heap.size ∧ b ∉ S) ∧ ∀ w' : World, (∀ b, B b → w'.heap[b]? = w.heap[b]?) → C w'
section
variable {S S' Sc F : List Nat} {w0 w : World} {C D : World → Prop} {L Lc Lr : List Ent}
theorem Kp.now (h : Kp S w C) : C w := by obtain ⟨B, _, h⟩ := h; exact h w fun _ _ => rfl
theorem Kp.imp (h : Kp S w C) (k : ∀ w, C w → D w) : Kp S w D := by
  obtain ⟨B, h1, h2⟩ := h; exact ⟨B, h1, fun w' hw => k _ (h2 w' hw)⟩
theorem Kp.pure {p : Prop} (h : p) : Kp S w fun _ => p := ⟨fun _ => False, fun _ h => h.elim, fun _ _ => h⟩
theorem Kp.and (h : Kp S w C) (k : Kp S w D) : Kp S w fun w => C w ∧ D w := by
  obtain ⟨B, h1, h2⟩ := h; obtain ⟨B', k1, k2⟩ := k
  exact ⟨fun b => B b ∨ B' b, fun b hb => hb.elim (h1 b) (k1 b), fun w' hw => ⟨h2 w' fun b hb => hw b (.inl hb), k2 w' fun b hb => hw b (.inr hb)⟩⟩
theorem Kp.all {ι : Type} {C : ι → World → Prop} (h : ∀ i, Kp S w (C i)) : Kp S w fun w => ∀ i, C i w :=
  ⟨fun b => ∃ i, (h i).choose b, fun b ⟨i, hi⟩ => (h i).choose_spec.1 b hi, fun w' hw i => (h i).choose_spec.2 w' fun b hb => hw b ⟨i, hb⟩⟩
theorem Kp.mono (h : Kp S w C) (hs : ∀ b ∈ S', b ∈ S) : Kp S' w C := by
  obtain ⟨B, h1, h2⟩ := h; exact ⟨B, fun b hb => ⟨(h1 b hb).1, fun hh => (h1 b hb).2 (hs _ hh)⟩, h2⟩
theorem Kp.no (h : Kp S w C) : Kp [] w C := h.mono fun _ hb => by cases hb
theorem Kp.fromF (h : Kp (S ++ F) w C) : Kp S w C := h.mono fun _ hb => List.mem_append.2 (.inl hb)
theorem Kp.freshF (h : Kp (S ++ F) w C) : Kp F w C := h.mono fun _ hb => List.mem_append.2 (.inr hb)
theorem Kp.turn (h : Kp S w0 C) (hf : Fr S w0 w) (hn : ∀ b, b < w0.heap.size → b ∉ S → b ∉ Sc) : Kp Sc w C := by
  obtain ⟨B, h1, h2⟩ := h
  refine ⟨B, fun b hb => ⟨Nat.lt_of_lt_of_le (h1 b hb).1 hf.size, hn b (h1 b hb).1 (h1 b hb).2⟩, fun w' hw => h2 w' fun b hb => (hw b hb).trans (hf.block b (h1 b hb).1 (h1 b hb).2)⟩
theorem Kp.on (h : Kp S w0 C) (hS : St S w0 w (Lc ++ Lr)) (hSc : ∀ b ∈ Sc, ∃ e ∈ Lc, e.own = some b) : Kp Sc w C := by
  refine h.turn hS.fr fun b hb hn hin => ?_
  obtain ⟨e, he, ho⟩ := hSc b hin
  rcases hS.own e (by simp [he]) _ ho with h1 | h1
  · exact hn h1
  · omega
theorem Kp.on0 (h : Kp S w0 C) (hS : St S w0 w L) : Kp [] w C := h.on (Lc := []) (Lr := L) hS (by simp)
theorem Kp.again (h : Kp S w0 C) (hS : St S w0 w L) : Kp (Lown L) w C :=
  h.on (Lc := L) (Lr := []) (by rw [List.append_nil]; exact hS) lown_mem
theorem Kp.againF (h : Kp (S ++ F) w0 C) (hS : St S w0 w L) : Kp (Lown L ++ F) w C := by
  obtain ⟨B, h1, h2⟩ := h
  refine ⟨B, fun b hb => ?_, fun w' hw => h2 w' fun b hb => (hw b hb).trans (hS.fr.block b (h1 b hb).1 fun hh => (h1 b hb).2 (List.mem_append.2 (.inl hh)))⟩
  have hn := h1 b hb
  refine ⟨Nat.lt_of_lt_of_le hn.1 hS.fr.size, fun hh => ?_⟩
  rcases List.mem_append.1 hh with hh | hh
  · obtain ⟨e, he, ho⟩ := lown_mem b hh
    rcases hS.own e he _ ho with h3 | h3
    · exact hn.2 (List.mem_append.2 (.inl h3))
    · omega
  · exact hn.2 (List.mem_append.2 (.inr hh))
theorem Kp.old {S2 : List Nat} {w2 : World} (h : Kp S w0 C) (ho : Old S w0 S2 w2) : Kp S2 w2 C := by
  obtain ⟨B, h1, h2⟩ := h
  exact ⟨B, fun b hb => ⟨(ho b (h1 b hb).1 (h1 b hb).2).1, (ho b (h1 b hb).1 (h1 b hb).2).2.1⟩, fun w' hw => h2 w' fun b hb => (hw b hb).trans (ho b (h1 b hb).1 (h1 b hb).2).2.2⟩
theorem Kp.held (h : Kp S w0 C) (hS : St S w0 w L) : C w := (h.on0 hS).now
end
section
variable {S : List Nat} {w : World} {A : Option Addr} {cs : List Value}
theorem RO.kp (h : RO S w A cs) : Kp S w fun w => Cells w A cs := by
  refine ⟨fun b => ∃ (j : Nat) (v : Value) (a : Addr), cs[j]? = some v ∧ A = some a ∧ a.block = b, ?_, ?_⟩
  · rintro b ⟨j, v, a, hv, rfl, rfl⟩
    obtain ⟨a', e, hb, hn, _⟩ := h j v hv
    injection e with e; subst e
    exact ⟨hb, hn⟩
  · intro w' hw j v hv
    obtain ⟨a, rfl, hb, hn, hc⟩ := h j v hv
    refine ⟨a, rfl, ?_⟩
    rw [← hc]
    exact World.cell?_of_block (by rw [add_block]; exact hw _ ⟨j, v, a, hv, rfl, rfl⟩)
theorem cell_map {w : World} {a : Addr} {es : Array MapEntry} {c : Nat} (h : w.heap[a.block]? = some (.map es c)) : w.cell? a = none := by
  unfold World.cell?; rw [h]
theorem cell_none {w : World} {a : Addr} (h : w.heap[a.block]? = none) : w.cell? a = none := by
  unfold World.cell?; rw [h]
theorem Kp.ro (h : Kp S w fun w => Cells w A cs) : RO S w A cs := by
  obtain ⟨B, h1, h2⟩ := h
  intro j v hv
  obtain ⟨a, rfl, hc⟩ := h2 w (fun _ _ => rfl) j v hv
  by_cases hb : B a.block
  · exact ⟨a, rfl, (h1 _ hb).1, (h1 _ hb).2, hc⟩
  · exfalso
    have hb2 : B (a.add j).block → False := by rw [add_block]; exact hb
    obtain ⟨a2, e, hc2⟩ := h2 { w with heap := w.heap.setIfInBounds (a.add j).block (.map #[] 0) } (fun b hB => by
      show (w.heap.setIfInBounds (a.add j).block _)[b]? = _
      rw [Array.getElem?_setIfInBounds, if_neg (fun e : (a.add j).block = b => hb2 (by rw [e]; exact hB))]) j v hv
    injection e with e; subst e
    by_cases hlt : (a.add j).block < w.heap.size
    · rw [cell_map (es := #[]) (c := 0) (by show (w.heap.setIfInBounds (a.add j).block _)[(a.add j).block]? = _; rw [Array.getElem?_setIfInBounds, if_pos rfl, if_pos hlt])] at hc2; cases hc2
    · rw [cell_none (by show (w.heap.setIfInBounds (a.add j).block _)[(a.add j).block]? = _; rw [Array.getElem?_setIfInBounds, if_pos rfl, if_neg hlt])] at hc2; cases hc2
end
section
variable {S : List Nat} {w00 w0 w : World} {C : World → Prop} {Lc Lr : List Ent}
theorem ent_stays {e : Ent} {w w' : World} (h : e.at w) (hw : ∀ b, e.own = some b → w'.heap[b]? = w.heap[b]?) : e.at w' := by
  refine ⟨?_, fun b ho => ?_⟩
  · have h1 := h.1
    cases ho : e.own with
    | none => rw [ho] at h1; exact h1
    | some b => rw [ho] at h1; simp only [Option.bind_some] at h1 ⊢; rw [hw b ho]; exact h1
  · have := h.2 b ho
    have e1 := hw b ho
    rw [Array.getElem?_eq_getElem this] at e1
    exact (Array.getElem?_eq_some_iff.1 e1).1
theorem Kp.of_ents (hS : St S w0 w (Lc ++ Lr)) (k : ∀ w, (∀ e ∈ Lr, e.at w) → C w) : Kp (Lown Lc) w C := by
  refine ⟨fun b => ∃ e ∈ Lr, e.own = some b, ?_, fun w' hw => k w' fun e he => ent_stays (hS.hold e (by simp [he])) fun b ho => hw b ⟨e, he, ho⟩⟩
  rintro b ⟨e, he, ho⟩
  refine ⟨(hS.hold e (by simp [he])).2 b ho, fun hin => ?_⟩
  obtain ⟨x, hx, hxo⟩ := lown_mem b hin
  exact (List.pairwise_append.1 hS.dis).2.2 x hx e he b hxo ho
theorem Kp.of_entsF (hS : St S w0 w (Lc ++ Lr)) (h0 : St [] w00 w (Lc ++ Lr)) (k : ∀ w, (∀ e ∈ Lr, e.at w) → C w) : Kp (Lown Lc ++ List.range w00.heap.size) w C := by
  refine ⟨fun b => ∃ e ∈ Lr, e.own = some b, ?_, fun w' hw => k w' fun e he => ent_stays (hS.hold e (by simp [he])) fun b ho => hw b ⟨e, he, ho⟩⟩
  rintro b ⟨e, he, ho⟩
  refine ⟨(hS.hold e (by simp [he])).2 b ho, fun hin => ?_⟩
  rcases List.mem_append.1 hin with hin | hin
  · obtain ⟨x, hx, hxo⟩ := lown_mem b hin
    exact (List.pairwise_append.1 hS.dis).2.2 x hx e he b hxo ho
  · rcases h0.own e (by simp [he]) b ho with h1 | h1
    · cases h1
    · exact absurd (List.mem_range.1 hin) (by omega)
end
theorem kp_mp {S : List Nat} {w0 : World} {L : List Ent} {κ : Type} {f : κ → Value} {b : Nat} {l : List (κ × Value)} (h : Kp S w0 fun w => (Ent.mp f b l).at w) : ∀ w, St S w0 w L → (Ent.mp f b l).at w := fun _ hS => h.held hS
section
variable {E : Env} {P : Program} {x y z : Operand} {dst : Option Nat} {t t' ty u : TypeId} {pos : String} {af : Array Edge} {g : Option (Nat × Bool)} {κ : Type} [DecidableEq κ]
theorem x_lookup_okR {S : List Nat} {w0 : World} {L : List Ent} {f : κ → Value} {b : Nat} {l : List (κ × Value)} (hat : ∀ w, St S w0 w L → (Ent.mp f b l).at w) {kt et : TypeId} {zv v : Value} {o : Bool} {k : κ} {r : Option Value} (hx : ev E x = .map (some b)) (hy : ev E y = f k) (ht : P.underlying t = some (.map kt et)) (hK : MapK P kt f) (hz : zeroIs P et = some zv) (hr : lk l k = r) (hv : r.getD zv = v) (ho : r.isSome = o) :
    ∀ w, St S w0 w L → (execOp (ev E) ⟨dst, .lookup t x y true, ty, pos, af, g⟩).run P w = .ok (.value (.tuple #[v, vB o])) w := by
  intro w hS
  subst hr; subst hv; subst ho
  simp only [execOp, hx, hy]
  show Sem.run P (do let v ← Instr.lookup t (.map (some b)) (f k) true; pure (Next.value v)) w = _
  rw [Sem.run_bind, run_lookup_mp (k := k) (hat w hS) ht hK hz true]; rfl
end
def okL {α : Type} [Inhabited α] (ok : α → World → Prop) (l : List α) (w : World) : Prop := ∀ i : Nat, ok (l.getD i default) w
section
variable {α : Type} [Inhabited α] {ok : α → World → Prop} {S : List Nat} {w : World} {l m : List α}
theorem okL_at (h : Kp S w (okL ok l)) (i : Nat) : Kp S w (ok (l.getD i default)) := h.imp fun _ k => k i
theorem okL_app (h : Kp S w (okL ok l)) (k : Kp S w (okL ok m)) : Kp S w (okL ok (l ++ m)) := Kp.all fun i => by
  rcases Nat.lt_or_ge i l.length with hi | hi
  · have := okL_at h i; rwa [List.getD_eq_getElem?_getD, ← List.getElem?_append_left hi, ← List.getD_eq_getElem?_getD] at this
  · have := okL_at k (i - l.length); rwa [List.getD_eq_getElem?_getD, ← List.getElem?_append_right hi, ← List.getD_eq_getElem?_getD] at this
theorem okL_snoc {a : α} (h : Kp S w (okL ok l)) (k : Kp S w (ok a)) : Kp S w (okL ok (l ++ [a])) := Kp.all fun i => by
  rcases Nat.lt_or_ge i l.length with hi | hi
  · have := okL_at h i; rwa [List.getD_eq_getElem?_getD, ← List.getElem?_append_left hi, ← List.getD_eq_getElem?_getD] at this
  · rcases Nat.eq_or_lt_of_le hi with rfl | hi
    · rw [List.getD_eq_getElem?_getD, List.getElem?_append_right (Nat.le_refl _), Nat.sub_self]; exact k
    · have := okL_at h i
      rw [List.getD_eq_getElem?_getD, List.getElem?_eq_none (by omega)] at this
      rw [List.getD_eq_getElem?_getD, List.getElem?_eq_none (by rw [List.length_append, List.length_singleton]; omega)]
      exact this
end
theorem okL_nil {α : Type} [Inhabited α] {ok : α → World → Prop} {S : List Nat} {w : World} (h : Kp S w (ok default)) : Kp S w (okL ok ([] : List α)) := Kp.all fun _ => h
theorem kp_cnil {S : List Nat} {w : World} {A : Option Addr} : Kp S w fun w => Cells w A [] := Kp.imp (Kp.pure trivial) fun _ _ j v h => by simp at h
section
variable {S Sc : List Nat} {w0 w wc wb w00 : World} {L L' Lc Lr : List Ent} {C : World → Prop}
theorem lown_app (L M : List Ent) : Lown (L ++ M) = Lown L ++ Lown M := List.filterMap_append
theorem lown_rangeA (hc : St S w0 wc (Lc ++ Lr)) : ∀ b ∈ Lown (L' ++ Lr), b ∈ Lown L' ++ List.range wc.heap.size := fun b hb => by
  rw [lown_app] at hb
  rcases List.mem_append.1 hb with hb | hb
  · exact List.mem_append.2 (.inl hb)
  · obtain ⟨e, he, ho⟩ := lown_mem b hb
    exact List.mem_append.2 (.inr (List.mem_range.2 ((hc.hold e (List.mem_append.2 (.inr he))).2 b ho)))
theorem lown_rangeAF (hc : St S w0 wc (Lc ++ Lr)) (h0 : w00.heap.size ≤ wc.heap.size) : ∀ b ∈ Lown (L' ++ Lr) ++ List.range w00.heap.size, b ∈ Lown L' ++ List.range wc.heap.size := fun b hb => by
  rcases List.mem_append.1 hb with hb | hb
  · exact lown_rangeA hc b hb
  · exact List.mem_append.2 (.inr (List.mem_range.2 (Nat.lt_of_lt_of_le (List.mem_range.1 hb) h0)))
theorem Kp.of_ent {e : Ent} (hS : St S w0 w L) (j : Nat) (hj : L[j]? = some e) : Kp [] w e.at := by
  have := Kp.of_ents (S := S) (w0 := w0) (Lc := []) (Lr := L) (C := e.at) hS fun w h => h e (List.mem_of_getElem? hj)
  exact this
end
def kvS (p : Bytes × Bytes) : Bytes × Value := (p.1, vS p.2)
def putK {α : Type} : List (Bytes × α) → Bytes → α → List (Bytes × α)
  | [], k, v => [(k, v)]
  | (a, u) :: l, k, v => if k = a then (k, v) :: l else (a, u) :: putK l k v
def lookK {α : Type} (l : List (Bytes × α)) (k : Bytes) : Option α := (l.find? fun p => p.1 = k).map (·.2)
theorem lk_map {α : Type} (enc : α → Value) (k : Bytes) : ∀ l : List (Bytes × α), lk (l.map fun p => (p.1, enc p.2)) k = (lookK l k).map enc
  | [] => rfl
  | (a, v) :: l => by
    have ih := lk_map enc k l
    unfold lookK at *
    rw [List.map_cons, lk, List.find?_cons]
    by_cases h : k = a
    · subst h; rw [if_pos rfl]; simp
    · rw [if_neg h, ih]
      rw [show decide ((a, v).1 = k) = false from decide_eq_false (fun e : a = k => h e.symm)]
theorem upd_map {α : Type} (enc : α → Value) (k : Bytes) (v : α) : ∀ l : List (Bytes × α), upd (l.map fun p => (p.1, enc p.2)) k (enc v) = (putK l k v).map fun p => (p.1, enc p.2)
  | [] => rfl
  | (a, u) :: l => by
    rw [List.map_cons, upd, putK]
    by_cases h : k = a
    · rw [if_pos h, if_pos h]; rfl
    · rw [if_neg h, if_neg h, upd_map enc k v l]; rfl
theorem lk_kv (l : List (Bytes × Bytes)) (k : Bytes) : lk (l.map kvS) k = (lookK l k).map vS := lk_map vS k l
theorem upd_kv (l : List (Bytes × Bytes)) (k v : Bytes) : upd (l.map kvS) k (vS v) = (putK l k v).map kvS := upd_map vS k v l
theorem getD_kv (o : Option Bytes) : (o.map vS).getD (vS []) = vS (o.getD []) := by cases o <;> rfl
theorem isSome_mp {α : Type} (o : Option α) (f : α → Value) : (o.map f).isSome = o.isSome := by cases o <;> rfl
theorem look_put {α : Type} (k q : Bytes) (v : α) : ∀ l : List (Bytes × α), lookK (putK l k v) q = if q = k then some v else lookK l q
  | [] => by
    unfold lookK putK
    rw [List.find?_cons]
    by_cases h : q = k
    · subst h; simp
    · rw [if_neg h, show decide ((k, v).1 = q) = false from decide_eq_false (fun e : k = q => h e.symm)]
  | (a, u) :: l => by
    have ih := look_put k q v l
    unfold lookK at *
    rw [putK]
    by_cases h : k = a
    · subst h
      rw [if_pos rfl, List.find?_cons, List.find?_cons]
      by_cases hq : q = k
      · subst hq; simp
      · rw [if_neg hq, show decide ((k, v).1 = q) = false from decide_eq_false (fun e : k = q => hq e.symm)]
    · rw [if_neg h, List.find?_cons, List.find?_cons]
      by_cases hq : q = a
      · subst hq
        rw [if_neg (fun e => h e.symm)]; simp
      · rw [show decide ((a, u).1 = q) = false from decide_eq_false (fun e : a = q => hq e.symm)]
        exact ih
theorem put_new {α : Type} (k : Bytes) (v : α) : ∀ l : List (Bytes × α), lookK l k = none → putK l k v = l ++ [(k, v)]
  | [], _ => rfl
  | (a, u) :: l, h => by
    unfold lookK at h
    rw [List.find?_cons] at h
    by_cases e : a = k
    · subst e; simp at h
    · rw [show decide ((a, u).1 = k) = false from decide_eq_false e] at h
      rw [putK, if_neg (fun q => e q.symm), put_new k v l h]; rfl
end Go.GV

namespace Go.Proofs.YtbfiibgmgopnaaaDoor
open Go.GV
structure Row where
  number : Int
  text : Bytes
deriving DecidableEq, Inhabited
def Row.enc (a : Row) : List Value := [vI a.number, vS a.text]
theorem Row.enc_len (a : Row) : (Row.enc a).length = 2 := rfl
theorem Row.enc_one (a : Row) : (Row.enc a).all Value.oneCell' = true := rfl
structure Statement where
  Line : Int
  Call : Bytes
  Words : List Bytes
  WordsA : Option Addr
  WordsC : Nat
  Data : List Bytes
  DataA : Option Addr
  DataC : Nat
deriving Inhabited
def Statement.enc (a : Statement) : List Value := [vI a.Line, vS a.Call, vL a.WordsA a.Words.length a.WordsC, vL a.DataA a.Data.length a.DataC]
theorem Statement.enc_len (a : Statement) : (Statement.enc a).length = 4 := rfl
theorem Statement.enc_one (a : Statement) : (Statement.enc a).all Value.oneCell' = true := rfl
structure Proc where
  vals : List (Bytes × Bytes)
  valsB : Nat
  rows : List Row
  rowsA : Option Addr
  rowsC : Nat
deriving Inhabited
def Proc.enc (a : Proc) : List Value := [Value.map (some a.valsB), vL a.rowsA a.rows.length a.rowsC]
theorem Proc.enc_len (a : Proc) : (Proc.enc a).length = 2 := rfl
theorem Proc.enc_one (a : Proc) : (Proc.enc a).all Value.oneCell' = true := rfl
def Statement.ok (e : Statement) (w : World) : Prop := Cells w e.WordsA (e.Words.map vS) ∧ Cells w e.DataA (e.Data.map vS) ∧ e.Data.length ≤ e.DataC
def Proc.ok (e : Proc) (w : World) : Prop := (Ent.mp vS e.valsB (e.vals.map kvS)).at w ∧ Cells w e.rowsA (e.rows.flatMap Row.enc)
end Go.Proofs.YtbfiibgmgopnaaaDoor

namespace Go.Proofs.YtbfiibgmgopnaaaDoor
open Go.GV
namespace Ty
def _root_.Go.Proofs.YtbfiibgmgopnaaaDoor.Row.ok (a : Row) : Prop := (-9223372036854775808 ≤ a.number ∧ a.number ≤ 9223372036854775807) ∧ a.text.length ≤ 9223372036854775807
end Ty
end Go.Proofs.YtbfiibgmgopnaaaDoor
