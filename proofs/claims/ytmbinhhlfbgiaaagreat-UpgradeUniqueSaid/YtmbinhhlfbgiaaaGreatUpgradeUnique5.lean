/- GvU, Eq27, Sh26, Rp, Pl26 in one text. -/
import Derived.Test.YtmbinhhlfbgiaaaGreatUpgradeUnique4
import Derived.Test.YtmbinhhlfbgiaaaGreatUpgradeUnique3
import Derived.Shelf.Strings.Builder1
import Derived.Shelf.Strings.Builder2
import Derived.Shelf.Small.Bits
import Derived.Shelf.Strings.BuilderF
import Derived.Shelf.Strings.Builder2Cap
import Derived.Shelf.Strconv.Itoa0
import Derived.Shelf.Sort.Plain
import Derived.Shelf.Strings.Prefix
import Derived.Shelf.Bits.Mul64
import Derived.Shelf.Strings.Repeat
import Derived.Shelf.Slices.CompactS
import Derived.Shelf.Slices.Cells
import Derived.Shelf.Slices.In.SortNone
import Derived.Test.YtmbinhhlfbgiaaaGreatRows
import Derived.Test.YtmbinhhlfbgiaaaGreatUpgradeUnique2
namespace Go.GV
def evo (E : Env) : Operand → Option Value
  | .tmp t => get E t
  | .const v => some v
  | .global g => some (.pointer (some ⟨g, 0, none⟩))
  | .func f => some (.func (.func f) #[] #[])
theorem evo_ev {E : Env} {x : Operand} {v : Value} (h : evo E x = some v) : ev E x = v := by
  cases x with
  | tmp t => simp only [evo] at h; simp only [ev, h, Option.getD_some]
  | const u => injection h
  | global g => injection h
  | func f => injection h
inductive SetA {α : Type} : List α → Nat → α → List α → Prop
  | here {x v : α} {l : List α} : SetA (x :: l) 0 v (v :: l)
  | there {x v : α} {l l' : List α} {k : Nat} (h : SetA l k v l') : SetA (x :: l) (k + 1) v (x :: l')
theorem SetA.set {α : Type} {l l' : List α} {k : Nat} {v : α} (h : SetA l k v l') : l.set k v = l' := by
  induction h with
  | here => rfl
  | there _ ih => simp [ih]
theorem SetA.lt {α : Type} {l l' : List α} {k : Nat} {v : α} (h : SetA l k v l') : k < l.length := by
  induction h with
  | here => simp
  | there _ ih => simpa using ih
theorem SetA.splice {l l' : List Value} {k : Nat} {v : Value} (h : SetA l k v l') : splice l k [v] = l' := by
  induction h with
  | here => rfl
  | there h ih => simpa [GV.splice] using h.set
inductive Sub : Env → List Nat → Env → Prop
  | nil {E : Env} : Sub E [] []
  | cons {E E' : Env} {ks : List Nat} {k : Nat} {v : Value} (h : get E k = some v) (t : Sub E ks E') : Sub E (k :: ks) ((k, v) :: E')
theorem Sub.sub {E E' : Env} {ks : List Nat} (h : Sub E ks E') : SubE E E' := by
  induction h with
  | nil => trivial
  | cons h _ ih => exact ⟨h, ih⟩
def grown (E2 E : Env) : Prop := E2.drop (E2.length - E.length) = E ∧ (E2.take (E2.length - E.length)).all (fun p => (get E p.1).isNone) = true
theorem get_app : ∀ (l E : Env) (t : Nat) (v : Value), get E t = some v → l.all (fun p => (get E p.1).isNone) = true → get (l ++ E) t = some v
  | [], _, _, _, h, _ => h
  | (k, u) :: l, E, t, v, h, ha => by
    simp only [List.all_cons, Bool.and_eq_true] at ha
    simp only [List.cons_append, get]
    cases hb : Nat.beq k t with
    | true => have := Nat.eq_of_beq_eq_true hb; subst this; rw [h] at ha; simp at ha
    | false => simpa using get_app l E t v h ha.2
theorem Rep.grown {n : Nat} {E2 E : Env} {a : Act} (h : Rep n E2 a) (hg : grown E2 E) : Rep n E a := ⟨h.defers, h.size, fun t v hv => h.val t v (by
  have := get_app (E2.take (E2.length - E.length)) E t v hv hg.2
  rw [← List.take_append_drop (E2.length - E.length) E2, hg.1]; exact this)⟩
section
variable {n : Nat} {S : List Nat} {w0 : World} {P : Program} {ops : Array Oper} {Q : Post} {E : Env} {L Lg Lu : List Ent} {us : List Nat} {fuel : Nat} {listed : Array Bool} {w : World}
variable {rest : List Oper} {v : Value} {d : Nat} {op : Op}
variable {x y : Operand} {dst : Option Nat} {t t' ty u : TypeId} {pos : String} {af : Array Edge} {g : Option (Nat × Bool)} {k : Nat}
theorem s_ (hr : ∀ {w}, (execOp (ev E) ⟨some d, op, ty, pos, af, g⟩).run P w = .ok (.value v) w) (h : JO P n S w0 ops rest Q ((d, v) :: E) L) (hfit : fit n E ⟨some d, op, ty, pos, af, g⟩ = true := by rfl) (hw : wants ops E ⟨some d, op, ty, pos, af, g⟩ := by exact trivial) : JO P n S w0 ops (⟨some d, op, ty, pos, af, g⟩ :: rest) Q E L := JO_read v hfit hw (fun _ _ => hr) h
theorem r_ (hr : ∀ w, St S w0 w L → (execOp (ev E) ⟨some d, op, ty, pos, af, g⟩).run P w = .ok (.value v) w) (h : JO P n S w0 ops rest Q ((d, v) :: E) L) (hfit : fit n E ⟨some d, op, ty, pos, af, g⟩ = true := by rfl) (hw : wants ops E ⟨some d, op, ty, pos, af, g⟩ := by exact trivial) : JO P n S w0 ops (⟨some d, op, ty, pos, af, g⟩ :: rest) Q E L := JO_read v hfit hw hr h
theorem wants_g {o : Oper} {t b : Bool} {j : Nat} (hg : t = b) (h1 : o.guard = some (j, b)) (h2 : gval ops E j = some t) : wants ops E o := by unfold wants; rw [h1]; exact ⟨t, h2, hg⟩
theorem sg_ {t b : Bool} {j : Nat} (hg : t = b) (hr : ∀ {w}, (execOp (ev E) ⟨some d, op, ty, pos, af, some (j, b)⟩).run P w = .ok (.value v) w) (h : JO P n S w0 ops rest Q ((d, v) :: E) L) (hfit : fit n E ⟨some d, op, ty, pos, af, some (j, b)⟩ = true := by rfl) (h2 : gval ops E j = some t := by rfl) : JO P n S w0 ops (⟨some d, op, ty, pos, af, some (j, b)⟩ :: rest) Q E L := JO_read v hfit ⟨t, h2, hg⟩ (fun _ _ => hr) h
theorem rg_ {t b : Bool} {j : Nat} (hg : t = b) (hr : ∀ w, St S w0 w L → (execOp (ev E) ⟨some d, op, ty, pos, af, some (j, b)⟩).run P w = .ok (.value v) w) (h : JO P n S w0 ops rest Q ((d, v) :: E) L) (hfit : fit n E ⟨some d, op, ty, pos, af, some (j, b)⟩ = true := by rfl) (h2 : gval ops E j = some t := by rfl) : JO P n S w0 ops (⟨some d, op, ty, pos, af, some (j, b)⟩ :: rest) Q E L := JO_read v hfit ⟨t, h2, hg⟩ hr h
theorem o_ {o : Oper} (h : OpJ P S w0 E L o fun v L' => JO P n S w0 ops rest Q (put E o.dst v) L') (hfit : fit n E o = true := by rfl) (hw : wants ops E o := by exact trivial) : JO P n S w0 ops (o :: rest) Q E L := JO_op hfit hw h
theorem og_ {o : Oper} {t b : Bool} {j : Nat} (hg : t = b) (h : OpJ P S w0 E L o fun v L' => JO P n S w0 ops rest Q (put E o.dst v) L') (hfit : fit n E o = true := by rfl) (h1 : o.guard = some (j, b) := by rfl) (h2 : gval ops E j = some t := by rfl) : JO P n S w0 ops (o :: rest) Q E L := JO_op hfit (wants_g hg h1 h2) h
theorem mv_ (h : evo E x = some v := by exact rfl) : (execOp (ev E) ⟨dst, .move x, ty, pos, af, g⟩).run P w = .ok (.value v) w := by
  simp only [execOp, evo_ev h]; rfl
theorem av_ (h : evo E x = some v := by exact rfl) : (execOp (ev E) ⟨dst, .assign x, ty, pos, af, g⟩).run P w = .ok (.value v) w := by
  simp only [execOp, evo_ev h]; rfl
theorem fA {s : TypeId} {i o : Nat} {ft : TypeId} {b f : Nat} (m : Nat) (h : fieldIs P s i = some (o, ft)) (hx : ev E x = .pointer (some ⟨b, f, none⟩) := by exact rfl) (hm : Nat.beq (f + o) m = true := by rfl) :
    (execOp (ev E) ⟨dst, .fieldAddr s x i, ty, pos, af, g⟩).run P w = .ok (.value (pB b m)) w := x_fieldAddr h hx (by rw [add_lit, Nat.eq_of_beq_eq_true hm])
theorem fB {s : TypeId} {i o : Nat} {ft : TypeId} {A : Option Addr} {f : Nat} (h : fieldIs P s i = some (o, ft)) (hx : ev E x = .pointer (some (adr A f)) := by exact rfl) :
    (execOp (ev E) ⟨dst, .fieldAddr s x i, ty, pos, af, g⟩).run P w = .ok (.value (pA A (f + o))) w := x_fieldAddr h hx (adr_add _ _ _)
theorem fB0 {s : TypeId} {i : Nat} {ft : TypeId} {A : Option Addr} {f : Nat} (h : fieldIs P s i = some (0, ft)) (hx : ev E x = .pointer (some (adr A f)) := by exact rfl) :
    (execOp (ev E) ⟨dst, .fieldAddr s x i, ty, pos, af, g⟩).run P w = .ok (.value (pA A f)) w := x_fieldAddr h hx rfl
theorem ld_ (j : Nat) {b off : Nat} {tb : TypeId} {cs : List Value} {fz : Nat × Nat} (hs : scal P t = true) (hx : ev E x = .pointer (some ⟨b, off, none⟩) := by exact rfl) (hj : L[j]? = some (Ent.blk b tb cs fz) := by exact rfl) (hc : cs[off]? = some v := by exact rfl) :
    ∀ w, St S w0 w L → (execOp (ev E) ⟨dst, .load t x, ty, pos, af, g⟩).run P w = .ok (.value v) w := x_load j hx hj hs hc
theorem ldN (j : Nat) {b off : Nat} {tb : TypeId} {cs : List Value} {fz : Nat × Nat} (vs : List Value) (hs : aggs P t = true) (hn : sizeIs P t = some vs.length) (hx : ev E x = .pointer (some ⟨b, off, none⟩) := by exact rfl) (hj : L[j]? = some (Ent.blk b tb cs fz) := by exact rfl) (hc : (cs.drop off).take vs.length = vs := by exact rfl) :
    ∀ w, St S w0 w L → (execOp (ev E) ⟨dst, .load t x, ty, pos, af, g⟩).run P w = .ok (.value (vG vs)) w := x_loadN j vs hx hj hs hn hc
theorem ldF {α : Type} [Inhabited α] {f : α → List Value} {sz : Nat} {A : Option Addr} {xs : List α} {k : Nat} (o : Nat) (hf : ∀ a, (f a).length = sz) (hr : ∀ w, St S w0 w L → Cells w A (xs.flatMap f)) (hs : scal P t = true) (hx : ev E x = .pointer (some (adr A (k * sz + o))) := by exact rfl) (hc : (f (xs.getD k default))[o]? = some v := by exact rfl) (hk : k < xs.length := by exact lt_) :
    ∀ w, St S w0 w L → (execOp (ev E) ⟨dst, .load t x, ty, pos, af, g⟩).run P w = .ok (.value v) w :=
  x_load_at hr hx hs ((flat_at f sz hf xs default k o hk (by rw [← hf (xs.getD k default)]; exact (List.getElem?_eq_some_iff.1 hc).1)).trans hc)
theorem ldF0 {α : Type} [Inhabited α] {f : α → List Value} {sz : Nat} {A : Option Addr} {xs : List α} {k : Nat} (hf : ∀ a, (f a).length = sz) (hr : ∀ w, St S w0 w L → Cells w A (xs.flatMap f)) (hs : scal P t = true) (hx : ev E x = .pointer (some (adr A (k * sz))) := by exact rfl) (hc : (f (xs.getD k default))[0]? = some v := by exact rfl) (hk : k < xs.length := by exact lt_) :
    ∀ w, St S w0 w L → (execOp (ev E) ⟨dst, .load t x, ty, pos, af, g⟩).run P w = .ok (.value v) w := ldF 0 hf hr hs hx hc hk
theorem ldFN {α : Type} [Inhabited α] {f : α → List Value} {sz : Nat} {A : Option Addr} {xs : List α} {k : Nat} (hf : ∀ a, (f a).length = sz) (hr : ∀ w, St S w0 w L → Cells w A (xs.flatMap f)) (hs : aggs P t = true) (hn : sizeIs P t = some sz) (hx : ev E x = .pointer (some (adr A (k * sz))) := by exact rfl) (hk : k < xs.length := by exact lt_) :
    ∀ w, St S w0 w L → (execOp (ev E) ⟨dst, .load t x, ty, pos, af, g⟩).run P w = .ok (.value (vG (f (xs.getD k default)))) w :=
  x_loadN_at (f (xs.getD k default)) hr hx hs (by rw [hf]; exact hn) (by rw [hf]; exact flat_drop f sz hf xs default k hk)
theorem ldM {α : Type} (f : α → Value) (d0 : α) {A : Option Addr} {xs : List α} {k : Nat} (hr : ∀ w, St S w0 w L → Cells w A (xs.map f)) (hs : scal P t = true) (hx : ev E x = .pointer (some (adr A k)) := by exact rfl) (hk : k < xs.length := by exact lt_) :
    ∀ w, St S w0 w L → (execOp (ev E) ⟨dst, .load t x, ty, pos, af, g⟩).run P w = .ok (.value (f (xs.getD k d0))) w := x_load_at hr hx hs (map_at f xs d0 hk)
theorem ixF {α : Type} {f : α → List Value} {kd : IntKind} {e : TypeId} {sz c k : Nat} {A : Option Addr} {xs : List α} (hf : ∀ a, (f a).length = sz) (hr : ∀ w, St S w0 w L → Cells w A (xs.flatMap f)) (ht : P.underlying t = Option.some (.slice e)) (hs : sizeIs P e = Option.some sz) (hp : Nat.blt 0 sz = true := by rfl) (hx : ev E x = .slice A xs.length c := by exact rfl) (hy : ev E y = .int kd (k : Int) := by exact rfl) (hk : k < xs.length := by exact lt_) :
    ∀ w, St S w0 w L → (execOp (ev E) ⟨dst, .indexAddr t x y, ty, pos, af, g⟩).run P w = .ok (.value (pA A (k * sz))) w := x_indexAddr_at hr ht hs hx hy hk (by rw [flat_length f sz hf]; exact Nat.mul_pos (by omega) (by simpa [Nat.blt_eq] using hp)) rfl
theorem ixM {α : Type} {f : α → Value} {kd : IntKind} {e : TypeId} {c k : Nat} {A : Option Addr} {xs : List α} (hr : ∀ w, St S w0 w L → Cells w A (xs.map f)) (ht : P.underlying t = Option.some (.slice e)) (hs : sizeIs P e = Option.some 1) (hx : ev E x = .slice A xs.length c := by exact rfl) (hy : ev E y = .int kd (k : Int) := by exact rfl) (hk : k < xs.length := by exact lt_) :
    ∀ w, St S w0 w L → (execOp (ev E) ⟨dst, .indexAddr t x y, ty, pos, af, g⟩).run P w = .ok (.value (pA A k)) w := x_indexAddr_at hr ht hs hx hy hk (by rw [List.length_map]; omega) (Nat.mul_one _)
theorem lnS {e : TypeId} {A : Option Addr} {n c : Nat} (ht : P.underlying t = some (.slice e)) (hx : ev E x = .slice A n c := by exact rfl) : (execOp (ev E) ⟨dst, .call ⟨.builtin .len, #[x], #[t]⟩, ty, pos, af, g⟩).run P w = .ok (.value (vI (n : Int))) w := x_len_sl ht hx
variable {K : Value → List Ent → Prop}
theorem al_ {z : Value} (hz : zeroIs P t = some z) (k : ∀ b, K (pB b 0) (Ent.blk b t z.cells.toList :: L)) : OpJ P S w0 E L ⟨dst, .alloc t, ty, pos, af, g⟩ K := O_alloc hz rfl k
theorem bx1 (k : ∀ b, K (pB b 0) (Ent.blk b t [v] :: L)) (hx : evo E x = some v := by exact rfl) (h1 : one v = true := by rfl) : OpJ P S w0 E L ⟨dst, .box t x, ty, pos, af, g⟩ K := O_box (evo_ev hx) (one_cells h1) k
theorem bxG {l : List Value} (k : ∀ b, K (pB b 0) (Ent.blk b t l :: L)) (hx : evo E x = some (vG l) := by exact rfl) : OpJ P S w0 E L ⟨dst, .box t x, ty, pos, af, g⟩ K := O_box (evo_ev hx) rfl k
theorem st1 (j : Nat) {b off : Nat} {tb : TypeId} {cs cs' : List Value} {fz : Nat × Nat} {L' : List Ent} (hn : sizeIs P t = some 1) (k : K undef L')
    (hx : ev E x = .pointer (some ⟨b, off, none⟩) := by exact rfl) (hy : evo E y = some v := by exact rfl) (hj : L[j]? = some (Ent.blk b tb cs fz) := by exact rfl) (h1 : one v = true := by rfl)
    (hcs : SetA cs off v cs' := by repeat (first | exact SetA.here | apply SetA.there)) (hL : SetA L j (Ent.blk b tb cs' fz) L' := by repeat (first | exact SetA.here | apply SetA.there)) : OpJ P S w0 E L ⟨dst, .store t x y, ty, pos, af, g⟩ K :=
  O_store j cs' L' hx (evo_ev hy) hj hn (by rw [one_cells h1]; rfl) hcs.lt (by rw [one_cells h1]; simp [one_cell' h1]) (by rw [one_cells h1]; exact hcs.splice) hL.set k
theorem stG (j : Nat) {b m : Nat} {tb : TypeId} {cs vs : List Value} {fz : Nat × Nat} {L' : List Ent} (hn : sizeIs P t = some m) (k : K undef L')
    (hx : ev E x = .pointer (some ⟨b, 0, none⟩) := by exact rfl) (hy : evo E y = some (vG vs) := by exact rfl) (h1 : vs.all Value.oneCell' = true := by rfl) (hj : L[j]? = some (Ent.blk b tb cs fz) := by exact rfl) (hm : Nat.beq vs.length m = true := by rfl) (hc : Nat.beq cs.length m = true := by rfl)
    (hL : SetA L j (Ent.blk b tb vs fz) L' := by repeat (first | exact SetA.here | apply SetA.there)) : OpJ P S w0 E L ⟨dst, .store t x y, ty, pos, af, g⟩ K :=
  O_storeS j vs L' hx (evo_ev hy) hj hn (Nat.eq_of_beq_eq_true hm) (by rw [Nat.eq_of_beq_eq_true hc]; simp) h1 (st_all (by rw [Nat.eq_of_beq_eq_true hc]; exact Nat.ble_eq_true_of_le (by omega))) hL.set k
theorem ex_ {l : List Value} (i : Nat) (hx : ev E x = .tuple l.toArray := by exact rfl) (hi : l[i]? = some v := by exact rfl) : (execOp (ev E) ⟨dst, .extract x i, ty, pos, af, g⟩).run P w = .ok (.value v) w := by
  obtain ⟨hlt, he⟩ := List.getElem?_eq_some_iff.1 hi
  simp only [execOp, hx]
  subst he
  show Sem.run P (do let v ← Instr.extract (.tuple l.toArray) i; pure (Next.value v)) w = _
  simp [Instr.extract, hlt]
theorem if_ {c1 c2 : Code} {b : Bool} (h1 : b = true → J P n S w0 c1 Q E L) (h2 : b = false → J P n S w0 c2 Q E L) (hx : evo E x = some (.bool b) := by exact rfl) (hk : known E x = true := by rfl) : J P n S w0 (.cond x c1 c2) Q E L := J_cond b hk (evo_ev hx) h1 h2
theorem ifd {c1 c2 : Code} {p : Prop} [Decidable p] (h1 : decide p = true → p → J P n S w0 c1 Q E L) (h2 : decide p = false → ¬p → J P n S w0 c2 Q E L) (hx : evo E x = some (.bool (decide p)) := by exact rfl) (hk : known E x = true := by rfl) : J P n S w0 (.cond x c1 c2) Q E L :=
  J_cond (decide p) hk (evo_ev hx) (fun h => h1 h (of_decide_eq_true h)) (fun h => h2 h (of_decide_eq_false h))
theorem ift {c1 c2 : Code} (h : J P n S w0 c1 Q E L) (hx : evo E x = some (.bool true) := by exact rfl) (hk : known E x = true := by rfl) : J P n S w0 (.cond x c1 c2) Q E L := J_cond true hk (evo_ev hx) (fun _ => h) (fun h => by cases h)
theorem iff_ {c1 c2 : Code} (h : J P n S w0 c2 Q E L) (hx : evo E x = some (.bool false) := by exact rfl) (hk : known E x = true := by rfl) : J P n S w0 (.cond x c1 c2) Q E L := J_cond false hk (evo_ev hx) (fun h => by cases h) (fun _ => h)
theorem c0 {o : Oper} {f : FuncId} {args : Array Value} {X : Value} (hr : ∀ {w}, (execOp (ev E) o).run P w = .ok (.enter f args) w) (hc : ∀ w, St S w0 w ([] ++ L) → Calls P f args w (Gives [] w fun v L => v = X ∧ L = [])) (h : JO P n S w0 ops rest Q (put E o.dst X) L) (hfit : fit n E o = true := by rfl) (hw : wants ops E o := by exact trivial) : JO P n S w0 ops (o :: rest) Q E L :=
  JO_call [] [] L hfit hw (fun _ => hr) (fun _ h => h) (fun _ h => by cases h) hc (by rintro _ _ ⟨rfl, rfl⟩; exact h)
theorem c0g {o : Oper} {f : FuncId} {args : Array Value} {X : Value} {t b : Bool} {j : Nat} (hg : t = b) (hr : ∀ {w}, (execOp (ev E) o).run P w = .ok (.enter f args) w) (hc : ∀ w, St S w0 w ([] ++ L) → Calls P f args w (Gives [] w fun v L => v = X ∧ L = [])) (h : JO P n S w0 ops rest Q (put E o.dst X) L) (hfit : fit n E o = true := by rfl) (h1 : o.guard = some (j, b) := by rfl) (h2 : gval ops E j = some t := by rfl) : JO P n S w0 ops (o :: rest) Q E L :=
  JO_call [] [] L hfit (wants_g hg h1 h2) (fun _ => hr) (fun _ h => h) (fun _ h => by cases h) hc (by rintro _ _ ⟨rfl, rfl⟩; exact h)
theorem c1 {o : Oper} {f : FuncId} {args : Array Value} {φ : Value → List Ent → Prop} (hr : ∀ {w}, (execOp (ev E) o).run P w = .ok (.enter f args) w) (hc : ∀ w, St S w0 w ([] ++ L) → Calls P f args w (Gives [] w φ)) (h : ∀ v L', φ v L' → JO P n S w0 ops rest Q (put E o.dst v) (L' ++ L)) (hfit : fit n E o = true := by rfl) (hw : wants ops E o := by exact trivial) : JO P n S w0 ops (o :: rest) Q E L :=
  JO_call [] [] L hfit hw (fun _ => hr) (fun _ h => h) (fun _ h => by cases h) hc h
theorem cl_ {f : FuncId} {l : List Operand} {vs : List Value} {ts : Array TypeId} (hc : Callable P f) (ha : l.map (ev E) = vs := by exact rfl) : (execOp (ev E) ⟨dst, .call ⟨.value (.func f), l.toArray, ts⟩, ty, pos, af, g⟩).run P w = .ok (.enter f vs.toArray) w := x_call hc ha
theorem rno {A : Option Addr} {cs : List Value} {w : World} (h : RO S w0 A cs) (hS : St S w0 w ([] ++ L)) : RO [] w A cs := h.on0 hS
theorem St.no {w : World} (h : St S w0 w L) : St S w0 w [] := h.sublist (List.nil_sublist _)
theorem p1 {fn : Func} {t : Nat} {φ : Value → List Ent → Prop} (hr : fn.results = #[.tmp t]) (hv : get E t = some v) (hφ : φ v []) : JX n S w0 (bodyPost P fn (Gives S w0 φ)) .ret E L := JX_ret1 v hr hv [] (fun _ h => h.no) hφ
theorem p2 {fn : Func} {t t2 : Nat} {u v : Value} {φ : Value → List Ent → Prop} (hr : fn.results = #[.tmp t, .tmp t2]) (hv : get E t = some v) (hu : get E t2 = some u) (hφ : φ (.tuple #[v, u]) []) : JX n S w0 (bodyPost P fn (Gives S w0 φ)) .ret E L :=
  JX_rets [v, u] _ hr (fun _ _ => ⟨hv, hu, trivial⟩) rfl [] (fun _ h => h.no) hφ
theorem p3 {fn : Func} {t t2 t3 : Nat} {u v s : Value} {φ : Value → List Ent → Prop} (hr : fn.results = #[.tmp t, .tmp t2, .tmp t3]) (hv : get E t = some v) (hu : get E t2 = some u) (hs : get E t3 = some s) (hφ : φ (.tuple #[v, u, s]) []) : JX n S w0 (bodyPost P fn (Gives S w0 φ)) .ret E L :=
  JX_rets [v, u, s] _ hr (fun _ _ => ⟨hv, hu, hs, trivial⟩) rfl [] (fun _ h => h.no) hφ
def shunL (n : Nat) (ops : Array Oper) (E : Env) (gd : Nat) (gv : Bool) : List Nat → List Oper → Bool
  | _, [] => true
  | us, o :: r => match o.guard with
    | some (j, b) => match (ops[j]?).bind (·.dst) with
      | some t => ((Nat.beq t gd && (b != gv)) || us.contains t) && (match o.dst with
        | some d => (get E d).isNone && Nat.blt d n && shunL n ops E gd gv (d :: us) r
        | none => shunL n ops E gd gv us r)
      | none => false
    | none => false
structure Hid (n : Nat) (E : Env) (us : List Nat) (a : Act) : Prop where
  rep : Rep n E a
  und : ∀ t ∈ us, a.tmps.getD t undef = undef
theorem Hid.put {E : Env} {us : List Nat} {a : Act} {d : Nat} (h : Hid n E us a) (hd : (get E d).isNone = true) (hn : d < n) : Hid n E (d :: us) (a.put (some d) undef) := by
  have hp : ∀ t, t ≠ d → (a.put (some d) undef).tmps.getD t undef = a.tmps.getD t undef := fun t ht => by
    simp [Act.put, Array.getElem?_setIfInBounds_ne (fun e => ht e.symm)]
  refine ⟨⟨h.rep.defers, by simp [Act.put, h.rep.size], fun t v hv => ?_⟩, fun t ht => ?_⟩
  · by_cases htd : t = d
    · subst htd; rw [hv] at hd; simp at hd
    · rw [hp t htd]; exact h.rep.val t v hv
  · by_cases htd : t = d
    · subst htd; simp [Act.put, h.rep.size, hn]
    · rw [hp t htd]
      rcases List.mem_cons.1 ht with e | ht
      · exact absurd e htd
      · exact h.und t ht
theorem yielded_of {a : Act} {j t : Nat} {v : Value} (hj : (ops[j]?).bind (·.dst) = some t) (hv : a.tmps.getD t undef = v) (b : Bool) (hb : v = undef ∨ v = vB (!b)) : (yielded ops a.tmps j == some b) = false := by
  unfold yielded
  rw [hj]
  simp only [Array.getD_eq_getD_getElem?] at hv
  cases hx : a.tmps[t]? with
  | none => simp [hx]
  | some u =>
    rw [hx] at hv; simp at hv; subst hv
    rcases hb with rfl | rfl
    · simp [hx, undef]
    · simp [hx]
theorem shunL_run {E : Env} {gd : Nat} {gv : Bool} (hg : get E gd = some (vB gv)) : ∀ (l : List Oper) (us : List Nat), shunL n ops E gd gv us l = true → ∀ (Q : Post) (a : Act) (w : World), Hid n E us a → (∀ a', Rep n E a' → Q .normal a' w) → wpList P ops Q l a w
  | [], us, _, Q, a, w, hh, hq => hq a hh.rep
  | o :: l, us, hs, Q, a, w, hh, hq => by
    unfold shunL at hs
    cases hgd : o.guard with
    | none => rw [hgd] at hs; cases hs
    | some p =>
      obtain ⟨j, b⟩ := p
      rw [hgd] at hs
      simp only at hs
      cases hj : (ops[j]?).bind (·.dst) with
      | none => rw [hj] at hs; cases hs
      | some t =>
        rw [hj] at hs
        simp only [Bool.and_eq_true, Bool.or_eq_true] at hs
        have hno : Region.wanted o (yielded ops a.tmps) = false := by
          unfold Region.wanted
          rw [hgd]
          rcases hs.1 with h | h
          · have ht := Nat.eq_of_beq_eq_true h.1
            subst ht
            refine yielded_of hj (hh.rep.val _ _ hg) b (.inr ?_)
            have := h.2
            cases b <;> cases gv <;> first | rfl | cases this
          · exact yielded_of hj (hh.und t (by simpa using h)) b (.inl rfl)
        unfold wpList
        rw [if_neg (by rw [hno]; simp)]
        cases hd : o.dst with
        | none =>
          rw [hd] at hs
          exact shunL_run hg l us hs.2 Q _ w hh hq
        | some d =>
          rw [hd] at hs
          simp only [Bool.and_eq_true] at hs
          exact shunL_run hg l (d :: us) hs.2.2 Q _ w (hh.put hs.2.1.1 (by simpa [Nat.blt_eq] using hs.2.1.2)) hq
def CutR (n : Nat) (S : List Nat) (w0 : World) (E : Env) (t : Nat) (r : Bool) (L : List Ent) (Q : Post) : Post :=
  Exit.then (fun a w => Rep n E a ∧ a.tmps.getD t undef = vB r ∧ St S w0 w L) Q
theorem cr_ {E2 : Env} {L2 : List Ent} {r : Bool} {t : Nat} (hL : ∀ w, St S w0 w L2 → St S w0 w L := by exact fun _ h => h) (hr : get E2 t = some (vB r) := by exact rfl) (hg : grown E2 E := by exact ⟨rfl, rfl⟩) : JO P n S w0 ops [] (CutR n S w0 E t r L Q) E2 L2 :=
  fun _ w hR hS => ⟨hR.grown hg, hR.val t _ hr, hL w hS⟩
theorem run_pick (e : Operand → Value) {z : Operand} {b : Bool} (hz : e z = vB b) : (execOp e ⟨dst, .pick z x y, ty, pos, af, g⟩).run P w = .ok (.value (if b then e x else e y)) w := by
  simp only [execOp, hz]; rfl
theorem pick_step {a : Act} {w : World} {b : Bool} {gd d : Nat} (hR : Rep n E a) (hS : St S w0 w L) (hz : a.tmps.getD gd undef = vB b) (hv : (if b then a.eval x else a.eval y) = v) (hw : wants ops E ⟨some d, .pick (.tmp gd) x y, ty, pos, af, g⟩) (hd : Nat.blt d n = true) (h : JO P n S w0 ops rest Q ((d, v) :: E) L) :
    wpList P ops Q (⟨some d, .pick (.tmp gd) x y, ty, pos, af, g⟩ :: rest) a w := by
  unfold wpList
  rw [if_pos (wants_wanted hR hw)]
  refine .inl ?_
  unfold Oper.wp
  rw [run_pick a.eval (z := .tmp gd) (b := b) hz, hv]
  exact h _ _ (hR.put (dst := some d) (fun k hk => by injection hk with hk; subst hk; simpa [Nat.blt_eq] using hd) v) hS
theorem and_ (m : Nat) (r : Bool) {l : List Oper} {gb : Bool} {gd d t : Nat} {gg : Option (Nat × Bool)} (h1 : gb = true → JO P n S w0 ops (l.take m) (CutR n S w0 E t r L Q) E L) (h2 : JO P n S w0 ops rest Q ((d, vB (gb && r)) :: E) L)
    (hd : l.drop m = ⟨some d, .pick (.tmp gd) (.tmp t) (.const (vB false)), ty, pos, af, gg⟩ :: rest := by exact rfl) (hg : get E gd = some (vB gb) := by exact rfl) (hdn : Nat.blt d n = true := by rfl)
    (hs : shunL n ops ((gd, vB false) :: E) gd false [] (l.take m) = true := by rfl) (hw : wants ops E ⟨some d, .pick (.tmp gd) (.tmp t) (.const (vB false)), ty, pos, af, gg⟩ := by exact trivial) : JO P n S w0 ops l Q E L := by
  intro a w hR hS
  refine wpList_take m l a w ?_
  cases gb with
  | false =>
    refine shunL_run (E := (gd, vB false) :: E) (by simp [get]) _ [] hs _ a w ⟨?_, by simp⟩ (fun a' hR' => ?_)
    · exact ⟨hR.defers, hR.size, fun t v hv => hR.val t v (by
        simp only [get] at hv
        cases hb : Nat.beq gd t with
        | true => rw [hb] at hv; have := Nat.eq_of_beq_eq_true hb; subst this; rw [hg]; exact hv
        | false => rw [hb] at hv; exact hv)⟩
    · show wpList P ops Q (l.drop m) a' w
      rw [hd]
      have hR2 : Rep n E a' := ⟨hR'.defers, hR'.size, fun t v hv => hR'.val t v (by
        simp only [get]
        cases hb : Nat.beq gd t with
        | true => have := Nat.eq_of_beq_eq_true hb; subst this; rw [hg] at hv; exact hv
        | false => exact hv)⟩
      exact pick_step (b := false) hR2 hS (hR2.val _ _ hg) rfl hw hdn h2
  | true =>
    refine wpList_mono ?_ _ _ _ (h1 rfl a w hR hS)
    intro e a' w' hq
    cases e with
    | normal =>
      obtain ⟨hR', hr, hS'⟩ := hq
      show wpList P ops Q (l.drop m) a' w'
      rw [hd]
      exact pick_step (b := true) (v := vB r) hR' hS' (hR'.val _ _ hg) hr hw hdn h2
    | _ => exact hq
theorem or_ (m : Nat) (r : Bool) {l : List Oper} {gb : Bool} {gd d t : Nat} {gg : Option (Nat × Bool)} (h1 : gb = false → JO P n S w0 ops (l.take m) (CutR n S w0 E t r L Q) E L) (h2 : JO P n S w0 ops rest Q ((d, vB (gb || r)) :: E) L)
    (hd : l.drop m = ⟨some d, .pick (.tmp gd) (.const (vB true)) (.tmp t), ty, pos, af, gg⟩ :: rest := by exact rfl) (hg : get E gd = some (vB gb) := by exact rfl) (hdn : Nat.blt d n = true := by rfl)
    (hs : shunL n ops ((gd, vB true) :: E) gd true [] (l.take m) = true := by rfl) (hw : wants ops E ⟨some d, .pick (.tmp gd) (.const (vB true)) (.tmp t), ty, pos, af, gg⟩ := by exact trivial) : JO P n S w0 ops l Q E L := by
  intro a w hR hS
  refine wpList_take m l a w ?_
  cases gb with
  | true =>
    refine shunL_run (E := (gd, vB true) :: E) (by simp [get]) _ [] hs _ a w ⟨?_, by simp⟩ (fun a' hR' => ?_)
    · exact ⟨hR.defers, hR.size, fun t v hv => hR.val t v (by
        simp only [get] at hv
        cases hb : Nat.beq gd t with
        | true => rw [hb] at hv; have := Nat.eq_of_beq_eq_true hb; subst this; rw [hg]; exact hv
        | false => rw [hb] at hv; exact hv)⟩
    · show wpList P ops Q (l.drop m) a' w
      rw [hd]
      have hR2 : Rep n E a' := ⟨hR'.defers, hR'.size, fun t v hv => hR'.val t v (by
        simp only [get]
        cases hb : Nat.beq gd t with
        | true => have := Nat.eq_of_beq_eq_true hb; subst this; rw [hg] at hv; exact hv
        | false => exact hv)⟩
      exact pick_step (b := true) hR2 hS (hR2.val _ _ hg) rfl hw hdn h2
  | false =>
    refine wpList_mono ?_ _ _ _ (h1 rfl a w hR hS)
    intro e a' w' hq
    cases e with
    | normal =>
      obtain ⟨hR', hr, hS'⟩ := hq
      show wpList P ops Q (l.drop m) a' w'
      rw [hd]
      exact pick_step (b := false) (v := vB r) hR' hS' (hR'.val _ _ hg) hr hw hdn h2
    | _ => exact hq
theorem q_ {c1 c2 : Code} (h : J P n S w0 c1 (Exit.then (c2.wp P Q) Q) E L) : J P n S w0 (.seq c1 c2) Q E L := J_seq h
theorem g_ {id : Nat} {l : List Oper} (h : JO P n S w0 l.toArray l Q E L) : J P n S w0 (.region id l.toArray false) Q E L := J_region h
theorem n_ {c : Code} {Q' : Post} (h : J P n S w0 c Q E L) : JX n S w0 (Exit.then (c.wp P Q) Q') .normal E L := h
theorem z_ (h : JX n S w0 Q .normal E L) : JO P n S w0 ops [] Q E L := h
theorem k_ {id : Nat} {c : Code} (h : J P n S w0 c (Exit.inBlock id Q) E L) : J P n S w0 (.block id c) Q E L := J_block h
theorem kx_ {id : Nat} (h : JX n S w0 Q .normal E L) : JX n S w0 (Exit.inBlock id Q) .normal E L := h
theorem nr_ {K : Act → World → Prop} (h : JX n S w0 Q .ret E L) : JX n S w0 (Exit.then K Q) .ret E L := h
theorem kq_ {id : Nat} (h : JX n S w0 Q .ret E L) : JX n S w0 (Exit.inBlock id Q) .ret E L := h
theorem rr_ {X : Type} {I : X → Prop} {Ef : X → Env} {Lf : X → List Ent} {μ : X → Nat} {m : Nat} (h : JX n S w0 Q .ret E L) : JX n S w0 (Round n S w0 I Ef Lf μ m Q) .ret E L := h
theorem ne_ {K : Act → World → Prop} {id : Nat} (h : JX n S w0 Q (.exit id) E L) : JX n S w0 (Exit.then K Q) (.exit id) E L := h
theorem kh_ {id : Nat} (h : JX n S w0 Q .normal E L) : JX n S w0 (Exit.inBlock id Q) (.exit id) E L := JX_block_hit h
theorem re_ {X : Type} {I : X → Prop} {Ef : X → Env} {Lf : X → List Ent} {μ : X → Nat} {m id : Nat} (h : JX n S w0 Q (.exit id) E L) : JX n S w0 (Round n S w0 I Ef Lf μ m Q) (.exit id) E L := h
theorem sk_ (h : JX n S w0 Q .normal E L) : J P n S w0 .skip Q E L := J_skip h
theorem rt_ (h : JX n S w0 Q .ret E L) : J P n S w0 .ret Q E L := J_ret h
theorem drB {id : Nat} {l : List Oper} (us : List Nat) (m : Nat) (hm : P.follows .mixedOrders = true) (h : JA P n S w0 l.toArray Q L us L m (Array.replicate m false) E L) (hl : l.length = m := by rfl) : J P n S w0 (.region id l.toArray true) Q E L := J_draw L us L m hm hl h
theorem drU {id : Nat} {l : List Oper} (Lg : List Ent) (us : List Nat) (m : Nat) (hm : P.follows .mixedOrders = true) (h : JA P n S w0 l.toArray Q Lg us L m (Array.replicate m false) E L) (hl : l.length = m := by rfl) : J P n S w0 (.region id l.toArray true) Q E L := J_draw Lg us L m hm hl h
theorem eI {a b : Int} (h : a = b) : vI a = vI b := h ▸ rfl
theorem eS {a b : Bytes} (h : a = b) : vS a = vS b := h ▸ rfl
theorem eB {a b : Bool} (h : a = b) : vB a = vB b := h ▸ rfl
theorem t2 {a b c d : Value} (h : a = c) (k : b = d) : Value.tuple #[a, b] = Value.tuple #[c, d] := h ▸ k ▸ rfl
theorem t3 {a b c d e f : Value} (h : a = d) (k : b = e) (l : c = f) : Value.tuple #[a, b, c] = Value.tuple #[d, e, f] := h ▸ k ▸ l ▸ rfl
theorem xk_ (ks : List Nat) {e : Exit} {E' : Env} (h : JX n S w0 Q e E' L) (hs : Sub E ks E' := by repeat' (first | exact Sub.nil | apply Sub.cons | exact rfl)) : JX n S w0 Q e E L := JX_weaken hs.sub (fun _ h => h) h
theorem gl_ (hu : (us.all fun u => !listed.getD u true) = false := by rfl) (hL : ∀ w, St S w0 w L → St S w0 w Lg := by exact fun _ h => h) : ∀ w, St S w0 w L → GL S w0 Lg us Lu listed w := fun w h => ⟨hL w h, fun hh => by rw [hu] at hh; cases hh⟩
theorem gm_ : ∀ w, St S w0 w L → GL S w0 L us L listed w := fun _ h => ⟨h, fun _ => h⟩
theorem jp_ (i : Nat) {o : Oper} (hi : ops[i]? = some o) (hr : ∀ {w}, (execOp (ev E) o).run P w = .ok (.value v) w) (h : JA P n S w0 ops Q Lg us Lu fuel (listed.setIfInBounds i true) (put E o.dst v) L)
    (hs : Region.noSelect ops = true := by kernel_rfl) (hf : Region.free .any ops listed i = true := by kernel_rfl) (hc : (Region.ready .any ops listed).contains i = true := by kernel_rfl) (hu : us.contains i = false := by rfl)
    (hQ : ∀ c a w, Q (.panic c) (a.put o.dst v) w → Q (.panic c) a w := by exact fun _ _ _ h => h) (hfit : fit n E o = true := by rfl) (hw : wants ops E o := by exact trivial) : JA P n S w0 ops Q Lg us Lu (fuel + 1) listed E L := JA_take i v hi hs hf hc hu hQ hfit hw (fun _ _ => hr) h
theorem jq_ (i : Nat) {o : Oper} (hi : ops[i]? = some o) (hr : ∀ w, St S w0 w Lg → (execOp (ev E) o).run P w = .ok (.value v) w) (h : JA P n S w0 ops Q Lg us Lu fuel (listed.setIfInBounds i true) (put E o.dst v) L)
    (hs : Region.noSelect ops = true := by kernel_rfl) (hf : Region.free .any ops listed i = true := by kernel_rfl) (hc : (Region.ready .any ops listed).contains i = true := by kernel_rfl) (hu : us.contains i = false := by rfl)
    (hQ : ∀ c a w, Q (.panic c) (a.put o.dst v) w → Q (.panic c) a w := by exact fun _ _ _ h => h) (hfit : fit n E o = true := by rfl) (hw : wants ops E o := by exact trivial) : JA P n S w0 ops Q Lg us Lu (fuel + 1) listed E L := JA_take i v hi hs hf hc hu hQ hfit hw hr h
theorem js2_ (i : Nat) {o : Oper} (hi : ops[i]? = some o) (h : JA P n S w0 ops Q Lg us Lu fuel (listed.setIfInBounds i true) (put E o.dst undef) L)
    (hs : Region.noSelect ops = true := by kernel_rfl) (hf : Region.free .any ops listed i = true := by kernel_rfl) (hc : (Region.ready .any ops listed).contains i = true := by kernel_rfl) (hu : us.contains i = false := by rfl)
    (hQ : ∀ c a w, Q (.panic c) (a.put o.dst undef) w → Q (.panic c) a w := by exact fun _ _ _ h => h) (hd : dstOk n o.dst = true := by rfl) (hw : shuns ops E o := by exact ⟨_, rfl, rfl⟩) : JA P n S w0 ops Q Lg us Lu (fuel + 1) listed E L := JA_shun i hi hs hf hc hu hQ hd hw h
theorem ju_ (i : Nat) {o : Oper} (hi : ops[i]? = some o) (h : JA P n S w0 ops Q Lg us Lu fuel (listed.setIfInBounds i true) (put E o.dst undef) L)
    (hs : Region.noSelect ops = true := by kernel_rfl) (hf : Region.free .any ops listed i = true := by kernel_rfl) (hc : (Region.ready .any ops listed).contains i = true := by kernel_rfl) (hu : us.contains i = false := by rfl)
    (hQ : ∀ c a w, Q (.panic c) (a.put o.dst undef) w → Q (.panic c) a w := by exact fun _ _ _ h => h) (hd : dstOk n o.dst = true := by rfl) (hw : gundef ops E o := by exact ⟨_, rfl, rfl⟩) : JA P n S w0 ops Q Lg us Lu (fuel + 1) listed E L := JA_shunU i hi hs hf hc hu hQ hd hw h
theorem jb_ (d : Nat) {b : Bool} (h1 : b = true → JA P n S w0 ops Q Lg us Lu fuel listed ((d, vB true) :: E) L) (h2 : b = false → JA P n S w0 ops Q Lg us Lu fuel listed ((d, vB false) :: E) L) (hb : get E d = some (vB b) := by exact rfl) : JA P n S w0 ops Q Lg us Lu fuel listed E L := by
  intro a w hR hS hc
  have key : ∀ z, b = z → Rep n ((d, vB z) :: E) a := fun z hz => ⟨hR.defers, hR.size, fun t v hv => hR.val t v (by
    simp only [get] at hv
    cases hq : Nat.beq d t with
    | true => rw [hq] at hv; have := Nat.eq_of_beq_eq_true hq; subst this; subst hz; rw [hb]; exact hv
    | false => rw [hq] at hv; exact hv)⟩
  cases hz : b with
  | true => exact h1 hz a w (key true hz) hS hc
  | false => exact h2 hz a w (key false hz) hS hc
theorem j1_ (i : Nat) (h : JI P n S w0 ops Q Lg us Lu fuel listed E L i) (hL : ∀ w, St S w0 w L → GL S w0 Lg us Lu listed w) (hr : Region.ready .any ops listed = [i] := by kernel_rfl) : JA P n S w0 ops Q Lg us Lu (fuel + 1) listed E L := JA_one i hr hL h
theorem jio_ {i : Nat} {o : Oper} (hi : ops[i]? = some o) (h : OpJ P S w0 E L o fun v L' => JA P n S w0 ops Q Lg us Lu fuel (listed.setIfInBounds i true) (put E o.dst v) L') (hfit : fit n E o = true := by rfl) (hw : wants ops E o := by exact trivial) : JI P n S w0 ops Q Lg us Lu fuel listed E L i := JI_op hi hfit hw h
theorem jir_ {i : Nat} {o : Oper} (hi : ops[i]? = some o) (hr : ∀ w, St S w0 w L → (execOp (ev E) o).run P w = .ok (.value v) w) (h : JA P n S w0 ops Q Lg us Lu fuel (listed.setIfInBounds i true) (put E o.dst v) L) (hfit : fit n E o = true := by rfl) (hw : wants ops E o := by exact trivial) : JI P n S w0 ops Q Lg us Lu fuel listed E L i := JI_op hi hfit hw fun w hS => ⟨v, L, w, .inl (hr w hS), hS, h⟩
theorem jc0_ {i : Nat} {o : Oper} {f : FuncId} {args : Array Value} {X : Value} (hi : ops[i]? = some o) (hr : ∀ {w}, (execOp (ev E) o).run P w = .ok (.enter f args) w) (hc : ∀ w, St S w0 w ([] ++ L) → Calls P f args w (Gives [] w fun v L => v = X ∧ L = [])) (h : JA P n S w0 ops Q Lg us Lu fuel (listed.setIfInBounds i true) (put E o.dst X) L) (hfit : fit n E o = true := by rfl) (hw : wants ops E o := by exact trivial) : JI P n S w0 ops Q Lg us Lu fuel listed E L i :=
  JI_call [] [] L hi hfit hw (fun _ => hr) (fun _ h => h) (fun _ h => by cases h) hc (by rintro _ _ ⟨rfl, rfl⟩; exact h)
theorem jc1_ {i : Nat} {o : Oper} {f : FuncId} {args : Array Value} {φ : Value → List Ent → Prop} (hi : ops[i]? = some o) (hr : ∀ {w}, (execOp (ev E) o).run P w = .ok (.enter f args) w) (hc : ∀ w, St S w0 w ([] ++ L) → Calls P f args w (Gives [] w φ)) (h : ∀ v L', φ v L' → JA P n S w0 ops Q Lg us Lu fuel (listed.setIfInBounds i true) (put E o.dst v) (L' ++ L)) (hfit : fit n E o = true := by rfl) (hw : wants ops E o := by exact trivial) : JI P n S w0 ops Q Lg us Lu fuel listed E L i :=
  JI_call [] [] L hi hfit hw (fun _ => hr) (fun _ h => h) (fun _ h => by cases h) hc h
end
end Go.GV

namespace Go.Proofs.YtmbinhhlfbgiaaaGreat
open Go.GV
namespace Ty
theorem eg27 : Tryz.prog.eqGuardType Tryz.prog.depth 27 = false := by kernel_rfl
theorem sh27 : Tryz.prog.stoodInHeld 27 = false := by kernel_rfl
set_option maxRecDepth 20000 in
theorem eq27 (d : Nat) (a b : Change) (w : World) : (Op.equalIn (d + 2) 27 (.agg (Change.enc a).toArray) (.agg (Change.enc b).toArray)).run Tryz.prog w = .ok (decide (a = b)) w := by
  have h := eq_struct (P := Tryz.prog) (d := d + 1) (t := 27) (xs := (Change.enc a).toArray) (ys := (Change.enc b).toArray) (bs := [decide (a.Kind = b.Kind), decide (a.Id = b.Id), decide (a.Key = b.Key), decide (a.Record = b.Record), decide (a.Volume = b.Volume)]) Tryz.underlying27 sh27
    ⟨by decide, .i (d := d + 0) (a := a.Kind) (b := b.Kind) Ty.sc3 Tryz.underlying3 rfl rfl, by decide, .i (d := d + 0) (a := a.Id) (b := b.Id) Ty.sc3 Tryz.underlying3 rfl rfl, by decide, .s (d := d + 0) (a := a.Key) (b := b.Key) Ty.sc9 Tryz.underlying9 rfl rfl, by decide, .s (d := d + 0) (a := a.Record) (b := b.Record) Ty.sc9 Tryz.underlying9 rfl rfl, by decide, .s (d := d + 0) (a := a.Volume) (b := b.Volume) Ty.sc9 Tryz.underlying9 rfl rfl, trivial⟩ w
  refine h.trans (congrArg (fun r => Result.ok r w) ?_)
  cases a; cases b
  rw [Bool.eq_iff_iff]
  simp only [List.all_cons, List.all_nil, id, Bool.and_eq_true, decide_eq_true_eq, Change.mk.injEq, and_true]
theorem eg70 : Tryz.prog.eqGuardType Tryz.prog.depth 70 = false := by kernel_rfl
theorem sh70 : Tryz.prog.stoodInHeld 70 = false := by kernel_rfl
set_option maxRecDepth 20000 in
theorem eq70 (d : Nat) (a b : side) (w : World) : (Op.equalIn (d + 2) 70 (.agg (side.enc a).toArray) (.agg (side.enc b).toArray)).run Tryz.prog w = .ok (decide (a = b)) w := by
  have h := eq_struct (P := Tryz.prog) (d := d + 1) (t := 70) (xs := (side.enc a).toArray) (ys := (side.enc b).toArray) (bs := [decide (a.key = b.key), decide (a.has = b.has)]) Tryz.underlying70 sh70
    ⟨by decide, .s (d := d + 0) (a := a.key) (b := b.key) Ty.sc9 Tryz.underlying9 rfl rfl, by decide, .b (d := d + 0) (a := a.has) (b := b.has) Ty.sc4 Tryz.underlying4 rfl rfl, trivial⟩ w
  refine h.trans (congrArg (fun r => Result.ok r w) ?_)
  cases a; cases b
  rw [Bool.eq_iff_iff]
  simp only [List.all_cons, List.all_nil, id, Bool.and_eq_true, decide_eq_true_eq, side.mk.injEq, and_true]
end Ty
end Go.Proofs.YtmbinhhlfbgiaaaGreat

namespace Go.Proofs
open Go.Shelf
open Go.RowKit Go.Lib
def Tryz.lays105_ren : Go.Shelf.Ren := ⟨fun | 105 => 66 | 212 => 94 | 99 => 47 | 165 => 95 | 166 => 96 | 170 => 97 | 169 => 98 | 263 => 106 | 264 => 107 | 206 => 67 | 240 => 108 | 241 => 109 | 276 => 111 | 277 => 112 | n => n, fun | 9 => 9 | 3 => 3 | 4 => 4 | 20 => 20 | 0 => 0 | 46 => 112 | 109 => 131 | 5 => 5 | 72 => 136 | 76 => 140 | 51 => 126 | 146 => 151 | 53 => 128 | 148 => 153 | 70 => 133 | 37 => 134 | 75 => 139 | 127 => 155 | 164 => 159 | 80 => 143 | n => n, fun | n => n⟩
theorem Tryz.lays105 : Go.Proofs.Lays.n105 Tryz.prog Tryz.lays105_ren := {
  mixed := by kernel_rfl
  f99 := Tryz.func47.trans (congrArg some (by kernel_rfl))
  f105 := Tryz.func66.trans (congrArg some (by kernel_rfl))
  f165 := Tryz.func95.trans (congrArg some (by kernel_rfl))
  f166 := Tryz.func96.trans (congrArg some (by kernel_rfl))
  f169 := Tryz.func98.trans (congrArg some (by kernel_rfl))
  f170 := Tryz.func97.trans (congrArg some (by kernel_rfl))
  f206 := Tryz.func67.trans (congrArg some (by kernel_rfl))
  f212 := Tryz.func94.trans (congrArg some (by kernel_rfl))
  f240 := Tryz.func108.trans (congrArg some (by kernel_rfl))
  f241 := Tryz.func109.trans (congrArg some (by kernel_rfl))
  f263 := Tryz.func106.trans (congrArg some (by kernel_rfl))
  f264 := Tryz.func107.trans (congrArg some (by kernel_rfl))
  f276 := Tryz.func111.trans (congrArg some (by kernel_rfl))
  f277 := Tryz.func112.trans (congrArg some (by kernel_rfl))
  t0 := Tryz.underlying0
  a0 := Tryz.isAgg0
  z0 := Tryz.sizeOf0
  v0 := Tryz.zeroValue0
  t3 := Tryz.underlying3
  a3 := Tryz.isAgg3
  z3 := Tryz.sizeOf3
  v3 := Tryz.zeroValue3
  t4 := Tryz.underlying4
  a4 := Tryz.isAgg4
  z4 := Tryz.sizeOf4
  v4 := Tryz.zeroValue4
  t5 := Tryz.underlying5
  a5 := Tryz.isAgg5
  z5 := Tryz.sizeOf5
  v5 := Tryz.zeroValue5
  t9 := Tryz.underlying9
  a9 := Tryz.isAgg9
  z9 := Tryz.sizeOf9
  v9 := Tryz.zeroValue9
  t20 := Tryz.underlying20
  a20 := Tryz.isAgg20
  z20 := Tryz.sizeOf20
  v20 := Tryz.zeroValue20
  t37 := Tryz.underlying134
  a37 := Tryz.isAgg134
  z37 := Tryz.sizeOf134
  v37 := Tryz.zeroValue134
  t46 := Tryz.underlying112
  a46 := Tryz.isAgg112
  z46 := Tryz.sizeOf112
  v46 := Tryz.zeroValue112
  t51 := Tryz.underlying126
  a51 := Tryz.isAgg126
  z51 := Tryz.sizeOf126
  v51 := Tryz.zeroValue126
  t53 := Tryz.underlying128
  a53 := Tryz.isAgg128
  z53 := Tryz.sizeOf128
  v53 := Tryz.zeroValue128
  t70 := Tryz.underlying133
  a70 := Tryz.isAgg133
  z70 := Tryz.sizeOf133
  v70 := Tryz.zeroValue133
  t72 := Tryz.underlying136
  a72 := Tryz.isAgg136
  z72 := Tryz.sizeOf136
  v72 := Tryz.zeroValue136
  t75 := Tryz.underlying139
  a75 := Tryz.isAgg139
  z75 := Tryz.sizeOf139
  v75 := Tryz.zeroValue139
  t76 := Tryz.underlying140
  a76 := Tryz.isAgg140
  z76 := Tryz.sizeOf140
  v76 := Tryz.zeroValue140
  t109 := Tryz.underlying131
  a109 := Tryz.isAgg131
  z109 := Tryz.sizeOf131
  v109 := Tryz.zeroValue131
  t127 := Tryz.underlying155
  a127 := Tryz.isAgg155
  z127 := Tryz.sizeOf155
  v127 := Tryz.zeroValue155
  t146 := Tryz.underlying151
  a146 := Tryz.isAgg151
  z146 := Tryz.sizeOf151
  v146 := Tryz.zeroValue151
  t148 := Tryz.underlying153
  a148 := Tryz.isAgg153
  z148 := Tryz.sizeOf153
  v148 := Tryz.zeroValue153
  t164 := Tryz.underlying159
  a164 := Tryz.isAgg159
  z164 := Tryz.sizeOf159
  v164 := Tryz.zeroValue159 }
theorem Tryz.Builder_Extra_105 : Builder.Extra Tryz.prog Tryz.lays105_ren := {
  sizeBuilder := by kernel_rfl
  liesBuilder := by kernel_rfl
  t5 := Tryz.underlying5
  a5 := Tryz.isAgg5
  z5 := Tryz.sizeOf5
  v5 := Tryz.zeroValue5
  infoByte := by kernel_rfl
  cellsByte := by kernel_rfl
  sizeByte := by kernel_rfl
  neB5 := by decide }
theorem Tryz.strings_Repeat (s : ByteArray) (c : Nat) (w : World) (hc : c ≤ 9223372036854775807) (hlen : s.size * c ≤ 140737488355328) :
    Calls Tryz.prog 66 #[.string s, .int .i64 c] w fun e w' => e = .returned (.string ⟨(Lib.repeatL s.data.toList c).toArray⟩) ∧ Below w.heap.size w w' := Any.strings_Repeat Tryz.lays105 Tryz.Builder_Extra_105 s c w hc hlen
end Go.Proofs

namespace Go.Proofs.YtmbinhhlfbgiaaaGreat
open Go.GV Go.RowKit
def rep (s : Bytes) : Nat → Bytes
  | 0 => []
  | c + 1 => s ++ rep s c
theorem rep_lib (s : Bytes) : ∀ c, Lib.repeatL s c = rep s c
  | 0 => rfl
  | c + 1 => congrArg (s ++ ·) (rep_lib s c)
theorem rep_length (s : Bytes) : ∀ c, (rep s c).length = s.length * c
  | 0 => rfl
  | c + 1 => by rw [rep, List.length_append, rep_length s c, Nat.mul_succ, Nat.add_comm]
theorem repeat_ok {n : Nat} {s : Bytes} {c : Nat} {w : World}
    (h : Calls Tryz.prog n #[.string ⟨s.toArray⟩, .int .i64 c] w fun e w' => e = .returned (.string ⟨(Lib.repeatL s c).toArray⟩) ∧ Below w.heap.size w w') :
    Calls Tryz.prog n #[vS s, vI c] w (Gives [] w fun v L => v = vS (rep s c) ∧ L = []) := by
  refine h.mono ?_
  rintro e w' ⟨rfl, hb⟩
  exact ⟨_, _, rfl, ⟨by rw [rep_lib], rfl⟩, St.nil (Fr.of_below hb)⟩
theorem repeat_spec (s : Bytes) (c : Int) (w : World) (q0 : 0 ≤ c) (q1 : c ≤ 1000) (q2 : s.length ≤ 1000) : Calls Tryz.prog 66 #[vS s, vI c] w (Gives [] w fun v L => v = vS (rep s c.toNat) ∧ L = []) := by
  obtain ⟨n, rfl⟩ : ∃ n : Nat, c = n := ⟨c.toNat, by omega⟩
  refine repeat_ok (Tryz.strings_Repeat ⟨s.toArray⟩ n w (by omega) ?_)
  show s.length * n ≤ _
  exact Nat.le_trans (Nat.mul_le_mul q2 (show n ≤ 1000 by omega)) (by decide)
end Go.Proofs.YtmbinhhlfbgiaaaGreat

namespace Go.Proofs.YtmbinhhlfbgiaaaGreat
open Go.GV
namespace R16
def zeros (l : List Int) : Bool := l.all fun n => decide (n = 0)
theorem zeros_bad {l : List Int} {k : Nat} (hk : k < l.length) (h : l.getD k 0 ≠ 0) : false = zeros l := by
  symm
  rw [Bool.eq_false_iff]
  intro h2
  unfold zeros at h2
  rw [List.all_eq_true] at h2
  have := h2 (l.getD k 0) (by rw [List.getD_eq_getElem?_getD, List.getElem?_eq_getElem hk]; exact List.getElem_mem _)
  exact h (by simpa using this)
theorem zeros_end {l : List Int} {k : Nat} (hk : k ≤ l.length) (hk2 : ¬ (k : Int) < l.length) (h : ∀ i, i < k → l.getD i 0 = 0) : true = zeros l := by
  symm
  unfold zeros
  rw [List.all_eq_true]
  intro x hx
  obtain ⟨i, hi, rfl⟩ := List.getElem_of_mem hx
  have := h i (by omega)
  rw [List.getD_eq_getElem?_getD, List.getElem?_eq_getElem hi] at this
  simpa using this
def bet (n lo hi : Int) : Bool := decide (lo ≤ n) && decide (n ≤ hi)
def valid (d : DataSet) : Bool :=
  bet d.Org 1 3 && (decide (d.Interval = 128) || decide (d.Interval = 256) || decide (d.Interval = 512)) && bet d.Length 1 (min 200 (d.Interval - 7)) && decide (d.Format = 0) && decide (d.Block = 0) &&
  (if d.Org = 3 then decide (d.Length ≤ d.Interval / 2 - 8) && bet d.KeyAt 0 d.Length && bet d.KeyLength 1 (d.Interval / 16) && decide (d.KeyAt + d.KeyLength ≤ d.Length) && bet d.Area 2 8 && bet d.FreeInterval 0 90 && bet d.FreeArea 0 (d.Area - 1)
   else decide (d.KeyAt = 0) && decide (d.KeyLength = 0) && decide (d.Area = 0) && decide (d.FreeInterval = 0) && decide (d.FreeArea = 0))
theorem known_step {x : Int} {k : Nat} (hk : k < 3) : (((([128, 256, 512] : List Int).take k).any fun n => decide (x = n)) || decide (x = ([128, 256, 512] : List Int).getD k 0)) = (([128, 256, 512] : List Int).take (k + 1)).any fun n => decide (x = n) := by
  match k, hk with
  | 0, _ => simp
  | 1, _ => simp
  | 2, _ => simp [Bool.or_assoc]
theorem known3 {x : Int} : ((([128, 256, 512] : List Int).take 3).any fun n => decide (x = n)) = (decide (x = 128) || decide (x = 256) || decide (x = 512)) := by simp [Bool.or_assoc]
theorem valid_facts {d : DataSet} (h : valid d = true) : 1 ≤ d.Org ∧ d.Org ≤ 3 ∧ (d.Interval = 128 ∨ d.Interval = 256 ∨ d.Interval = 512) ∧ 1 ≤ d.Length ∧ d.Length ≤ 200 ∧ d.Length ≤ d.Interval - 7 ∧ (d.Org = 3 → 0 ≤ d.KeyAt ∧ 1 ≤ d.KeyLength ∧ d.KeyLength ≤ 32 ∧ d.KeyAt + d.KeyLength ≤ d.Length ∧ 2 ≤ d.Area ∧ d.Area ≤ 8) ∧ (d.Org ≠ 3 → d.KeyAt = 0 ∧ d.KeyLength = 0) := by
  unfold valid bet at h
  simp only [Bool.and_eq_true, Bool.or_eq_true, decide_eq_true_eq] at h
  by_cases hO : d.Org = 3
  · rw [if_pos hO] at h; simp only [Bool.and_eq_true, decide_eq_true_eq] at h; omega
  · rw [if_neg hO] at h; simp only [Bool.and_eq_true, decide_eq_true_eq] at h; omega
end R16
namespace R26
def isId (n : Int) : Bool := decide (1 ≤ n) && decide (n ≤ 1099511627776)
def isBase (d : DataSet) : Bool := R16.valid d && isId d.Id && decide (d.Base = 0) && (decide (d.Org = 3) || decide (d.Org = 1))
def keys (d : DataSet) : Int := if d.Org = 3 then d.KeyLength else 8
def shaped (a : DataSet) (n : Int) : Bool := R16.valid a && decide (a.Org = 3) && isId a.Id && isId a.Base && decide (a.Base ≠ a.Id) && (decide (1 ≤ a.AltLength) && decide (0 ≤ a.AltAt) && decide (a.AltLength ≤ n) && decide (a.AltAt ≤ n - a.AltLength)) && decide (a.KeyAt = 0) && decide (a.Length = a.KeyLength)
def isAlt (a : DataSet) : Bool := shaped a 200 && decide (a.AltLength < a.KeyLength)
def valid (b a : DataSet) : Bool := isBase b && decide (a.Base = b.Id) && shaped a b.Length && decide (a.KeyLength = a.AltLength + keys b)
theorem isBase_facts {d : DataSet} (h : isBase d = true) : R16.valid d = true ∧ 1 ≤ d.Id ∧ d.Id ≤ 1099511627776 ∧ d.Base = 0 ∧ (d.Org = 3 ∨ d.Org = 1) ∧ (d.Interval = 128 ∨ d.Interval = 256 ∨ d.Interval = 512) ∧ 1 ≤ d.Length ∧ d.Length ≤ 200 ∧ d.Length ≤ d.Interval - 7 ∧ (d.Org = 3 → 1 ≤ d.KeyLength ∧ d.KeyLength ≤ 32 ∧ 2 ≤ d.Area ∧ d.Area ≤ 8) ∧ 1 ≤ keys d ∧ keys d ≤ 32 := by
  unfold isBase isId at h
  simp only [Bool.and_eq_true, Bool.or_eq_true, decide_eq_true_eq] at h
  have hv := R16.valid_facts h.1.1.1
  have hk : keys d = d.KeyLength ∨ keys d = 8 := by unfold keys; split <;> simp
  have hk2 : d.Org = 3 → keys d = d.KeyLength := by intro h; unfold keys; rw [if_pos h]
  have hk3 : d.Org ≠ 3 → keys d = 8 := by intro h; unfold keys; rw [if_neg h]
  refine ⟨h.1.1.1, ?_⟩
  omega
theorem shaped_facts {a : DataSet} {n : Int} (h : shaped a n = true) : R16.valid a = true ∧ a.Org = 3 ∧ 1 ≤ a.Id ∧ 1 ≤ a.Base ∧ 1 ≤ a.AltLength ∧ 0 ≤ a.AltAt ∧ a.AltLength ≤ n ∧ a.AltAt + a.AltLength ≤ n ∧ 1 ≤ a.KeyLength ∧ a.KeyLength ≤ 32 ∧ a.KeyAt = 0 ∧ a.Length = a.KeyLength := by
  unfold shaped isId at h
  simp only [Bool.and_eq_true, decide_eq_true_eq] at h
  have hv := R16.valid_facts h.1.1.1.1.1.1.1
  refine ⟨h.1.1.1.1.1.1.1, ?_⟩
  omega
theorem isAlt_facts {a : DataSet} (h : isAlt a = true) : R16.valid a = true ∧ a.Org = 3 ∧ 1 ≤ a.Id ∧ 1 ≤ a.Base ∧ 1 ≤ a.AltLength ∧ a.AltLength < a.KeyLength ∧ 0 ≤ a.AltAt ∧ a.AltAt + a.AltLength ≤ 200 ∧ a.KeyLength ≤ 32 ∧ a.KeyAt = 0 ∧ a.Length = a.KeyLength := by
  unfold isAlt at h
  simp only [Bool.and_eq_true, decide_eq_true_eq] at h
  have := shaped_facts h.1
  refine ⟨this.1, ?_⟩
  omega
def pick (ok : Int → Bool) (iv : Int) : Option Int :=
  if iv ≤ 512 ∧ ok iv = true then some iv else if 2 * iv ≤ 512 ∧ ok (2 * iv) = true then some (2 * iv) else if 4 * iv ≤ 512 ∧ ok (4 * iv) = true then some (4 * iv) else none
theorem pick_hit {ok : Int → Bool} {iv : Int} (h1 : iv ≤ 512) (h2 : ok iv = true) : pick ok iv = some iv := if_pos ⟨h1, h2⟩
theorem pick_end {ok : Int → Bool} {iv : Int} (h : 512 < iv) : pick ok iv = none := by
  unfold pick; rw [if_neg (by omega), if_neg (by omega), if_neg (by omega)]
theorem pick_last {ok : Int → Bool} {iv : Int} (h : 512 ≤ iv) (h2 : ok iv = false) : pick ok iv = none := by
  unfold pick; rw [if_neg (by simp [h2]), if_neg (by omega), if_neg (by omega)]
theorem pick_step {ok : Int → Bool} {iv : Int} (h : 128 ≤ iv) (h2 : ok iv = false) : pick ok iv = pick ok (iv * 2) := by
  rw [Int.mul_comm]
  show _ = pick ok (2 * iv)
  unfold pick
  rw [if_neg (c := iv ≤ 512 ∧ ok iv = true) (by simp [h2])]
  have e : 2 * (2 * iv) = 4 * iv := by omega
  rw [e, if_neg (c := 4 * (2 * iv) ≤ 512 ∧ _) (by omega)]
def mk (base : DataSet) (id pos len : Int) (u : Bool) (iv : Int) : DataSet :=
  { Id := id, Org := 3, Format := 0, Length := len + keys base, Block := 0, KeyAt := 0, KeyLength := len + keys base, Interval := iv, Area := if base.Org = 1 then 4 else base.Area, FreeInterval := base.FreeInterval, FreeArea := base.FreeArea, Base := base.Id, AltAt := pos, AltLength := len, Unique := u, Class := base.Class, Volume := base.Volume, Owner := base.Owner, Created := base.Created, Expires := base.Expires, Archived := false }
def zero : DataSet := DataSet.mk 0 0 0 0 0 0 0 0 0 0 0 0 0 0 false 0 [] [] 0 0 false
def good (base : DataSet) (id pos len : Int) : Bool := isBase base && isId id && decide (id ≠ base.Id) && decide (0 ≤ pos) && decide (1 ≤ len) && decide (pos + len ≤ base.Length)
def describe (base : DataSet) (id pos len : Int) (u : Bool) : DataSet × Int :=
  if good base id pos len = true then
    match pick (fun iv => R16.valid (mk base id pos len u iv)) base.Interval with
    | none => (zero, 8)
    | some iv => (mk base id pos len u iv, 0)
  else (zero, 1)
theorem good_facts {base : DataSet} {id pos len : Int} (h : good base id pos len = true) : isBase base = true ∧ isId id = true ∧ id ≠ base.Id ∧ 0 ≤ pos ∧ 1 ≤ len ∧ pos + len ≤ base.Length := by
  unfold good at h
  simp only [Bool.and_eq_true, decide_eq_true_eq] at h
  refine ⟨h.1.1.1.1.1, h.1.1.1.1.2, ?_⟩
  omega
theorem describe_bad {base : DataSet} {id pos len : Int} {u : Bool} (h : good base id pos len = false) : describe base id pos len u = (zero, 1) := by
  unfold describe; rw [if_neg (by simp [h])]
theorem describe_none {base : DataSet} {id pos len : Int} {u : Bool} (h : good base id pos len = true) (hp : pick (fun iv => R16.valid (mk base id pos len u iv)) base.Interval = none) : describe base id pos len u = (zero, 8) := by
  unfold describe; rw [if_pos h, hp]
theorem describe_some {base : DataSet} {id pos len iv : Int} {u : Bool} (h : good base id pos len = true) (hp : pick (fun iv => R16.valid (mk base id pos len u iv)) base.Interval = some iv) : describe base id pos len u = (mk base id pos len u iv, 0) := by
  unfold describe; rw [if_pos h, hp]
theorem isId_facts {n : Int} (h : isId n = true) : 1 ≤ n ∧ n ≤ 1099511627776 := by
  unfold isId at h; simpa using h
def key (a : DataSet) (r : Bytes) : Bytes × Bool := if isAlt a = true ∧ a.AltAt + a.AltLength ≤ r.length then (sub r a.AltAt.toNat (a.AltAt + a.AltLength).toNat, true) else ([], false)
def record (a : DataSet) (k b : Bytes) : Bytes × Int := if isAlt a = true then (if (k.length : Int) = a.AltLength ∧ (b.length : Int) = a.KeyLength - a.AltLength then (k ++ b, 0) else ([], 2)) else ([], 1)
def parts (a : DataSet) (r : Bytes) : Bytes × Bytes × Int := if isAlt a = true then (if (r.length : Int) = a.KeyLength then (sub r 0 a.AltLength.toNat, sub r a.AltLength.toNat r.length, 0) else ([], [], 2)) else ([], [], 1)
def span (a : DataSet) (k : Bytes) : Range × Int := if isAlt a = true then (if (k.length : Int) = a.AltLength then (⟨k, k ++ rep [255] (a.KeyLength - a.AltLength).toNat, false⟩, 0) else (⟨[], [], false⟩, 2)) else (⟨[], [], false⟩, 1)
theorem sub_sub {r : Bytes} {i n : Nat} (_h : i + n ≤ r.length) : sub (sub r i r.length) 0 n = sub r i (i + n) := by
  unfold sub
  rw [List.take_length, List.drop_zero, List.take_drop]
theorem ite2 {α : Type} {p q : Prop} [Decidable p] [Decidable q] {x y z : α} (h : p) (g : q) : (if p then (if q then x else y) else z) = x := by rw [if_pos h, if_pos g]
theorem ite1 {α : Type} {p q : Prop} [Decidable p] [Decidable q] {x y z : α} (h : p) (g : ¬ q) : (if p then (if q then x else y) else z) = y := by rw [if_pos h, if_neg g]
theorem shaped_iff (a : DataSet) (n : Int) : shaped a n = true ↔ (R16.valid a = true ∧ a.Org = 3 ∧ isId a.Id = true ∧ isId a.Base = true ∧ a.Base ≠ a.Id ∧ 1 ≤ a.AltLength ∧ 0 ≤ a.AltAt ∧ a.AltLength ≤ n ∧ a.AltAt ≤ n - a.AltLength ∧ a.KeyAt = 0 ∧ a.Length = a.KeyLength) := by
  unfold shaped
  simp only [Bool.and_eq_true, decide_eq_true_eq, and_assoc]
theorem valid_iff (b a : DataSet) : valid b a = (isBase b && isAlt a && decide (a.Base = b.Id) && decide (a.AltAt + a.AltLength ≤ b.Length) && decide (a.KeyLength = a.AltLength + keys b)) := by
  rw [Bool.eq_iff_iff]
  unfold valid isAlt
  simp only [Bool.and_eq_true, decide_eq_true_eq]
  constructor
  · rintro ⟨⟨⟨h1, h2⟩, h3⟩, h4⟩
    have f1 := isBase_facts h1
    have f3 := shaped_facts h3
    refine ⟨⟨⟨⟨h1, ?_, ?_⟩, h2⟩, ?_⟩, h4⟩
    · rw [shaped_iff] at h3 ⊢
      obtain ⟨x1, x2, x3, x4, x5, x6⟩ := h3
      exact ⟨x1, x2, x3, x4, x5, by omega⟩
    · omega
    · omega
  · rintro ⟨⟨⟨⟨h1, h3, h5⟩, h2⟩, h6⟩, h4⟩
    refine ⟨⟨⟨h1, h2⟩, ?_⟩, h4⟩
    rw [shaped_iff] at h3 ⊢
    obtain ⟨x1, x2, x3, x4, x5, x6⟩ := h3
    exact ⟨x1, x2, x3, x4, x5, by omega⟩
theorem area_eq {base : DataSet} {id pos len : Int} (h : good base id pos len = true) : (if base.Org ≠ 3 then (4 : Int) else base.Area) = if base.Org = 1 then 4 else base.Area := by
  have := isBase_facts (good_facts h).1
  by_cases h3 : base.Org = 3
  · rw [if_neg (by omega), if_neg (by omega)]
  · rw [if_pos h3, if_pos (by omega)]
theorem valid_facts {b a : DataSet} (h : valid b a = true) : (a.Interval = 128 ∨ a.Interval = 256 ∨ a.Interval = 512) ∧ 1 ≤ a.AltLength ∧ 0 ≤ a.AltAt ∧ a.KeyLength ≤ 32 := by
  unfold valid at h
  simp only [Bool.and_eq_true, decide_eq_true_eq] at h
  have f := shaped_facts h.1.2
  have g := R16.valid_facts f.1
  omega
end R26
end Go.Proofs.YtmbinhhlfbgiaaaGreat
