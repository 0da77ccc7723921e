/- Op27, GvT, GvM, GvN, GvI, GvK in one text. -/
import Derived.Test.YtmbinhhlfbgiaaaGreatUpgradeUnique3
import Derived.MapKept
import Derived.Sort.Row
import Derived.Sort.Grow
import Derived.ChangeKeysEq
namespace Go.Proofs.YtmbinhhlfbgiaaaGreat
open Go.GV
namespace Ty
def _root_.Go.Proofs.YtmbinhhlfbgiaaaGreat.DataSet.ok (a : DataSet) : Prop := (-9223372036854775808 ≤ a.Id ∧ a.Id ≤ 9223372036854775807) ∧ (-9223372036854775808 ≤ a.Org ∧ a.Org ≤ 9223372036854775807) ∧ (-9223372036854775808 ≤ a.Format ∧ a.Format ≤ 9223372036854775807) ∧ (-9223372036854775808 ≤ a.Length ∧ a.Length ≤ 9223372036854775807) ∧ (-9223372036854775808 ≤ a.Block ∧ a.Block ≤ 9223372036854775807) ∧ (-9223372036854775808 ≤ a.KeyAt ∧ a.KeyAt ≤ 9223372036854775807) ∧ (-9223372036854775808 ≤ a.KeyLength ∧ a.KeyLength ≤ 9223372036854775807) ∧ (-9223372036854775808 ≤ a.Interval ∧ a.Interval ≤ 9223372036854775807) ∧ (-9223372036854775808 ≤ a.Area ∧ a.Area ≤ 9223372036854775807) ∧ (-9223372036854775808 ≤ a.FreeInterval ∧ a.FreeInterval ≤ 9223372036854775807) ∧ (-9223372036854775808 ≤ a.FreeArea ∧ a.FreeArea ≤ 9223372036854775807) ∧ (-9223372036854775808 ≤ a.Base ∧ a.Base ≤ 9223372036854775807) ∧ (-9223372036854775808 ≤ a.AltAt ∧ a.AltAt ≤ 9223372036854775807) ∧ (-9223372036854775808 ≤ a.AltLength ∧ a.AltLength ≤ 9223372036854775807) ∧ (-9223372036854775808 ≤ a.Class ∧ a.Class ≤ 9223372036854775807) ∧ a.Volume.length ≤ 9223372036854775807 ∧ a.Owner.length ≤ 9223372036854775807 ∧ (-9223372036854775808 ≤ a.Created ∧ a.Created ≤ 9223372036854775807) ∧ (-9223372036854775808 ≤ a.Expires ∧ a.Expires ≤ 9223372036854775807)
set_option maxRecDepth 20000 in
theorem op23 : OpenAt Tryz.prog 23 fun _ cs => ∃ a : DataSet, cs = DataSet.enc a ∧ DataSet.ok a := by
  intro H enc w fuel cs x h
  have h := open_struct Tryz.underlying23 (.cons (by kernel_rfl) (open_i Tryz.underlying3) (.cons (by kernel_rfl) (open_i Tryz.underlying3) (.cons (by kernel_rfl) (open_i Tryz.underlying3) (.cons (by kernel_rfl) (open_i Tryz.underlying3) (.cons (by kernel_rfl) (open_i Tryz.underlying3) (.cons (by kernel_rfl) (open_i Tryz.underlying3) (.cons (by kernel_rfl) (open_i Tryz.underlying3) (.cons (by kernel_rfl) (open_i Tryz.underlying3) (.cons (by kernel_rfl) (open_i Tryz.underlying3) (.cons (by kernel_rfl) (open_i Tryz.underlying3) (.cons (by kernel_rfl) (open_i Tryz.underlying3) (.cons (by kernel_rfl) (open_i Tryz.underlying3) (.cons (by kernel_rfl) (open_i Tryz.underlying3) (.cons (by kernel_rfl) (open_i Tryz.underlying3) (.cons (by kernel_rfl) (open_b Tryz.underlying4) (.cons (by kernel_rfl) (open_i Tryz.underlying3) (.cons (by kernel_rfl) (open_s Tryz.underlying9) (.cons (by kernel_rfl) (open_s Tryz.underlying9) (.cons (by kernel_rfl) (open_i Tryz.underlying3) (.cons (by kernel_rfl) (open_i Tryz.underlying3) (.cons (by kernel_rfl) (open_b Tryz.underlying4) (.nil (by kernel_rfl))))))))))))))))))))))) H enc w fuel cs x h
  obtain ⟨p0, q0, rfl, ⟨n0, rfl, hl0, hu0⟩, p1, q1, rfl, ⟨n1, rfl, hl1, hu1⟩, p2, q2, rfl, ⟨n2, rfl, hl2, hu2⟩, p3, q3, rfl, ⟨n3, rfl, hl3, hu3⟩, p4, q4, rfl, ⟨n4, rfl, hl4, hu4⟩, p5, q5, rfl, ⟨n5, rfl, hl5, hu5⟩, p6, q6, rfl, ⟨n6, rfl, hl6, hu6⟩, p7, q7, rfl, ⟨n7, rfl, hl7, hu7⟩, p8, q8, rfl, ⟨n8, rfl, hl8, hu8⟩, p9, q9, rfl, ⟨n9, rfl, hl9, hu9⟩, p10, q10, rfl, ⟨n10, rfl, hl10, hu10⟩, p11, q11, rfl, ⟨n11, rfl, hl11, hu11⟩, p12, q12, rfl, ⟨n12, rfl, hl12, hu12⟩, p13, q13, rfl, ⟨n13, rfl, hl13, hu13⟩, p14, q14, rfl, ⟨b14, rfl⟩, p15, q15, rfl, ⟨n15, rfl, hl15, hu15⟩, p16, q16, rfl, ⟨s16, rfl, hs16⟩, p17, q17, rfl, ⟨s17, rfl, hs17⟩, p18, q18, rfl, ⟨n18, rfl, hl18, hu18⟩, p19, q19, rfl, ⟨n19, rfl, hl19, hu19⟩, p20, q20, rfl, ⟨b20, rfl⟩, rfl⟩ := h
  exact ⟨DataSet.mk n0 n1 n2 n3 n4 n5 n6 n7 n8 n9 n10 n11 n12 n13 b14 n15 s16 s17 n18 n19 b20, rfl, ⟨hl0, hu0⟩, ⟨hl1, hu1⟩, ⟨hl2, hu2⟩, ⟨hl3, hu3⟩, ⟨hl4, hu4⟩, ⟨hl5, hu5⟩, ⟨hl6, hu6⟩, ⟨hl7, hu7⟩, ⟨hl8, hu8⟩, ⟨hl9, hu9⟩, ⟨hl10, hu10⟩, ⟨hl11, hu11⟩, ⟨hl12, hu12⟩, ⟨hl13, hu13⟩, ⟨hl15, hu15⟩, hs16, hs17, ⟨hl18, hu18⟩, ⟨hl19, hu19⟩⟩
def _root_.Go.Proofs.YtmbinhhlfbgiaaaGreat.Change.ok (a : Change) : Prop := (-9223372036854775808 ≤ a.Kind ∧ a.Kind ≤ 9223372036854775807) ∧ (-9223372036854775808 ≤ a.Id ∧ a.Id ≤ 9223372036854775807) ∧ a.Key.length ≤ 9223372036854775807 ∧ a.Record.length ≤ 9223372036854775807 ∧ a.Volume.length ≤ 9223372036854775807
set_option maxRecDepth 20000 in
theorem op27 : OpenAt Tryz.prog 27 fun _ cs => ∃ a : Change, cs = Change.enc a ∧ Change.ok a := by
  intro H enc w fuel cs x h
  have h := open_struct Tryz.underlying27 (.cons (by kernel_rfl) (open_i Tryz.underlying3) (.cons (by kernel_rfl) (open_i Tryz.underlying3) (.cons (by kernel_rfl) (open_s Tryz.underlying9) (.cons (by kernel_rfl) (open_s Tryz.underlying9) (.cons (by kernel_rfl) (open_s Tryz.underlying9) (.nil (by kernel_rfl))))))) H enc w fuel cs x h
  obtain ⟨p0, q0, rfl, ⟨n0, rfl, hl0, hu0⟩, p1, q1, rfl, ⟨n1, rfl, hl1, hu1⟩, p2, q2, rfl, ⟨s2, rfl, hs2⟩, p3, q3, rfl, ⟨s3, rfl, hs3⟩, p4, q4, rfl, ⟨s4, rfl, hs4⟩, rfl⟩ := h
  exact ⟨Change.mk n0 n1 s2 s3 s4, rfl, ⟨hl0, hu0⟩, ⟨hl1, hu1⟩, hs2, hs3, hs4⟩
def _root_.Go.Proofs.YtmbinhhlfbgiaaaGreat.Pair.ok (a : Pair) : Prop := a.key.length ≤ 9223372036854775807 ∧ a.record.length ≤ 9223372036854775807
def _root_.Go.Proofs.YtmbinhhlfbgiaaaGreat.Flaw.ok (a : Flaw) : Prop := (-9223372036854775808 ≤ a.Kind ∧ a.Kind ≤ 9223372036854775807) ∧ (-9223372036854775808 ≤ a.Page ∧ a.Page ≤ 9223372036854775807) ∧ a.Key.length ≤ 9223372036854775807
def _root_.Go.Proofs.YtmbinhhlfbgiaaaGreat.Data.okW (w : World) (a : Data) : Prop := (-9223372036854775808 ≤ a.Id ∧ a.Id ≤ 9223372036854775807) ∧ (RO [] w a.PairsA (a.Pairs.flatMap Pair.enc) ∧ a.Pairs.length ≤ 9223372036854775807 ∧ ∀ p ∈ a.Pairs, Pair.ok p)
end Ty
end Go.Proofs.YtmbinhhlfbgiaaaGreat

namespace Go.GV
theorem lt_ {p : Prop} (h : p := by first | omega | (simp; omega) | (simp_all; omega) | (simp_all; done)) : p := h
theorem hy_ {p : Prop} (h : p := by first | omega | assumption | (simp only [List.length_append, List.length_cons, List.length_nil]; omega) | (simp only [sub, List.length_drop, List.length_take]; omega) | (simp; omega) | (simp_all; done) | (simp_all; omega) | decide) : p := h
theorem ix_nat {v : Value} {i : Int} {k : Nat} (hv : v = vI i) (h : i = (k : Int)) : v = .int .i64 (k : Int) := by rw [hv, h]
theorem st_all {cs vs : List Value} {n : Nat} (h : Nat.ble cs.length (0 + n) = true) : cs.take 0 ++ (vs ++ cs.drop (0 + n)) = vs := by
  rw [List.drop_of_length_le (Nat.le_of_ble_eq_true h), List.append_nil]; rfl
section
variable {n : Nat} {S : List Nat} {w0 : World} {P : Program} {ops : Array Oper} {Q : Post} {E : Env} {L Lg Lu : List Ent} {us : List Nat} {fuel : Nat} {listed : Array Bool}
theorem jr_ {o : Oper} {rest : List Oper} (v : Value) (h : JO P n S w0 ops rest Q (put E o.dst v) L) (hfit : fit n E o = true := by rfl) (hw : wants ops E o := by exact trivial) (hr : ∀ w, St S w0 w L → (execOp (ev E) o).run P w = .ok (.value v) w := by exact fun _ _ => rfl) : JO P n S w0 ops (o :: rest) Q E L := JO_read v hfit hw hr h
theorem js_ {o : Oper} {rest : List Oper} (v : Value) (hr : ∀ {w}, (execOp (ev E) o).run P w = .ok (.value v) w) (h : JO P n S w0 ops rest Q (put E o.dst v) L) (hfit : fit n E o = true := by rfl) (hw : wants ops E o := by exact trivial) : JO P n S w0 ops (o :: rest) Q E L := JO_read v hfit hw (fun _ _ => hr) h
theorem jg_ {o : Oper} {rest : List Oper} {t b : Bool} {j : Nat} (hg : t = b) (v : Value) (hr : ∀ {w}, (execOp (ev E) o).run P w = .ok (.value v) w) (h : JO P n S w0 ops rest Q (put E o.dst v) L) (hfit : fit n E o = true := by rfl) (h1 : o.guard = some (j, b) := by rfl) (h2 : gval ops E j = some t := by rfl) : JO P n S w0 ops (o :: rest) Q E L := JO_read v hfit (by unfold wants; rw [h1]; exact ⟨t, h2, hg⟩) (fun _ _ => hr) h
theorem sh_ {o : Oper} {rest : List Oper} {t b : Bool} {j : Nat} (hg : t = !b) (h : JO P n S w0 ops rest Q (put E o.dst undef) L) (hd : dstOk n o.dst = true := by rfl) (h1 : o.guard = some (j, b) := by rfl) (h2 : gval ops E j = some t := by rfl) : JO P n S w0 ops (o :: rest) Q E L := JO_shun hd (by unfold shuns; rw [h1]; exact ⟨t, h2, hg⟩) h
theorem jt_ (i : Nat) {o : Oper} (v : Value) (hi : ops[i]? = some o) (hv : ∀ w, St S w0 w Lg → (execOp (ev E) o).run P w = .ok (.value v) w) (h : JA P n S w0 ops Q Lg us Lu fuel (listed.setIfInBounds i true) (put E o.dst v) L)
    (hs : Region.noSelect ops = true := by kernel_rfl) (hf : Region.free .any ops listed i = true := by kernel_rfl) (hr : (Region.ready .any ops listed).contains i = true := by kernel_rfl) (hu : us.contains i = false := by rfl)
    (hQ : ∀ c a w, Q (.panic c) (a.put o.dst v) w → Q (.panic c) a w := by exact fun _ _ _ h => h) (hfit : fit n E o = true := by rfl) (hw : wants ops E o := by exact trivial) : JA P n S w0 ops Q Lg us Lu (fuel + 1) listed E L := JA_take i v hi hs hf hr hu hQ hfit hw hv h
end
end Go.GV

namespace Go.GV
open Go.RowKit Go.MapKept
structure MapK {κ : Type} (P : Program) (kt : TypeId) (f : κ → Value) : Prop where
  ex : ∃ d, P.underlying kt = some d ∧ (∀ a, IsKey d (f a)) ∧ ∀ a b, f a = f b → a = b
theorem mapK_i {P : Program} {kt : TypeId} (h : P.underlying kt = some (.int .i64)) : MapK P kt vI := ⟨_, h, fun _ => rfl, fun a b h => by simpa using h⟩
def Born (es : Array MapEntry) (clock : Nat) : Prop := (es.toList.map (·.born)).Nodup ∧ ∀ e ∈ es.toList, e.born < clock
theorem Born.nil : Born #[] 0 := ⟨List.nodup_nil, fun _ h => by simp at h⟩
theorem Born.push {es : Array MapEntry} {clock : Nat} (h : Born es clock) (k v : Value) : Born (es.push ⟨k, v, clock⟩) (clock + 1) := by
  refine ⟨?_, fun e he => ?_⟩
  · rw [Array.toList_push, List.map_append, List.nodup_append]
    refine ⟨h.1, by simp, fun a ha b hb => ?_⟩
    simp only [List.map_cons, List.map_nil, List.mem_singleton] at hb
    subst hb
    obtain ⟨e, he, rfl⟩ := List.mem_map.1 ha
    have := h.2 e he
    omega
  · rw [Array.toList_push, List.mem_append, List.mem_singleton] at he
    rcases he with he | rfl
    · have := h.2 e he; omega
    · exact Nat.lt_succ_self _
theorem Born.modify {es : Array MapEntry} {clock : Nat} (h : Born es clock) (i : Nat) (g : MapEntry → MapEntry) (hg : ∀ e, (g e).born = e.born) : Born (es.modify i g) clock := by
  have e1 : (es.modify i g).toList.map (·.born) = es.toList.map (·.born) := by
    apply List.ext_getElem?
    intro j
    simp only [Array.toList_modify, List.getElem?_map, List.getElem?_modify]
    by_cases hij : i = j
    · subst hij
      cases es.toList[i]? <;> simp [hg]
    · simp [hij]
  refine ⟨by rw [e1]; exact h.1, fun e he => ?_⟩
  have : e.born ∈ es.toList.map (·.born) := by rw [← e1]; exact List.mem_map.2 ⟨e, he, rfl⟩
  obtain ⟨e', he', h2⟩ := List.mem_map.1 this
  have := h.2 e' he'
  omega
def Ent.mp {κ : Type} (f : κ → Value) (b : Nat) (l : List (κ × Value)) : Ent :=
  ⟨some b, fun o => ∃ es clock, o = some (.map es clock) ∧ es.toList.map (fun e => (e.key, e.val)) = l.map (fun p => (f p.1, p.2)) ∧ Born es clock⟩
def lk {κ : Type} [DecidableEq κ] : List (κ × Value) → κ → Option Value
  | [], _ => none
  | (a, v) :: l, k => if k = a then some v else lk l k
def upd {κ : Type} [DecidableEq κ] : List (κ × Value) → κ → Value → List (κ × Value)
  | [], k, v => [(k, v)]
  | (a, u) :: l, k, v => if k = a then (k, v) :: l else (a, u) :: upd l k v
section
variable {κ : Type} [DecidableEq κ] {a k : κ} {v u : Value} {l : List (κ × Value)} {r : Option Value}
theorem lk_nil : lk [] k = none := rfl
theorem lk_hit (h : k = a) : lk ((a, v) :: l) k = some v := if_pos h
theorem lk_ne (h : k ≠ a) (hr : lk l k = r) : lk ((a, v) :: l) k = r := (if_neg h).trans hr
theorem upd_new (h : lk l k = none) : upd l k v = l ++ [(k, v)] := by
  induction l with
  | nil => rfl
  | cons p l ih =>
    obtain ⟨a, u⟩ := p
    unfold lk at h
    split at h
    · cases h
    · rename_i hne
      unfold upd
      rw [if_neg hne, ih h]; rfl
theorem find_lk {d : TypeDesc} {f : κ → Value} (hd : ∀ a, IsKey d (f a)) (hi : ∀ a b, f a = f b → a = b) (k : κ) : ∀ (es : List MapEntry) (l : List (κ × Value)) (i : Nat), es.map (fun e => (e.key, e.val)) = l.map (fun p => (f p.1, p.2)) →
    (Instr.findNow d (f k) es i = some none ∧ lk l k = none) ∨ ∃ j v, Instr.findNow d (f k) es i = some (some (i + j, v)) ∧ lk l k = some v ∧ (∃ e, es[j]? = some e ∧ e.key = f k) ∧ ∀ u, (upd l k u).map (fun p => (f p.1, p.2)) = (l.map (fun p => (f p.1, p.2))).set j (f k, u)
  | [], [], i, _ => .inl ⟨rfl, rfl⟩
  | [], _ :: _, i, h => by cases h
  | _ :: _, [], i, h => by cases h
  | e :: es, (a, v) :: l, i, h => by
    simp only [List.map_cons, List.cons.injEq, Prod.mk.injEq] at h
    obtain ⟨⟨h1, h2⟩, h3⟩ := h
    obtain ⟨r, hr, hiff⟩ := sameNow_of_keys (hd k) (h1 ▸ hd a : IsKey d e.key)
    cases r with
    | true =>
      have hk : k = a := hi _ _ ((hiff.1 rfl).trans h1)
      refine .inr ⟨0, v, by simp [Instr.findNow, hr, h2], by rw [lk, if_pos hk], ⟨e, rfl, (hiff.1 rfl).symm⟩, fun u => ?_⟩
      simp [upd, if_pos hk]
    | false =>
      have hne : k ≠ a := fun q => by have := hiff.2 (by rw [h1, q]); cases this
      rcases find_lk hd hi k es l (i + 1) h3 with ⟨x1, x2⟩ | ⟨j, u, x1, x2, x3, x4⟩
      · exact .inl ⟨by simp [Instr.findNow, hr, x1], by rw [lk, if_neg hne, x2]⟩
      · refine .inr ⟨j + 1, u, by simp [Instr.findNow, hr, x1]; omega, by rw [lk, if_neg hne, x2], by simpa using x3, fun u => ?_⟩
        rw [upd, if_neg hne, List.map_cons, x4 u]; rfl
end
theorem mp_at {κ : Type} {f : κ → Value} {b : Nat} {l : List (κ × Value)} {w : World} (h : (Ent.mp f b l).at w) : ∃ es clock, w.heap[b]? = some (.map es clock) ∧ es.toList.map (fun e => (e.key, e.val)) = l.map (fun p => (f p.1, p.2)) ∧ Born es clock := by
  simpa [Ent.at, Ent.mp] using h.1
section
variable {E : Env} {P : Program} {x y z : Operand} {dst : Option Nat} {t t' ty u : TypeId} {pos : String} {af : Array Edge} {g : Option (Nat × Bool)} {κ : Type} [DecidableEq κ]
theorem run_lookup_mp {f : κ → Value} {b : Nat} {l : List (κ × Value)} {w : World} {kt et : TypeId} {zv : Value} {k : κ} (hat : (Ent.mp f b l).at w) (ht : P.underlying t = some (.map kt et)) (hK : MapK P kt f) (hz : zeroIs P et = some zv) (ok : Bool) :
    (Instr.lookup t (.map (some b)) (f k) ok).run P w = .ok (if ok then .tuple #[(lk l k).getD zv, .bool (lk l k).isSome] else (lk l k).getD zv) w := by
  obtain ⟨es, clock, hb, hes, hborn⟩ := mp_at hat
  obtain ⟨d, hd, hkey, hinj⟩ := hK.ex
  unfold Instr.lookup
  simp only [Sem.run_bind, run_underlying ht, Result.andThen_ok, MapKept.run_getObj_map hb, Sem.run_pure, MapKept.run_checkKey hd (hkey k)]
  rcases find_lk hkey hinj k es.toList l 0 hes with ⟨h1, h2⟩ | ⟨j, v, h1, h2, _⟩
  · simp only [MapKept.run_findKey hd h1, Result.andThen_ok, Sem.run_bind, run_zeroValue_is hz, Sem.run_pure, h2]
    cases ok <;> rfl
  · simp only [MapKept.run_findKey hd h1, Result.andThen_ok, Sem.run_bind, Sem.run_pure, h2]
    cases ok <;> rfl
theorem x_lookup_ok {S : List Nat} {w0 : World} {L : List Ent} (j : Nat) {f : κ → Value} {b : Nat} {l : List (κ × Value)} {kt et : TypeId} {zv : Value} {k : κ} {r : Option Value} (hx : ev E x = .map (some b)) (hy : ev E y = f k) (hj : L[j]? = some (Ent.mp f b l)) (ht : P.underlying t = some (.map kt et)) (hK : MapK P kt f) (hz : zeroIs P et = some zv) (hr : lk l k = r) :
    ∀ w, St S w0 w L → (execOp (ev E) ⟨dst, .lookup t x y true, ty, pos, af, g⟩).run P w = .ok (.value (.tuple #[r.getD zv, vB r.isSome])) w := by
  intro w hS
  subst hr
  simp only [execOp, hx, hy]
  show Sem.run P (do let v ← Instr.lookup t (.map (some b)) (f k) true; pure (Next.value v)) w = _
  rw [Sem.run_bind, run_lookup_mp (k := k) (hS.mem hj) ht hK hz true]; rfl
theorem x_lookup {S : List Nat} {w0 : World} {L : List Ent} (j : Nat) {f : κ → Value} {b : Nat} {l : List (κ × Value)} {kt et : TypeId} {zv : Value} {k : κ} {r : Option Value} (hx : ev E x = .map (some b)) (hy : ev E y = f k) (hj : L[j]? = some (Ent.mp f b l)) (ht : P.underlying t = some (.map kt et)) (hK : MapK P kt f) (hz : zeroIs P et = some zv) (hr : lk l k = r) :
    ∀ w, St S w0 w L → (execOp (ev E) ⟨dst, .lookup t x y false, ty, pos, af, g⟩).run P w = .ok (.value (r.getD zv)) w := by
  intro w hS
  subst hr
  simp only [execOp, hx, hy]
  show Sem.run P (do let v ← Instr.lookup t (.map (some b)) (f k) false; pure (Next.value v)) w = _
  rw [Sem.run_bind, run_lookup_mp (k := k) (hS.mem hj) ht hK hz false]; rfl
theorem x_lookup_v {S : List Nat} {w0 : World} {L : List Ent} (j : Nat) {f : κ → Value} {b : Nat} {l : List (κ × Value)} {kt et : TypeId} {zv v : Value} {k : κ} {r : Option Value} (hx : ev E x = .map (some b)) (hy : ev E y = f k) (hj : L[j]? = some (Ent.mp f b l)) (ht : P.underlying t = some (.map kt et)) (hK : MapK P kt f) (hz : zeroIs P et = some zv) (hr : lk l k = r) (hv : r.getD zv = v) :
    ∀ w, St S w0 w L → (execOp (ev E) ⟨dst, .lookup t x y false, ty, pos, af, g⟩).run P w = .ok (.value v) w := by
  subst hv; exact x_lookup j hx hy hj ht hK hz hr
omit [DecidableEq κ] in
theorem O_makeMap {S : List Nat} {w0 : World} {L : List Ent} {K : Value → List Ent → Prop} (f : κ → Value) (k : ∀ b, K (.map (some b)) (Ent.mp f b [] :: L)) : OpJ P S w0 E L ⟨dst, .makeMap t none, ty, pos, af, g⟩ K := by
  intro w hS
  refine ⟨_, _, _, .inl ?_, hS.alloc (.map #[] 0) (Ent.mp f w.heap.size []) rfl ⟨_, _, rfl, rfl, Born.nil⟩, k w.heap.size⟩
  have hr : (Instr.makeMap t none).run P w = .ok (.map (some w.heap.size)) (w.alloc (.map #[] 0)) := by
    simp [Instr.makeMap, newObj, Sem.run]
  simp only [execOp]
  show Sem.run P (do let v ← Instr.makeMap t none; pure (Next.value v)) w = _
  rw [Sem.run_bind, hr]; rfl
theorem run_update_mp {f : κ → Value} {b : Nat} {l : List (κ × Value)} {w : World} {kt et : TypeId} {k : κ} {v : Value} (hat : (Ent.mp f b l).at w) (ht : P.underlying t = some (.map kt et)) (hK : MapK P kt f) :
    ∃ w', (Instr.mapUpdate t (.map (some b)) (f k) v).run P w = .ok () w' ∧ Fr [b] w w' ∧ (Ent.mp f b (upd l k v)).prop w'.heap[b]? := by
  obtain ⟨es, clock, hb, hes, hborn⟩ := mp_at hat
  obtain ⟨d, hd, hkey, hinj⟩ := hK.ex
  have fr : ∀ o, Fr [b] w { w with heap := w.heap.setIfInBounds b o } := fun o => ⟨rfl, rfl, rfl, by simp, fun i hi hn => (MapKept.heap_set (o' := o) hb).2 i (by simpa using hn)⟩
  unfold Instr.mapUpdate
  simp only [Sem.run_bind, run_underlying ht, Result.andThen_ok, MapKept.run_getObj_map hb, MapKept.run_checkKey hd (hkey k)]
  rcases find_lk hkey hinj k es.toList l 0 hes with ⟨h1, h2⟩ | ⟨j, v', h1, h2, ⟨e, he, hek⟩, h4⟩
  · simp only [MapKept.run_findKey hd h1, Result.andThen_ok, MapKept.run_setObj_map _ hb]
    refine ⟨_, rfl, fr _, _, _, (MapKept.heap_set hb).1, ?_, hborn.push _ _⟩
    rw [upd_new h2]
    simp [hes]
  · have he' : es[j]? = some e := by simpa using he
    simp only [MapKept.run_findKey hd h1, Result.andThen_ok, Nat.zero_add, he', Option.map_some, Option.getD_some, hek, MapKept.run_keyThatStays (hkey k), MapKept.run_setObj_map _ hb, Sem.run_bind]
    refine ⟨_, rfl, fr _, _, _, (MapKept.heap_set hb).1, ?_, hborn.modify _ _ fun _ => rfl⟩
    rw [h4 v, ← hes]
    apply List.ext_getElem?
    intro i
    simp only [Array.toList_modify, List.getElem?_map, List.getElem?_modify, List.getElem?_set, List.length_map]
    by_cases hij : j = i
    · subst hij
      have hlt : j < es.toList.length := (List.getElem?_eq_some_iff.1 he).1
      have hlt' : j < es.size := by simpa using hlt
      simp [hlt']
    · simp [hij]
theorem O_mapUpdate {S : List Nat} {w0 : World} {L : List Ent} {K : Value → List Ent → Prop} (j : Nat) {f : κ → Value} {b : Nat} {l : List (κ × Value)} {kt et : TypeId} {k : κ} {v : Value} (l' : List (κ × Value)) (L' : List Ent) (hx : ev E x = .map (some b)) (hy : ev E y = f k) (hz : ev E z = v) (hj : L[j]? = some (Ent.mp f b l)) (ht : P.underlying t = some (.map kt et)) (hK : MapK P kt f)
    (hl : upd l k v = l') (hL : L.set j (Ent.mp f b l') = L') (kk : K undef L') : OpJ P S w0 E L ⟨dst, .mapUpdate t x y z, ty, pos, af, g⟩ K := by
  intro w hS
  subst hl; subst hL
  obtain ⟨w', hr, hF, hB⟩ := run_update_mp (P := P) (t := t) (k := k) (v := v) (hS.mem hj) ht hK
  refine ⟨undef, _, w', .inr ⟨?_, rfl⟩, hS.writeAt hj b rfl rfl hF hB, kk⟩
  simp only [execOp, hx, hy, hz]
  show Sem.run P (do Instr.mapUpdate t (.map (some b)) (f k) v; pure Next.skip) w = _
  rw [Sem.run_bind, hr]; rfl
theorem O_insert {S : List Nat} {w0 : World} {L : List Ent} {K : Value → List Ent → Prop} (j : Nat) {f : κ → Value} {b : Nat} {l : List (κ × Value)} {kt et : TypeId} {k : κ} {v : Value} (l' : List (κ × Value)) (L' : List Ent) (hx : ev E x = .map (some b)) (hy : ev E y = f k) (hz : ev E z = v) (hj : L[j]? = some (Ent.mp f b l)) (ht : P.underlying t = some (.map kt et)) (hK : MapK P kt f)
    (hl : upd l k v = l') (hL : L.set j (Ent.mp f b l') = L') (kk : K undef L') : OpJ P S w0 E L ⟨dst, .insert t x y z, ty, pos, af, g⟩ K := by
  intro w hS
  subst hl; subst hL
  obtain ⟨w', hr, hF, hB⟩ := run_update_mp (P := P) (t := t) (k := k) (v := v) (hS.mem hj) ht hK
  refine ⟨undef, _, w', .inr ⟨?_, rfl⟩, hS.writeAt hj b rfl rfl hF hB, kk⟩
  simp only [execOp, hx, hy, hz]
  show Sem.run P (do Instr.mapUpdate t (.map (some b)) (f k) v; pure Next.skip) w = _
  rw [Sem.run_bind, hr]; rfl
end
section
variable {E : Env} {P : Program} {w : World} {x y : Operand} {dst : Option Nat} {t t' ty : TypeId} {pos : String} {af : Array Edge} {g : Option (Nat × Bool)}
def isFn : Value → Bool
  | .func .. => true
  | _ => false
end
end Go.GV

namespace Go.GV
open Go.RowKit Go.Sort
def Lown (L : List Ent) : List Nat := L.filterMap Ent.own
theorem lown_mem {L : List Ent} : ∀ b ∈ Lown L, ∃ e ∈ L, e.own = some b := fun b h => by
  obtain ⟨e, he, ho⟩ := List.mem_filterMap.1 h
  exact ⟨e, he, ho⟩
theorem lown_in {L : List Ent} : ∀ e ∈ L, ∀ b, e.own = some b → b ∈ Lown L := fun e he _ ho => List.mem_filterMap.2 ⟨e, he, ho⟩
section
variable {α : Type} [Inhabited α] {f : α → Value} {w : World} {e : TypeId} {c : Nat} {xs : List α}
omit [Inhabited α] in
theorem row_some {A : Option Addr} (h : (Ent.row (.slice A xs.length c) e 1 xs.length (xs.map f)).at w) (hx : xs ≠ []) : ∃ g, A = some ⟨g, 0, none⟩ ∧ ∃ cur, w.heap[g]? = some (.cells cur e (0, 0)) ∧ xs.length ≤ c ∧ c ≤ maxLen ∧ cur.size = c ∧ cur.toList.take xs.length = xs.map f := by
  rcases (row_owns h).2 with ⟨h1, h2⟩ | ⟨g, cap, cur, h1, _, ho, h3, h4, h5, h6⟩
  · exact absurd (List.length_eq_zero_iff.1 h2) hx
  · cases h1
    exact ⟨g, rfl, cur, ho, h3, h4, by simpa using h5, by simpa using h6⟩
theorem row_holds {g : Nat} (h : (Ent.row (.slice (some ⟨g, 0, none⟩) xs.length c) e 1 xs.length (xs.map f)).at w) (hx : xs ≠ []) : Holds f w g 0 xs.toArray := by
  obtain ⟨g', hg, cur, ho, h3, h4, h5, h6⟩ := row_some h hx
  cases hg
  intro j hj
  have hj : j < xs.length := by simpa using hj
  refine ⟨?_, ?_⟩
  · have h7 : cur[j]? = some (f xs[j]) := by
      have := congrArg (·[j]?) h6
      simp only [List.getElem?_take, List.getElem?_map] at this
      rw [if_pos hj, List.getElem?_eq_getElem hj] at this
      simpa using this
    rw [Nat.zero_add]
    show (match w.heap[g]? with | some (.cells cs _ _) => cs[j]? | _ => none) = _
    rw [ho]
    show cur[j]? = _
    rw [h7]
    congr 2
    simp [getElem!_pos, hj]
  · unfold World.frozen?
    show (match w.heap[g]? with | some (.cells _ _ (lo, hi)) => decide (lo ≤ 0 + j) && decide (0 + j < hi) | _ => false) = false
    rw [ho]
    simp
theorem putCells_toList (off : Nat) (d : List α) (cur : Array Value) (h : off = 0) : (putCells f off d.toArray cur).toList = (d.map f).take cur.size ++ cur.toList.drop d.length := by
  subst h
  apply List.ext_getElem?
  intro k
  simp only [putCells, Array.toList_mapIdx, List.getElem?_mapIdx]
  by_cases hk : k < cur.size
  · have hc : cur.toList[k]? = some cur[k] := by simp [hk]
    by_cases hd : k < d.length
    · rw [hc, List.getElem?_append_left (by simp; omega), List.getElem?_take, if_pos hk, List.getElem?_map, List.getElem?_eq_getElem hd]
      simp only [Option.map_some, Nat.zero_add, Nat.zero_le, true_and, List.size_toArray, hd, if_true, Nat.sub_zero]
      congr 1
      simp [getElem!_pos, hd]
    · rw [hc, List.getElem?_append_right (by simp; omega)]
      simp only [Option.map_some, Nat.zero_add, Nat.zero_le, true_and, List.size_toArray, hd, if_false, List.length_take, List.length_map, List.getElem?_drop]
      rw [Nat.min_eq_right (by omega), show d.length + (k - d.length) = k by omega, hc]
  · rw [List.getElem?_eq_none (by simpa using hk)]
    simp only [Option.map_none]
    rw [List.getElem?_eq_none]
    simp; omega
theorem row_put {A : Option Addr} {g k : Nat} {os : Array Obj} {w' : World} {zs ys : List α} (h : (Ent.row (.slice A xs.length c) e 1 xs.length (xs.map f)).at w) (hA : A = some ⟨g, 0, none⟩) (hx : xs ≠ []) (hw : w' = grow (putRow f (Sort.ahead w k) g 0 zs.toArray) os) (hz : zs.length = xs.length) (m : Nat) (hm : m ≤ zs.length) (hy : zs.take m = ys) :
    Fr [g] w w' ∧ (Ent.row (.slice A m c) e 1 m (ys.map f)).at w' := by
  obtain ⟨g', hg, cur, ho, h3, h4, h5, h6⟩ := row_some h hx
  rw [hA] at hg
  cases hg
  subst hA; subst hw
  have hlt : g < w.heap.size := (Array.getElem?_eq_some_iff.1 ho).1
  have hheap : (grow (putRow f (Sort.ahead w k) g 0 zs.toArray) os).heap = (w.heap.modify g (onCells (putCells f 0 zs.toArray))) ++ os := rfl
  have hb : ∀ i, i < w.heap.size → ((w.heap.modify g (onCells (putCells f 0 zs.toArray))) ++ os)[i]? = (w.heap.modify g (onCells (putCells f 0 zs.toArray)))[i]? := fun i hi => by
    rw [Array.getElem?_append_left (by simpa using hi)]
  refine ⟨⟨rfl, rfl, rfl, by rw [hheap]; simp, fun i hi hn => ?_⟩, ?_⟩
  · rw [hheap, hb i hi, Array.getElem?_modify, if_neg (by intro h; exact hn (by rw [h]; simp))]
  · refine owns_row (base := 0) ⟨?_, .inr ⟨g, c, putCells f 0 zs.toArray cur, rfl, Nat.zero_le _, ?_, by omega, h4, ?_, ?_⟩⟩
    · rw [List.length_map, ← hy, List.length_take, Nat.mul_one, Nat.min_eq_left hm]
    · rw [hheap, hb g hlt, Array.getElem?_modify, if_pos rfl, ho]; rfl
    · simp [putCells, h5]
    · rw [putCells_toList 0 zs cur rfl, ← hy, Nat.mul_one, List.take_append_of_le_length (by simp; omega), List.take_take, List.map_take]
      congr 1
      omega
theorem give_one {E : Ent} {w : World} (h : Give (Lown [E]) w [E]) : E.at w := h.hold E (by simp)
theorem st_one {E E' : Ent} {w w' : World} {g : Nat} (hE : E.own = some g) (hE' : E'.own = some g) (hf : Fr [g] w w') (h : E'.at w') : St (Lown [E]) w w' [E'] := by
  refine ⟨hf.mono (fun b hb => ?_), fun x hx => ?_, List.pairwise_singleton _ _, fun x hx b hb => .inl ?_⟩
  · rw [List.mem_singleton] at hb; subst hb; exact List.mem_filterMap.2 ⟨E, by simp, hE⟩
  · rw [List.mem_singleton] at hx; subst hx; exact h
  · rw [List.mem_singleton] at hx; subst hx
    rw [hE'] at hb; cases hb
    exact List.mem_filterMap.2 ⟨E, by simp, hE⟩
theorem st_same {E : Ent} {w : World} (h : Give (Lown [E]) w [E]) : St (Lown [E]) w w [E] :=
  ⟨Fr.refl _ _, h.hold, h.dis, fun x hx b hb => .inl (h.own x hx b hb)⟩
end
def subA (A : Option Addr) (cap lo sz : Nat) : Option Addr := if cap = lo then A else A.map (·.add (lo * sz))
theorem cells_take {w : World} {A : Option Addr} {cs : List Value} (h : Cells w A cs) (n : Nat) : Cells w A (cs.take n) := fun j v hv => by
  rw [List.getElem?_take] at hv
  split at hv
  · exact h j v hv
  · cases hv
theorem cells_sub {w : World} {A : Option Addr} {cs : List Value} (h : Cells w A cs) (cap lo n sz : Nat) (hn : n = 0 ∨ lo < cap) : Cells w (subA A cap lo sz) ((cs.drop (lo * sz)).take (n * sz)) := by
  rcases hn with rfl | hn
  · rw [Nat.zero_mul, List.take_zero]; intro j v hv; simp at hv
  · unfold subA
    rw [if_neg (by omega)]
    refine cells_take (fun j v hv => ?_) _
    rw [List.getElem?_drop] at hv
    obtain ⟨a, ha, hc⟩ := h _ v hv
    subst ha
    refine ⟨a.add (lo * sz), rfl, ?_⟩
    rw [← hc]
    congr 1
    by_cases h1 : lo * sz = 0 <;> by_cases h2 : j = 0 <;> simp [Addr.add, h1, h2, Nat.add_assoc]
section
variable {E : Env} {P : Program} {w : World} {x y : Operand} {dst : Option Nat} {t t' ty e : TypeId} {pos : String} {af : Array Edge} {g : Option (Nat × Bool)}
theorem x_subrow {A : Option Addr} {len cap n lo hi : Nat} {olo ohi : Option Operand} (hx : ev E x = .slice A len cap) (ht : P.underlying t = some (.slice e)) (hn : sizeIs P e = some n) (hlo : olo.map (ev E) = some (vI (lo : Int)) ∨ (olo.map (ev E) = none ∧ lo = 0)) (hhi : ohi.map (ev E) = some (vI (hi : Int)) ∨ (ohi.map (ev E) = none ∧ hi = len))
    (h1 : lo ≤ hi) (h2 : hi ≤ cap) : (execOp (ev E) ⟨dst, .slice t x olo ohi none, ty, pos, af, g⟩).run P w = .ok (.value (.slice (subA A cap lo n) (hi - lo) (cap - lo))) w := by
  have e1 : (0 : Int) ≤ (hi : Int) ∧ (hi : Int) ≤ ((cap : Nat) : Int) := by omega
  have e2 : (0 : Int) ≤ (lo : Int) ∧ (lo : Int) ≤ ((hi : Nat) : Int) := by omega
  have hr : (Instr.sliceAt t (.slice A len cap) (olo.map (ev E)) (ohi.map (ev E)) none).run P w = .ok (.slice (subA A cap lo n) (hi - lo) (cap - lo)) w := by
    rcases hlo with hlo | ⟨hlo, rfl⟩ <;> rcases hhi with hhi | ⟨hhi, rfl⟩ <;> rw [hlo, hhi]
    · simp only [Instr.sliceAt, Instr.slice, Instr.sliceBounds, Instr.sliceBound, asIntOf, run_underlying ht, run_sizeOf_is hn, Sem.run_bind, Sem.run_pure, Result.andThen_ok, if_pos e1, if_pos e2, Int.toNat_natCast]; rfl
    · simp only [Instr.sliceAt, Instr.slice, Instr.sliceBounds, Instr.sliceBound, asIntOf, run_underlying ht, run_sizeOf_is hn, Sem.run_bind, Sem.run_pure, Result.andThen_ok, if_pos e2, Int.toNat_natCast]; rfl
    · simp only [Instr.sliceAt, Instr.slice, Instr.sliceBounds, Instr.sliceBound, asIntOf, run_underlying ht, run_sizeOf_is hn, Sem.run_bind, Sem.run_pure, Result.andThen_ok, if_pos e1, Int.toNat_natCast]; rfl
    · simp only [Instr.sliceAt, Instr.slice, Instr.sliceBounds, run_underlying ht, run_sizeOf_is hn, Sem.run_bind, Sem.run_pure, Result.andThen_ok]; rfl
  simp only [execOp, hx]
  show Sem.run P (do let v ← Instr.sliceAt t (.slice A len cap) (olo.map (ev E)) (ohi.map (ev E)) none; pure (Next.value v)) w = _
  rw [Sem.run_bind, hr]; rfl
theorem row_le {A : Option Addr} {n c sz : Nat} {cs : List Value} (h : (Ent.row (.slice A n c) e sz n cs).at w) : n ≤ c := by
  rcases (row_owns h).2 with ⟨h1, h2⟩ | ⟨g, cap, cur, h1, _, ho, h3, h4, h5, h6⟩
  · omega
  · cases h1; exact h3
theorem x_subrow_row {S : List Nat} {w0 : World} {L : List Ent} (j : Nat) {A : Option Addr} {len cap n sz lo hi : Nat} {cs : List Value} {te : TypeId} {olo ohi : Option Operand} (hj : L[j]? = some (Ent.row (.slice A len cap) te sz len cs)) (hx : ev E x = .slice A len cap) (ht : P.underlying t = some (.slice e)) (hn : sizeIs P e = some n) (hlo : olo.map (ev E) = some (vI (lo : Int)) ∨ (olo.map (ev E) = none ∧ lo = 0)) (hhi : ohi.map (ev E) = some (vI (hi : Int)) ∨ (ohi.map (ev E) = none ∧ hi = len))
    (h1 : lo ≤ hi) (h2 : hi ≤ len) : ∀ w, St S w0 w L → (execOp (ev E) ⟨dst, .slice t x olo ohi none, ty, pos, af, g⟩).run P w = .ok (.value (.slice (subA A cap lo n) (hi - lo) (cap - lo))) w := fun w hS => by
  have := row_le (hS.mem hj)
  exact x_subrow hx ht hn hlo hhi h1 (by omega)
theorem cells_sub_row {α : Type} {S : List Nat} {w0 : World} {L : List Ent} (j : Nat) (f : α → Value) {xs : List α} {A : Option Addr} {cap : Nat} {te : TypeId} (lo hi : Nat) (hj : L[j]? = some (Ent.row (.slice A xs.length cap) te 1 xs.length (xs.map f))) (h1 : lo ≤ hi) (h2 : hi ≤ xs.length) : ∀ w, St S w0 w L → Cells w (subA A cap lo 1) (((xs.drop lo).take (hi - lo)).map f) := fun w hS => by
  have hc := row_le (hS.mem hj)
  have h := cells_sub (cells_row j hj w hS) cap lo (hi - lo) 1 (by omega)
  rw [Nat.mul_one, Nat.mul_one] at h
  rwa [List.map_take, List.map_drop]
end
end Go.GV

namespace Go.GV
open Go.RowKit
def methIs (P : Program) (t : TypeId) (name : String) : Option FuncId := match P.info? t with
  | some i => match i.methods.find? (·.name == name) with
    | some m => if m.path.toList.isEmpty then (match m.func, P.underlying t with
      | some (f, false), some (.struct _) => some f
      | _, _ => none) else none
    | none => none
  | none => none
section
variable {E : Env} {P : Program} {w : World} {x : Operand} {dst : Option Nat} {t ty : TypeId} {pos : String} {af : Array Edge} {g : Option (Nat × Bool)}
theorem run_method {name : String} {f : FuncId} {v : Value} {n : Nat} (hm : methIs P t name = some f) : (method (n + 1) t v name).run P w = .ok (f, v) w := by
  unfold methIs at hm
  cases hi : P.info? t with
  | none => rw [hi] at hm; cases hm
  | some i =>
    rw [hi] at hm
    have hm : (match i.methods.find? (·.name == name) with
      | some m => if m.path.toList.isEmpty then (match m.func, P.underlying t with
        | some (f, false), some (.struct _) => some f
        | _, _ => none) else none
      | none => none) = some f := hm
    cases hfi : i.methods.find? (·.name == name) with
    | none => rw [hfi] at hm; cases hm
    | some m =>
      rw [hfi] at hm
      have hm : (if m.path.toList.isEmpty then (match m.func, P.underlying t with
        | some (f, false), some (.struct _) => some f
        | _, _ => none) else none) = some f := hm
      split at hm
      · rename_i hp
        have hp2 : m.path.toList = [] := by simpa using hp
        split at hm
        · rename_i f' fs hf hu
          cases hm
          unfold method
          simp only [Sem.run_bind, run_typeInfo w hi, Result.andThen_ok, hfi, hp2, follow, Sem.run_pure, hf]
          unfold receiverAt
          simp only [Sem.run_bind, run_underlying hu, Result.andThen_ok, Place.get, Sem.run_pure]
        · cases hm
      · cases hm
theorem x_invoke {f : FuncId} {v : Value} {name : String} {l : List Operand} {vs : List Value} {ts : Array TypeId} (hx : ev E x = .iface t v) (hm : methIs P t name = some f) (hc : Callable P f) (hd : 0 < P.types.size + Made.depth) (ha : v :: l.map (ev E) = vs) :
    (execOp (ev E) ⟨dst, .call ⟨.invoke x name, l.toArray, ts⟩, ty, pos, af, g⟩).run P w = .ok (.enter f vs.toArray) w := by
  subst ha
  obtain ⟨n, hn⟩ : ∃ n, P.types.size + Made.depth = n + 1 := ⟨P.types.size + Made.depth - 1, by omega⟩
  have h := run_callFunc_enter (P := P) (w := w) (args := (v :: l.map (ev E)).toArray) hc
  have hp : (program).run P w = .ok P w := rfl
  simp only [execOp, resolve, List.map_toArray, hx, Sem.run_bind, Sem.run_pure, Result.andThen_ok, invoke]
  have ht : List.take l.length (List.map (ev E) l) = List.map (ev E) l := List.take_of_length_le (by rw [List.length_map]; exact Nat.le_refl _)
  simp [callMethod, Sem.run_bind, hp, hn, run_method (n := n) (v := v) (w := w) hm, ht]
  simpa using h
theorem run_eq_ptr {e : TypeId} {b : Option Addr} (ht : P.underlying t = some (.pointer e)) : (Op.equal t (.pointer none) (.pointer b)).run P w = .ok b.isNone w := by
  show Sem.run P (Op.equalIn Op.maxDepth t (.pointer none) (.pointer b)) w = _
  have hd : Op.maxDepth = (Op.maxDepth - 1) + 1 := by decide
  rw [hd]
  unfold Op.equalIn
  rw [Sem.run_bind, run_underlying ht]
  rfl
theorem x_eql_nilp {y : Operand} {t' e : TypeId} (ht : P.underlying t = some (.pointer e)) (hx : ev E x = .pointer none) (hy : ev E y = .pointer none) : (execOp (ev E) ⟨dst, .binOp .eql t x y t', ty, pos, af, g⟩).run P w = .ok (.value (vB true)) w := by
  have h := run_eq_ptr (P := P) (w := w) (b := none) ht
  have hb : (binOp .eql t (.pointer none) (.pointer none)).run P w = .ok (vB true) w := by
    show Sem.run P (do pure (Value.bool (← Op.equal t (.pointer none) (.pointer none)))) w = _
    rw [Sem.run_bind, h]; rfl
  simp only [execOp, hx, hy]
  show Sem.run P (do let v ← binOp .eql t (.pointer none) (.pointer none); pure (Next.value v)) w = _
  rw [Sem.run_bind, hb]; rfl
theorem x_iface {y : TypeId} {v : Value} (hx : ev E x = v) (hu : (match P.underlying y with | some (.interface _) => false | some _ => true | none => false) = true) :
    (execOp (ev E) ⟨dst, .makeInterface y x, ty, pos, af, g⟩).run P w = .ok (.value (.iface y v)) w := by
  cases h : P.underlying y with
  | none => rw [h] at hu; cases hu
  | some d =>
    rw [h] at hu
    simp only [execOp, hx, Instr.makeInterface, Sem.run_bind, run_underlying h, Result.andThen_ok]
    cases d <;> first | rfl | cases hu
end
theorem ron_nil {α β : Type} [Inhabited α] {S : List Nat} {w : World} {fA : α → Option Addr} {fl : α → List β} {enc : β → List Value} (hd : RO S w (fA default) ((fl default).flatMap enc)) : ∀ i : Nat, RO S w (fA (([] : List α).getD i default)) ((fl (([] : List α).getD i default)).flatMap enc) := fun _ => hd
theorem ron_cons {α β : Type} [Inhabited α] {S : List Nat} {w : World} {fA : α → Option Addr} {fl : α → List β} {enc : β → List Value} {a : α} {l : List α} (h : RO S w (fA a) ((fl a).flatMap enc)) (h2 : ∀ i : Nat, RO S w (fA (l.getD i default)) ((fl (l.getD i default)).flatMap enc)) : ∀ i : Nat, RO S w (fA ((a :: l).getD i default)) ((fl ((a :: l).getD i default)).flatMap enc)
  | 0 => h
  | i + 1 => h2 i
end Go.GV

namespace Go.GV
open Go.RowKit
theorem RO.again {S : List Nat} {w0 w : World} {A : Option Addr} {cs : List Value} {L : List Ent} (h : RO S w0 A cs) (hS : St S w0 w L) : RO (Lown L) w A cs :=
  h.on (Lc := L) (Lr := []) (by rw [List.append_nil]; exact hS) lown_mem
theorem RO.mono {S S' : List Nat} {w : World} {A : Option Addr} {cs : List Value} (h : RO S w A cs) (hs : ∀ b ∈ S', b ∈ S) : RO S' w A cs := fun j v hv => by
  obtain ⟨a, e, hb, hn, hc⟩ := h j v hv
  exact ⟨a, e, hb, fun hh => hn (hs _ hh), hc⟩
theorem RO.no {S : List Nat} {w : World} {A : Option Addr} {cs : List Value} (h : RO S w A cs) : RO [] w A cs := h.mono (fun _ hb => by cases hb)
theorem RO.fromF {S F : List Nat} {w : World} {A : Option Addr} {cs : List Value} (h : RO (S ++ F) w A cs) : RO S w A cs := h.mono fun _ hb => List.mem_append.2 (.inl hb)
theorem RO.freshF {S F : List Nat} {w : World} {A : Option Addr} {cs : List Value} (h : RO (S ++ F) w A cs) : RO F w A cs := h.mono fun _ hb => List.mem_append.2 (.inr hb)
theorem RO.againF {S F : List Nat} {w0 w : World} {A : Option Addr} {cs : List Value} {L : List Ent} (h : RO (S ++ F) w0 A cs) (hS : St S w0 w L) : RO (Lown L ++ F) w A cs := fun j v hv => by
  obtain ⟨a, e, hb, hn, hc⟩ := h.fromF.again hS j v hv
  refine ⟨a, e, hb, fun hh => ?_, hc⟩
  rcases List.mem_append.1 hh with hh | hh
  · exact hn hh
  · obtain ⟨a2, e2, _, hn2, _⟩ := h.freshF j v hv
    rw [e] at e2; injection e2 with e2; subst e2
    exact hn2 hh
theorem RO.of_rowF {S : List Nat} {w00 w0 w : World} {Lc Lr : List Ent} (hS : St S w0 w (Lc ++ Lr)) (h0 : St [] w00 w (Lc ++ Lr)) (j : Nat) {e : TypeId} {sz n c : Nat} {A : Option Addr} {cs : List Value} (hj : Lr[j]? = some (Ent.row (.slice A n c) e sz n cs)) : RO (Lown Lc ++ List.range w00.heap.size) w A cs := fun jj v hv => by
  obtain ⟨a, ha, hb, hn, hc⟩ := RO.of_rowS (Sc := Lown Lc) hS lown_mem j hj jj v hv
  refine ⟨a, ha, hb, fun hh => ?_, hc⟩
  rcases List.mem_append.1 hh with hh | hh
  · exact hn hh
  · subst ha
    rcases h0.own _ (List.mem_append.2 (.inr (List.mem_of_getElem? hj))) a.block rfl with h1 | h1
    · cases h1
    · exact absurd (List.mem_range.1 hh) (by omega)
theorem lown_range {S : List Nat} {w0 w : World} {L : List Ent} (hS : St S w0 w L) : ∀ b ∈ Lown L, b ∈ List.range w.heap.size := fun b hb => by
  obtain ⟨e, he, ho⟩ := lown_mem b hb
  exact List.mem_range.2 ((hS.hold e he).2 b ho)
theorem St.back {S : List Nat} {w0 wb : World} {L0 : List Ent} (h : St S w0 wb L0) (w : World) (L : List Ent) (h' : St (Lown L0) wb w L) : St S w0 w L := by
  have := St.after (Lc := L0) (Lr := []) (by rw [List.append_nil]; exact h) lown_mem h'
  rwa [List.append_nil] at this
theorem St.base {S : List Nat} {w0 w : World} {L : List Ent} (h : St S w0 w L) : St (Lown L) w w L :=
  ⟨Fr.refl _ _, h.hold, h.dis, fun e he b hb => .inl (lown_in e he b hb)⟩
def GivesW (S : List Nat) (w : World) (φ : Value → List Ent → World → Prop) : Ending → World → Prop :=
  fun e w' => ∃ v L', e = .returned v ∧ φ v L' w' ∧ St S w w' L'
section
variable {P : Program} {n : Nat} {S : List Nat} {w0 : World} {Q : Post} {E : Env} {L : List Ent}
theorem calls_JW {f : FuncId} {fn : Func} {c : Code} {args : Array Value} {w : World} {φ : Value → List Ent → World → Prop} {L0 : List Ent} (S : List Nat) (n : Nat)
    (hf : P.funcs[f]? = some fn) (hb : fn.body = some c) (hm : fn.ntmps = n) (E : Env) (hE : E = envOf 0 args.toList) (hn : Nat.ble args.size n = true)
    (hg : Give S w L0) (h : J P n S w c (bodyPost P fn (GivesW S w φ)) E L0) : Calls P f args w (GivesW S w φ) := by
  subst hm
  have hn := Nat.le_of_ble_eq_true hn
  refine calls_of_wp hf hb (h _ w ⟨rfl, ?_, ?_⟩ hg.start)
  · simp; omega
  · intro t v hv
    rw [hE] at hv
    have h1 : args[t]? = some v := by have := (get_envOf _ _ _ _ hv).2; simpa using this
    obtain ⟨hlt, h2⟩ := Array.getElem?_eq_some_iff.1 h1
    simp only [Array.getD_eq_getD_getElem?]
    rw [Array.getElem?_append_left hlt, h1]
    rfl
theorem JX_retsB {fn : Func} {rs : List ResultVar} {S1 : List Nat} {w1 : World} {φ : Value → List Ent → World → Prop} (vs : List Value) (v : Value) (hr : fn.results = rs.toArray) (hv : ∀ w, St S w0 w L → resAll P E w rs vs)
    (hvv : v = (if h : vs.length = 1 then vs[0] else .tuple vs.toArray)) (L' : List Ent) (hL : ∀ w, St S w0 w L → St S w0 w L') (hB : ∀ w L, St S w0 w L → St S1 w1 w L) (hφ : ∀ w, St S w0 w L' → φ v L' w) :
    JX n S w0 (bodyPost P fn (GivesW S1 w1 φ)) .ret E L := by
  intro a w hR hS
  have h0 := JX_rets (P := P) (n := n) (S := S) (w0 := w0) (E := E) (L := L) (φ := fun u L2 => u = v ∧ L2 = L') vs v hr hv hvv L' hL ⟨rfl, rfl⟩ a w hR hS
  obtain ⟨hd, u, hu, u2, L2, he, hp, hs⟩ := h0
  obtain ⟨rfl, rfl⟩ := hp
  exact ⟨hd, u, hu, u2, L2, he, hφ w hs, hB w _ hs⟩
theorem JX_retsC {fn : Func} {rs : List ResultVar} {S1 : List Nat} {w1 : World} {φ : Value → List Ent → Prop} (vs : List Value) (v : Value) (hr : fn.results = rs.toArray) (hv : ∀ w, St S w0 w L → resAll P E w rs vs)
    (hvv : v = (if h : vs.length = 1 then vs[0] else .tuple vs.toArray)) (L' : List Ent) (hL : ∀ w, St S w0 w L → St S w0 w L') (hB : ∀ w L, St S w0 w L → St S1 w1 w L) (hφ : φ v L') :
    JX n S w0 (bodyPost P fn (Gives S1 w1 φ)) .ret E L := JX_retsB (φ := fun v L _ => φ v L) vs v hr hv hvv L' hL hB fun _ _ => hφ
def RoundB {X : Type} (n : Nat) (S : List Nat) (w0 : World) (I : X → Prop) (W : X → World → Prop) (Ef : X → Env) (Lf : X → List Ent) (μ : X → Nat) (m : Nat) (Q : Post) : Post :=
  Exit.then (fun a w => ∃ x, I x ∧ W x w ∧ μ x < m ∧ Rep n (Ef x) a ∧ St S w0 w (Lf x)) Q
theorem J_loopB {X : Type} {c : Code} (I : X → Prop) (W : X → World → Prop) (Ef : X → Env) (Lf : X → List Ent) (μ : X → Nat) (x0 : X) (h0 : I x0) (hE : SubE E (Ef x0)) (hL : ∀ w, St S w0 w L → St S w0 w (Lf x0)) (hW : ∀ w, St S w0 w L → W x0 w)
    (round : ∀ x wb, I x → W x wb → St S w0 wb (Lf x) → J P n (Lown (Lf x)) wb c (RoundB n S w0 I W Ef Lf μ (μ x) Q) (Ef x) (Lf x)) : J P n S w0 (.loop c) Q E L := by
  intro a w hR hS
  refine wp_loop_ghost (fun m a w => ∃ x, I x ∧ W x w ∧ μ x = m ∧ Rep n (Ef x) a ∧ St S w0 w (Lf x)) (μ x0) ⟨x0, h0, hW w hS, rfl, hR.sub hE, hL w hS⟩ ?_
  rintro m a w ⟨x, hI, hWx, rfl, hR, hS⟩
  refine wp_mono (round x w hI hWx hS a w hR hS.base) ?_
  intro e a' w' hq
  cases e with
  | normal => obtain ⟨x', h1, h2, h3, h4, h5⟩ := hq; exact ⟨μ x', h3, x', h1, h2, rfl, h4, h5⟩
  | _ => exact hq
theorem JX_roundB {X : Type} {S1 : List Nat} {w1 : World} {I : X → Prop} {W : X → World → Prop} {Ef : X → Env} {Lf : X → List Ent} {μ : X → Nat} {m : Nat} (x : X) (hI : I x) (hm : μ x < m) (hE : SubE E (Ef x)) (hB : ∀ w L, St S w0 w L → St S1 w1 w L) (hL : ∀ w, St S w0 w L → St S w0 w (Lf x)) (hW : ∀ w, St S w0 w L → W x w) :
    JX n S w0 (RoundB n S1 w1 I W Ef Lf μ m Q) .normal E L := fun _ w hR hS => ⟨x, hI, hW w hS, hm, hR.sub hE, hB w _ (hL w hS)⟩
theorem JX_roundB_exit {X : Type} {S1 : List Nat} {w1 : World} {I : X → Prop} {W : X → World → Prop} {Ef : X → Env} {Lf : X → List Ent} {μ : X → Nat} {m id : Nat} (h : JX n S w0 Q (.exit id) E L) : JX n S w0 (RoundB n S1 w1 I W Ef Lf μ m Q) (.exit id) E L := h
theorem JX_roundB_ret {X : Type} {S1 : List Nat} {w1 : World} {I : X → Prop} {W : X → World → Prop} {Ef : X → Env} {Lf : X → List Ent} {μ : X → Nat} {m : Nat} (h : JX n S w0 Q .ret E L) : JX n S w0 (RoundB n S1 w1 I W Ef Lf μ m Q) .ret E L := h
section
variable {ops : Array Oper} {o : Oper} {Lg Lu : List Ent} {us : List Nat} {fuel : Nat} {listed : Array Bool}
theorem JA_shunU (i : Nat) (hi : ops[i]? = some o) (hs : Region.noSelect ops = true) (hf : Region.free .any ops listed i = true) (hr : (Region.ready .any ops listed).contains i = true) (hu : us.contains i = false)
    (hQ : ∀ c a w, Q (.panic c) (a.put o.dst undef) w → Q (.panic c) a w) (hd : dstOk n o.dst = true) (hw : gundef ops E o)
    (h : JA P n S w0 ops Q Lg us Lu fuel (listed.setIfInBounds i true) (put E o.dst undef) L) : JA P n S w0 ops Q Lg us Lu (fuel + 1) listed E L := by
  intro a w hR hS hcl
  have hr' : i ∈ Region.ready .any ops listed := by simpa using hr
  refine wpAnyG_first (H := fun _ => True) hi (Region.noSelect_spec hs) hQ (fun _ _ _ _ _ => trivial) (fun l w _ hl h => ⟨h.1, fun hh => h.2 (by rw [all_unset hu]; exact hh)⟩) fuel listed a w hcl (Region.free_spec hi hf) hr' (.inr ⟨gundef_wanted hR hw, rfl⟩) (h _ w (hR.put (fun d hd' => ?_) undef) hS (hcl.add hr'))
  rw [hd'] at hd
  simpa [dstOk, Nat.blt_eq] using hd
end
section
variable {ops : Array Oper} {o : Oper} {rest : List Oper}
theorem JO_callB (Sc : List Nat) (Lc Lr : List Ent) {f : FuncId} {args : Array Value} {φ : World → Value → List Ent → World → Prop} (hfit : fit n E o = true) (hw : wants ops E o)
    (hr : ∀ w, (execOp (ev E) o).run P w = .ok (.enter f args) w) (hL : ∀ w, St S w0 w L → St S w0 w (Lc ++ Lr)) (hS : ∀ b ∈ Sc, ∃ e ∈ Lc, e.own = some b)
    (hc : ∀ w, St S w0 w (Lc ++ Lr) → Calls P f args w (GivesW Sc w (φ w))) (h : ∀ w v L' w', φ w v L' w' → St S w0 w (Lc ++ Lr) → St S w0 w' (L' ++ Lr) → JO P n (Lown (L' ++ Lr)) w' ops rest Q (put E o.dst v) (L' ++ Lr)) : JO P n S w0 ops (o :: rest) Q E L := by
  intro a w hR hSt
  unfold wpList
  rw [if_pos (wants_wanted hR hw)]
  refine .inl ?_
  unfold Oper.wp
  rw [fit_exec hfit hR, hr w]
  refine (hc w (hL w hSt)).mono ?_
  rintro e w' ⟨v, L', rfl, hφ, hS'⟩
  have hs := (hL w hSt).after hS hS'
  exact h w v L' w' hφ (hL w hSt) hs _ _ (hR.put (fit_dst hfit) v) hs.base
end
end
end Go.GV
