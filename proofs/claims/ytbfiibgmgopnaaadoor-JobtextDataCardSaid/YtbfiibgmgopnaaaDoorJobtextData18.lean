/- Pl39s, C39o, Pl39t, Pl39u, GvJ, C39p, Pl39v, C39q in one text. -/
import Derived.Test.YtbfiibgmgopnaaaDoorCards
import Derived.Test.YtbfiibgmgopnaaaDoorTie
import Derived.Test.YtbfiibgmgopnaaaDoorJobtextData17
import Derived.Test.YtbfiibgmgopnaaaDoorJobtextData7
import Derived.Test.YtbfiibgmgopnaaaDoorRows
import GoSem.ClaimSeven
import Derived.LaidByTextLater
import Derived.SevenTiedAt
import Derived.LaidSub
import Derived.LaidOnce
set_option linter.unusedVariables false
set_option linter.unusedSimpArgs false
namespace Go.Proofs.YtbfiibgmgopnaaaDoor
open Go.GV
namespace R39
def sameS (a b : Statement) : Bool := ((decide (a.Line = b.Line) && decide (a.Call = b.Call)) && decide (a.Words = b.Words)) && decide (a.Data = b.Data)
def preM (f : Statement → Statement) (y : List Statement) (k : Nat) : List Statement := (y.take k).map f ++ y.drop k
theorem preM_done {f : Statement → Statement} {g : Stm → Stm} {y : List Statement} {k : Nat} (h : ¬ k < y.length) (hf : ∀ e, pur (f e) = g (pur e)) : (preM f y k).map pur = (y.map pur).map g := by
  unfold preM
  rw [List.take_of_length_le (by omega), List.drop_eq_nil_of_le (by omega), List.append_nil, List.map_map, List.map_map]
  exact List.map_congr_left fun e _ => hf e
def shF (d : Int) (e : Statement) : Statement := ⟨e.Line + d, e.Call, e.Words, e.WordsA, e.WordsC, e.Data, e.DataA, e.DataC⟩
theorem all_step {p : Bytes → Prop} {l : List Bytes} {k : Nat} (h : ∀ i, i < k → p (l.getD i [])) (h1 : p (l.getD k [])) : ∀ i, i < k + 1 → p (l.getD i []) := fun i hi => by
  by_cases e : i = k
  · rw [e]; exact h1
  · exact h i (by omega)
theorem all_of {p : Bytes → Prop} {l : List Bytes} {k : Nat} (h : ∀ i, i < k → p (l.getD i [])) (hk : ¬ k < l.length) : ∀ s ∈ l, p s := fun s hs => by
  obtain ⟨i, hi, e⟩ := List.mem_iff_getElem.1 hs
  have := h i (by omega)
  rw [List.getD_eq_getElem?_getD, List.getElem?_eq_getElem hi, Option.getD_some, e] at this
  exact this
structure Two (d : Int) (g : Stm → Stm) (y b : List Statement) (n e m f : Int) : Prop where
  code : e = f
  len : y.length = b.length
  line : e ≠ 0 → m = n + d
  same : (y.map pur).map g = b.map pur
theorem Two.no {d : Int} {g : Stm → Stm} {y b : List Statement} {n e m f : Int} (h : Two d g y b n e m f) (hc : ((decide (e ≠ f) || decide (((y.length : Nat) : Int) ≠ ((b.length : Nat) : Int))) || (decide (e ≠ 0) && decide (m ≠ n + d))) = true) : False := by
  have h1 := h.code; have h2 := h.len; have h3 := h.line
  simp only [Bool.or_eq_true, Bool.and_eq_true, decide_eq_true_eq] at hc
  rcases hc with (hc | hc) | hc
  · exact hc h1
  · omega
  · exact hc.2 (h3 hc.1)
theorem Two.post {d : Int} {g : Stm → Stm} {f0 : Statement → Statement} {y b z : List Statement} {n e m f : Int} {k : Nat} (h : Two d g y b n e m f) (hf : ∀ e, pur (f0 e) = g (pur e)) (hz : z = preM f0 y k) (hk : ¬ k < y.length) : decide (z.map pur = b.map pur) = true := by
  rw [hz, preM_done hk hf, h.same]; exact decide_eq_true rfl
end R39
end Go.Proofs.YtbfiibgmgopnaaaDoor

namespace Go.Proofs.YtbfiibgmgopnaaaDoor
open Go.GV
set_option linter.unusedVariables false
set_option linter.unusedSimpArgs false
end Go.Proofs.YtbfiibgmgopnaaaDoor

namespace Go.Proofs.YtbfiibgmgopnaaaDoor
open Go.GV
namespace R39
def gh (d : Int → Int) (x : Row) : Row := ⟨d x.number, x.text⟩
def ghM (d : Int → Int) (s : Stm) : Stm := { s with line := d s.line }
def ghP (d : Int → Int) (p : Bytes × Pr) : Bytes × Pr := (p.1, ⟨p.2.vals, p.2.rows.map (gh d)⟩)
def ghS (d : Int → Int) (s : RS) : RS := ⟨s.syms, s.procs.map (ghP d), s.out.map (ghM d)⟩
def ghE {α : Type} (d : Int → Int) (f : α → α) : Res α → Res α
  | .error e => .error (d e.1, e.2)
  | .ok x => .ok (f x)
def ghL (d : Int → Int) (p : Nat × RS) : Nat × RS := (p.1, ghS d p.2)
section
variable {d : Int → Int}
theorem inl_gh : ∀ (n : Int) (k : Nat) (r : List Row), inl (d n) k (r.map (gh d)) = ghE d id (inl n k r)
  | n, k, [] => rfl
  | n, k, x :: r => by
    rw [List.map_cons, inl, inl]
    show (if x.text = wSTOP then _ else if 64 ≤ k ∨ 200 < x.text.length then Except.error (d x.number, 8) else _) = _
    split
    · rfl
    · split
      · rfl
      · rw [inl_gh n (k + 1) r]
        show Except.map (x.text :: ·) _ = _
        cases inl n (k + 1) r <;> rfl
theorem findEnd_gh : ∀ (r : List Row), findEnd (r.map (gh d)) = findEnd r
  | [] => rfl
  | x :: r => by
    rw [List.map_cons, findEnd, findEnd, findEnd_gh r]; rfl
theorem findP_gh (k : Bytes) : ∀ (l : List (Bytes × Pr)), findP (l.map (ghP d)) k = (findP l k).map fun p => ⟨p.vals, p.rows.map (gh d)⟩
  | [] => rfl
  | p :: l => by
    have ih := findP_gh k l
    unfold findP at *
    rw [List.map_cons, List.find?_cons, List.find?_cons]
    show Option.map _ (match decide (p.1 = k) with | true => some (ghP d p) | false => _) = _
    cases decide (p.1 = k) with
    | true => rfl
    | false => exact ih
theorem stmV_gh (n : Int) (c : Bytes) (ws : List Bytes) (r : List Row) (s : RS) : stmV (d n) c ws (r.map (gh d)) (ghS d s) = ghE d (ghL d) (stmV n c ws r s) := by
  unfold stmV
  rw [inl_gh, show (ghS d s).out.length = s.out.length from List.length_map ..]
  split
  · rfl
  · split
    · cases inl n 0 r with
      | error e => rfl
      | ok l =>
        show Except.ok (l.length + 1, (⟨_, _, _⟩ : RS)) = Except.ok (l.length + 1, ghS d _)
        unfold ghS; rw [List.map_append]; rfl
    · show Except.ok (0, (⟨_, _, _⟩ : RS)) = Except.ok (0, ghS d _)
      unfold ghS; rw [List.map_append]; rfl
theorem procV_gh (n : Int) (ws : List Bytes) (r : List Row) (s : RS) : procV (d n) ws (r.map (gh d)) (ghS d s) = ghE d (ghL d) (procV n ws r s) := by
  unfold procV
  split
  · rfl
  · split
    · rfl
    · rename_i v _
      rw [show (ghS d s).procs = s.procs.map (ghP d) from rfl, findP_gh, Option.isSome_map, findEnd_gh]
      split
      · rfl
      · cases findEnd r with
        | none => rfl
        | some i =>
          show Except.ok (i + 1, (⟨_, _, _⟩ : RS)) = Except.ok (i + 1, ghS d _)
          unfold ghS; rw [List.map_append, ← List.map_take]; rfl
theorem lineIn_gh (c : Bytes) (x : Row) (r : List Row) (s : RS) : lineIn c (gh d x) (r.map (gh d)) (ghS d s) = ghE d (ghL d) (lineIn c x r s) := by
  unfold lineIn
  show (if idle x.text = true then _ else match replV s.syms x.text with | .error e => _ | .ok z => _) = _
  split
  · rfl
  · cases replV s.syms x.text with
    | error e => rfl
    | ok z =>
      show (match scan z with | none => _ | some ws => _) = ghE d (ghL d) (match scan z with | none => _ | some ws => _)
      cases scan z with
      | none => rfl
      | some ws =>
        show (if ws = [] then _ else _) = ghE d (ghL d) (if ws = [] then _ else _)
        split
        · rfl
        · split
          · exact stmV_gh x.number c ws r s
          · split <;> rfl
theorem readIn_gh (c : Bytes) : ∀ (n : Nat) (l : List Row) (s : RS), l.length < n → readIn c (l.map (gh d)) (ghS d s) = ghE d (ghS d) (readIn c l s)
  | 0, _, _, h => absurd h (Nat.not_lt_zero _)
  | n + 1, [], s, _ => rfl
  | n + 1, x :: r, s, h => by
    rw [List.length_cons] at h
    rw [List.map_cons, readIn_cons, readIn_cons, lineIn_gh]
    cases lineIn c x r s with
    | error e => rfl
    | ok p =>
      obtain ⟨k, s'⟩ := p
      show readIn c ((r.map (gh d)).drop k) (ghS d s') = _
      rw [← List.map_drop]
      exact readIn_gh c n _ s' (by rw [List.length_drop]; omega)
theorem callV_gh (n : Int) (ws : List Bytes) (s : RS) : callV (d n) ws (ghS d s) = ghE d (ghL d) (callV n ws s) := by
  unfold callV
  split
  · rfl
  · split
    · rfl
    · rename_i v _
      rw [show (ghS d s).procs = s.procs.map (ghP d) from rfl, findP_gh]
      cases findP s.procs (ws.getD 2 []) with
      | none => rfl
      | some p =>
        show (if v.all (fun q => (look p.vals q.1).isSome) = true then _ else _) = ghE d (ghL d) (if v.all (fun q => (look p.vals q.1).isSome) = true then _ else _)
        split
        · have e := readIn_gh (d := d) (ws.getD 1 []) (p.rows.length + 1) p.rows { s with syms := over (over s.syms p.vals) v } (Nat.lt_succ_self _)
          show (match readIn (ws.getD 1 []) (p.rows.map (gh d)) (ghS d { s with syms := over (over s.syms p.vals) v }) with | .error e => _ | .ok s' => _) = _
          rw [e]
          cases readIn (ws.getD 1 []) p.rows { s with syms := over (over s.syms p.vals) v } <;> rfl
        · rfl
theorem lineOut_gh (x : Row) (r : List Row) (s : RS) : lineOut (gh d x) (r.map (gh d)) (ghS d s) = ghE d (ghL d) (lineOut x r s) := by
  unfold lineOut
  show (if idle x.text = true then _ else match replV s.syms x.text with | .error e => _ | .ok z => _) = _
  split
  · rfl
  · cases replV s.syms x.text with
    | error e => rfl
    | ok z =>
      show (match scan z with | none => _ | some ws => _) = ghE d (ghL d) (match scan z with | none => _ | some ws => _)
      cases scan z with
      | none => rfl
      | some ws =>
        show (if ws = [] then _ else _) = ghE d (ghL d) (if ws = [] then _ else _)
        split
        · rfl
        · split
          · exact stmV_gh x.number [] ws r s
          · split
            · split <;> rfl
            · split
              · exact procV_gh x.number ws r s
              · split
                · rfl
                · split
                  · exact callV_gh x.number ws s
                  · rfl
theorem readOut_gh : ∀ (n : Nat) (l : List Row) (s : RS), l.length < n → readOut (l.map (gh d)) (ghS d s) = ghE d (ghS d) (readOut l s)
  | 0, _, _, h => absurd h (Nat.not_lt_zero _)
  | n + 1, [], s, _ => rfl
  | n + 1, x :: r, s, h => by
    rw [List.length_cons] at h
    rw [List.map_cons, readOut_cons, readOut_cons, lineOut_gh]
    cases lineOut x r s with
    | error e => rfl
    | ok p =>
      obtain ⟨k, s'⟩ := p
      show readOut ((r.map (gh d)).drop k) (ghS d s') = _
      rw [← List.map_drop]
      exact readOut_gh n _ s' (by rw [List.length_drop]; omega)
end
def clamp (n : Nat) (x : Int) : Int := if 1 ≤ x ∧ x ≤ n then x else 1
theorem number_clamp (n : Nat) : ∀ (k : Nat) (l : List Bytes), k + l.length ≤ n → (number k l).map (gh (clamp n)) = number k l
  | _, [], _ => rfl
  | k, x :: l, h => by
    rw [List.length_cons] at h
    rw [number, List.map_cons, number_clamp n (k + 1) l (by omega)]
    have : (gh (clamp n) ⟨((k + 1 : Nat) : Int), x⟩ : Row) = ⟨((k + 1 : Nat) : Int), x⟩ := by
      unfold gh clamp; simp only [Row.mk.injEq, and_true]; exact if_pos (by omega)
    rw [this]
theorem clamp_le {n : Nat} (h : 1 ≤ n) (x : Int) : 1 ≤ clamp n x ∧ clamp n x ≤ n := by unfold clamp; split <;> omega
theorem exp_num {t : Bytes} {y : List Statement} {n e : Int} (h : ExpJ t y n e) : (0 ≤ n ∧ n ≤ 512) ∧ ∀ i : Nat, 0 ≤ (y.getD i default).Line ∧ (y.getD i default).Line ≤ 512 := by
  have hd : (0 : Int) ≤ (default : Statement).Line ∧ (default : Statement).Line ≤ 512 := by decide
  have hx : (expand t = .error (0, 8)) ∨ ∃ r, readOut (rowsV t) rs0 = r ∧ expand t = r.map (·.out) ∧ r = ghE (clamp 512) (ghS (clamp 512)) r := by
    unfold expand
    split
    · exact .inl rfl
    · refine .inr ⟨_, rfl, rfl, ?_⟩
      have e1 : (rowsV t).map (gh (clamp 512)) = rowsV t := number_clamp 512 0 _ (by have := number_len 0 (linesV t); unfold rowsV at *; omega)
      have e2 := readOut_gh (d := clamp 512) ((rowsV t).length + 1) (rowsV t) rs0 (Nat.lt_succ_self _)
      rw [e1, show ghS (clamp 512) rs0 = rs0 from rfl] at e2
      exact e2
  have zero : y = [] → ∀ i : Nat, 0 ≤ (y.getD i default).Line ∧ (y.getD i default).Line ≤ 512 := fun h i => by rw [h]; exact hd
  rcases hx with hx | ⟨r, _, hx, hr⟩
  · rcases h with ⟨h, _, _⟩ | ⟨h, _, h3⟩
    · rw [hx] at h; cases h
    · rw [hx] at h; injection h with h; injection h with h1 h2
      exact ⟨by omega, zero h3⟩
  · cases r with
    | error a =>
      rcases h with ⟨h, _, _⟩ | ⟨h, _, h3⟩
      · rw [hx] at h; cases h
      · rw [hx] at h; injection h with h
        have ha : a = (clamp 512 a.1, a.2) := by injection hr
        have hc := clamp_le (n := 512) (by decide) a.1
        have h1 : a.1 = n := by rw [h]
        have h2 : a.1 = clamp 512 a.1 := congrArg Prod.fst ha
        exact ⟨by omega, zero h3⟩
    | ok s =>
      rcases h with ⟨h, h1, h2⟩ | ⟨h, _, h3⟩
      · rw [hx] at h
        have h : s.out = y.map pur := by injection h
        have hs : s = ghS (clamp 512) s := by injection hr
        have ho : s.out = s.out.map (ghM (clamp 512)) := congrArg RS.out hs
        refine ⟨by omega, fun i => ?_⟩
        rcases Nat.lt_or_ge i y.length with hi | hi
        · have hc := clamp_le (n := 512) (by decide) (y.getD i default).Line
          have e3 : (pur (y.getD i default)) = ghM (clamp 512) (pur (y.getD i default)) := by
            rw [h] at ho
            have := congrArg (fun l : List Stm => l[i]?) ho
            simp only [List.getElem?_map, List.getElem?_eq_getElem hi, Option.map_some, Option.some.injEq] at this
            rw [List.getD_eq_getElem?_getD, List.getElem?_eq_getElem hi]; exact this
          have e4 : (y.getD i default).Line = clamp 512 (y.getD i default).Line := congrArg Stm.line e3
          omega
        · rw [List.getD_eq_getElem?_getD, List.getElem?_eq_none hi]; exact hd
      · rw [hx] at h; cases h
end R39
end Go.Proofs.YtbfiibgmgopnaaaDoor

namespace Go.Proofs.YtbfiibgmgopnaaaDoor
open Go.GV
namespace R39
def Sml (l : List Stm) : Prop := ∀ x ∈ l, x.words.length ≤ 1000 ∧ x.data.length ≤ 64
end R39
end Go.Proofs.YtbfiibgmgopnaaaDoor

namespace Go.GV
open Go.RowKit
section
variable {E : Env} {P : Program} {x y : Operand} {dst : Option Nat} {t ty : TypeId} {pos : String} {af : Array Edge} {g : Option (Nat × Bool)}
end
end Go.GV

namespace Go.Proofs.YtbfiibgmgopnaaaDoor
open Go.GV
set_option linter.unusedVariables false
set_option linter.unusedSimpArgs false
end Go.Proofs.YtbfiibgmgopnaaaDoor

namespace Go.Proofs.YtbfiibgmgopnaaaDoor
open Go.GV
namespace R39
def dataT (L : List Bytes) : Bytes := (tDD ++ [10]) ++ body L
theorem dataT_snoc (L : List Bytes) (s : Bytes) : dataT L ++ (s ++ [10]) = dataT (L ++ [s]) := by unfold dataT; rw [body_snoc, List.append_assoc]
theorem data_step {l : List Bytes} {k : Nat} {t : Bytes} (h : k < l.length) (ht : t = dataT (l.take k)) : t ++ (l.getD k [] ++ [10]) = dataT (l.take (k + 1)) := by
  rw [ht, dataT_snoc, R44.take_snoc (d := []) h]
def dataL (l : List Bytes) (j : Nat) : List Bytes := l ++ List.replicate j [35]
theorem dataL_0 {l : List Bytes} {k : Nat} {t : Bytes} (ht : t = dataT (l.take k)) (hk : ¬ k < l.length) : t = dataT (dataL l 0) := by
  rw [ht, List.take_of_length_le (by omega)]; unfold dataL; rw [List.replicate_zero, List.append_nil]
theorem dataL_step {l : List Bytes} {j j2 : Nat} {t : Bytes} (ht : t = dataT (dataL l j)) (hj : j2 = j + 1) : t ++ [35, 10] = dataT (dataL l j2) := by
  have : dataL l j2 = dataL l j ++ [[35]] := by unfold dataL; rw [hj, List.replicate_succ', List.append_assoc]
  rw [ht, this, ← dataT_snoc]; rfl
theorem dataL_len (l : List Bytes) (j : Nat) : (dataL l j).length = l.length + j := by unfold dataL; rw [List.length_append, List.length_replicate]
def DataP (s : Bytes) : Prop := (10 : UInt8) ∉ s ∧ Fine s
theorem dataP_of {s : Bytes} (h : ((decide ((200 : Int) < ((s.length : Nat) : Int)) || decide (s = [47, 42])) || decide ((10 : UInt8) ∈ s)) = false) : DataP s := by
  rw [Bool.or_eq_false_iff, Bool.or_eq_false_iff, decide_eq_false_iff_not, decide_eq_false_iff_not, decide_eq_false_iff_not] at h
  exact ⟨h.2, h.1.2, by omega⟩
theorem dataL_all {l : List Bytes} {j : Nat} (h : ∀ s ∈ l, DataP s) : ∀ s ∈ dataL l j, DataP s := fun s hs => by
  rcases List.mem_append.1 hs with hs | hs
  · exact h s hs
  · rw [List.eq_of_mem_replicate hs]; exact ⟨by decide, by decide, by decide⟩
structure DatJ (l : List Bytes) (k : Nat) (y b : List Statement) (n e m f : Int) : Prop where
  much : 64 < k → e = 8 ∧ n = 66 ∧ f = 8 ∧ m = 66 ∧ y = [] ∧ b = []
  few : k ≤ 64 → e = 0 ∧ n = 0 ∧ y.length = 2 ∧ (y.getD 0 default).Data.length = k ∧ (y.getD 0 default).Data.take l.length = l ∧ (y.getD 1 default).Line = ((k + 3 : Nat) : Int) ∧ f = 3 ∧ m = 1
theorem data_law {l : List Bytes} {i j : Nat} {t : Bytes} {y b : List Statement} {n e m f : Int} (ht : t = dataT (dataL l j)) (hk : ¬ i < l.length) (hl : ∀ q, q < i → DataP (l.getD q [])) (hn : l.length + j ≤ 200) (htl : ¬ (16000 : Int) < ((t.length : Nat) : Int)) (h1 : ExpJ (t ++ [47, 42, 10, 115, 116, 101, 112, 32, 83, 10]) y n e) (h2 : ExpJ t b m f) : DatJ l (l.length + j) y b n e m f := by
  have ha := dataL_all (j := j) (all_of hl hk)
  obtain ⟨hA, hB⟩ := law_data (L := dataL l j) (fun s hs => (ha s hs).1) (fun s hs => (ha s hs).2) (by rw [dataL_len]; exact hn) (by rw [ht] at htl; show (dataT (dataL l j)).length ≤ _; omega)
  rw [dataL_len] at hA hB
  rw [ht] at h1 h2
  refine ⟨fun hm => ?_, fun hm => ?_⟩
  · obtain ⟨e1, e2⟩ := hA hm
    rcases h1 with ⟨h1, _⟩ | ⟨h1, _, y0⟩
    · exact nomatch (show Except.error _ = Except.ok _ from e1.symm.trans h1)
    · rcases h2 with ⟨h2, _⟩ | ⟨h2, _, b0⟩
      · exact nomatch (show Except.error _ = Except.ok _ from e2.symm.trans h2)
      · have h1 := e1.symm.trans h1; have h2 := e2.symm.trans h2
        injection h1 with h1; injection h1 with h1 h1'; injection h2 with h2; injection h2 with h2 h2'
        exact ⟨h1'.symm, h1.symm, h2'.symm, h2.symm, y0, b0⟩
  · obtain ⟨e1, e2⟩ := hB hm
    rcases h1 with ⟨h1, n0, c0⟩ | ⟨h1, _⟩
    · rcases h2 with ⟨h2, _⟩ | ⟨h2, _, b0⟩
      · exact nomatch (show Except.error _ = Except.ok _ from e2.symm.trans h2)
      · have h1 := e1.symm.trans h1; have h2 := e2.symm.trans h2
        injection h1 with h1; injection h2 with h2; injection h2 with h2 h2'
        cases y with
        | nil => cases h1
        | cons a r => cases r with
          | nil => rw [List.map_cons, List.map_nil] at h1; injection h1 with _ h1; cases h1
          | cons c q =>
            rw [List.map_cons, List.map_cons] at h1
            injection h1 with h3 h1; injection h1 with h4 h1
            have hq : q = [] := by cases q with | nil => rfl | cons _ _ => cases h1
            subst hq
            have hd : a.Data = dataL l j := (congrArg Stm.data h3).symm
            refine ⟨c0, n0, rfl, ?_, ?_, (congrArg Stm.line h4).symm, h2'.symm, h2.symm⟩
            · show a.Data.length = _; rw [hd, dataL_len]
            · show a.Data.take _ = _; rw [hd]; unfold dataL; rw [List.take_append_of_le_length (Nat.le_refl _), List.take_length]
    · exact nomatch (show Except.ok _ = Except.error _ from e1.symm.trans h1)
theorem u8_lt {j m : UInt8} (h : j < m) : j.toNat < m.toNat := UInt8.lt_iff_toNat_lt.1 h
theorem u8_succ {j m : UInt8} (h : j < m) : (j + 1).toNat = j.toNat + 1 := by
  have h1 := u8_lt h; have h2 := UInt8.toNat_lt m
  rw [UInt8.toNat_add, show (1 : UInt8).toNat = 1 from rfl]; omega
theorem u8_end {j m : UInt8} (h : ¬ j < m) (h2 : j.toNat ≤ m.toNat) : j.toNat = m.toNat := by
  have h3 : ¬ j.toNat < m.toNat := fun h3 => h (UInt8.lt_iff_toNat_lt.2 h3)
  omega
theorem DatJ.post1 {l : List Bytes} {k : Nat} {y b : List Statement} {n e m f : Int} (h : DatJ l k y b n e m f) (hk : (64 : Int) < ((k : Nat) : Int)) : ((((decide (e = 8) && decide (n = 66)) && decide (f = 8)) && decide (m = 66)) && decide (((y.length + b.length : Nat) : Int) = 0)) = true := by
  obtain ⟨h1, h2, h3, h4, h5, h6⟩ := h.much (by omega)
  rw [h1, h2, h3, h4, h5, h6]; rfl
theorem DatJ.post2 {l : List Bytes} {k : Nat} {y b : List Statement} {n e m f : Int} (h : DatJ l k y b n e m f) (hk : ¬ (64 : Int) < ((k : Nat) : Int)) : ((((((((decide (e = 0) && decide (n = 0)) && decide (((y.length : Nat) : Int) = 2)) && decide ((((y.getD 0 default).Data.length : Nat) : Int) = ((k : Nat) : Int))) && decide ((y.getD 0 default).Data.take l.length = l)) && decide ((y.getD 1 default).Line = ((k + 3 : Nat) : Int))) && decide (f = 3)) && decide (m = 1))) = true := by
  obtain ⟨h1, h2, h3, h4, h5, h6, h7, h8⟩ := h.few (by omega)
  rw [h1, h2, h3, h4, h5, h6, h7, h8]; simp
def CalP (s : Bytes) : Prop := (10 : UInt8) ∉ s ∧ Tame s
def shX (e : Statement) : Statement := ⟨e.Line + 1, [88], e.Words, e.WordsA, e.WordsC, e.Data, e.DataA, e.DataC⟩
end R39
end Go.Proofs.YtbfiibgmgopnaaaDoor

namespace Go.Proofs.YtbfiibgmgopnaaaDoor
open Go.GV
set_option linter.unusedVariables false
set_option linter.unusedSimpArgs false
theorem c39q0_ {p : Prop} (h : p := by first | omega | (simp only [List.length_append, List.length_cons, List.length_nil]; omega) | (simp; omega) | (simp_all; omega)) : p := h
theorem texts_head (a : List Bytes) (aA : Option Addr) (aC : Nat) (aN : Nat) (b : List Bytes) (bA : Option Addr) (bC : Nat) (w : World) (aR : RO [] w aA (a.map vS)) (bR : RO [] w bA (b.map vS)) (q0 : aN ≤ a.length) (q1 : a.length ≤ 9223372036854775807) (q2 : b.length ≤ 9223372036854775807) : Calls Tryd.prog 14 #[vL aA aN aC, vL bA b.length bC] w (Gives [] w fun v L => v = vB (decide (a.take aN = b)) ∧ L = []) := by
 have h := f14_ok (a.take aN) aA aC b bA bC w (RO.headM aR aN) bR (by rw [List.length_take]; omega) q2
 rwa [List.length_take, Nat.min_eq_left q0] at h
set_option maxRecDepth 20000 in
theorem f6_ok (lines : List Bytes) (linesA : Option Addr) (linesC : Nat) (more : UInt8) (w : World) (linesR : RO [] w linesA (lines.map vS)) (hT : Tab [] w) (q0 : lines.length ≤ 9223372036854775807) : Calls Tryd.prog 6 #[vL linesA lines.length linesC, vU8 more] w (Gives [] w fun v L => v = vB true ∧ L = []) := by
 have hm70 : (more % 70).toNat < 70 := by rw [UInt8.toNat_mod]; exact Nat.mod_lt _ (by decide)
 refine calls_J [] 143 Tryd.func6 rfl Tryd.ntmps6 [(0, _), (1, _)] rfl rfl (Give.nil w) ?_
 refine q_ (g_ (s_ av_ (z_ (n_ (q_ (q_ (g_ (c0 (cl_ Ty.ca9) (fun w hS => f9_ok w (hT.on hS (fun _ h => by cases h))) (jr_ (vB false) (z_ (n_ (iff_ (sk_ (n_ (q_ (q_ (g_ (s_ mv_ (s_ (lnS Tryd.underlying24) (s_ (x_gtr_i rfl rfl) ?_))))))))))))))))))))
 refine z_ (n_ ?_)
 refine ifd (fun h1w h1 => ?_) (fun h1w h1 => ?_)
 ·refine q_ (g_ (s_ av_ (z_ (n_ (rt_ (nr_ ?_))))))
  exact p1 Tryd.results6 rfl ⟨rfl, rfl⟩
 ·refine sk_ (n_ (q_ (g_ (s_ av_ (z_ (n_ (q_ (q_ (g_ (s_ mv_ (s_ (lnS Tryd.underlying24) (s_ mv_ (z_ (n_ (k_ ?_)))))))))))))))
  refine J_loop (X := Nat × Bytes) (fun (⟨k, t⟩ : Nat × Bytes) => (k ≤ lines.length) ∧ (t = R39.dataT (lines.take k)) ∧ (∀ i, i < k → R39.DataP (lines.getD i [])) ∧ (t.length ≤ 13 + 201 * k)) (fun (⟨k, t⟩ : Nat × Bytes) => [(0, vL linesA lines.length linesC), (1, vU8 more), (5, vS t), (20, vL linesA lines.length linesC), (21, vI ((lines.length : Nat) : Int)), (22, vI ((k : Nat) : Int))]) (fun (⟨k, t⟩ : Nat × Bytes) => []) (fun (⟨k, t⟩ : Nat × Bytes) => lines.length - k) ((0, [100, 100, 32, 73, 78, 32, 105, 110, 108, 105, 110, 101, 10]) : Nat × Bytes) ?_ ⟨rfl, rfl, rfl, rfl, rfl, rfl, trivial⟩ (fun _ h => h) ?_
  ·try dsimp only
   refine ⟨?_, ?_, ?_, ?_⟩
   ·first | rfl | omega | (simp_all; done) | (simp_all; omega)
   ·rfl
   ·exact fun i hi => absurd hi (Nat.not_lt_zero i)
   ·simp only [List.length_cons, List.length_nil]; omega
  rintro ⟨k, t⟩ hI1
  obtain ⟨i1_0, i1_1, i1_2, i1_3⟩ := hI1
  try dsimp only at i1_0
  try dsimp only at i1_1
  try dsimp only at i1_2
  try dsimp only at i1_3
  try dsimp only
  refine q_ (g_ (s_ (x_lss_i rfl rfl) (z_ (n_ (q_ ?_)))))
  refine ifd (fun h2w h2 => ?_) (fun h2w h2 => ?_)
  ·refine sk_ (n_ (q_ (k_ (q_ (g_ (r_ (ixM (cells_ro linesR) Tryd.underlying24 Ty.sz9) (r_ (ldM vS [] (cells_ro linesR) Ty.sc9) (s_ av_ (z_ (n_ (q_ (q_ (g_ (s_ mv_ (s_ (x_len_s rfl Tryd.underlying9) (s_ (x_gtr_i rfl rfl) (s_ mv_ ?_)))))))))))))))))
   refine or_ 2 (decide ((lines.getD k []) = ([47, 42] : Bytes))) (fun g3 => ?_) ?_
   ·have g3r := g3
    have g3r := of_decide_eq_false g3r
    refine sg_ g3 mv_ (jg_ g3 (vB (decide ((lines.getD k []) = ([47, 42] : Bytes)))) (x_eql_s rfl rfl) ?_)
    exact cr_
   refine s_ mv_ ?_
   refine or_ 2 (decide (10 ∈ (lines.getD k []))) (fun g4 => ?_) ?_
   ·have g4r := g4
    have ⟨g4r, h5⟩ := bor_false g4r
    have g4r := of_decide_eq_false g4r
    have h5 := of_decide_eq_false h5
    refine sg_ g4 mv_ (c0g g4 (cl_ Ty.ca18) (fun w hS => cont_ok 10 _ w) ?_)
    exact cr_
   refine z_ (n_ ?_)
   refine if_ (fun h6 => ?_) (fun h6 => ?_)
   ·have h6w := h6
    simp only [Bool.and_eq_true, Bool.or_eq_true, Bool.and_eq_false_iff, Bool.or_eq_false_iff, Bool.not_eq_true', Bool.not_eq_false', decide_eq_true_eq, decide_eq_false_iff_not] at h6
    refine q_ (g_ (s_ av_ (z_ (n_ (rt_ (nr_ (kq_ (nr_ (rr_ (kq_ (nr_ ?_)))))))))))
    exact p1 Tryd.results6 rfl ⟨rfl, rfl⟩
   ·have h6w := h6
    have ⟨h6, h7⟩ := bor_false h6
    have ⟨h6, h8⟩ := bor_false h6
    have h6 := of_decide_eq_false h6
    have h8 := of_decide_eq_false h8
    have h7 := of_decide_eq_false h7
    refine sk_ (n_ (g_ (s_ mv_ (s_ mv_ (js_ (vS ((lines.getD k []) ++ [10])) (x_cat_s rfl rfl c39q0_) (s_ (x_cat_s rfl rfl c39q0_) (s_ av_ (z_ (kx_ (n_ (g_ (s_ (x_add_n (a := k) (b := 1) rfl rfl (by omega)) (s_ mv_ (z_ ?_))))))))))))))
    refine JX_round ((k + 1, t ++ ((lines.getD k []) ++ [10])) : Nat × Bytes) ?_ ?_ ⟨rfl, rfl, rfl, rfl, rfl, rfl, trivial⟩ (fun _ h => h)
    ·try dsimp only
     refine ⟨?_, ?_, ?_, ?_⟩
     ·first | rfl | omega | (simp_all; done) | (simp_all; omega)
     ·exact R39.data_step (by omega) i1_1
     ·exact R39.all_step (p := R39.DataP) i1_2 (R39.dataP_of (by assumption))
     ·simp only [List.length_append, List.length_cons, List.length_nil]; omega
    ·try dsimp only
     first | omega | (simp; omega) | (simp_all; omega)
  ·refine J_exit (ne_ (re_ (kh_ (n_ (q_ ?_)))))
   refine q_ (g_ (s_ mv_ (js_ (vU8 (more % 70)) (x_rem_u8 rfl rfl (by decide)) (s_ mv_ (z_ (n_ (k_ ?_)))))))
   refine J_loop (X := UInt8 × Bytes) (fun (⟨j, t2⟩ : UInt8 × Bytes) => (t2 = R39.dataT (R39.dataL lines j.toNat)) ∧ (j.toNat ≤ (more % 70).toNat) ∧ (t2.length ≤ 13 + 201 * lines.length + 2 * j.toNat)) (fun (⟨j, t2⟩ : UInt8 × Bytes) => [(0, vL linesA lines.length linesC), (1, vU8 more), (5, vS t2), (43, vU8 (more % 70)), (44, vU8 j)]) (fun (⟨j, t2⟩ : UInt8 × Bytes) => []) (fun (⟨j, t2⟩ : UInt8 × Bytes) => (more % 70).toNat - j.toNat) (((0 : UInt8), t) : UInt8 × Bytes) ?_ ⟨rfl, rfl, rfl, rfl, rfl, trivial⟩ (fun _ h => h) ?_
   ·try dsimp only
    refine ⟨?_, ?_, ?_⟩
    ·exact R39.dataL_0 i1_1 (by omega)
    ·exact Nat.zero_le _
    ·first | rfl | omega | (simp_all; done) | (simp_all; omega)
   rintro ⟨j, t2⟩ hI2
   obtain ⟨i2_0, i2_1, i2_2⟩ := hI2
   try dsimp only at i2_0
   try dsimp only at i2_1
   try dsimp only at i2_2
   try dsimp only
   refine q_ (g_ (s_ (x_lss_u8 rfl rfl) (z_ (n_ (q_ ?_)))))
   refine ifd (fun h9w h9 => ?_) (fun h9w h9 => ?_)
   ·have hus := R39.u8_succ (by assumption)
    have hul := R39.u8_lt (by assumption)
    refine sk_ (n_ (q_ (k_ (g_ (s_ mv_ (js_ (vS (t2 ++ [35, 10])) (x_cat_s rfl rfl c39q0_) (s_ av_ (z_ (kx_ (n_ (g_ (js_ (vU8 (j + 1)) (x_add_u8 rfl rfl) (s_ mv_ (z_ ?_))))))))))))))
    refine JX_round ((j + 1, t2 ++ [35, 10]) : UInt8 × Bytes) ?_ ?_ ⟨rfl, rfl, rfl, rfl, rfl, trivial⟩ (fun _ h => h)
    ·try dsimp only
     refine ⟨?_, ?_, ?_⟩
     ·exact R39.dataL_step i2_0 hus
     ·rw [hus]; omega
     ·simp only [List.length_append, List.length_cons, List.length_nil]; omega
    ·try dsimp only
     omega
   ·refine J_exit (ne_ (re_ ?_))
    have hjt := R39.u8_end (by assumption) i2_1
    refine kh_ (n_ (q_ (g_ (s_ mv_ (js_ (vS (t2 ++ [47, 42, 10, 115, 116, 101, 112, 32, 83, 10])) (x_cat_s rfl rfl c39q0_) ?_)))))
    refine JO_callB [] [] [] rfl trivial (fun _ => x_call Ty.ca19 rfl) (fun _ h => h) (fun _ h => by cases h) (fun w hS => f19_ok _ w (hT.on hS (fun _ h => by cases h)) hy_) ?_
    rintro wc _ _ wbhB16 ⟨fl10, fc11, y12, yA13, yC14, rfl, rfl, kf17, hf15⟩ hc0 hB16
    have linesR := linesR.again hB16
    have hT := hT.again hB16
    have kf170 := kf17.mono (lown_rangeAF (w00 := w) hc0 hc0.fr.size)
    have kf17 := kf17.mono (lown_rangeA hc0)
    have ha18 := R39.exp_num (by assumption : R39.ExpJ (t2 ++ [47, 42, 10, 115, 116, 101, 112, 32, 83, 10]) y12 fl10 fc11)
    try simp only [List.length_cons, List.length_nil, Nat.zero_add, Nat.reduceAdd, Nat.reduceMul] at ha18
    refine s_ mv_ (s_ (ex_ 0) (s_ (ex_ 1) (s_ (ex_ 2) (s_ av_ (s_ av_ (s_ av_ (z_ (n_ (q_ (g_ (s_ mv_ ?_)))))))))))
    refine JO_callB [] [] [Ent.row (.slice yA13 y12.length yC14) 40 4 y12.length (y12.flatMap Statement.enc)] rfl trivial (fun _ => x_call Ty.ca19 rfl) (fun _ h => h) (fun _ h => by cases h) (fun w hS => f19_ok t2 w (hT.on hS (fun _ h => by cases h)) hy_) ?_
    rintro wc _ _ wbhB25 ⟨fl19, fc20, y21, yA22, yC23, rfl, rfl, kf26, hf24⟩ hc0 hB25
    have linesR := linesR.again hB25
    have hT := hT.again hB25
    have kf170 := kf170.againF hB25
    have kf17 := kf17.again hB25
    have kf260 := kf26.mono (lown_rangeAF (w00 := w) hc0 (hB16.back _ _ hc0).fr.size)
    have kf26 := kf26.mono (lown_rangeA hc0)
    have ha27 := R39.exp_num (by assumption : R39.ExpJ t2 y21 fl19 fc20)
    refine s_ mv_ (s_ (ex_ 0) (s_ (ex_ 1) (s_ (ex_ 2) (s_ av_ (s_ av_ (s_ av_ (z_ (xk_ [0, 1, 5, 8, 9, 10, 11, 12, 13] ?_))))))))
    refine n_ (q_ (g_ (s_ mv_ (s_ (lnS Tryd.underlying24) (s_ mv_ (js_ (vU8 (more % 70)) (x_rem_u8 rfl rfl (by decide)) (s_ (x_conv_u8_i64 rfl Tryd.underlying5 Tryd.underlying3) (s_ (x_add_n (a := lines.length) (b := (more % 70).toNat) rfl rfl (by omega)) (s_ av_ (z_ (n_ (q_ (q_ (g_ (s_ mv_ ?_)))))))))))))))
    refine s_ (x_len_s rfl Tryd.underlying9) (s_ (x_gtr_i rfl rfl) (z_ (n_ ?_)))
    refine ifd (fun h28w h28 => ?_) (fun h28w h28 => ?_)
    ·refine q_ (g_ (s_ av_ (z_ (n_ (rt_ (nr_ ?_))))))
     refine JX_retsC [_] _ Tryd.results6 (fun w h => ⟨rfl, trivial⟩) rfl _ (fun _ h => h.keep [false, false] rfl) (fun _ _ h => (hB16.back _ _ (hB25.back _ _ h))) ⟨?_, ?_⟩
     ·rfl
     ·rfl
    ·have hdl := (R39.data_law i2_0 (by omega) i1_2 (by omega) (by omega) hf15 hf24)
     rw [hjt] at hdl
     refine sk_ (n_ (q_ (q_ (g_ (s_ mv_ (s_ (x_gtr_i rfl rfl) (z_ (xk_ [0, 8, 9, 10, 11, 12, 13, 14, 72] ?_))))))))
     refine n_ ?_
     refine ifd (fun h29w h29 => ?_) (fun h29w h29 => ?_)
     ·obtain ⟨hd1, hd2, hd3, hd4, hd5, hd6⟩ := hdl.much (by omega)
      have hd7 := congrArg List.length hd5
      have hd8 := congrArg List.length hd6
      rw [List.length_nil] at hd7 hd8
      refine q_ (g_ (s_ mv_ (s_ (x_eql_i rfl rfl) (s_ mv_ ?_))))
      refine and_ 2 (decide (fl10 = 66)) (fun g30 => ?_) ?_
      ·have g30r := g30
       have g30r := of_decide_eq_true g30r
       refine sg_ g30 mv_ (sg_ g30 (x_eql_i rfl rfl) ?_)
       exact cr_
      refine s_ mv_ ?_
      refine and_ 2 (decide (fc20 = 8)) (fun g31 => ?_) ?_
      ·have g31r := g31
       have ⟨g31r, h32⟩ := band_true g31r
       have g31r := of_decide_eq_true g31r
       have h32 := of_decide_eq_true h32
       refine sg_ g31 mv_ (sg_ g31 (x_eql_i rfl rfl) ?_)
       exact cr_
      refine s_ mv_ ?_
      refine and_ 2 (decide (fl19 = 66)) (fun g33 => ?_) ?_
      ·have g33r := g33
       have ⟨g33r, h34⟩ := band_true g33r
       have ⟨g33r, h35⟩ := band_true g33r
       have g33r := of_decide_eq_true g33r
       have h35 := of_decide_eq_true h35
       have h34 := of_decide_eq_true h34
       refine sg_ g33 mv_ (sg_ g33 (x_eql_i rfl rfl) ?_)
       exact cr_
      refine s_ mv_ ?_
      refine and_ 6 (decide (((y12.length + y21.length : Nat) : Int) = 0)) (fun g36 => ?_) ?_
      ·have g36r := g36
       have ⟨g36r, h37⟩ := band_true g36r
       have ⟨g36r, h38⟩ := band_true g36r
       have ⟨g36r, h39⟩ := band_true g36r
       have g36r := of_decide_eq_true g36r
       have h39 := of_decide_eq_true h39
       have h38 := of_decide_eq_true h38
       have h37 := of_decide_eq_true h37
       refine sg_ g36 mv_ (sg_ g36 (lnS Tryd.underlying36) (sg_ g36 mv_ (sg_ g36 (lnS Tryd.underlying36) (sg_ g36 (x_add_n (a := y12.length) (b := y21.length) rfl rfl (by omega)) (sg_ g36 (x_eql_i rfl rfl) ?_)))))
       exact cr_
      refine s_ av_ (z_ (n_ (rt_ (nr_ ?_))))
      refine JX_retsC [_] _ Tryd.results6 (fun w h => ⟨rfl, trivial⟩) rfl _ (fun _ h => h.keep [false, false] rfl) (fun _ _ h => (hB16.back _ _ (hB25.back _ _ h))) ⟨?_, ?_⟩
      ·have e_x0 : (((((decide (fc11 = 8)) && (decide (fl10 = 66))) && (decide (fc20 = 8))) && (decide (fl19 = 66))) && (decide (((y12.length + y21.length : Nat) : Int) = 0)) : Bool) = true := by first | rfl | exact hdl.post1 (by assumption) | exact hdl.post2 (by assumption)
       exact congrArg (fun (x0 : Bool) => vB x0) e_x0
      ·rfl
     ·have hcp := (kf17.now 0).2.2
      obtain ⟨hd1, hd2, hd3, hd4, hd5, hd6, hd7, hd8⟩ := hdl.few (by omega)
      refine sk_ (n_ (q_ (g_ (s_ mv_ (s_ (x_eql_i rfl rfl) (s_ mv_ ?_))))))
      refine and_ 2 (decide (fl10 = 0)) (fun g40 => ?_) ?_
      ·have g40r := g40
       have g40r := of_decide_eq_true g40r
       refine sg_ g40 mv_ (sg_ g40 (x_eql_i rfl rfl) ?_)
       exact cr_
      refine s_ mv_ ?_
      refine and_ 3 (decide (((y12.length : Nat) : Int) = 2)) (fun g41 => ?_) ?_
      ·have g41r := g41
       have ⟨g41r, h42⟩ := band_true g41r
       have g41r := of_decide_eq_true g41r
       have h42 := of_decide_eq_true h42
       refine sg_ g41 mv_ (sg_ g41 (lnS Tryd.underlying36) (sg_ g41 (x_eql_i rfl rfl) ?_))
       exact cr_
      refine s_ mv_ ?_
      refine and_ 7 (decide ((((y12.getD 0 default).Data.length : Nat) : Int) = ((lines.length + ((more % 70).toNat) : Nat) : Int))) (fun g43 => ?_) ?_
      ·have g43r := g43
       have ⟨g43r, h44⟩ := band_true g43r
       have ⟨g43r, h45⟩ := band_true g43r
       have g43r := of_decide_eq_true g43r
       have h45 := of_decide_eq_true h45
       have h44 := of_decide_eq_true h44
       refine sg_ g43 mv_ (rg_ g43 (ixF (k := 0) Statement.enc_len (cells_row 1 rfl) Tryd.underlying36 Ty.sz40) (sg_ g43 (x_fieldAddr Ty.fi40_3 rfl (adr_add _ _ _)) (rg_ g43 (ldF (k := 0) 3 Statement.enc_len (cells_row 1 rfl) Ty.sc24) (sg_ g43 (lnS Tryd.underlying24) (sg_ g43 mv_ (sg_ g43 (x_eql_i rfl rfl) ?_))))))
       exact cr_
      refine s_ mv_ ?_
      refine and_ 9 (decide (((y12.getD 0 default).Data).take lines.length = lines)) (fun g46 => ?_) ?_
      ·have g46r := g46
       have ⟨g46r, h47⟩ := band_true g46r
       have ⟨g46r, h48⟩ := band_true g46r
       have ⟨g46r, h49⟩ := band_true g46r
       have g46r := of_decide_eq_true g46r
       have h49 := of_decide_eq_true h49
       have h48 := of_decide_eq_true h48
       have h47 := of_decide_eq_true h47
       refine sg_ g46 mv_ (rg_ g46 (ixF (k := 0) Statement.enc_len (cells_row 1 rfl) Tryd.underlying36 Ty.sz40) (sg_ g46 (x_fieldAddr Ty.fi40_3 rfl (adr_add _ _ _)) (rg_ g46 (ldF (k := 0) 3 Statement.enc_len (cells_row 1 rfl) Ty.sc24) (sg_ g46 mv_ (sg_ g46 (lnS Tryd.underlying24) (sg_ g46 (x_head rfl Tryd.underlying24 Ty.sz9 rfl lt_) (sg_ g46 mv_ (c0g g46 (cl_ Ty.ca14) (fun w hS => texts_head _ _ _ _ _ _ _ w ((Kp.ro (kf17.imp fun _ h => (h 0).2.1)).on hS (fun _ h => by cases h)) (rno linesR hS) hy_ hy_ hy_) ?_))))))))
       exact cr_
      refine s_ mv_ ?_
      refine and_ 7 (decide ((y12.getD 1 default).Line = (((lines.length + ((more % 70).toNat)) + 3 : Nat) : Int))) (fun g50 => ?_) ?_
      ·have g50r := g50
       have ⟨g50r, h51⟩ := band_true g50r
       have ⟨g50r, h52⟩ := band_true g50r
       have ⟨g50r, h53⟩ := band_true g50r
       have ⟨g50r, h54⟩ := band_true g50r
       have g50r := of_decide_eq_true g50r
       have h54 := of_decide_eq_true h54
       have h53 := of_decide_eq_true h53
       have h52 := of_decide_eq_true h52
       have h51 := of_decide_eq_true h51
       refine sg_ g50 mv_ (rg_ g50 (ixF (k := 1) Statement.enc_len (cells_row 1 rfl) Tryd.underlying36 Ty.sz40) (sg_ g50 (x_fieldAddr Ty.fi40_0 rfl rfl) (rg_ g50 (ldF (k := 1) 0 Statement.enc_len (cells_row 1 rfl) Ty.sc3) (sg_ g50 mv_ (sg_ g50 (x_add_n (a := lines.length + ((more % 70).toNat)) (b := 3) rfl rfl (by omega)) (sg_ g50 (x_eql_i rfl rfl) ?_))))))
       exact cr_
      refine s_ mv_ ?_
      refine and_ 2 (decide (fc20 = 3)) (fun g55 => ?_) ?_
      ·have g55r := g55
       have ⟨g55r, h56⟩ := band_true g55r
       have ⟨g55r, h57⟩ := band_true g55r
       have ⟨g55r, h58⟩ := band_true g55r
       have ⟨g55r, h59⟩ := band_true g55r
       have ⟨g55r, h60⟩ := band_true g55r
       have g55r := of_decide_eq_true g55r
       have h60 := of_decide_eq_true h60
       have h59 := of_decide_eq_true h59
       have h58 := of_decide_eq_true h58
       have h57 := of_decide_eq_true h57
       have h56 := of_decide_eq_true h56
       refine sg_ g55 mv_ (sg_ g55 (x_eql_i rfl rfl) ?_)
       exact cr_
      refine s_ mv_ ?_
      refine and_ 2 (decide (fl19 = 1)) (fun g61 => ?_) ?_
      ·have g61r := g61
       have ⟨g61r, h62⟩ := band_true g61r
       have ⟨g61r, h63⟩ := band_true g61r
       have ⟨g61r, h64⟩ := band_true g61r
       have ⟨g61r, h65⟩ := band_true g61r
       have ⟨g61r, h66⟩ := band_true g61r
       have ⟨g61r, h67⟩ := band_true g61r
       have g61r := of_decide_eq_true g61r
       have h67 := of_decide_eq_true h67
       have h66 := of_decide_eq_true h66
       have h65 := of_decide_eq_true h65
       have h64 := of_decide_eq_true h64
       have h63 := of_decide_eq_true h63
       have h62 := of_decide_eq_true h62
       refine sg_ g61 mv_ (sg_ g61 (x_eql_i rfl rfl) ?_)
       exact cr_
      refine s_ av_ (z_ (xk_ [4] ?_))
      refine n_ (rt_ ?_)
      refine JX_retsC [_] _ Tryd.results6 (fun w h => ⟨rfl, trivial⟩) rfl _ (fun _ h => h.keep [false, false] rfl) (fun _ _ h => (hB16.back _ _ (hB25.back _ _ h))) ⟨?_, ?_⟩
      ·have e_x0 : ((((((((decide (fc11 = 0)) && (decide (fl10 = 0))) && (decide (((y12.length : Nat) : Int) = 2))) && (decide ((((y12.getD 0 default).Data.length : Nat) : Int) = ((lines.length + ((more % 70).toNat) : Nat) : Int)))) && (decide (((y12.getD 0 default).Data).take lines.length = lines))) && (decide ((y12.getD 1 default).Line = (((lines.length + ((more % 70).toNat)) + 3 : Nat) : Int)))) && (decide (fc20 = 3))) && (decide (fl19 = 1)) : Bool) = true := by first | rfl | exact hdl.post1 (by assumption) | exact hdl.post2 (by assumption)
       exact congrArg (fun (x0 : Bool) => vB x0) e_x0
      ·rfl
end Go.Proofs.YtbfiibgmgopnaaaDoor


