/- Pl39f, Pl39g, Pl39s, C39o, Pl39t, Pl39u, GvJ, C39p, Pl39v, C39q in one text. -/
import Derived.Test.YtbfiibgmgopnaaaDoorJobtextCalls16
import Derived.Test.YtbfiibgmgopnaaaDoorJobtextCalls6
set_option linter.unusedVariables false
set_option linter.unusedSimpArgs false
namespace Go.Proofs.YtbfiibgmgopnaaaDoor
open Go.GV
namespace R39
structure Tame (s : Bytes) : Prop where
  amp : (38 : UInt8) ∉ s
  len : s.length ≤ 1000
  word : ∀ ws, scan s = some ws → ws ≠ [] → ws.getD 0 [] ≠ wSET ∧ ws.getD 0 [] ≠ wPROC ∧ ws.getD 0 [] ≠ wCALL ∧ ws.getD 0 [] ≠ wEND
theorem replV_plain {m : Syms} {s : Bytes} (h : (38 : UInt8) ∉ s) (hl : s.length ≤ 1000) : replV m s = .ok s := by
  unfold replV; rw [repl_plain h]; exact if_neg (by omega)
def wX : Bytes := [88]
def inX (s : Stm) : Stm := { s with line := s.line + 1, call := wX }
def RelX : Res RS → Res RS → Prop
  | .error a, .error b => b = (a.1 + 1, a.2)
  | .ok s, .ok t => t.out = s.out.map inX
  | _, _ => False
def RelL : Res (Nat × RS) → Res (Nat × RS) → Prop
  | .error a, .error b => b = (a.1 + 1, a.2)
  | .ok (k, s), .ok (j, t) => j = k ∧ t.out = s.out.map inX
  | _, _ => False
theorem stmV_X {n : Int} {ws : List Bytes} {r : List Row} {s t : RS} (h : t.out = s.out.map inX) : RelL (stmV n [] ws r s) (stmV (n + 1) wX ws (r.map (sh 1)) t) := by
  unfold stmV
  rw [h, List.length_map]
  split
  · exact rfl
  · split
    · have e := inl_sh (d := 1) n 0 r
      rw [show n + ((1 : Nat) : Int) = n + 1 from rfl] at e
      rw [e]
      cases inl n 0 r with
      | error e => exact rfl
      | ok l => exact ⟨rfl, by rw [List.map_append]; rfl⟩
    · exact ⟨rfl, by rw [List.map_append]; rfl⟩
theorem line_X {x : Row} {r : List Row} {s t : RS} (hx : Tame x.text) (h : t.out = s.out.map inX) : RelL (lineOut x r s) (lineIn wX (sh 1 x) (r.map (sh 1)) t) := by
  unfold lineOut lineIn
  show RelL _ (if idle x.text = true then _ else match replV t.syms x.text with | .error e => _ | .ok z => _)
  rw [replV_plain hx.amp hx.len, replV_plain hx.amp hx.len]
  split
  · exact ⟨rfl, h⟩
  · show RelL (match scan x.text with | none => _ | some ws => _) (match scan x.text with | none => _ | some ws => _)
    cases hs : scan x.text with
    | none => exact rfl
    | some ws =>
      show RelL (if ws = [] then _ else _) (if ws = [] then _ else _)
      split
      · exact ⟨rfl, h⟩
      · rename_i hne
        obtain ⟨h1, h2, h3, h4⟩ := hx.word ws hs hne
        split
        · exact stmV_X h
        · try rw [if_neg h1, if_neg h2, if_neg h4, if_neg h3]
          rw [if_neg (by simp only [h1, h2, h3, h4, or_self, not_false_iff])]
          exact rfl
theorem read_X : ∀ (n : Nat) (l : List Row) (s t : RS), l.length < n → (∀ x ∈ l, Tame x.text) → t.out = s.out.map inX → RelX (readOut l s) (readIn wX (l.map (sh 1)) t)
  | 0, _, _, _, h, _, _ => absurd h (Nat.not_lt_zero _)
  | n + 1, [], s, t, _, _, h => h
  | n + 1, x :: r, s, t, hn, hl, h => by
    rw [List.length_cons] at hn
    have hx := line_X (r := r) (hl x List.mem_cons_self) h
    rw [List.map_cons, readOut_cons, readIn_cons]
    cases h1 : lineOut x r s with
    | error e =>
      rw [h1] at hx
      cases h2 : lineIn wX (sh 1 x) (r.map (sh 1)) t with
      | error e2 => rw [h2] at hx; exact hx
      | ok p => rw [h2] at hx; exact hx.elim
    | ok p =>
      obtain ⟨k, s'⟩ := p
      rw [h1] at hx
      cases h2 : lineIn wX (sh 1 x) (r.map (sh 1)) t with
      | error e2 => rw [h2] at hx; exact hx.elim
      | ok p =>
        obtain ⟨j, t'⟩ := p
        rw [h2] at hx
        obtain ⟨rfl, hx⟩ := hx
        show RelX (readOut (r.drop j) s') (readIn wX ((r.map (sh 1)).drop j) t')
        rw [← List.map_drop]
        exact read_X n _ s' t' (by rw [List.length_drop]; omega) (fun y hy => hl y (List.mem_cons_of_mem _ (List.mem_of_mem_drop hy))) hx
theorem findEnd_tame : ∀ {l : List Row} {x : Row} {r : List Row}, (∀ y ∈ l, Tame y.text) → isEnd x.text = true → findEnd (l ++ x :: r) = some l.length
  | [], x, r, _, hx => by rw [List.nil_append, findEnd, if_pos hx]; rfl
  | y :: l, x, r, h, hx => by
    have hy : ¬ isEnd y.text = true := fun e => by
      have e := of_decide_eq_true e
      exact ((h y List.mem_cons_self).word _ e (by simp)).2.2.2 rfl
    rw [List.cons_append, findEnd, if_neg hy, findEnd_tame (fun z hz => h z (List.mem_cons_of_mem _ hz)) hx]; rfl
def tPROC : Bytes := [112, 114, 111, 99, 32, 80]
def tCALL : Bytes := [99, 97, 108, 108, 32, 88, 32, 80]
theorem law_calls {l : List Bytes} (hl : ∀ s ∈ l, (10 : UInt8) ∉ s) (ht : ∀ s ∈ l, Tame s) (h0 : l.length ≤ 40) (h1 : (body l).length ≤ 10000) :
    match expand (body l), expand ((tPROC ++ [10]) ++ body l ++ (wEND ++ [10] ++ (tCALL ++ [10]))) with
    | .error a, .error b => b = (a.1 + 1, a.2)
    | .ok a, .ok b => b = a.map inX
    | _, _ => False := by
  have e0 : linesV (body l) = l := by have := lines_body (b := []) hl; rwa [List.append_nil, show linesV [] = [] from rfl, List.append_nil] at this
  have e1 : linesV ((tPROC ++ [10]) ++ body l ++ (wEND ++ [10] ++ (tCALL ++ [10]))) = tPROC :: (l ++ [wEND, tCALL]) := by
    rw [List.append_assoc, List.append_assoc]
    show linesV (tPROC ++ 10 :: (body l ++ _)) = _
    rw [lines_pre (by decide), lines_body hl]; rfl
  have e2 : rowsV ((tPROC ++ [10]) ++ body l ++ (wEND ++ [10] ++ (tCALL ++ [10]))) = ⟨1, tPROC⟩ :: ((number 0 l).map (sh 1) ++ [⟨((1 + l.length + 1 : Nat) : Int), wEND⟩, ⟨((1 + l.length + 1 + 1 : Nat) : Int), tCALL⟩]) := by
    unfold rowsV; rw [e1, number, number_app, number_sh 1 0 l]; rfl
  have e3 : rowsV (body l) = number 0 l := by unfold rowsV; rw [e0]
  have hT : ∀ y ∈ (number 0 l), Tame y.text := fun y hy => ht _ (number_mem hy)
  have hT1 : ∀ y ∈ (number 0 l).map (sh 1), Tame y.text := fun y hy => by
    obtain ⟨z, hz, rfl⟩ := List.mem_map.1 hy; exact hT z hz
  have hlen : ((tPROC ++ [10]) ++ body l ++ (wEND ++ [10] ++ (tCALL ++ [10]))).length = (body l).length + 20 := by
    simp only [List.length_append]; show 6 + 1 + (body l).length + (3 + 1 + (8 + 1)) = _; omega
  unfold expand
  rw [e3, if_neg (by rw [number_len]; omega), if_neg (by rw [hlen, e2]; simp only [List.length_append, List.length_cons, List.length_nil, List.length_map, number_len]; omega), e2, readOut_cons]
  have hp : lineOut ⟨1, tPROC⟩ ((number 0 l).map (sh 1) ++ [⟨((1 + l.length + 1 : Nat) : Int), wEND⟩, ⟨((1 + l.length + 1 + 1 : Nat) : Int), tCALL⟩]) rs0
      = .ok (l.length + 1, { rs0 with procs := [([80], ⟨[], (number 0 l).map (sh 1)⟩)] }) := by
    unfold lineOut
    rw [if_neg (by decide), replV_plain (by decide) (by decide)]
    dsimp only
    rw [show scan tPROC = some [wPROC, [80]] by decide]
    dsimp only
    rw [if_neg (by decide), if_neg (by decide), if_neg (by decide), if_pos (by decide)]
    unfold procV
    rw [if_neg (by decide)]
    rw [show valsV (List.drop 2 [wPROC, [80]]) = some [] from rfl]
    dsimp only
    rw [if_neg (by decide), findEnd_tame hT1 (show isEnd wEND = true by decide), List.length_map, number_len]
    show Except.ok (l.length + 1, (⟨_, _, _⟩ : RS)) = _
    rw [List.take_append_of_le_length (by rw [List.length_map, number_len]; exact Nat.le_refl _), List.take_of_length_le (by rw [List.length_map, number_len]; exact Nat.le_refl _)]
    rfl
  rw [hp]
  show (match (readOut (number 0 l) rs0).map (·.out), (readOut (((number 0 l).map (sh 1) ++ [_, _]).drop (l.length + 1)) _).map (·.out) with | .error a, .error b => _ | .ok a, .ok b => _ | _, _ => _)
  have hd : ((number 0 l).map (sh 1) ++ [(⟨((1 + l.length + 1 : Nat) : Int), wEND⟩ : Row), ⟨((1 + l.length + 1 + 1 : Nat) : Int), tCALL⟩]).drop (l.length + 1) = [⟨((1 + l.length + 1 + 1 : Nat) : Int), tCALL⟩] := by
    rw [List.drop_append, List.length_map, number_len, List.drop_of_length_le (by rw [List.length_map, number_len]; omega)]
    rw [show l.length + 1 - l.length = 1 by omega]; rfl
  rw [hd, readOut_cons]
  have hR := read_X ((number 0 l).length + 1) (number 0 l) rs0 { rs0 with procs := [([80], ⟨[], (number 0 l).map (sh 1)⟩)], syms := over (over rs0.syms []) [] } (Nat.lt_succ_self _) hT rfl
  have hc : ∀ (x : Row), x.text = tCALL → lineOut x [] { rs0 with procs := [([80], ⟨[], (number 0 l).map (sh 1)⟩)] } = (match readIn wX ((number 0 l).map (sh 1)) { rs0 with procs := [([80], ⟨[], (number 0 l).map (sh 1)⟩)], syms := over (over rs0.syms []) [] } with
      | .error e => .error e
      | .ok s' => .ok (0, { s' with syms := rs0.syms })) := by
    intro x hx
    unfold lineOut
    rw [hx, if_neg (by decide), replV_plain (by decide) (by decide)]
    dsimp only
    rw [show scan tCALL = some [wCALL, wX, [80]] by decide]
    dsimp only
    rw [if_neg (by decide), if_neg (by decide), if_neg (by decide), if_neg (by decide), if_neg (by decide), if_pos (by decide)]
    unfold callV
    rw [if_neg (by decide)]
    rfl
  rw [hc _ rfl]
  cases h1 : readOut (number 0 l) rs0 with
  | error e =>
    rw [h1] at hR
    cases h2 : readIn wX ((number 0 l).map (sh 1)) { rs0 with procs := [([80], ⟨[], (number 0 l).map (sh 1)⟩)], syms := over (over rs0.syms []) [] } with
    | error e2 => rw [h2] at hR; exact hR
    | ok p => rw [h2] at hR; exact hR.elim
  | ok s =>
    rw [h1] at hR
    cases h2 : readIn wX ((number 0 l).map (sh 1)) { rs0 with procs := [([80], ⟨[], (number 0 l).map (sh 1)⟩)], syms := over (over rs0.syms []) [] } with
    | error e2 => rw [h2] at hR; exact hR.elim
    | ok p => rw [h2] at hR; exact hR
end R39
end Go.Proofs.YtbfiibgmgopnaaaDoor

namespace Go.Proofs.YtbfiibgmgopnaaaDoor
open Go.GV
namespace R39
def Fine (s : Bytes) : Prop := s ≠ wSTOP ∧ s.length ≤ 200
def tDD : Bytes := [100, 100, 32, 73, 78, 32, 105, 110, 108, 105, 110, 101]
def tS : Bytes := [115, 116, 101, 112, 32, 83]
end R39
end Go.Proofs.YtbfiibgmgopnaaaDoor

namespace Go.Proofs.YtbfiibgmgopnaaaDoor
open Go.GV
namespace R39
theorem same_len {a b : List Statement} (h : a.length ≠ b.length) : false = decide (a.map pur = b.map pur) := by
  refine (decide_eq_false fun e => ?_).symm
  have := congrArg List.length e
  rw [List.length_map, List.length_map] at this; exact h this
def sameS (a b : Statement) : Bool := ((decide (a.Line = b.Line) && decide (a.Call = b.Call)) && decide (a.Words = b.Words)) && decide (a.Data = b.Data)
theorem sameS_true {a b : Statement} (h : sameS a b = true) : pur a = pur b := by
  unfold sameS at h
  simp only [Bool.and_eq_true, decide_eq_true_eq] at h
  obtain ⟨⟨⟨h1, h2⟩, h3⟩, h4⟩ := h
  unfold pur; rw [h1, h2, h3, h4]
theorem sameS_false {a b : Statement} (h : sameS a b = false) : pur a ≠ pur b := fun e => by
  unfold pur at e; injection e with h1 h2 h3 h4
  unfold sameS at h; rw [h1, h2, h3, h4] at h; simp at h
theorem pur_at {a b : List Statement} {i : Nat} (h : i < a.length) (h2 : i < b.length) : a.map pur = b.map pur → pur (a.getD i default) = pur (b.getD i default) := fun e => by
  have := congrArg (fun l : List Stm => l[i]?) e
  simp only [List.getElem?_map, List.getElem?_eq_getElem h, List.getElem?_eq_getElem h2, Option.map_some, Option.some.injEq] at this
  rw [List.getD_eq_getElem?_getD, List.getD_eq_getElem?_getD, List.getElem?_eq_getElem h, List.getElem?_eq_getElem h2]; exact this
theorem same_bad {a b : List Statement} {i : Nat} (h : i < a.length) (hl : a.length = b.length) (hb : sameS (a.getD i default) (b.getD i default) = false) : false = decide (a.map pur = b.map pur) :=
  (decide_eq_false fun e => sameS_false hb (pur_at h (by omega) e)).symm
theorem same_end {a b : List Statement} (hl : a.length = b.length) (h : ∀ i, i < a.length → pur (a.getD i default) = pur (b.getD i default)) : true = decide (a.map pur = b.map pur) := by
  refine (decide_eq_true ?_).symm
  apply List.ext_getElem (by rw [List.length_map, List.length_map, hl])
  intro i h1 h2
  rw [List.length_map] at h1 h2
  have := h i h1
  rw [List.getD_eq_getElem?_getD, List.getD_eq_getElem?_getD, List.getElem?_eq_getElem h1, List.getElem?_eq_getElem h2] at this
  rw [List.getElem_map, List.getElem_map]; exact this
theorem same_step {a b : List Statement} {k : Nat} (h : ∀ i, i < k → pur (a.getD i default) = pur (b.getD i default)) (hk : sameS (a.getD k default) (b.getD k default) = true) : ∀ i, i < k + 1 → pur (a.getD i default) = pur (b.getD i default) := fun i hi => by
  by_cases e : i = k
  · rw [e]; exact sameS_true hk
  · exact h i (by omega)
def preM (f : Statement → Statement) (y : List Statement) (k : Nat) : List Statement := (y.take k).map f ++ y.drop k
theorem preM_0 {f : Statement → Statement} {y : List Statement} : y = preM f y 0 := rfl
theorem preM_len {f : Statement → Statement} {y : List Statement} {k : Nat} : (preM f y k).length = y.length := by
  unfold preM; rw [List.length_append, List.length_map, List.length_take, List.length_drop]; omega
theorem preM_at {f : Statement → Statement} {y : List Statement} {k : Nat} (h : k < y.length) : (preM f y k).getD k default = y.getD k default := by
  unfold preM
  rw [List.getD_eq_getElem?_getD, List.getD_eq_getElem?_getD, List.getElem?_append_right (by rw [List.length_map, List.length_take]; omega), List.getElem?_drop, List.length_map, List.length_take]
  congr 2; omega
theorem preM_step {f : Statement → Statement} {y : List Statement} {k : Nat} (h : k < y.length) {a : Statement} (ha : a = f (y.getD k default)) : (preM f y k).set k a = preM f y (k + 1) := by
  unfold preM
  have hl : ((y.take k).map f).length = k := by rw [List.length_map, List.length_take]; omega
  rw [List.set_append_right _ _ (by omega), hl, Nat.sub_self, List.drop_eq_getElem_cons h, List.set_cons_zero, List.take_add_one, List.getElem?_eq_getElem h, List.map_append, List.append_assoc, ha, List.getD_eq_getElem?_getD, List.getElem?_eq_getElem h]; rfl
theorem preM_done {f : Statement → Statement} {g : Stm → Stm} {y : List Statement} {k : Nat} (h : ¬ k < y.length) (hf : ∀ e, pur (f e) = g (pur e)) : (preM f y k).map pur = (y.map pur).map g := by
  unfold preM
  rw [List.take_of_length_le (by omega), List.drop_eq_nil_of_le (by omega), List.append_nil, List.map_map, List.map_map]
  exact List.map_congr_left fun e _ => hf e
def shF (d : Int) (e : Statement) : Statement := ⟨e.Line + d, e.Call, e.Words, e.WordsA, e.WordsC, e.Data, e.DataA, e.DataC⟩
theorem all_step {p : Bytes → Prop} {l : List Bytes} {k : Nat} (h : ∀ i, i < k → p (l.getD i [])) (h1 : p (l.getD k [])) : ∀ i, i < k + 1 → p (l.getD i []) := fun i hi => by
  by_cases e : i = k
  · rw [e]; exact h1
  · exact h i (by omega)
theorem all_of {p : Bytes → Prop} {l : List Bytes} {k : Nat} (h : ∀ i, i < k → p (l.getD i [])) (hk : ¬ k < l.length) : ∀ s ∈ l, p s := fun s hs => by
  obtain ⟨i, hi, e⟩ := List.mem_iff_getElem.1 hs
  have := h i (by omega)
  rw [List.getD_eq_getElem?_getD, List.getElem?_eq_getElem hi, Option.getD_some, e] at this
  exact this
structure Two (d : Int) (g : Stm → Stm) (y b : List Statement) (n e m f : Int) : Prop where
  code : e = f
  len : y.length = b.length
  line : e ≠ 0 → m = n + d
  same : (y.map pur).map g = b.map pur
theorem Two.no {d : Int} {g : Stm → Stm} {y b : List Statement} {n e m f : Int} (h : Two d g y b n e m f) (hc : ((decide (e ≠ f) || decide (((y.length : Nat) : Int) ≠ ((b.length : Nat) : Int))) || (decide (e ≠ 0) && decide (m ≠ n + d))) = true) : False := by
  have h1 := h.code; have h2 := h.len; have h3 := h.line
  simp only [Bool.or_eq_true, Bool.and_eq_true, decide_eq_true_eq] at hc
  rcases hc with (hc | hc) | hc
  · exact hc h1
  · omega
  · exact hc.2 (h3 hc.1)
theorem Two.post {d : Int} {g : Stm → Stm} {f0 : Statement → Statement} {y b z : List Statement} {n e m f : Int} {k : Nat} (h : Two d g y b n e m f) (hf : ∀ e, pur (f0 e) = g (pur e)) (hz : z = preM f0 y k) (hk : ¬ k < y.length) : decide (z.map pur = b.map pur) = true := by
  rw [hz, preM_done hk hf, h.same]; exact decide_eq_true rfl
theorem preM_line {f : Statement → Statement} {y z : List Statement} {k : Nat} (hz : z = preM f y k) (h : ∀ i : Nat, 0 ≤ (y.getD i default).Line ∧ (y.getD i default).Line ≤ 512) : 0 ≤ (z.getD k default).Line ∧ (z.getD k default).Line ≤ 512 := by
  rcases Nat.lt_or_ge k y.length with hk | hk
  · rw [hz, preM_at hk]; exact h k
  · rw [List.getD_eq_getElem?_getD, List.getElem?_eq_none (by rw [hz, preM_len]; exact hk)]; decide
theorem preM_set {f : Statement → Statement} {y z : List Statement} {k : Nat} (hz : z = preM f y k) (h : k < y.length) {a : Statement} (ha : a = f (z.getD k default)) : z.set k a = preM f y (k + 1) := by
  rw [ha, hz, preM_at h]; exact preM_step h rfl
end R39
end Go.Proofs.YtbfiibgmgopnaaaDoor

namespace Go.Proofs.YtbfiibgmgopnaaaDoor
open Go.GV
set_option linter.unusedVariables false
set_option linter.unusedSimpArgs false
theorem c39o0_ {p : Prop} (h : p := by first | exact R39.same_len (by omega) | exact R39.same_bad (i := k) (by omega) i1_1 (bnot_true (by assumption)) | exact R39.same_end i1_1 (fun i hi => i1_2 i (by omega))) : p := h
set_option maxRecDepth 20000 in
theorem f40_ok (al : Int) (ac : Bytes) (aw : List Bytes) (awA : Option Addr) (awC : Nat) (ad : List Bytes) (adA : Option Addr) (adC : Nat) (bl : Int) (bc : Bytes) (bw : List Bytes) (bwA : Option Addr) (bwC : Nat) (bd : List Bytes) (bdA : Option Addr) (bdC : Nat) (w : World) (awR : RO [] w awA (aw.map vS)) (adR : RO [] w adA (ad.map vS)) (bwR : RO [] w bwA (bw.map vS)) (bdR : RO [] w bdA (bd.map vS)) (q0 : aw.length ≤ 9223372036854775807) (q1 : bw.length ≤ 9223372036854775807) (q2 : ad.length ≤ 9223372036854775807) (q3 : bd.length ≤ 9223372036854775807) : Calls Tryd.prog 40 #[vG [vI al, vS ac, vL awA aw.length awC, vL adA ad.length adC], vG [vI bl, vS bc, vL bwA bw.length bwC, vL bdA bd.length bdC]] w (Gives [] w fun v L => v = vB ((((decide (al = bl)) && (decide (ac = bc))) && (decide (aw = bw))) && (decide (ad = bd))) ∧ L = []) := by
 refine calls_J [] 31 Tryd.func40 rfl Tryd.ntmps40 [(0, _), (1, _)] rfl rfl (Give.nil w) ?_
 refine q_ (g_ (o_ (bxG fun b1 => ?_)))
 refine o_ (bxG fun b2 => ?_)
 refine s_ av_ (z_ (n_ (q_ (g_ (s_ (fA 0 Ty.fi40_0) (r_ (ld_ 1 Ty.sc3) (s_ (fA 0 Ty.fi40_0) (r_ (ld_ 0 Ty.sc3) (s_ (x_eql_i rfl rfl) (s_ mv_ ?_))))))))))
 refine and_ 5 (decide (ac = bc)) (fun g3 => ?_) ?_
 ·have g3r := g3
  have g3r := of_decide_eq_true g3r
  refine sg_ g3 (fA 1 Ty.fi40_1) (rg_ g3 (ld_ 1 Ty.sc9) (sg_ g3 (fA 1 Ty.fi40_1) (rg_ g3 (ld_ 0 Ty.sc9) (sg_ g3 (x_eql_s rfl rfl) ?_))))
  exact cr_
 refine s_ mv_ ?_
 refine and_ 5 (decide (aw = bw)) (fun g4 => ?_) ?_
 ·have g4r := g4
  have ⟨g4r, h5⟩ := band_true g4r
  have g4r := of_decide_eq_true g4r
  have h5 := of_decide_eq_true h5
  refine sg_ g4 (fA 2 Ty.fi40_2) (rg_ g4 (ld_ 1 Ty.sc24) (sg_ g4 (fA 2 Ty.fi40_2) (rg_ g4 (ld_ 0 Ty.sc24) (c0g g4 (cl_ Ty.ca14) (fun w hS => f14_ok aw awA awC bw bwA bwC w (rno awR hS) (rno bwR hS) hy_ hy_) ?_))))
  exact cr_
 refine s_ mv_ ?_
 refine and_ 5 (decide (ad = bd)) (fun g6 => ?_) ?_
 ·have g6r := g6
  have ⟨g6r, h7⟩ := band_true g6r
  have ⟨g6r, h8⟩ := band_true g6r
  have g6r := of_decide_eq_true g6r
  have h8 := of_decide_eq_true h8
  have h7 := of_decide_eq_true h7
  refine sg_ g6 (fA 3 Ty.fi40_3) (rg_ g6 (ld_ 1 Ty.sc24) (sg_ g6 (fA 3 Ty.fi40_3) (rg_ g6 (ld_ 0 Ty.sc24) (c0g g6 (cl_ Ty.ca14) (fun w hS => f14_ok ad adA adC bd bdA bdC w (rno adR hS) (rno bdR hS) hy_ hy_) ?_))))
  exact cr_
 refine s_ av_ (z_ (n_ (rt_ ?_)))
 exact p1 Tryd.results40 rfl ⟨rfl, rfl⟩
set_option maxRecDepth 20000 in
theorem f20_ok (a : List Statement) (aA : Option Addr) (aC : Nat) (b : List Statement) (bA : Option Addr) (bC : Nat) (w : World) (aR : RO [] w aA (a.flatMap Statement.enc)) (bR : RO [] w bA (b.flatMap Statement.enc)) (aN : Kp [] w (okL Statement.ok a)) (bN : Kp [] w (okL Statement.ok b)) (q0 : a.length ≤ 9223372036854775807) (q1 : ∀ i, (a.getD i default).Words.length ≤ 9223372036854775807) (q2 : ∀ i, (a.getD i default).Data.length ≤ 9223372036854775807) (q3 : b.length ≤ 9223372036854775807) (q4 : ∀ i, (b.getD i default).Words.length ≤ 9223372036854775807) (q5 : ∀ i, (b.getD i default).Data.length ≤ 9223372036854775807) : Calls Tryd.prog 20 #[vL aA a.length aC, vL bA b.length bC] w (Gives [] w fun v L => v = vB (decide (a.map R39.pur = b.map R39.pur)) ∧ L = []) := by
 refine calls_J [] 27 Tryd.func20 rfl Tryd.ntmps20 [(0, _), (1, _)] rfl rfl (Give.nil w) ?_
 refine q_ (g_ (s_ av_ (z_ (n_ (q_ (q_ (g_ (s_ mv_ (s_ (lnS Tryd.underlying36) (s_ mv_ (s_ (lnS Tryd.underlying36) (s_ (x_neq_i rfl rfl) (z_ (n_ ?_))))))))))))))
 refine ifd (fun h1w h1 => ?_) (fun h1w h1 => ?_)
 ·refine q_ (g_ (s_ av_ (z_ (n_ (rt_ (nr_ ?_))))))
  exact p1 Tryd.results20 rfl ⟨(eB c39o0_), rfl⟩
 ·refine sk_ (n_ (q_ (q_ (g_ (s_ av_ (z_ (n_ (k_ ?_))))))))
  refine J_loop (X := Nat) (fun (k : Nat) => (k ≤ a.length) ∧ (a.length = b.length) ∧ (∀ i, i < k → R39.pur (a.getD i default) = R39.pur (b.getD i default))) (fun (k : Nat) => [(0, vL aA a.length aC), (1, vL bA b.length bC), (5, vI ((k : Nat) : Int))]) (fun (k : Nat) => []) (fun (k : Nat) => a.length - k) (0 : Nat) ?_ ⟨rfl, rfl, rfl, trivial⟩ (fun _ h => h) ?_
  ·try dsimp only
   refine ⟨?_, ?_, ?_⟩
   ·first | rfl | omega | (simp_all; done) | (simp_all; omega)
   ·omega
   ·exact fun i hi => absurd hi (Nat.not_lt_zero i)
  intro k hI1
  obtain ⟨i1_0, i1_1, i1_2⟩ := hI1
  try dsimp only at i1_0
  try dsimp only at i1_1
  try dsimp only at i1_2
  have hq1 := q1 k
  have hq2 := q2 k
  have hq4 := q4 k
  have hq5 := q5 k
  try dsimp only
  refine q_ (q_ (g_ (s_ mv_ (s_ mv_ (s_ (lnS Tryd.underlying36) (s_ (x_lss_i rfl rfl) (z_ (n_ ?_))))))))
  refine ifd (fun h2w h2 => ?_) (fun h2w h2 => ?_)
  ·refine sk_ (n_ (q_ (k_ (q_ ?_))))
   refine drB [] 10 Ty.mixed ?_
   refine jp_ 0 rfl mv_ (jp_ 1 rfl mv_ (jq_ 2 rfl (ixF Statement.enc_len (cells_ro aR) Tryd.underlying36 Ty.sz40) (jq_ 3 rfl (ldFN Statement.enc_len (cells_ro aR) Ty.ag40 Ty.sz40) (jp_ 4 rfl mv_ (jp_ 5 rfl mv_ (jq_ 6 rfl (ixF Statement.enc_len (cells_ro bR) Tryd.underlying36 Ty.sz40) (jq_ 7 rfl (ldFN Statement.enc_len (cells_ro bR) Ty.ag40 Ty.sz40) (j1_ 8 (jc0_ rfl (cl_ Ty.ca40) (fun w hS => f40_ok _ _ _ _ _ _ _ _ _ _ _ _ _ _ _ _ w ((Kp.ro (aN.imp fun _ h => (h k).1)).on hS (fun _ h => by cases h)) ((Kp.ro (aN.imp fun _ h => (h k).2.1)).on hS (fun _ h => by cases h)) ((Kp.ro (bN.imp fun _ h => (h k).1)).on hS (fun _ h => by cases h)) ((Kp.ro (bN.imp fun _ h => (h k).2.1)).on hS (fun _ h => by cases h)) hy_ hy_ hy_ hy_) ?_) gm_))))))))
   refine jp_ 9 rfl (x_not rfl) ?_
   refine JA_done (by kernel_rfl) gm_ ?_
   refine n_ ?_
   refine if_ (fun h3 => ?_) (fun h3 => ?_)
   ·have h3w := h3
    have h3 : ((((decide (((a.getD k default).Line) = ((b.getD k default).Line))) && (decide (((a.getD k default).Call) = ((b.getD k default).Call)))) && (decide (((a.getD k default).Words) = ((b.getD k default).Words)))) && (decide (((a.getD k default).Data) = ((b.getD k default).Data)))) = false := bnot_true h3
    simp only [Bool.and_eq_true, Bool.or_eq_true, Bool.and_eq_false_iff, Bool.or_eq_false_iff, Bool.not_eq_true', Bool.not_eq_false', decide_eq_true_eq, decide_eq_false_iff_not] at h3
    refine q_ (g_ (s_ av_ (z_ (n_ (rt_ (kq_ (nr_ (rr_ (kq_ (nr_ ?_))))))))))
    exact p1 Tryd.results20 rfl ⟨(eB c39o0_), rfl⟩
   ·have h3w := h3
    have h3 : ((((decide (((a.getD k default).Line) = ((b.getD k default).Line))) && (decide (((a.getD k default).Call) = ((b.getD k default).Call)))) && (decide (((a.getD k default).Words) = ((b.getD k default).Words)))) && (decide (((a.getD k default).Data) = ((b.getD k default).Data)))) = true := bnot_false h3
    have ⟨h3, h4⟩ := band_true h3
    have ⟨h3, h5⟩ := band_true h3
    have ⟨h3, h6⟩ := band_true h3
    have h3 := of_decide_eq_true h3
    have h6 := of_decide_eq_true h6
    have h5 := of_decide_eq_true h5
    have h4 := of_decide_eq_true h4
    refine sk_ (kx_ (n_ (g_ (s_ mv_ (s_ (x_add_n (a := k) (b := 1) rfl rfl (by omega)) (s_ av_ (z_ ?_)))))))
    refine JX_round (k + 1 : Nat) ?_ ?_ ⟨rfl, rfl, rfl, trivial⟩ (fun _ h => h)
    ·try dsimp only
     refine ⟨?_, ?_, ?_⟩
     ·first | rfl | omega | (simp_all; done) | (simp_all; omega)
     ·first | rfl | omega | (simp_all; done) | (simp_all; omega)
     ·exact R39.same_step i1_2 (bnot_false (by assumption))
    ·try dsimp only
     first | omega | (simp; omega) | (simp_all; omega)
  ·refine J_exit (ne_ (re_ (kh_ (n_ (q_ ?_)))))
   refine g_ (s_ av_ (z_ (n_ (rt_ ?_))))
   exact p1 Tryd.results20 rfl ⟨(eB c39o0_), rfl⟩
end Go.Proofs.YtbfiibgmgopnaaaDoor

namespace Go.Proofs.YtbfiibgmgopnaaaDoor
open Go.GV
namespace R39
def gh (d : Int → Int) (x : Row) : Row := ⟨d x.number, x.text⟩
def ghM (d : Int → Int) (s : Stm) : Stm := { s with line := d s.line }
def ghP (d : Int → Int) (p : Bytes × Pr) : Bytes × Pr := (p.1, ⟨p.2.vals, p.2.rows.map (gh d)⟩)
def ghS (d : Int → Int) (s : RS) : RS := ⟨s.syms, s.procs.map (ghP d), s.out.map (ghM d)⟩
def ghE {α : Type} (d : Int → Int) (f : α → α) : Res α → Res α
  | .error e => .error (d e.1, e.2)
  | .ok x => .ok (f x)
def ghL (d : Int → Int) (p : Nat × RS) : Nat × RS := (p.1, ghS d p.2)
section
variable {d : Int → Int}
theorem inl_gh : ∀ (n : Int) (k : Nat) (r : List Row), inl (d n) k (r.map (gh d)) = ghE d id (inl n k r)
  | n, k, [] => rfl
  | n, k, x :: r => by
    rw [List.map_cons, inl, inl]
    show (if x.text = wSTOP then _ else if 64 ≤ k ∨ 200 < x.text.length then Except.error (d x.number, 8) else _) = _
    split
    · rfl
    · split
      · rfl
      · rw [inl_gh n (k + 1) r]
        show Except.map (x.text :: ·) _ = _
        cases inl n (k + 1) r <;> rfl
theorem findEnd_gh : ∀ (r : List Row), findEnd (r.map (gh d)) = findEnd r
  | [] => rfl
  | x :: r => by
    rw [List.map_cons, findEnd, findEnd, findEnd_gh r]; rfl
theorem findP_gh (k : Bytes) : ∀ (l : List (Bytes × Pr)), findP (l.map (ghP d)) k = (findP l k).map fun p => ⟨p.vals, p.rows.map (gh d)⟩
  | [] => rfl
  | p :: l => by
    have ih := findP_gh k l
    unfold findP at *
    rw [List.map_cons, List.find?_cons, List.find?_cons]
    show Option.map _ (match decide (p.1 = k) with | true => some (ghP d p) | false => _) = _
    cases decide (p.1 = k) with
    | true => rfl
    | false => exact ih
theorem stmV_gh (n : Int) (c : Bytes) (ws : List Bytes) (r : List Row) (s : RS) : stmV (d n) c ws (r.map (gh d)) (ghS d s) = ghE d (ghL d) (stmV n c ws r s) := by
  unfold stmV
  rw [inl_gh, show (ghS d s).out.length = s.out.length from List.length_map ..]
  split
  · rfl
  · split
    · cases inl n 0 r with
      | error e => rfl
      | ok l =>
        show Except.ok (l.length + 1, (⟨_, _, _⟩ : RS)) = Except.ok (l.length + 1, ghS d _)
        unfold ghS; rw [List.map_append]; rfl
    · show Except.ok (0, (⟨_, _, _⟩ : RS)) = Except.ok (0, ghS d _)
      unfold ghS; rw [List.map_append]; rfl
theorem procV_gh (n : Int) (ws : List Bytes) (r : List Row) (s : RS) : procV (d n) ws (r.map (gh d)) (ghS d s) = ghE d (ghL d) (procV n ws r s) := by
  unfold procV
  split
  · rfl
  · split
    · rfl
    · rename_i v _
      rw [show (ghS d s).procs = s.procs.map (ghP d) from rfl, findP_gh, Option.isSome_map, findEnd_gh]
      split
      · rfl
      · cases findEnd r with
        | none => rfl
        | some i =>
          show Except.ok (i + 1, (⟨_, _, _⟩ : RS)) = Except.ok (i + 1, ghS d _)
          unfold ghS; rw [List.map_append, ← List.map_take]; rfl
theorem lineIn_gh (c : Bytes) (x : Row) (r : List Row) (s : RS) : lineIn c (gh d x) (r.map (gh d)) (ghS d s) = ghE d (ghL d) (lineIn c x r s) := by
  unfold lineIn
  show (if idle x.text = true then _ else match replV s.syms x.text with | .error e => _ | .ok z => _) = _
  split
  · rfl
  · cases replV s.syms x.text with
    | error e => rfl
    | ok z =>
      show (match scan z with | none => _ | some ws => _) = ghE d (ghL d) (match scan z with | none => _ | some ws => _)
      cases scan z with
      | none => rfl
      | some ws =>
        show (if ws = [] then _ else _) = ghE d (ghL d) (if ws = [] then _ else _)
        split
        · rfl
        · split
          · exact stmV_gh x.number c ws r s
          · split <;> rfl
theorem readIn_gh (c : Bytes) : ∀ (n : Nat) (l : List Row) (s : RS), l.length < n → readIn c (l.map (gh d)) (ghS d s) = ghE d (ghS d) (readIn c l s)
  | 0, _, _, h => absurd h (Nat.not_lt_zero _)
  | n + 1, [], s, _ => rfl
  | n + 1, x :: r, s, h => by
    rw [List.length_cons] at h
    rw [List.map_cons, readIn_cons, readIn_cons, lineIn_gh]
    cases lineIn c x r s with
    | error e => rfl
    | ok p =>
      obtain ⟨k, s'⟩ := p
      show readIn c ((r.map (gh d)).drop k) (ghS d s') = _
      rw [← List.map_drop]
      exact readIn_gh c n _ s' (by rw [List.length_drop]; omega)
theorem callV_gh (n : Int) (ws : List Bytes) (s : RS) : callV (d n) ws (ghS d s) = ghE d (ghL d) (callV n ws s) := by
  unfold callV
  split
  · rfl
  · split
    · rfl
    · rename_i v _
      rw [show (ghS d s).procs = s.procs.map (ghP d) from rfl, findP_gh]
      cases findP s.procs (ws.getD 2 []) with
      | none => rfl
      | some p =>
        show (if v.all (fun q => (look p.vals q.1).isSome) = true then _ else _) = ghE d (ghL d) (if v.all (fun q => (look p.vals q.1).isSome) = true then _ else _)
        split
        · have e := readIn_gh (d := d) (ws.getD 1 []) (p.rows.length + 1) p.rows { s with syms := over (over s.syms p.vals) v } (Nat.lt_succ_self _)
          show (match readIn (ws.getD 1 []) (p.rows.map (gh d)) (ghS d { s with syms := over (over s.syms p.vals) v }) with | .error e => _ | .ok s' => _) = _
          rw [e]
          cases readIn (ws.getD 1 []) p.rows { s with syms := over (over s.syms p.vals) v } <;> rfl
        · rfl
theorem lineOut_gh (x : Row) (r : List Row) (s : RS) : lineOut (gh d x) (r.map (gh d)) (ghS d s) = ghE d (ghL d) (lineOut x r s) := by
  unfold lineOut
  show (if idle x.text = true then _ else match replV s.syms x.text with | .error e => _ | .ok z => _) = _
  split
  · rfl
  · cases replV s.syms x.text with
    | error e => rfl
    | ok z =>
      show (match scan z with | none => _ | some ws => _) = ghE d (ghL d) (match scan z with | none => _ | some ws => _)
      cases scan z with
      | none => rfl
      | some ws =>
        show (if ws = [] then _ else _) = ghE d (ghL d) (if ws = [] then _ else _)
        split
        · rfl
        · split
          · exact stmV_gh x.number [] ws r s
          · split
            · split <;> rfl
            · split
              · exact procV_gh x.number ws r s
              · split
                · rfl
                · split
                  · exact callV_gh x.number ws s
                  · rfl
theorem readOut_gh : ∀ (n : Nat) (l : List Row) (s : RS), l.length < n → readOut (l.map (gh d)) (ghS d s) = ghE d (ghS d) (readOut l s)
  | 0, _, _, h => absurd h (Nat.not_lt_zero _)
  | n + 1, [], s, _ => rfl
  | n + 1, x :: r, s, h => by
    rw [List.length_cons] at h
    rw [List.map_cons, readOut_cons, readOut_cons, lineOut_gh]
    cases lineOut x r s with
    | error e => rfl
    | ok p =>
      obtain ⟨k, s'⟩ := p
      show readOut ((r.map (gh d)).drop k) (ghS d s') = _
      rw [← List.map_drop]
      exact readOut_gh n _ s' (by rw [List.length_drop]; omega)
end
def clamp (n : Nat) (x : Int) : Int := if 1 ≤ x ∧ x ≤ n then x else 1
theorem number_clamp (n : Nat) : ∀ (k : Nat) (l : List Bytes), k + l.length ≤ n → (number k l).map (gh (clamp n)) = number k l
  | _, [], _ => rfl
  | k, x :: l, h => by
    rw [List.length_cons] at h
    rw [number, List.map_cons, number_clamp n (k + 1) l (by omega)]
    have : (gh (clamp n) ⟨((k + 1 : Nat) : Int), x⟩ : Row) = ⟨((k + 1 : Nat) : Int), x⟩ := by
      unfold gh clamp; simp only [Row.mk.injEq, and_true]; exact if_pos (by omega)
    rw [this]
theorem clamp_le {n : Nat} (h : 1 ≤ n) (x : Int) : 1 ≤ clamp n x ∧ clamp n x ≤ n := by unfold clamp; split <;> omega
theorem exp_num {t : Bytes} {y : List Statement} {n e : Int} (h : ExpJ t y n e) : (0 ≤ n ∧ n ≤ 512) ∧ ∀ i : Nat, 0 ≤ (y.getD i default).Line ∧ (y.getD i default).Line ≤ 512 := by
  have hd : (0 : Int) ≤ (default : Statement).Line ∧ (default : Statement).Line ≤ 512 := by decide
  have hx : (expand t = .error (0, 8)) ∨ ∃ r, readOut (rowsV t) rs0 = r ∧ expand t = r.map (·.out) ∧ r = ghE (clamp 512) (ghS (clamp 512)) r := by
    unfold expand
    split
    · exact .inl rfl
    · refine .inr ⟨_, rfl, rfl, ?_⟩
      have e1 : (rowsV t).map (gh (clamp 512)) = rowsV t := number_clamp 512 0 _ (by have := number_len 0 (linesV t); unfold rowsV at *; omega)
      have e2 := readOut_gh (d := clamp 512) ((rowsV t).length + 1) (rowsV t) rs0 (Nat.lt_succ_self _)
      rw [e1, show ghS (clamp 512) rs0 = rs0 from rfl] at e2
      exact e2
  have zero : y = [] → ∀ i : Nat, 0 ≤ (y.getD i default).Line ∧ (y.getD i default).Line ≤ 512 := fun h i => by rw [h]; exact hd
  rcases hx with hx | ⟨r, _, hx, hr⟩
  · rcases h with ⟨h, _, _⟩ | ⟨h, _, h3⟩
    · rw [hx] at h; cases h
    · rw [hx] at h; injection h with h; injection h with h1 h2
      exact ⟨by omega, zero h3⟩
  · cases r with
    | error a =>
      rcases h with ⟨h, _, _⟩ | ⟨h, _, h3⟩
      · rw [hx] at h; cases h
      · rw [hx] at h; injection h with h
        have ha : a = (clamp 512 a.1, a.2) := by injection hr
        have hc := clamp_le (n := 512) (by decide) a.1
        have h1 : a.1 = n := by rw [h]
        have h2 : a.1 = clamp 512 a.1 := congrArg Prod.fst ha
        exact ⟨by omega, zero h3⟩
    | ok s =>
      rcases h with ⟨h, h1, h2⟩ | ⟨h, _, h3⟩
      · rw [hx] at h
        have h : s.out = y.map pur := by injection h
        have hs : s = ghS (clamp 512) s := by injection hr
        have ho : s.out = s.out.map (ghM (clamp 512)) := congrArg RS.out hs
        refine ⟨by omega, fun i => ?_⟩
        rcases Nat.lt_or_ge i y.length with hi | hi
        · have hc := clamp_le (n := 512) (by decide) (y.getD i default).Line
          have e3 : (pur (y.getD i default)) = ghM (clamp 512) (pur (y.getD i default)) := by
            rw [h] at ho
            have := congrArg (fun l : List Stm => l[i]?) ho
            simp only [List.getElem?_map, List.getElem?_eq_getElem hi, Option.map_some, Option.some.injEq] at this
            rw [List.getD_eq_getElem?_getD, List.getElem?_eq_getElem hi]; exact this
          have e4 : (y.getD i default).Line = clamp 512 (y.getD i default).Line := congrArg Stm.line e3
          omega
        · rw [List.getD_eq_getElem?_getD, List.getElem?_eq_none hi]; exact hd
      · rw [hx] at h; cases h
end R39
end Go.Proofs.YtbfiibgmgopnaaaDoor

namespace Go.Proofs.YtbfiibgmgopnaaaDoor
open Go.GV
theorem row_max {e : TypeId} {w : World} {A : Option Addr} {n c sz : Nat} {cs : List Value} (h : (Ent.row (.slice A n c) e sz n cs).at w) : n ≤ 9223372036854775807 := by
  rcases (row_owns h).2 with ⟨h1, h2⟩ | ⟨g, cap, cur, h1, _, ho, h3, h4, h5, h6⟩
  · omega
  · cases h1; have hm : maxLen = 9223372036854775807 := rfl; omega
namespace R39
def Sml (l : List Stm) : Prop := ∀ x ∈ l, x.words.length ≤ 1000 ∧ x.data.length ≤ 64
theorem sml_app {l : List Stm} {x : Stm} (h : Sml l) (h1 : x.words.length ≤ 1000) (h2 : x.data.length ≤ 64) : Sml (l ++ [x]) := fun y hy => by
  rcases List.mem_append.1 hy with hy | hy
  · exact h y hy
  · rw [List.mem_singleton.1 hy]; exact ⟨h1, h2⟩
theorem words_few {m : Syms} {t z : Bytes} {ws : List Bytes} (h1 : replV m t = .ok z) (h2 : scan z = some ws) : ws.length ≤ 1000 := by
  have h3 := exV_len (m := m) (s := t)
  rw [h1] at h3
  have h4 := scanW_len z
  rw [← scanW_some h2] at h4
  exact Nat.le_trans h4 h3
theorem stmV_sml {n : Int} {c : Bytes} {ws : List Bytes} {r : List Row} {s s' : RS} {k : Nat} (hw : ws.length ≤ 1000) (h : Sml s.out) (he : stmV n c ws r s = .ok (k, s')) : Sml s'.out := by
  unfold stmV at he
  split at he
  · cases he
  · split at he
    · cases hi : inl n 0 r with
      | error e => rw [hi] at he; cases he
      | ok l =>
        rw [hi] at he; injection he with he; injection he with _ he
        rw [← he]; exact sml_app h hw (resL_64 hi)
    · injection he with he; injection he with _ he
      rw [← he]; exact sml_app h hw (Nat.zero_le _)
theorem lineIn_sml {c : Bytes} {x : Row} {r : List Row} {s s' : RS} {k : Nat} (h : Sml s.out) (he : lineIn c x r s = .ok (k, s')) : Sml s'.out := by
  unfold lineIn at he
  split at he
  · injection he with he; injection he with _ he; rw [← he]; exact h
  · cases hr : replV s.syms x.text with
    | error e => rw [hr] at he; cases he
    | ok z =>
      simp only [hr] at he
      cases hs : scan z with
      | none => rw [hs] at he; cases he
      | some ws =>
        simp only [hs] at he
        split at he
        · injection he with he; injection he with _ he; rw [← he]; exact h
        · split at he
          · exact stmV_sml (words_few hr hs) h he
          · split at he <;> cases he
theorem readIn_sml (c : Bytes) : ∀ (n : Nat) (l : List Row) (s s' : RS), l.length < n → Sml s.out → readIn c l s = .ok s' → Sml s'.out
  | 0, _, _, _, h, _, _ => absurd h (Nat.not_lt_zero _)
  | n + 1, [], s, s', _, h, he => by rw [readIn_nil] at he; injection he with he; rw [← he]; exact h
  | n + 1, x :: r, s, s', hl, h, he => by
    rw [List.length_cons] at hl
    rw [readIn_cons] at he
    cases hx : lineIn c x r s with
    | error e => rw [hx] at he; cases he
    | ok p =>
      obtain ⟨k, s1⟩ := p
      rw [hx] at he
      exact readIn_sml c n _ s1 s' (by rw [List.length_drop]; omega) (lineIn_sml h hx) he
theorem callV_sml {n : Int} {ws : List Bytes} {s s' : RS} {k : Nat} (h : Sml s.out) (he : callV n ws s = .ok (k, s')) : Sml s'.out := by
  unfold callV at he
  split at he
  · cases he
  · split at he
    · cases he
    · rename_i v _
      split at he
      · cases he
      · rename_i p _
        split at he
        · cases hr : readIn (ws.getD 1 []) p.rows { s with syms := over (over s.syms p.vals) v } with
          | error e => rw [hr] at he; cases he
          | ok s1 =>
            rw [hr] at he; injection he with he; injection he with _ he
            rw [← he]; exact readIn_sml _ _ _ _ s1 (Nat.lt_succ_self _) (show Sml ({ s with syms := over (over s.syms p.vals) v } : RS).out from h) hr
        · cases he
theorem procV_sml {n : Int} {ws : List Bytes} {r : List Row} {s s' : RS} {k : Nat} (h : Sml s.out) (he : procV n ws r s = .ok (k, s')) : Sml s'.out := by
  unfold procV at he
  split at he
  · cases he
  · split at he
    · cases he
    · split at he
      · cases he
      · split at he
        · cases he
        · injection he with he; injection he with _ he; rw [← he]; exact h
theorem lineOut_sml {x : Row} {r : List Row} {s s' : RS} {k : Nat} (h : Sml s.out) (he : lineOut x r s = .ok (k, s')) : Sml s'.out := by
  unfold lineOut at he
  split at he
  · injection he with he; injection he with _ he; rw [← he]; exact h
  · cases hr : replV s.syms x.text with
    | error e => rw [hr] at he; cases he
    | ok z =>
      simp only [hr] at he
      cases hs : scan z with
      | none => rw [hs] at he; cases he
      | some ws =>
        simp only [hs] at he
        split at he
        · injection he with he; injection he with _ he; rw [← he]; exact h
        · split at he
          · exact stmV_sml (words_few hr hs) h he
          · split at he
            · split at he
              · cases he
              · injection he with he; injection he with _ he; rw [← he]; exact h
            · split at he
              · exact procV_sml h he
              · split at he
                · cases he
                · split at he
                  · exact callV_sml h he
                  · cases he
theorem readOut_sml : ∀ (n : Nat) (l : List Row) (s s' : RS), l.length < n → Sml s.out → readOut l s = .ok s' → Sml s'.out
  | 0, _, _, _, h, _, _ => absurd h (Nat.not_lt_zero _)
  | n + 1, [], s, s', _, h, he => by rw [readOut_nil] at he; injection he with he; rw [← he]; exact h
  | n + 1, x :: r, s, s', hl, h, he => by
    rw [List.length_cons] at hl
    rw [readOut_cons] at he
    cases hx : lineOut x r s with
    | error e => rw [hx] at he; cases he
    | ok p =>
      obtain ⟨k, s1⟩ := p
      rw [hx] at he
      exact readOut_sml n _ s1 s' (by rw [List.length_drop]; omega) (lineOut_sml h hx) he
theorem exp_sml {t : Bytes} {y : List Statement} {n e : Int} (h : ExpJ t y n e) : ∀ i : Nat, (y.getD i default).Words.length ≤ 1000 ∧ (y.getD i default).Data.length ≤ 64 := fun i => by
  have hd : (default : Statement).Words.length ≤ 1000 ∧ (default : Statement).Data.length ≤ 64 := by decide
  rcases h with ⟨h, _, _⟩ | ⟨_, _, h⟩
  · rcases Nat.lt_or_ge i y.length with hi | hi
    · unfold expand at h
      split at h
      · cases h
      · cases hr : readOut (rowsV t) rs0 with
        | error e => rw [hr] at h; cases h
        | ok s =>
          rw [hr] at h
          have h : s.out = y.map pur := by injection h
          have h2 := readOut_sml _ _ _ s (Nat.lt_succ_self _) (fun x hx => by cases hx) hr
          rw [h] at h2
          have h3 := h2 (pur y[i]) (List.mem_map_of_mem (List.getElem_mem hi))
          rw [List.getD_eq_getElem?_getD, List.getElem?_eq_getElem hi]; exact h3
    · rw [List.getD_eq_getElem?_getD, List.getElem?_eq_none hi]; exact hd
  · rw [h]; exact hd
theorem preM_sml {f : Statement → Statement} {y z : List Statement} {k : Nat} (hz : z = preM f y k) (hf : ∀ e, (f e).Words = e.Words ∧ (f e).Data = e.Data) (h : ∀ i : Nat, (y.getD i default).Words.length ≤ 1000 ∧ (y.getD i default).Data.length ≤ 64) (i : Nat) : (z.getD i default).Words.length ≤ 1000 ∧ (z.getD i default).Data.length ≤ 64 := by
  have hd : (default : Statement).Words.length ≤ 1000 ∧ (default : Statement).Data.length ≤ 64 := by decide
  rcases Nat.lt_or_ge i y.length with hi | hi
  · rcases Nat.lt_or_ge i k with hk | hk
    · have e : z.getD i default = f (y.getD i default) := by
        rw [hz]; unfold preM
        rw [List.getD_eq_getElem?_getD, List.getElem?_append_left (by rw [List.length_map, List.length_take]; omega), List.getElem?_map, List.getElem?_take_of_lt hk, List.getElem?_eq_getElem hi, List.getD_eq_getElem?_getD, List.getElem?_eq_getElem hi]; rfl
      rw [e, (hf _).1, (hf _).2]; exact h i
    · have e : z.getD i default = y.getD i default := by
        rw [hz]; unfold preM
        rw [List.getD_eq_getElem?_getD, List.getElem?_append_right (by rw [List.length_map, List.length_take]; omega), List.getElem?_drop, List.getD_eq_getElem?_getD]
        congr 2; rw [List.length_map, List.length_take]; omega
      rw [e]; exact h i
  · have e : z.getD i default = default := by rw [List.getD_eq_getElem?_getD, List.getElem?_eq_none (by rw [hz, preM_len]; exact hi)]; rfl
    rw [e]; exact hd
end R39
end Go.Proofs.YtbfiibgmgopnaaaDoor

namespace Go.GV
open Go.RowKit
theorem set_flat {α : Type} (f : α → List Value) (sz : Nat) (hf : ∀ a, (f a).length = sz) : ∀ (xs : List α) (k o : Nat) (a d : α) (u : Value), k < xs.length → o < sz → f a = (f (xs.getD k d)).set o u → (xs.flatMap f).set (k * sz + o) u = (xs.set k a).flatMap f
  | [], _, _, _, _, _, h, _, _ => by simp at h
  | x :: xs, 0, o, a, d, u, _, ho, hs => by
    rw [List.flatMap_cons, List.set_cons_zero, List.flatMap_cons, hs, Nat.zero_mul, Nat.zero_add, List.set_append_left _ _ (by rw [hf]; exact ho)]
    rfl
  | x :: xs, k + 1, o, a, d, u, h, ho, hs => by
    have h' : k < xs.length := by simpa using h
    have ih := set_flat f sz hf xs k o a d u h' ho hs
    rw [List.set_cons_succ, List.flatMap_cons, List.flatMap_cons, ← ih, List.set_append_right _ _ (by rw [hf, Nat.succ_mul]; omega), hf, Nat.succ_mul, show k * sz + sz + o - sz = k * sz + o by omega]
section
variable {E : Env} {P : Program} {x y : Operand} {dst : Option Nat} {t ty : TypeId} {pos : String} {af : Array Edge} {g : Option (Nat × Bool)}
theorem O_store_row_c {α : Type} {S : List Nat} {w0 : World} {L : List Ent} {K : Value → List Ent → Prop} (j : Nat) (f : α → List Value) {A : Option Addr} {c k sz o : Nat} {te : TypeId} {xs : List α} {a d : α} {u : Value} (L' : List Ent)
    (hx : ev E x = .pointer (some (adr A (k * sz + o)))) (hy : ev E y = u) (hv : u.cells.toList = [u]) (h1 : u.oneCell' = true) (hj : L[j]? = some (Ent.row (.slice A xs.length c) te sz xs.length (xs.flatMap f))) (hn : sizeIs P t = some 1) (hf : ∀ a, (f a).length = sz) (hk : k < xs.length) (ho : o < sz)
    (hs : f a = (f (xs.getD k d)).set o u)
    (hL : L.set j (Ent.row (.slice A (xs.set k a).length c) te sz (xs.set k a).length ((xs.set k a).flatMap f)) = L') (kk : K undef L') : OpJ P S w0 E L ⟨dst, .store t x y, ty, pos, af, g⟩ K := by
  intro w hS
  subst hL
  have hat := hS.mem hj
  have hfl := flat_length f sz hf xs
  have hb : k * sz + sz ≤ xs.length * sz := by
    have := Nat.mul_le_mul_right sz hk
    rw [Nat.succ_mul] at this; exact this
  rcases hat.1.2 with ⟨h2, h3⟩ | ⟨gb, cap, cur, h2, hO, hcap, hmax, hcs, htk⟩
  · omega
  · simp only [Value.slice.injEq] at h2
    obtain ⟨rfl, _, rfl⟩ := h2
    have ho' : w.heap[gb]? = some (.cells cur te (0, 0)) := by simpa [Ent.row, Value.ownBlock] using hO
    have hblk : (Ent.blk gb te cur.toList).at w := by
      refine ⟨⟨?_, .inl (Nat.le_refl _)⟩, fun b hb2 => ?_⟩
      · show w.heap[gb]? = _
        rw [ho']
      · cases hb2
        exact (Array.getElem?_eq_some_iff.1 ho').1
    have hvl : u.cells.toList.length = 1 := by rw [hv]; rfl
    have hcl : xs.length * sz ≤ cur.toList.length := by
      have e1 := Nat.mul_le_mul_right sz hcap
      have e2 : cur.toList.length = c * sz := hcs
      omega
    have hadr : adr (some ⟨gb, 0, none⟩) (k * sz + o) = ⟨gb, k * sz + o, none⟩ := by
      simp [adr, Addr.add]
      try exact fun h => h.symm
      try omega
    rw [hadr] at hx
    obtain ⟨w', hr, hF, hB⟩ := run_storeVar_blk (P := P) (t := t) (o := k * sz + o) hblk hn hvl (by omega) (by rw [hv]; simp [h1])
    refine ⟨undef, _, w', .inr ⟨?_, rfl⟩, hS.writeAt hj gb rfl rfl hF ?_, kk⟩
    · simp only [execOp, hx, hy]
      show Sem.run P (do (do storeVar t (← Instr.sureAddr (.pointer (some ⟨gb, k * sz + o, none⟩))) u); pure Next.skip) w = _
      simp only [Instr.sureAddr, Sem.run_bind, Sem.run_pure, Result.andThen_ok, hr]
    · have hB1 : w'.heap[gb]? = some (.cells (splice cur.toList (k * sz + o) [u]).toArray te (0, 0)) := by rw [← hv]; exact hB.1
      have hsl : (splice cur.toList (k * sz + o) [u]).length = cur.toList.length := splice_length _ _ _
      refine ⟨flat_length f sz hf _, .inr ⟨gb, c, _, by rw [List.length_set], hB1, by rw [List.length_set]; exact hcap, hmax, ?_, ?_⟩⟩
      · rw [List.size_toArray, hsl, Array.length_toList, hcs]
      · rw [List.length_set]
        show (cur.toList.set (k * sz + o) u).take (xs.length * sz) = _
        rw [List.take_set, htk, set_flat f sz hf xs k o a d u hk ho hs]
end
end Go.GV

namespace Go.Proofs.YtbfiibgmgopnaaaDoor
open Go.GV
set_option linter.unusedVariables false
set_option linter.unusedSimpArgs false
end Go.Proofs.YtbfiibgmgopnaaaDoor

namespace Go.Proofs.YtbfiibgmgopnaaaDoor
open Go.GV
namespace R39
def dataT (L : List Bytes) : Bytes := (tDD ++ [10]) ++ body L
def dataL (l : List Bytes) (j : Nat) : List Bytes := l ++ List.replicate j [35]
def DataP (s : Bytes) : Prop := (10 : UInt8) ∉ s ∧ Fine s
structure DatJ (l : List Bytes) (k : Nat) (y b : List Statement) (n e m f : Int) : Prop where
  much : 64 < k → e = 8 ∧ n = 66 ∧ f = 8 ∧ m = 66 ∧ y = [] ∧ b = []
  few : k ≤ 64 → e = 0 ∧ n = 0 ∧ y.length = 2 ∧ (y.getD 0 default).Data.length = k ∧ (y.getD 0 default).Data.take l.length = l ∧ (y.getD 1 default).Line = ((k + 3 : Nat) : Int) ∧ f = 3 ∧ m = 1
def CalP (s : Bytes) : Prop := (10 : UInt8) ∉ s ∧ Tame s
theorem calP_of {s : Bytes} (h : (((decide ((100 : Int) < ((s.length : Nat) : Int)) || decide ((10 : UInt8) ∈ s)) || decide ((38 : UInt8) ∈ s)) || (decide ((0 : Int) < (((scanW s).length : Nat) : Int)) && (((decide ((scanW s).getD 0 [] = [115, 101, 116]) || decide ((scanW s).getD 0 [] = [112, 114, 111, 99])) || decide ((scanW s).getD 0 [] = [99, 97, 108, 108])) || decide ((scanW s).getD 0 [] = [101, 110, 100])))) = false) : CalP s := by
  simp only [Bool.or_eq_false_iff, Bool.and_eq_false_iff, decide_eq_false_iff_not] at h
  obtain ⟨⟨⟨h1, h2⟩, h3⟩, h4⟩ := h
  refine ⟨h2, ⟨h3, by omega, fun ws hs hw => ?_⟩⟩
  rw [← scanW_some hs] at h4
  rcases h4 with h4 | ⟨⟨⟨h4, h5⟩, h6⟩, h7⟩
  · have : ws.length ≠ 0 := fun e => hw (List.length_eq_zero_iff.1 e)
    omega
  · exact ⟨h4, h5, h6, h7⟩
theorem body_step {l : List Bytes} {k : Nat} {t : Bytes} (h : k < l.length) (ht : t = body (l.take k)) : t ++ (l.getD k [] ++ [10]) = body (l.take (k + 1)) := by
  rw [ht, R44.take_snoc (d := []) h, body_snoc]
theorem calls_two {l : List Bytes} {k : Nat} {t : Bytes} {y b : List Statement} {n e m f : Int} (ht : t = body (l.take k)) (hk : ¬ k < l.length) (hp : ∀ i, i < k → CalP (l.getD i [])) (hl : l.length ≤ 40) (htl : t.length ≤ 101 * k) (hkl : k ≤ l.length) (h1 : ExpJ t y n e) (h2 : ExpJ (([112, 114, 111, 99, 32, 80, 10] ++ t) ++ [101, 110, 100, 10, 99, 97, 108, 108, 32, 88, 32, 80, 10]) b m f) : Two 1 inX y b n e m f := by
  rw [List.take_of_length_le (by omega)] at ht
  have ha := all_of hp hk
  have hL := law_calls (l := l) (fun s hs => (ha s hs).1) (fun s hs => (ha s hs).2) hl (by rw [← ht]; omega)
  rw [← ht] at hL
  have h2 : ExpJ ((tPROC ++ [10]) ++ t ++ (wEND ++ [10] ++ (tCALL ++ [10]))) b m f := h2
  rcases h1 with ⟨h1, e1, e2⟩ | ⟨h1, e1, e2⟩
  · rw [h1] at hL
    rcases h2 with ⟨h2, f1, f2⟩ | ⟨h2, f1, f2⟩
    · rw [h2] at hL
      exact ⟨by omega, by have := congrArg List.length hL; simpa using this.symm, fun h => absurd e2 h, hL.symm⟩
    · rw [h2] at hL; exact hL.elim
  · rw [h1] at hL
    rcases h2 with ⟨h2, f1, f2⟩ | ⟨h2, f1, f2⟩
    · rw [h2] at hL; exact hL.elim
    · rw [h2] at hL; injection hL with h3 h4
      subst e2; subst f2
      exact ⟨h4.symm, rfl, fun _ => h3, rfl⟩
def shX (e : Statement) : Statement := ⟨e.Line + 1, [88], e.Words, e.WordsA, e.WordsC, e.Data, e.DataA, e.DataC⟩
theorem preM_setX {y z : List Statement} {k : Nat} (hz : z = preM shX y k) (h : k < y.length) {a b : Statement} (hb : a = (z.set k a).getD k default → b = shX (z.getD k default)) : (z.set k a).set k b = preM shX y (k + 1) := by
  have hk : k < z.length := by rw [hz, preM_len]; exact h
  rw [List.set_set]
  refine preM_set hz h (hb ?_)
  rw [List.getD_eq_getElem?_getD, List.getElem?_set_self hk]; rfl
end R39
end Go.Proofs.YtbfiibgmgopnaaaDoor

namespace Go.Proofs.YtbfiibgmgopnaaaDoor
open Go.GV
set_option linter.unusedVariables false
set_option linter.unusedSimpArgs false
end Go.Proofs.YtbfiibgmgopnaaaDoor
