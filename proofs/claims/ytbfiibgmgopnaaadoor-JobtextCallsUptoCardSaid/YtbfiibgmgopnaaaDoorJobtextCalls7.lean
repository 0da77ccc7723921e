/- Pl39b, Pl39c, Pl39d, Pl39h, Ad39, Tc39, GvBk, Pn40 in one text. -/
import Derived.Test.YtbfiibgmgopnaaaDoorJobtextCalls6
import Derived.Test.YtbfiibgmgopnaaaDoorJobtextCalls5
import Derived.Lib.IndexBytes
import Derived.Lib.IndexMore
import Derived.Lib.SplitLaws
import Derived.Lib.Replace
import Derived.Lib.IndexAny
import Derived.Lib.TrimByte
import Derived.Lib.Strings
import Derived.Laws.RangeString
import Derived.Laws.RangeAny
import Derived.Shelf.GgClosure.StringsIndexFunc
import Derived.Test.YtbfiibgmgopnaaaDoorJobtextCalls3
import Derived.Test.YtbfiibgmgopnaaaDoorRows
import Derived.ProofKit
import Derived.LaidMore
import Derived.Stop.Joined
import Derived.Lib.LaidTab
import Derived.Shelf.Vars
import Derived.Handed
import Derived.Lay
set_option linter.unusedVariables false
set_option linter.unusedSimpArgs false
namespace Go.Proofs.YtbfiibgmgopnaaaDoor
open Go.GV
namespace R39
def dbl (w : Bytes) : Bytes := w.flatMap fun c => if c = 39 then [39, 39] else [c]
def quote (w : Bytes) : Bytes := if w ≠ [] ∧ ¬ (32 ∈ w ∨ 39 ∈ w) then w else [39] ++ dbl w ++ [39]
def blank (r : Bytes) : Prop := r = [] ∨ r.head? = some 32
theorem qw_dbl {r : Bytes} (hr : blank r) : ∀ {w : Bytes}, (∀ c ∈ w, (32 : UInt8) ≤ c ∧ c ≤ 126) → qw (dbl w ++ 39 :: r) = some (w, r)
  | [], _ => by
    rcases hr with rfl | hr
    · rfl
    · cases r with
      | nil => rfl
      | cons d t => cases hr; rfl
  | c :: w, hw => by
    have ih := qw_dbl hr (w := w) fun c h => hw c (List.mem_cons_of_mem _ h)
    unfold dbl at *
    rw [List.flatMap_cons]
    by_cases hc : c = 39
    · subst hc
      have e : qw (39 :: 39 :: (List.flatMap (fun c => if c = 39 then [39, 39] else [c]) w ++ 39 :: r)) = some (39 :: w, r) := by
        rw [qw, if_pos rfl, if_pos rfl, ih]; rfl
      exact e
    · rw [if_neg hc]
      have h := hw c List.mem_cons_self
      have h1 : ¬ (c < 32 ∨ 126 < c) := by
        rw [UInt8.le_iff_toNat_le, UInt8.le_iff_toNat_le] at h
        rw [UInt8.lt_iff_toNat_lt, UInt8.lt_iff_toNat_lt]; omega
      cases hq : List.flatMap (fun c => if c = 39 then [39, 39] else [c]) w ++ 39 :: r with
      | nil => simp at hq
      | cons d t =>
        have e : qw (c :: d :: t) = some (c :: w, r) := by
          rw [hq] at ih; rw [qw, if_neg hc, if_neg h1, ih]; rfl
        rw [← hq] at e; exact e
theorem isW_of {c : UInt8} (h : (32 : UInt8) ≤ c ∧ c ≤ 126) (h1 : c ≠ 32) (h2 : c ≠ 39) : isW c = true := by
  unfold isW
  rw [UInt8.le_iff_toNat_le] at h
  have : c.toNat ≠ (32 : UInt8).toNat := fun e => h1 (UInt8.toNat_inj.1 e)
  simp only [Bool.and_eq_true, decide_eq_true_eq, UInt8.lt_iff_toNat_lt]
  exact ⟨⟨by omega, h.2⟩, h2⟩
theorem take_all {w r : Bytes} (hw : ∀ c ∈ w, isW c = true) (hr : blank r) : (w ++ r).takeWhile isW = w ∧ (w ++ r).dropWhile isW = r := by
  induction w with
  | nil =>
    rcases hr with rfl | hr
    · exact ⟨rfl, rfl⟩
    · cases r with
      | nil => exact ⟨rfl, rfl⟩
      | cons d t => cases hr; exact ⟨rfl, rfl⟩
  | cons c w ih =>
    have hc := hw c List.mem_cons_self
    have ih := ih fun c h => hw c (List.mem_cons_of_mem _ h)
    rw [List.cons_append, List.takeWhile_cons, List.dropWhile_cons, if_pos hc, if_pos hc, ih.1, ih.2]
    exact ⟨rfl, rfl⟩
theorem quote_head {w : Bytes} (h : ¬ (32 ∈ w)) (hn : w ≠ []) : ∃ c t, w = c :: t ∧ c ≠ 32 := by
  cases w with
  | nil => exact absurd rfl hn
  | cons c t => exact ⟨c, t, rfl, fun e => h (e ▸ List.mem_cons_self)⟩
theorem trim_cons {c : UInt8} {t : Bytes} (h : c ≠ 32) : trim (c :: t) = c :: t := by
  unfold trim; rw [List.dropWhile_cons, if_neg (by simpa using h)]
theorem first_quote {w r : Bytes} (hw : ∀ c ∈ w, (32 : UInt8) ≤ c ∧ c ≤ 126) (hr : blank r) : trim (quote w ++ r) = quote w ++ r ∧ quote w ++ r ≠ [] ∧ first (quote w ++ r) = some (w, r) := by
  unfold quote
  split
  · rename_i h
    have hc := fun h2 => h.2 (.inl h2); have hq := fun h2 => h.2 (.inr h2)
    have hW : ∀ c ∈ w, isW c = true := fun c hm => isW_of (hw c hm) (fun e => hc (e ▸ hm)) (fun e => hq (e ▸ hm))
    have ht := take_all hW hr
    obtain ⟨c, t, rfl, h1⟩ := quote_head hc h.1
    refine ⟨trim_cons h1, List.cons_ne_nil _ _, ?_⟩
    rw [List.cons_append, first, if_neg (fun e : c = 39 => hq (by rw [e]; exact List.mem_cons_self)), if_pos (hW c List.mem_cons_self)]
    rw [List.cons_append] at ht
    rw [ht.1, ht.2]
  · have e : [39] ++ dbl w ++ [39] ++ r = 39 :: (dbl w ++ 39 :: r) := by simp
    rw [e]
    refine ⟨trim_cons (by decide), List.cons_ne_nil _ _, ?_⟩
    rw [first, if_pos rfl]; exact qw_dbl hr hw
theorem scan_quote {w r : Bytes} (hw : ∀ c ∈ w, (32 : UInt8) ≤ c ∧ c ≤ 126) (hr : blank r) : scan (quote w ++ r) = (scan r).map (w :: ·) := by
  obtain ⟨h1, h2, h3⟩ := first_quote hw hr
  exact scan_word (by rw [h1]; exact h2) (by rw [h1]; exact h3) hr
theorem trim_rep (n : Nat) (r : Bytes) : trim (rep [32] n ++ r) = trim r := by
  induction n with
  | zero => rfl
  | succ n ih =>
    show trim (32 :: (rep [32] n ++ r)) = _
    unfold trim at *
    rw [List.dropWhile_cons, if_pos (by rfl), ih]
theorem scan_rep (n : Nat) (r : Bytes) : scan (rep [32] n ++ r) = scan r := by
  rw [← scan_trim, trim_rep, scan_trim]
theorem blank_rep (n : Nat) (r : Bytes) : blank (rep [32] (n + 1) ++ r) := .inr rfl
theorem scan_none : scan [] = some [] := scan_nil rfl
def LineJ (ws : List Bytes) (n k : Nat) (line : Bytes) : Prop :=
  (k = 0 ∧ line = rep [32] n) ∨ (0 < k ∧ ∀ r, blank r → scan (line ++ r) = (scan r).map (ws.take k ++ ·))
section
variable {ws : List Bytes} {n k : Nat} {line : Bytes}
theorem LineJ.start : LineJ ws n 0 (rep [32] n) := .inl ⟨rfl, rfl⟩
theorem LineJ.more (h : LineJ ws n k line) (h0 : 0 < k) (hk : k < ws.length) {m : Nat} (hw : ∀ c ∈ ws.getD k [], (32 : UInt8) ≤ c ∧ c ≤ 126) : LineJ ws n (k + 1) ((line ++ rep [32] (m + 1)) ++ quote (ws.getD k [])) := by
  rcases h with ⟨h, _⟩ | ⟨_, h⟩
  · omega
  · refine .inr ⟨Nat.succ_pos _, fun r hr => ?_⟩
    rw [List.append_assoc, List.append_assoc, h _ (blank_rep m _), scan_rep, scan_quote hw hr, R44.take_snoc (d := []) hk]
    cases scan r with
    | none => rfl
    | some x => simp
theorem LineJ.done (h : LineJ ws n k line) (hk : k = ws.length) (m : Nat) : scan (line ++ rep [32] m) = some ws := by
  have e : ∀ m, scan (rep [32] m) = some [] := fun m => by have := scan_rep m []; rwa [List.append_nil, scan_none] at this
  rcases h with ⟨h, rfl⟩ | ⟨_, h⟩
  · rw [scan_rep, e]
    have : ws = [] := List.length_eq_zero_iff.1 (by omega)
    rw [this]
  · cases m with
    | zero => have e2 := h [] (.inl rfl); rw [scan_none, hk] at e2; show scan (line ++ []) = _; rw [e2]; simp
    | succ m => rw [h _ (by have := blank_rep m []; rwa [List.append_nil] at this), e, hk]; simp
end
end R39
end Go.Proofs.YtbfiibgmgopnaaaDoor

namespace Go.Proofs.YtbfiibgmgopnaaaDoor
open Go.GV
namespace R39
open R44 (qualV isUp isPl)
abbrev KV := Bytes × Bytes
def look (m : List KV) (k : Bytes) : Option Bytes := (m.find? fun p => p.1 = k).map (·.2)
abbrev Syms := Bytes → Option Bytes
def symV (s : Bytes) : Bool := qualV isUp isPl s
def cutB (b : UInt8) : Bytes → Option (Bytes × Bytes)
  | [] => none
  | c :: t => if c = b then some ([], t) else (cutB b t).map fun p => (c :: p.1, p.2)
theorem cutB_le {b : UInt8} : ∀ {s a r : Bytes}, cutB b s = some (a, r) → s = a ++ b :: r
  | [], a, r, h => by cases h
  | c :: t, a, r, h => by
    rw [cutB] at h; split at h
    · rename_i e; cases h; rw [e]; rfl
    · cases hq : cutB b t with
      | none => rw [hq] at h; cases h
      | some p =>
        rw [hq] at h; cases h
        rw [cutB_le (a := p.1) (r := p.2) hq]; rfl
def replN (m : Syms) : Nat → Bytes → Except Int Bytes
  | 0, _ => .ok []
  | _ + 1, [] => .ok []
  | n + 1, c :: t =>
    if c = 38 then
      (if t.head? = some 38 then (replN m n t.tail).map (38 :: ·)
      else match cutB 59 t with
        | none => .error 3
        | some (a, r) => if symV a = true then (match m a with
            | none => .error 4
            | some v => (replN m n r).map (v ++ ·)) else .error 3)
    else (replN m n t).map (c :: ·)
def repl (m : Syms) (s : Bytes) : Except Int Bytes := replN m (s.length + 1) s
def replV (m : Syms) (s : Bytes) : Except Int Bytes := match repl m s with
  | .ok x => if 1000 < x.length then .error 8 else .ok x
  | .error e => .error e
section
variable {m : Syms}
theorem replN_ok : ∀ (n k : Nat) (s : Bytes), s.length < n → s.length < k → replN m n s = replN m k s
  | 0, _, _, h, _ => absurd h (Nat.not_lt_zero _)
  | _ + 1, 0, _, _, h => absurd h (Nat.not_lt_zero _)
  | n + 1, k + 1, [], _, _ => rfl
  | n + 1, k + 1, c :: t, hn, hk => by
    rw [List.length_cons] at hn hk
    rw [replN, replN]
    split
    · split
      · have : t.tail.length ≤ t.length := by rw [List.length_tail]; omega
        rw [replN_ok n k t.tail (by omega) (by omega)]
      · split
        · rfl
        · rename_i a r hc
          have := congrArg List.length (cutB_le hc)
          rw [List.length_append, List.length_cons] at this
          split
          · split
            · rfl
            · rw [replN_ok n k r (by omega) (by omega)]
          · rfl
    · rw [replN_ok n k t (by omega) (by omega)]
theorem repl_of {n : Nat} {s : Bytes} (h : s.length < n) : replN m n s = repl m s := replN_ok n (s.length + 1) s h (Nat.lt_succ_self _)
theorem repl_nil : repl m [] = .ok [] := rfl
theorem repl_cons {c : UInt8} {t : Bytes} (h : c ≠ 38) : repl m (c :: t) = (repl m t).map (c :: ·) := by
  unfold repl; rw [replN, if_neg h]; rfl
theorem repl_two {t : Bytes} : repl m (38 :: 38 :: t) = (repl m t).map (38 :: ·) := by
  unfold repl
  rw [replN, if_pos rfl, if_pos (show (38 :: t).head? = some 38 from rfl)]
  show (replN m (t.length + 1 + 1) t).map _ = _
  rw [repl_of (by omega)]; rfl
theorem repl_sym {t : Bytes} (h : t.head? ≠ some 38) : repl m (38 :: t) = match cutB 59 t with
    | none => .error 3
    | some (a, r) => if symV a = true then (match m a with
        | none => .error 4
        | some v => (repl m r).map (v ++ ·)) else .error 3 := by
  unfold repl
  rw [replN, if_pos rfl, if_neg h]
  split
  · rfl
  · rename_i a r hc
    have := congrArg List.length (cutB_le hc)
    rw [List.length_append, List.length_cons] at this
    have e : replN m (t.length + 1) r = replN m (r.length + 1) r := replN_ok _ _ _ (by omega) (by omega)
    show (if symV a = true then (match m a with | none => Except.error 4 | some v => (replN m (t.length + 1) r).map (v ++ ·)) else _) = _
    rw [e]
theorem map_map (x : Except Int Bytes) (f g : Bytes → Bytes) : (x.map f).map g = x.map (g ∘ f) := by cases x <;> rfl
theorem map_id (x : Except Int Bytes) : x.map ([] ++ ·) = x := by cases x <;> rfl
theorem repl_app : ∀ {a b : Bytes}, 38 ∉ a → repl m (a ++ b) = (repl m b).map (a ++ ·)
  | [], b, _ => (map_id _).symm
  | c :: a, b, h => by
    rw [List.cons_append, repl_cons (fun e => h (by rw [e]; exact List.mem_cons_self)), repl_app (fun h2 => h (List.mem_cons_of_mem _ h2)), map_map]; rfl
theorem repl_plain {a : Bytes} (h : 38 ∉ a) : repl m a = .ok a := by
  have := repl_app (m := m) (b := []) h
  rw [List.append_nil, repl_nil] at this
  rw [this]; show Except.ok (a ++ []) = _; rw [List.append_nil]
def amp (s : Bytes) : Bytes := s.flatMap fun c => if c = 38 then [38, 38] else [c]
theorem repl_amp : ∀ {a b : Bytes}, repl m (amp a ++ b) = (repl m b).map (a ++ ·)
  | [], b => (map_id _).symm
  | c :: a, b => by
    have ih := repl_amp (a := a) (b := b)
    unfold amp at *
    rw [List.flatMap_cons]
    by_cases hc : c = 38
    · subst hc
      have e : repl m (38 :: 38 :: (a.flatMap (fun c => if c = 38 then [38, 38] else [c]) ++ b)) = (repl m b).map ((38 :: a) ++ ·) := by
        rw [repl_two, ih, map_map]; rfl
      exact e
    · rw [if_neg hc]
      have e : repl m (c :: (a.flatMap (fun c => if c = 38 then [38, 38] else [c]) ++ b)) = (repl m b).map ((c :: a) ++ ·) := by
        rw [repl_cons hc, ih, map_map]; rfl
      exact e
end
def DAY1 : Bytes := [68, 65, 89, 49]
def DAY : Bytes := [68, 65, 89]
theorem repl_day1 {m : Syms} {v b : Bytes} (h : m DAY1 = some v) : repl m ([38, 68, 65, 89, 49, 59] ++ b) = (repl m b).map (v ++ ·) := by
  have e : cutB 59 ([68, 65, 89, 49, 59] ++ b) = some (DAY1, b) := rfl
  show repl m (38 :: ([68, 65, 89, 49, 59] ++ b)) = _
  rw [repl_sym (by simp), e]
  show (if symV DAY1 = true then (match m DAY1 with | none => Except.error 4 | some v => (repl m b).map (v ++ ·)) else Except.error 3) = _
  rw [if_pos (by decide), h]
theorem repl_none {m : Syms} (h : m [78, 79, 78, 69] = none) : repl m [38, 78, 79, 78, 69, 59] = .error 4 := by
  rw [repl_sym (by simp)]
  show (if symV [78, 79, 78, 69] = true then (match m [78, 79, 78, 69] with | none => Except.error 4 | some v => (repl m []).map (v ++ ·)) else Except.error 3) = _
  rw [if_pos (by decide), h]
def SymJ (v line want : Bytes) : Prop := ∀ m b, m DAY1 = some v → repl m (line ++ b) = (repl m b).map (want ++ ·)
section
variable {v line want : Bytes}
theorem SymJ.start : SymJ v [] [] := fun _ _ _ => (map_id _).symm
theorem SymJ.text (h : SymJ v line want) (s : Bytes) : SymJ v (line ++ amp s) (want ++ s) := fun m b hm => by
  rw [List.append_assoc, h m _ hm, repl_amp, map_map]
  congr 1; funext x; exact (List.append_assoc _ _ _).symm
theorem SymJ.sym (h : SymJ v line want) : SymJ v (line ++ [38, 68, 65, 89, 49, 59]) (want ++ v) := fun m b hm => by
  rw [List.append_assoc, h m _ hm, repl_day1 hm, map_map]
  congr 1; funext x; exact (List.append_assoc _ _ _).symm
theorem SymJ.done (h : SymJ v line want) {m : Syms} (hm : m DAY1 = some v) : replV m line = if 1000 < want.length then .error 8 else .ok want := by
  have := h m [] hm
  rw [List.append_nil, repl_nil] at this
  have e : repl m line = .ok want := by rw [this]; show Except.ok (want ++ []) = _; rw [List.append_nil]
  unfold replV; rw [e]
theorem SymJ.none_ (h : SymJ v line want) {m : Syms} (hm : m DAY1 = some v) (hn : m [78, 79, 78, 69] = none) : replV m (line ++ [38, 78, 79, 78, 69, 59]) = .error 4 := by
  unfold replV; rw [h m _ hm, repl_none hn]; rfl
end
end R39
end Go.Proofs.YtbfiibgmgopnaaaDoor

namespace Go.Proofs.YtbfiibgmgopnaaaDoor
open Go.GV
namespace R39
structure Stm where
  line : Int
  call : Bytes
  words : List Bytes
  data : List Bytes
deriving DecidableEq
structure Pr where
  vals : List KV
  rows : List Row
structure RS where
  syms : Syms
  procs : List (Bytes × Pr)
  out : List Stm
abbrev Res (α : Type) := Except (Int × Int) α
def wJOB : Bytes := [106, 111, 98]
def wSTEP : Bytes := [115, 116, 101, 112]
def wDD : Bytes := [100, 100]
def wSET : Bytes := [115, 101, 116]
def wPROC : Bytes := [112, 114, 111, 99]
def wEND : Bytes := [101, 110, 100]
def wCALL : Bytes := [99, 97, 108, 108]
def wINL : Bytes := [105, 110, 108, 105, 110, 101]
def wSTOP : Bytes := [47, 42]
def setS (m : Syms) (k v : Bytes) : Syms := fun q => if q = k then some v else m q
def over (m : Syms) (l : List KV) : Syms := fun q => match look l q with
  | some v => some v
  | none => m q
def valsG : List KV → List Bytes → Option (List KV)
  | acc, [] => some acc
  | acc, w :: r => match cutB 61 w with
    | none => none
    | some (a, v) => if (look acc a).isSome = true ∨ symV a = false then none else valsG (acc ++ [(a, v)]) r
def valsV (ws : List Bytes) : Option (List KV) := valsG [] ws
def inl (n : Int) : Nat → List Row → Res (List Bytes)
  | _, [] => .error (n, 3)
  | k, x :: r => if x.text = wSTOP then .ok [] else if 64 ≤ k ∨ 200 < x.text.length then .error (x.number, 8) else (inl n (k + 1) r).map (x.text :: ·)
def idle (s : Bytes) : Bool := match trim s with
  | [] => true
  | c :: _ => decide (c = 35)
def stmV (n : Int) (call : Bytes) (ws : List Bytes) (rest : List Row) (s : RS) : Res (Nat × RS) :=
  if 400 ≤ s.out.length then .error (n, 8)
  else if ws.getD 0 [] = wDD ∧ ws.length = 3 ∧ ws.getD 2 [] = wINL then
    match inl n 0 rest with
    | .error e => .error e
    | .ok l => .ok (l.length + 1, { s with out := s.out ++ [⟨n, call, ws, l⟩] })
  else .ok (0, { s with out := s.out ++ [⟨n, call, ws, []⟩] })
def isEnd (s : Bytes) : Bool := decide (scan s = some [wEND])
def findEnd : List Row → Option Nat
  | [] => none
  | x :: r => if isEnd x.text = true then some 0 else (findEnd r).map (· + 1)
def findP (l : List (Bytes × Pr)) (k : Bytes) : Option Pr := (l.find? fun p => p.1 = k).map (·.2)
def procV (n : Int) (ws : List Bytes) (rest : List Row) (s : RS) : Res (Nat × RS) :=
  if ws.length < 2 ∨ symV (ws.getD 1 []) = false then .error (n, 3)
  else match valsV (ws.drop 2) with
    | none => .error (n, 3)
    | some v => if (findP s.procs (ws.getD 1 [])).isSome = true then .error (n, 5)
      else match findEnd rest with
        | none => .error (n, 3)
        | some i => .ok (i + 1, { s with procs := s.procs ++ [(ws.getD 1 [], ⟨v, rest.take i⟩)] })
def readG (lf : Row → List Row → RS → Res (Nat × RS)) : Nat → List Row → RS → Res RS
  | 0, _, s => .ok s
  | _ + 1, [], s => .ok s
  | n + 1, x :: r, s => match lf x r s with
    | .error e => .error e
    | .ok (k, s') => readG lf n (r.drop k) s'
def lineIn (call : Bytes) (x : Row) (rest : List Row) (s : RS) : Res (Nat × RS) :=
  if idle x.text = true then .ok (0, s) else
  match replV s.syms x.text with
  | .error e => .error (x.number, e)
  | .ok z => match scan z with
    | none => .error (x.number, 3)
    | some ws => if ws = [] then .ok (0, s)
      else if ws.getD 0 [] = wJOB ∨ ws.getD 0 [] = wSTEP ∨ ws.getD 0 [] = wDD then stmV x.number call ws rest s
      else if ws.getD 0 [] = wSET ∨ ws.getD 0 [] = wPROC ∨ ws.getD 0 [] = wEND ∨ ws.getD 0 [] = wCALL then .error (x.number, 9)
      else .error (x.number, 3)
def readIn (call : Bytes) (rows : List Row) (s : RS) : Res RS := readG (lineIn call) (rows.length + 1) rows s
def callV (n : Int) (ws : List Bytes) (s : RS) : Res (Nat × RS) :=
  if ws.length < 3 ∨ symV (ws.getD 1 []) = false ∨ symV (ws.getD 2 []) = false then .error (n, 3)
  else match valsV (ws.drop 3) with
    | none => .error (n, 3)
    | some v => match findP s.procs (ws.getD 2 []) with
      | none => .error (n, 4)
      | some p => if v.all (fun q => (look p.vals q.1).isSome) = true then
          (match readIn (ws.getD 1 []) p.rows { s with syms := over (over s.syms p.vals) v } with
            | .error e => .error e
            | .ok s' => .ok (0, { s' with syms := s.syms }))
        else .error (n, 4)
def lineOut (x : Row) (rest : List Row) (s : RS) : Res (Nat × RS) :=
  if idle x.text = true then .ok (0, s) else
  match replV s.syms x.text with
  | .error e => .error (x.number, e)
  | .ok z => match scan z with
    | none => .error (x.number, 3)
    | some ws => if ws = [] then .ok (0, s)
      else if ws.getD 0 [] = wJOB ∨ ws.getD 0 [] = wSTEP ∨ ws.getD 0 [] = wDD then stmV x.number [] ws rest s
      else if ws.getD 0 [] = wSET then
        (if ws.length ≠ 3 ∨ symV (ws.getD 1 []) = false then .error (x.number, 3) else .ok (0, { s with syms := setS s.syms (ws.getD 1 []) (ws.getD 2 []) }))
      else if ws.getD 0 [] = wPROC then procV x.number ws rest s
      else if ws.getD 0 [] = wEND then .error (x.number, 9)
      else if ws.getD 0 [] = wCALL then callV x.number ws s
      else .error (x.number, 3)
def readOut (rows : List Row) (s : RS) : Res RS := readG lineOut (rows.length + 1) rows s
def linesG : Bytes → Bytes → List Bytes
  | cur, [] => if cur = [] then [] else [cur]
  | cur, c :: r => if c = 10 then cur :: linesG [] r else linesG (cur ++ [c]) r
def linesV (s : Bytes) : List Bytes := linesG [] s
def number : Nat → List Bytes → List Row
  | _, [] => []
  | k, x :: r => ⟨((k + 1 : Nat) : Int), x⟩ :: number (k + 1) r
def rowsV (s : Bytes) : List Row := number 0 (linesV s)
def rs0 : RS := ⟨fun _ => none, [], []⟩
def expand (t : Bytes) : Res (List Stm) :=
  if 16384 < t.length ∨ 512 < (rowsV t).length then .error (0, 8) else (readOut (rowsV t) rs0).map (·.out)
theorem readG_ok (lf : Row → List Row → RS → Res (Nat × RS)) : ∀ (n m : Nat) (l : List Row) (s : RS), l.length < n → l.length < m → readG lf n l s = readG lf m l s
  | 0, _, _, _, h, _ => absurd h (Nat.not_lt_zero _)
  | _ + 1, 0, _, _, _, h => absurd h (Nat.not_lt_zero _)
  | n + 1, m + 1, [], s, _, _ => rfl
  | n + 1, m + 1, x :: r, s, hn, hm => by
    rw [List.length_cons] at hn hm
    rw [readG, readG]
    split
    · rfl
    · rename_i k s' _
      have : (r.drop k).length ≤ r.length := by rw [List.length_drop]; omega
      exact readG_ok lf n m _ s' (by omega) (by omega)
theorem readOut_nil (s : RS) : readOut [] s = .ok s := rfl
theorem readIn_nil (c : Bytes) (s : RS) : readIn c [] s = .ok s := rfl
theorem readG_cons (lf : Row → List Row → RS → Res (Nat × RS)) (x : Row) (r : List Row) (s : RS) : readG lf ((x :: r).length + 1) (x :: r) s = match lf x r s with
    | .error e => .error e
    | .ok (k, s') => readG lf ((r.drop k).length + 1) (r.drop k) s' := by
  rw [readG]
  split
  · rfl
  · rename_i k s' _
    refine readG_ok lf _ _ _ s' ?_ (Nat.lt_succ_self _)
    rw [List.length_drop, List.length_cons]; omega
theorem readOut_cons (x : Row) (r : List Row) (s : RS) : readOut (x :: r) s = match lineOut x r s with
    | .error e => .error e
    | .ok (k, s') => readOut (r.drop k) s' := readG_cons _ _ _ _
theorem readIn_cons (c : Bytes) (x : Row) (r : List Row) (s : RS) : readIn c (x :: r) s = match lineIn c x r s with
    | .error e => .error e
    | .ok (k, s') => readIn c (r.drop k) s' := readG_cons _ _ _ _
end R39
end Go.Proofs.YtbfiibgmgopnaaaDoor

namespace Go.Proofs.YtbfiibgmgopnaaaDoor
open Go.GV
namespace R39
def IxJ (c : UInt8) (s : Bytes) (r : Int) : Prop := (r = -1 ∧ c ∉ s ∧ cutB c s = none) ∨ ∃ k : Nat, r = k ∧ k < s.length ∧ c ∉ s.take k ∧ s.getD k 0 = c ∧ cutB c s = some (s.take k, s.drop (k + 1))
theorem ixb_lib (c : UInt8) : ∀ s : Bytes, IxJ c s (Lib.indexByte s c)
  | [] => .inl ⟨rfl, by simp, rfl⟩
  | b :: l => by
    rw [Lib.indexByte]
    by_cases h : b = c
    · subst h
      rw [if_pos (by simp)]
      exact .inr ⟨0, rfl, by simp, by simp, rfl, by rw [cutB, if_pos rfl]; rfl⟩
    · rw [if_neg (by simpa using h)]
      rcases ixb_lib c l with ⟨h1, h2, h3⟩ | ⟨k, h1, h2, h3, h4, h5⟩
      · rw [if_pos (by rw [h1]; rfl)]
        exact .inl ⟨rfl, by simp only [List.mem_cons, not_or]; exact ⟨fun e => h e.symm, h2⟩, by rw [cutB, if_neg h, h3]; rfl⟩
      · rw [if_neg (by rw [h1]; intro e; have := beq_iff_eq.1 e; omega), h1]
        refine .inr ⟨k + 1, rfl, by simp; omega, ?_, h4, ?_⟩
        · rw [List.take_succ_cons, List.mem_cons, not_or]; exact ⟨fun e => h e.symm, h3⟩
        · rw [cutB, if_neg h, h5]; rfl
theorem cut_lib (c : UInt8) (s : Bytes) : (cutB c s = none ∧ Lib.cut s [c] = (s, [], false)) ∨ ∃ a r, cutB c s = some (a, r) ∧ Lib.cut s [c] = (a, r, true) := by
  unfold Lib.cut
  rw [Lib.index_one]
  rcases ixb_lib c s with ⟨h1, _, h3⟩ | ⟨k, h1, h2, h3, h4, h5⟩
  · rw [h1]; exact .inl ⟨h3, rfl⟩
  · rw [h1, if_pos (by omega)]; exact .inr ⟨_, _, h5, rfl⟩
theorem cont_lib (c : UInt8) (s : Bytes) : decide (0 ≤ Lib.indexByte s c) = decide (c ∈ s) := by
  rcases ixb_lib c s with ⟨h1, h2, _⟩ | ⟨k, h1, h2, h3, h4, h5⟩
  · rw [h1]; simp [h2]
  · rw [h1]
    have : c ∈ s := by rw [← h4, List.getD_eq_getElem?_getD, List.getElem?_eq_getElem h2]; exact List.getElem_mem h2
    simp [this]
def dblC (c : UInt8) (s : Bytes) : Bytes := s.flatMap fun x => if x = c then [c, c] else [x]
theorem dbl_take (c : UInt8) : ∀ (s : Bytes), c ∉ s → dblC c s = s
  | [], _ => rfl
  | x :: s, h => by
    rw [List.mem_cons, not_or] at h
    unfold dblC at *
    rw [List.flatMap_cons, if_neg (fun e => h.1 e.symm), show List.flatMap (fun x => if x = c then [c, c] else [x]) s = s from dbl_take c s h.2]; rfl
theorem dbl_app (c : UInt8) (a b : Bytes) : dblC c (a ++ b) = dblC c a ++ dblC c b := by unfold dblC; rw [List.flatMap_append]
theorem replK_lib (c : UInt8) : ∀ (n : Nat) (s : Bytes), s.count c ≤ n → Lib.replaceK [c] [c, c] n s = dblC c s
  | 0, s, h => by
    rw [Lib.replaceK, dbl_take]
    intro hm
    have := List.count_pos_iff.2 hm
    omega
  | n + 1, s, h => by
    rw [Lib.replaceK, Lib.index_one]
    rcases ixb_lib c s with ⟨h1, h2, _⟩ | ⟨k, h1, h2, h3, h4, _⟩
    · rw [h1, if_pos (by rfl), dbl_take c s h2]
    · rw [h1, if_neg (by intro e; have := beq_iff_eq.1 e; omega)]
      have e : s = s.take k ++ (c :: s.drop (k + 1)) := by
        have e1 := (List.take_append_drop k s).symm
        rw [List.drop_eq_getElem_cons h2] at e1
        have : s[k] = c := by rw [List.getD_eq_getElem?_getD, List.getElem?_eq_getElem h2] at h4; exact h4
        rwa [this] at e1
      have hc : s.count c = (s.drop (k + 1)).count c + 1 := by
        have := congrArg (List.count c) e
        rw [List.count_append, List.count_cons_self, List.count_eq_zero.2 h3] at this
        omega
      have ih := replK_lib c n (s.drop (k + 1)) (by omega)
      rw [show ((k : Int).toNat + [c].length) = k + 1 from rfl, show (k : Int).toNat = k from rfl, ih]
      conv => rhs; rw [e]
      rw [dbl_app, dbl_take c _ h3]
      show _ = s.take k ++ dblC c (c :: s.drop (k + 1))
      rw [show dblC c (c :: s.drop (k + 1)) = [c, c] ++ dblC c (s.drop (k + 1)) by unfold dblC; rw [List.flatMap_cons, if_pos rfl], List.append_assoc]
theorem repl_lib (c : UInt8) (s : Bytes) : Lib.replaceAll s [c] [c, c] = dblC c s := by
  unfold Lib.replaceAll Lib.replace
  rw [if_neg (by simp)]
  refine replK_lib c _ s ?_
  unfold Lib.replaceNum
  rw [if_pos (.inl (by decide)), Lib.count_one]
  exact Nat.le_refl _
theorem any_lib : ∀ s : Bytes, Lib.containsAny s [32, 39] = decide (32 ∈ s ∨ 39 ∈ s)
  | [] => rfl
  | b :: l => by
    have ih := any_lib l
    unfold Lib.containsAny at *
    rw [Lib.indexAny]
    have hge := Lib.indexAny_ge [32, 39] l
    by_cases hb : b = 32 ∨ b = 39
    · rw [if_pos (by rcases hb with rfl | rfl <;> decide)]
      rcases hb with rfl | rfl <;> simp
    · rw [not_or] at hb
      have hc : ([32, 39] : List UInt8).contains b = false := by
        simp only [List.contains_cons, List.contains_nil, Bool.or_false, Bool.or_eq_false_iff, beq_eq_false_iff_ne]
        exact hb
      rw [if_neg (by rw [hc]; decide)]
      have e : (32 ∈ b :: l ∨ 39 ∈ b :: l) ↔ (32 ∈ l ∨ 39 ∈ l) := by
        simp only [List.mem_cons]
        constructor
        · rintro ((h | h) | (h | h))
          · exact absurd h.symm hb.1
          · exact .inl h
          · exact absurd h.symm hb.2
          · exact .inr h
        · rintro (h | h)
          · exact .inl (.inr h)
          · exact .inr (.inr h)
      rw [decide_eq_decide.2 e, ← ih]
      split
      · rename_i h; have := beq_iff_eq.1 h; rw [this]
      · rename_i h
        have : Lib.indexAny l [32, 39] ≠ -1 := fun e => h (by rw [e]; rfl)
        rw [decide_eq_decide]; omega
def chop (s : Bytes) : Bytes := if s.getLast? = some 10 then s.dropLast else s
theorem chop_lib (s : Bytes) : Lib.trimSuffix s [10] = chop s := by
  unfold Lib.trimSuffix Lib.hasSuffix chop
  have e : ([10] : List UInt8).isSuffixOf s = decide (s.getLast? = some 10) := by
    rw [Bool.eq_iff_iff, List.isSuffixOf_iff_suffix, decide_eq_true_eq]
    constructor
    · rintro ⟨t, rfl⟩; simp
    · intro h
      obtain ⟨t, ht⟩ := List.getLast?_eq_some_iff.1 h
      exact ⟨t, ht.symm⟩
  rw [e]
  by_cases h : s.getLast? = some 10
  · rw [if_pos (decide_eq_true h), if_pos h, List.dropLast_eq_take]; rfl
  · rw [if_neg (by simpa using h), if_neg h]
theorem hasp_lib (s : Bytes) : Lib.hasPrefix s [38, 38] = decide (s.take 2 = [38, 38]) := by
  unfold Lib.hasPrefix
  rw [Bool.eq_iff_iff, List.isPrefixOf_iff_prefix, decide_eq_true_eq, List.prefix_iff_eq_take]
  exact eq_comm
def pW (n : Nat) : Bool := (decide (n ≤ 32) || decide (126 < n)) || decide (n = 39)
theorem pW_byte (c : UInt8) : pW c.toNat = !isW c := by
  unfold pW isW
  have e : decide (c ≠ (39 : UInt8)) = !decide (c.toNat = 39) := by
    by_cases h : c = 39
    · subst h; rfl
    · rw [decide_eq_true h, decide_eq_false (fun e : c.toNat = 39 => h (UInt8.toNat_inj.1 e))]; rfl
  have e1 : decide ((32 : UInt8) < c) = !decide (c.toNat ≤ 32) := by
    rw [decide_eq_decide.2 UInt8.lt_iff_toNat_lt]
    by_cases h : c.toNat ≤ 32
    · rw [decide_eq_true h, decide_eq_false (by show ¬ 32 < c.toNat; omega)]; rfl
    · rw [decide_eq_false h, decide_eq_true (by show 32 < c.toNat; omega)]; rfl
  have e2 : decide (c ≤ (126 : UInt8)) = !decide (126 < c.toNat) := by
    rw [decide_eq_decide.2 UInt8.le_iff_toNat_le]
    by_cases h : 126 < c.toNat
    · rw [decide_eq_true h, decide_eq_false (by show ¬ c.toNat ≤ 126; omega)]; rfl
    · rw [decide_eq_false h, decide_eq_true (by show c.toNat ≤ 126; omega)]; rfl
  rw [e, e1, e2]
  cases decide (c.toNat ≤ 32) <;> cases decide (126 < c.toNat) <;> cases decide (c.toNat = 39) <;> rfl
theorem get_list (s : ByteArray) (pos : Nat) (h : pos < s.size) : s[pos]'h = s.data.toList.getD pos 0 := by
  rw [List.getD_eq_getElem?_getD, Lib.data_getElem? s pos h]; rfl
theorem decode_W (s : ByteArray) (pos : Nat) (h : pos < s.size) : (isW (s.data.toList.getD pos 0) = true → Utf8.decode s pos = ((s.data.toList.getD pos 0).toNat, 1)) ∧ pW (Utf8.decode s pos).1 = !isW (s.data.toList.getD pos 0) := by
  rw [← get_list s pos h]
  rcases Nat.lt_or_ge (s[pos]'h).toNat 128 with ha | ha
  · have e := decode_ascii s pos h ha
    exact ⟨fun _ => e, by rw [e]; exact pW_byte _⟩
  · have e := decode_high s pos h ha
    have hw : isW (s[pos]'h) = false := by
      unfold isW
      rw [decide_eq_false (p := s[pos]'h ≤ (126 : UInt8)) (by rw [UInt8.le_iff_toNat_le]; show ¬ (s[pos]'h).toNat ≤ 126; omega), Bool.and_false, Bool.false_and]
    refine ⟨fun h2 => absurd (hw.symm.trans h2) (by decide), ?_⟩
    rw [hw]
    unfold pW
    rw [decide_eq_true (p := 126 < (Utf8.decode s pos).1) (by omega), Bool.or_true, Bool.true_or]; rfl
theorem ixf_from (s : ByteArray) : ∀ (f pos : Nat), s.size - pos ≤ f → pos ≤ s.size →
    Lib.idxFuncFrom pW true s f pos = if (s.data.toList.drop pos).all isW = true then -1 else ((pos + ((s.data.toList.drop pos).takeWhile isW).length : Nat) : Int)
  | 0, pos, h, hp => by
    have : s.data.toList.drop pos = [] := List.drop_eq_nil_iff.2 (by rw [← Lib.size_eq]; omega)
    rw [this]; rfl
  | f + 1, pos, h, hp => by
    rw [Lib.idxFuncFrom]
    by_cases hlt : pos < s.size
    · rw [if_pos hlt]
      have hl : pos < s.data.toList.length := by rw [← Lib.size_eq]; exact hlt
      have hd : s.data.toList.drop pos = s.data.toList.getD pos 0 :: s.data.toList.drop (pos + 1) := by
        rw [List.drop_eq_getElem_cons hl, List.getD_eq_getElem?_getD, List.getElem?_eq_getElem hl]; rfl
      obtain ⟨d1, d2⟩ := decode_W s pos hlt
      rw [hd, List.all_cons, List.takeWhile_cons]
      cases hw : isW (s.data.toList.getD pos 0) with
      | true =>
        rw [d2, hw, if_neg (by decide), d1 hw, ixf_from s f (pos + 1) (by omega) (by omega)]
        simp only [Bool.true_and, if_true, List.length_cons]
        rw [show pos + 1 + (List.takeWhile isW (List.drop (pos + 1) s.data.toList)).length = pos + ((List.takeWhile isW (List.drop (pos + 1) s.data.toList)).length + 1) by omega]
      | false =>
        rw [d2, hw, if_pos (by rfl)]
        simp
    · rw [if_neg hlt]
      have : s.data.toList.drop pos = [] := List.drop_eq_nil_iff.2 (by rw [← Lib.size_eq]; omega)
      rw [this]; rfl
def IxfJ (s : Bytes) (r : Int) : Prop := (r < 0 ∧ s.takeWhile isW = s) ∨ r = ((s.takeWhile isW).length : Int)
theorem tw_all {s : Bytes} (h : s.all isW = true) : s.takeWhile isW = s := by
  have e := List.takeWhile_append_dropWhile (p := isW) (l := s)
  have hd : s.dropWhile isW = [] := by
    cases hq : s.dropWhile isW with
    | nil => rfl
    | cons c t =>
      have h1 := List.head_dropWhile_not isW (l := s) (by rw [hq]; exact List.cons_ne_nil _ _)
      have hm : (s.dropWhile isW).head (by rw [hq]; exact List.cons_ne_nil _ _) ∈ s := (List.dropWhile_sublist _).subset (List.head_mem _)
      exact absurd (List.all_eq_true.1 h _ hm) (by rw [h1]; decide)
  rw [hd, List.append_nil] at e; exact e
theorem IxfJ.neg {s : Bytes} {r : Int} (h : IxfJ s r) (hr : r < 0) : s.length = (s.takeWhile isW).length := by
  rcases h with ⟨_, h⟩ | h
  · rw [h]
  · omega
theorem IxfJ.pos {s : Bytes} {k : Nat} (h : IxfJ s (k : Int)) : k = (s.takeWhile isW).length := by
  rcases h with ⟨h, _⟩ | h <;> omega
theorem ixf_lib (s : Bytes) : Lib.idxFunc pW true ⟨s.toArray⟩ = if s.all isW = true then -1 else ((s.takeWhile isW).length : Int) := by
  unfold Lib.idxFunc
  rw [ixf_from _ _ 0 (by omega) (Nat.zero_le _), List.drop_zero, Nat.zero_add]
theorem ixfJ (s : Bytes) : IxfJ s (Lib.idxFunc pW true ⟨s.toArray⟩) := by
  rw [ixf_lib]
  by_cases h : s.all isW = true
  · rw [if_pos h]; exact .inl ⟨by decide, tw_all h⟩
  · rw [if_neg h]; exact .inr rfl
theorem dbl_len (c : UInt8) : ∀ s : Bytes, (dblC c s).length ≤ 2 * s.length
  | [] => Nat.le_refl _
  | x :: s => by
    have ih := dbl_len c s
    unfold dblC at *
    rw [List.flatMap_cons, List.length_append, List.length_cons]
    split <;> simp only [List.length_cons, List.length_nil] <;> omega
theorem pW_int (x : Nat) : ((decide ((x : Int) ≤ 32) || decide (126 < (x : Int))) || decide ((x : Int) = 39)) = pW x := by
  unfold pW
  rw [decide_eq_decide.2 (show ((x : Int) ≤ 32) ↔ x ≤ 32 by omega), decide_eq_decide.2 (show (126 < (x : Int)) ↔ 126 < x by omega), decide_eq_decide.2 (show ((x : Int) = 39) ↔ x = 39 by omega)]
theorem split_one (b : UInt8) : ∀ (s cur : Bytes), b ∉ s → R44.splitGo b cur s = [cur ++ s]
  | [], cur, _ => by rw [R44.splitGo, List.append_nil]
  | c :: s, cur, h => by
    rw [List.mem_cons, not_or] at h
    rw [R44.splitGo, if_neg (fun e => h.1 e.symm), split_one b s _ h.2, List.append_assoc]; rfl
theorem sym_name (s : Bytes) : (R44.nameV (R44.qualV R44.isUp R44.isPl) s && !decide (46 ∈ s)) = symV s := by
  unfold symV
  by_cases hd : 46 ∈ s
  · rw [decide_eq_true hd]
    show (_ && false) = _
    rw [Bool.and_false]
    symm
    rw [Bool.eq_false_iff]
    intro hq
    unfold R44.qualV at hq
    simp only [Bool.and_eq_true, decide_eq_true_eq, List.all_eq_true] at hq
    obtain ⟨⟨⟨h1, _⟩, h2⟩, h3⟩ := hq
    cases s with
    | nil => cases hd
    | cons c r =>
      rcases List.mem_cons.1 hd with rfl | hm
      · exact absurd (show R44.isUp 46 = true from h2) (by decide)
      · exact absurd (h3 46 hm) (by decide)
  · rw [decide_eq_false hd]
    show (_ && true) = _
    rw [Bool.and_true]
    unfold R44.nameV R44.splitC
    rw [split_one 46 s [] hd, List.nil_append, List.all_cons, List.all_nil, Bool.and_true]
    cases hq : R44.qualV R44.isUp R44.isPl s with
    | false => rw [Bool.and_false]
    | true =>
      unfold R44.qualV at hq
      simp only [Bool.and_eq_true, decide_eq_true_eq] at hq
      rw [decide_eq_true hq.1.1.1, decide_eq_true (show s.length ≤ 31 by omega)]; rfl
end R39
end Go.Proofs.YtbfiibgmgopnaaaDoor

namespace Go.Proofs.YtbfiibgmgopnaaaDoor
open Go.GV Go.RowKit Go.Op
structure Tab (S : List Nat) (w : World) : Prop where
  mx : ∃ m, RO S w (some ⟨0, 0, none⟩) [vI m]
theorem Tab.on {S Sc : List Nat} {w0 w : World} {Lc Lr : List Ent} (h : Tab S w0) (hS : St S w0 w (Lc ++ Lr)) (hSc : ∀ b ∈ Sc, ∃ e ∈ Lc, e.own = some b) : Tab Sc w :=
  ⟨h.mx.imp fun _ k => k.on hS hSc⟩
theorem Tab.again {S : List Nat} {w0 w : World} {L : List Ent} (h : Tab S w0) (hS : St S w0 w L) : Tab (Lown L) w :=
  h.on (Lc := L) (Lr := []) (by rw [List.append_nil]; exact hS) lown_mem
theorem Tab.old {S S2 : List Nat} {w0 w2 : World} (h : Tab S w0) (ho : Old S w0 S2 w2) : Tab S2 w2 := ⟨h.mx.imp fun _ k => k.old ho⟩
theorem cell_ofT {S : List Nat} {w : World} {b : Nat} {v : Value} (h : RO S w (some ⟨b, 0, none⟩) [v]) : w.cell? ⟨b, 0, none⟩ = some v := h.cell (Fr.refl S w) (j := 0) rfl
theorem sz (s : Bytes) : (⟨s.toArray⟩ : ByteArray).size = s.length := by show s.toArray.size = _; simp
theorem split_ok (s : Bytes) (w : World) (hT : Tab [] w) (q0 : s.length ≤ 1000000) : Calls Tryd.prog 93 #[vS s, vS [46]] w (Gives [] w fun v L => ∃ (A2 : Option Addr) (c2 : Nat), v = vL A2 (R44.splitC 46 s).length c2 ∧ L = [Ent.row (.slice A2 (R44.splitC 46 s).length c2) 9 1 (R44.splitC 46 s).length ((R44.splitC 46 s).map vS)]) := by
  obtain ⟨m, hm⟩ := hT.mx
  refine (Tryd.strings_Split ⟨s.toArray⟩ ⟨#[46]⟩ m w (by show s.toArray.size < _; simp; omega) (cell_ofT hm) (by decide)).mono ?_
  rintro e w' ⟨rfl, rfl⟩
  have hl := R44.split_lib ⟨s.toArray⟩ 46
  have hlen := congrArg List.length hl
  rw [List.length_map, Lib.splitB_all _ (by decide) 0 _ _ rfl] at hlen
  have hsz : s.length = (⟨s.toArray⟩ : ByteArray).size := by show _ = s.toArray.size; simp
  have hc := Lib.countB_le ⟨#[46]⟩ (by decide) _ ⟨s.toArray⟩ (Nat.le_refl _)
  have hcells : (Lib.splitB ⟨#[46]⟩ 0 (Lib.countB ⟨s.toArray⟩ ⟨#[46]⟩) ⟨s.toArray⟩).map Value.string = (R44.splitC 46 s).map vS := by
    rw [show R44.splitC 46 s = R44.splitC 46 (⟨s.toArray⟩ : ByteArray).data.toList from rfl, ← hl, List.map_map]
    exact List.map_congr_left fun x _ => rfl
  refine ⟨_, _, rfl, ⟨some ⟨w.heap.size, 0, none⟩, (R44.splitC 46 s).length, ?_, rfl⟩, ?_⟩
  · rw [hlen]
  · refine (St.nil (Fr.refl [] w)).alloc _ _ rfl ⟨by simp, .inr ⟨w.heap.size, (R44.splitC 46 s).length, ((R44.splitC 46 s).map vS).toArray, rfl, ?_, Nat.le_refl _, ?_, by simp, ?_⟩⟩
    · rw [hcells]
    · rw [← hlen]; simp only [maxLen]; omega
    · exact List.take_of_length_le (by simp)
theorem trim_ok (s : Bytes) (w : World) : Calls Tryd.prog 23 #[vS s, vS [32]] w (Gives [] w fun v L => v = vS (R39.trim s) ∧ L = []) := by
  refine (Tryd.strings_TrimLeft_one ⟨s.toArray⟩ 32 (by decide) w).mono ?_
  rintro e w' ⟨rfl, rfl⟩
  exact ⟨_, _, rfl, ⟨rfl, rfl⟩, St.nil (Fr.refl _ _)⟩
theorem ixb_ok (s : Bytes) (c : UInt8) (w : World) : Calls Tryd.prog 25 #[vS s, vU8 c] w (Gives [] w fun v L => ∃ r : Int, v = vI r ∧ L = [] ∧ (R39.IxJ c s r)) := by
  refine (Tryd.strings_IndexByte ⟨s.toArray⟩ (c.toNat : Int) w).mono ?_
  rintro e w' ⟨rfl, rfl⟩
  refine ⟨_, _, rfl, ⟨_, rfl, rfl, ?_⟩, St.nil (Fr.refl _ _)⟩
  rw [Lib.byte_back]
  exact R39.ixb_lib c s
theorem cont_ok (c : UInt8) (s : Bytes) (w : World) : Calls Tryd.prog 18 #[vS s, vS [c]] w (Gives [] w fun v L => v = vB (decide (c ∈ s)) ∧ L = []) := by
  refine (Tryd.strings_Contains_one ⟨s.toArray⟩ c w).mono ?_
  rintro e w' ⟨rfl, rfl⟩
  exact ⟨_, _, rfl, ⟨congrArg vB (R39.cont_lib c s), rfl⟩, St.nil (Fr.refl _ _)⟩
theorem fr_drewN (w : World) (n : Nat) : Fr [] w (w.drewN n) := Fr.of_below (below_drewNg w n)
theorem cut_ok (c : UInt8) (s : Bytes) (w : World) (hT : Tab [] w) (q0 : s.length ≤ 1000000) : Calls Tryd.prog 29 #[vS s, vS [c]] w (Gives [] w fun v L => ∃ (a r : Bytes) (o : Bool), v = Value.tuple #[vS a, vS r, vB o] ∧ L = [] ∧ (o = true → R39.cutB c s = some (a, r)) ∧ (o = false → R39.cutB c s = none) ∧ (a.length + r.length ≤ s.length)) := by
  obtain ⟨m, hm⟩ := hT.mx
  refine (Tryd.strings_Cut ⟨s.toArray⟩ ⟨#[c]⟩ m w (by rw [sz]; omega) (cell_ofT hm)).mono ?_
  rintro e w' ⟨rfl, n, rfl⟩
  rcases R39.cut_lib c s with ⟨h1, h2⟩ | ⟨a, r, h1, h2⟩
  · refine ⟨_, _, rfl, ⟨s, [], false, ?_, rfl, fun h => (by cases h), fun _ => h1, Nat.le_refl _⟩, St.nil (fr_drewN w n)⟩
    show Value.tuple #[vS (Lib.cut s [c]).1, vS (Lib.cut s [c]).2.1, vB (Lib.cut s [c]).2.2] = _
    rw [h2]
  · refine ⟨_, _, rfl, ⟨a, r, true, ?_, rfl, fun _ => h1, fun h => (by cases h), by have := congrArg List.length (R39.cutB_le h1); rw [List.length_append, List.length_cons] at this; omega⟩, St.nil (fr_drewN w n)⟩
    show Value.tuple #[vS (Lib.cut s [c]).1, vS (Lib.cut s [c]).2.1, vB (Lib.cut s [c]).2.2] = _
    rw [h2]
theorem hasp_ok (s : Bytes) (w : World) : Calls Tryd.prog 27 #[vS s, vS [38, 38]] w (Gives [] w fun v L => v = vB (decide (s.take 2 = [38, 38])) ∧ L = []) := by
  refine (Tryd.strings_HasPrefix ⟨s.toArray⟩ ⟨#[38, 38]⟩ w).mono ?_
  rintro e w' ⟨rfl, rfl⟩
  exact ⟨_, _, rfl, ⟨congrArg vB (R39.hasp_lib s), rfl⟩, St.nil (Fr.refl _ _)⟩
theorem tsuf_ok (s : Bytes) (w : World) (q0 : s.length ≤ 9223372036854775807) : Calls Tryd.prog 38 #[vS s, vS [10]] w (Gives [] w fun v L => v = vS (R39.chop s) ∧ L = []) := by
  refine (Tryd.strings_TrimSuffix ⟨s.toArray⟩ ⟨#[10]⟩ w (by rw [sz]; exact q0)).mono ?_
  rintro e w' ⟨rfl, rfl⟩
  exact ⟨_, _, rfl, ⟨congrArg vS (R39.chop_lib s), rfl⟩, St.nil (Fr.refl _ _)⟩
theorem repl_ok (c : UInt8) (s : Bytes) (w : World) (hT : Tab [] w) (q0 : s.length ≤ 1000000) : Calls Tryd.prog 17 #[vS s, vS [c], vS [c, c]] w (Gives [] w fun v L => v = vS (R39.dblC c s) ∧ L = []) := by
  obtain ⟨m, hm⟩ := hT.mx
  have hc := Lib.countB_le ⟨#[c]⟩ (by show 1 ≤ (#[c] : Array UInt8).size; exact Nat.le_refl 1) _ ⟨s.toArray⟩ (Nat.le_refl _)
  refine (Tryd.strings_ReplaceAll ⟨s.toArray⟩ ⟨#[c]⟩ ⟨#[c, c]⟩ m w (by rw [sz]; omega) (cell_ofT hm) (Nat.le_refl 1) ?_).mono ?_
  · rw [sz] at hc ⊢
    show s.length + _ * 2 ≤ _
    omega
  · rintro e w' ⟨rfl, hb⟩
    exact ⟨_, _, rfl, ⟨congrArg vS (R39.repl_lib c s), rfl⟩, St.nil (Fr.of_below hb)⟩
theorem cany_ok (s : Bytes) (w : World) (q0 : s.length ≤ 1000000) (q1 : ∀ c ∈ s, c.toNat < 128) : Calls Tryd.prog 34 #[vS s, vS [32, 39]] w (Gives [] w fun v L => v = vB (decide (32 ∈ s ∨ 39 ∈ s)) ∧ L = []) := by
  refine (Tryd.strings_ContainsAny_laid ⟨s.toArray⟩ ⟨#[32, 39]⟩ w (by rw [sz]; omega) (by decide) (fun j b h => q1 b (List.mem_of_getElem? h)) (fun j b h => ?_)).mono ?_
  · have := List.mem_of_getElem? h
    simp only [List.mem_cons, List.not_mem_nil, or_false] at this
    rcases this with rfl | rfl <;> decide
  · rintro e w' ⟨rfl, hb⟩
    exact ⟨_, _, rfl, ⟨congrArg vB (R39.any_lib s), rfl⟩, St.nil (Fr.of_below hb)⟩
theorem ixf_ok (hp : ∀ (x : Nat) (w : World), Calls Tryd.prog 50 #[vR x] w (Gives [] w fun v L => v = vB (R39.pW x) ∧ L = [])) (s : Bytes) (w : World) : Calls Tryd.prog 49 #[vS s, Value.func (.func 50) #[] #[]] w (Gives [] w fun v L => ∃ r : Int, v = vI r ∧ L = [] ∧ (R39.IxfJ s r)) := by
  refine (Tryd.strings_IndexFunc_grows 50 #[] (fun args w => run_callFunc_enter Ty.ca50) R39.pW ⟨s.toArray⟩ w (fun W x _ _ => ?_)).mono ?_
  · refine (hp x W).mono ?_
    rintro e w' ⟨v, L, rfl, ⟨rfl, rfl⟩, hS⟩
    exact ⟨rfl, hS.fr.below⟩
  · rintro e w' ⟨rfl, hb⟩
    exact ⟨_, _, rfl, ⟨_, rfl, rfl, R39.ixfJ s⟩, St.nil (Fr.of_below hb)⟩
theorem clones : Externed Tryd.prog 104 Extern.MapsClone.clone := ⟨Tryd.f104, Tryd.func104, by kernel_rfl, by kernel_rfl, by kernel_rfl, by kernel_rfl⟩
theorem noEsc : Externed Tryd.prog 71 Extern.AbiNoEscape.same := ⟨Tryd.f71, Tryd.func71, by kernel_rfl, by kernel_rfl, by kernel_rfl, by kernel_rfl⟩
end Go.Proofs.YtbfiibgmgopnaaaDoor

namespace Go.GV
open Go.RowKit
section
variable {P : Program} {t : TypeId}
theorem open_cap {e : TypeId} (ht : P.underlying t = some (.slice e)) : OpenAt P t fun _ cs => ∃ (A : Option Addr) (l c : Nat), cs = [.slice A l c] ∧ l ≤ c := by
  intro H enc w fuel cs x hx
  rcases Deep.open_slice ht hx with ⟨rfl, _⟩ | ⟨a, len, cap, m, n, D, Pl, rfl, _, hlc, _⟩
  · exact ⟨none, 0, 0, rfl, Nat.le_refl _⟩
  · exact ⟨some a, len, cap, rfl, hlc⟩
theorem open_slW2 {α : Type} [Inhabited α] {e : TypeId} {N : Nat} {f : α → List Value} {B : World → α → Prop} (ht : P.underlying t = some (.slice e)) (hc : P.cellsOf e = N) (hN : ∀ a, (f a).length = N) (he : OpenAt P e fun w cs => ∃ a, cs = f a ∧ B w a) :
    OpenAt P t fun w cs => ∃ (A : Option Addr) (c : Nat) (xs : List α), cs = [.slice A xs.length c] ∧ RO [] w A (xs.flatMap f) ∧ (xs.length ≤ c ∧ xs.length ≤ 9223372036854775807) ∧ ∀ a ∈ xs, B w a := by
  intro H enc w fuel cs x hx
  obtain ⟨A, c, xs, rfl, hR, hl, hB⟩ := open_slW ht hc hN he H enc w fuel cs x hx
  obtain ⟨A2, l2, c2, e2, hle⟩ := open_cap ht H enc w fuel _ x hx
  cases e2
  exact ⟨A, c, xs, rfl, hR, ⟨hle, hl⟩, hB⟩
theorem open_sl2 {α : Type} [Inhabited α] {e : TypeId} {N : Nat} {f : α → List Value} {B : α → Prop} (ht : P.underlying t = some (.slice e)) (hc : P.cellsOf e = N) (hN : ∀ a, (f a).length = N) (he : OpenAt P e fun _ cs => ∃ a, cs = f a ∧ B a) :
    OpenAt P t fun w cs => ∃ (A : Option Addr) (c : Nat) (xs : List α), cs = [.slice A xs.length c] ∧ RO [] w A (xs.flatMap f) ∧ (xs.length ≤ c ∧ xs.length ≤ 9223372036854775807) ∧ ∀ a ∈ xs, B a :=
  open_slW2 (B := fun _ => B) ht hc hN he
end
theorem ro_one {w : World} {b : Nat} {v : Value} (h : w.cell? ⟨b, 0, none⟩ = some v) (hb : b < w.heap.size) : RO [] w (some ⟨b, 0, none⟩) [v] := fun j u hj => by
  cases j with
  | zero => cases hj; exact ⟨_, rfl, hb, List.not_mem_nil, h⟩
  | succ j => cases hj
end Go.GV
namespace Go
end Go
namespace Go.Proofs.YtbfiibgmgopnaaaDoor
open Go.GV Go.RowKit
theorem own : ownKnob Tryd.prog.godebug = none := by kernel_rfl
theorem gMax {w : World} (h : w.ShapedOpen Tryd.prog) : ∃ m, w.cell? ⟨0, 0, none⟩ = some (.int .i64 m) :=
  Go.Proofs.cell_of_shapedOpen_int (zero := #[.int .i64 0]) (t := 3) h (of_decide_eq_true (by kernel_rfl)) (by kernel_rfl) rfl (by kernel_rfl) (by kernel_rfl) Tryd.underlying3
noncomputable abbrev start (os : Os) : World := World.laidAll Tryd.prog os Rows.jobtextWordsRow.laid
theorem door_met (os : Os) (args : Array Value) : laidMetH Tryd.prog Rows.jobtextWordsRow.laid ((start os).forCall (fun _ _ => 0) ⟨#[], args, []⟩).memory := by
  rw [MakeChecks.laidMetH_plain _ _ _ (by kernel_rfl)]
  exact laidMet_laidAll args (by kernel_rfl) (by kernel_rfl)
theorem start_os (os : Os) : (start os).os = os := World.laidAll_os _ _ _
theorem tab_of {W : World} (hs : W.ShapedOpen Tryd.prog) (_h : laidMetH Tryd.prog Rows.jobtextWordsRow.laid W) : Tab [] W := by
  obtain ⟨m, hm⟩ := gMax hs
  have hb : 0 < W.heap.size := by
    unfold World.cell? at hm
    cases ho : W.heap[0]? with
    | none => simp [ho] at hm
    | some o => exact (Array.getElem?_eq_some_iff.1 ho).1
  exact ⟨⟨m, ro_one hm hb⟩⟩
end Go.Proofs.YtbfiibgmgopnaaaDoor

namespace Go.Proofs.YtbfiibgmgopnaaaDoor
open Go.GV
theorem bulk_part {H : Type} {d : DataW H} {l : List (DataW H)} (h : d ∈ l) : Rows.uptoBulk d ≤ Rows.uptoBulkAll l := by
  induction l with
  | nil => cases h
  | cons x r ih =>
    simp only [Rows.uptoBulkAll]
    rcases List.mem_cons.1 h with rfl | h
    · omega
    · have := ih h; omega
theorem strs_bulk {H : Type} {enc : TypeId × Value → H} {P : Program} {w : World} {fuel : Nat} {t e : TypeId} {A : Option Addr} {c : Nat} {xs : List Bytes} {d : DataW H} {p : List MemPlace} (ht : P.underlying t = some (.slice e)) (he : P.underlying e = some .string) (hc : P.cellsOf e = 1)
    (h : DataW.trod enc P w 0 (fun _ => true) true fuel t [.slice A xs.length c] = some (d, p)) (hR : RO [] w A (xs.map vS)) (i : Nat) : (xs.getD i []).length ≤ Rows.uptoBulk d := by
  rcases Nat.lt_or_ge i xs.length with hi | hi
  · rcases Deep.open_slice ht h with ⟨h0, _⟩ | ⟨a, len, cap, m, n, D, Pl, h0, _, hlc, _, hm, hx, hall⟩
    · injection h0 with h0 _; injection h0 with _ h1 _; omega
    · injection h0 with h0 _; injection h0 with h1 h2 _
      injection hx with hx _
      have hm2 : m = cap := by rw [hm]; rfl
      obtain ⟨cs', g1, g2⟩ := hall i (by omega)
      obtain ⟨s, rfl, g3, _⟩ := DataW.trod_string he g2
      rw [hc] at g1
      obtain ⟨_, _, hall2⟩ := World.cells?_some g1
      have g4 := hall2 0 (by decide)
      obtain ⟨a', ha, _, _, g5⟩ := hR i (vS xs[i]) (by rw [List.getElem?_map, List.getElem?_eq_getElem hi]; rfl)
      rw [h1] at ha; injection ha with ha
      rw [← ha] at g5
      rw [Deep.add_add, Nat.mul_one, Nat.add_zero, g5] at g4
      have g6 : s = ⟨xs[i].toArray⟩ := by
        have := Option.some.inj g4
        injection this with this; exact this.symm
      injection g3 with g3 _
      have hl : Rows.uptoBulk (D i) = xs[i].length + 1 := by
        rw [g3, g6]; simp [Rows.uptoBulk]
      have hp : Rows.uptoBulk (D i) ≤ Rows.uptoBulkAll ((List.range len).map D) := bulk_part (List.mem_map_of_mem (List.mem_range.2 (by omega)))
      have hd : Rows.uptoBulk d = Rows.uptoBulkAll ((List.range len).map D) + Rows.uptoBulkAll ((List.range (m - len)).map fun j => D (len + j)) + 1 := by rw [hx, Rows.uptoBulk]
      rw [List.getD_eq_getElem?_getD, List.getElem?_eq_getElem hi]
      show xs[i].length ≤ _
      omega
  · rw [List.getD_eq_getElem?_getD, List.getElem?_eq_none hi]; exact Nat.zero_le _
end Go.Proofs.YtbfiibgmgopnaaaDoor

namespace Go.Proofs.YtbfiibgmgopnaaaDoor
open Go.GV
namespace R44
theorem splitGo_len (b : UInt8) : ∀ (l cur : Bytes), ∀ x ∈ splitGo b cur l, x.length ≤ cur.length + l.length
  | [], cur, x, hx => by rw [splitGo] at hx; rw [List.mem_singleton.1 hx]; simp
  | c :: r, cur, x, hx => by
    rw [splitGo] at hx; rw [List.length_cons]
    split at hx
    · rcases List.mem_cons.1 hx with rfl | hx
      · omega
      · have := splitGo_len b r [] x hx; simp at this; omega
    · have := splitGo_len b r _ x hx; simp at this; omega
theorem splitC_len (b : UInt8) (s : Bytes) (i : Nat) : ((splitC b s).getD i []).length ≤ s.length := by
  by_cases h : i < (splitC b s).length
  · have := splitGo_len b s [] _ (getD_mem (d := []) h); rw [List.length_nil, Nat.zero_add] at this; exact this
  · rw [List.getD_eq_getElem?_getD, List.getElem?_eq_none (by omega)]; exact Nat.zero_le _
theorem splitGo_count (b : UInt8) : ∀ (l cur : Bytes), (splitGo b cur l).length ≤ l.length + 1
  | [], cur => by rw [splitGo]; simp
  | c :: r, cur => by
    rw [splitGo, List.length_cons]
    split
    · rw [List.length_cons]; have := splitGo_count b r []; omega
    · have := splitGo_count b r (cur ++ [c]); omega
theorem splitC_count (b : UInt8) (s : Bytes) : (splitC b s).length ≤ s.length + 1 := splitGo_count b s []
end R44
end Go.Proofs.YtbfiibgmgopnaaaDoor
