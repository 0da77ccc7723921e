/- Pl39e, Pl39q, C39k, Pl39r, C39l, C39m, C39n, Pl39f, Pl39g, Pl39s, C39o, Pl39t, Pl39u, GvJ, C39p, Pl39v, C39q, C39r in one text. -/
import Derived.Test.YtbfiibgmgopnaaaDoorJobtextLines7
import Derived.Test.YtbfiibgmgopnaaaDoorJobtextLines14
import Derived.Test.YtbfiibgmgopnaaaDoorC39j
import Derived.KernelRfl
import Derived.Test.YtbfiibgmgopnaaaDoorJobtextLines6
set_option linter.unusedVariables false
set_option linter.unusedSimpArgs false
namespace Go.Proofs.YtbfiibgmgopnaaaDoor
open Go.GV
namespace R39
theorem linesG_pre : ∀ (a cur b : Bytes), 10 ∉ a → linesG cur (a ++ 10 :: b) = (cur ++ a) :: linesG [] b
  | [], cur, b, _ => by show linesG cur (10 :: b) = _; rw [linesG, if_pos rfl, List.append_nil]
  | c :: a, cur, b, h => by
    have hc : c ≠ 10 := fun e => h (by rw [e]; exact List.mem_cons_self)
    rw [List.cons_append, linesG, if_neg hc, linesG_pre a _ b (fun h2 => h (List.mem_cons_of_mem _ h2)), List.append_assoc]; rfl
theorem lines_pre {a b : Bytes} (h : 10 ∉ a) : linesV (a ++ 10 :: b) = a :: linesV b := by
  unfold linesV; rw [linesG_pre a [] b h]; rfl
def body (l : List Bytes) : Bytes := l.flatMap fun s => s ++ [10]
theorem number_app : ∀ (k : Nat) (l m : List Bytes), number k (l ++ m) = number k l ++ number (k + l.length) m
  | k, [], m => rfl
  | k, x :: l, m => by
    rw [List.cons_append, number, number, number_app (k + 1) l m, List.length_cons, show k + 1 + l.length = k + (l.length + 1) by omega]; rfl
theorem number_len : ∀ (k : Nat) (l : List Bytes), (number k l).length = l.length
  | _, [] => rfl
  | k, x :: l => by rw [number, List.length_cons, number_len (k + 1) l, List.length_cons]
def sh (d : Nat) (x : Row) : Row := ⟨x.number + d, x.text⟩
def shM (d : Nat) (s : Stm) : Stm := { s with line := s.line + d }
def shP (d : Nat) (p : Bytes × Pr) : Bytes × Pr := (p.1, ⟨p.2.vals, p.2.rows.map (sh d)⟩)
def shS (d : Nat) (s : RS) : RS := ⟨s.syms, s.procs.map (shP d), s.out.map (shM d)⟩
def shE {α : Type} (d : Nat) (f : α → α) : Res α → Res α
  | .error e => .error (e.1 + d, e.2)
  | .ok x => .ok (f x)
def shL (d : Nat) (p : Nat × RS) : Nat × RS := (p.1, shS d p.2)
section
variable {d : Nat}
end
def idles (l : List Bytes) : List Bytes := l.flatMap fun s => [[32, 32, 35] ++ s, rep [32] s.length]
end R39
end Go.Proofs.YtbfiibgmgopnaaaDoor

namespace Go.Proofs.YtbfiibgmgopnaaaDoor
open Go.GV
namespace R39
def linesN : Nat → Bytes → List Bytes
  | 0, _ => []
  | n + 1, s => if s = [] then [] else match cutB 10 s with
    | some (a, r) => (a ++ [10]) :: linesN n r
    | none => [s]
def linesT (s : Bytes) : List Bytes := linesN s.length s
theorem linesN_ok : ∀ (n m : Nat) (s : Bytes), s.length ≤ n → s.length ≤ m → linesN n s = linesN m s
  | 0, 0, _, _, _ => rfl
  | 0, m + 1, s, h, _ => by
    have : s = [] := List.length_eq_zero_iff.1 (by omega)
    rw [linesN, linesN, if_pos this]
  | n + 1, 0, s, _, h => by
    have : s = [] := List.length_eq_zero_iff.1 (by omega)
    rw [linesN, linesN, if_pos this]
  | n + 1, m + 1, s, hn, hm => by
    rw [linesN, linesN]
    split
    · rfl
    · cases hc : cutB 10 s with
      | none => rfl
      | some p =>
        have := congrArg List.length (cutB_le (a := p.1) (r := p.2) hc)
        rw [List.length_append, List.length_cons] at this
        show (p.1 ++ [10]) :: linesN n p.2 = (p.1 ++ [10]) :: linesN m p.2
        rw [linesN_ok n m p.2 (by omega) (by omega)]
theorem linesT_nil : linesT [] = [] := rfl
theorem linesT_some {s a r : Bytes} (h : cutB 10 s = some (a, r)) : linesT s = (a ++ [10]) :: linesT r := by
  have e := cutB_le h
  have hl := congrArg List.length e
  rw [List.length_append, List.length_cons] at hl
  unfold linesT
  rw [show s.length = (s.length - 1) + 1 by omega, linesN, if_neg (fun e2 => by rw [e2] at hl; simp only [List.length_nil] at hl; omega), h]
  show (a ++ [10]) :: linesN (s.length - 1) r = _
  rw [linesN_ok _ r.length r (by omega) (Nat.le_refl _)]
theorem linesT_none {s : Bytes} (h0 : s ≠ []) (h : cutB 10 s = none) : linesT s = [s] := by
  unfold linesT
  have hl := List.length_pos_iff.2 h0
  rw [show s.length = (s.length - 1) + 1 by omega, linesN, if_neg h0, h]
theorem cut_not : ∀ {c : UInt8} {s a r : Bytes}, cutB c s = some (a, r) → c ∉ a
  | _, [], _, _, h => by cases h
  | c, x :: t, a, r, h => by
    rw [cutB] at h
    split at h
    · cases h; simp
    · rename_i hne
      cases hq : cutB c t with
      | none => rw [hq] at h; cases h
      | some p =>
        rw [hq] at h; cases h
        rw [List.mem_cons, not_or]
        exact ⟨fun e => hne e.symm, cut_not (a := p.1) (r := p.2) hq⟩
theorem cut_nomem : ∀ {c : UInt8} {s : Bytes}, cutB c s = none → c ∉ s
  | _, [], _ => by simp
  | c, x :: t, h => by
    rw [cutB] at h
    split at h
    · cases h
    · rename_i hne
      cases hq : cutB c t with
      | none => rw [List.mem_cons, not_or]; exact ⟨fun e => hne e.symm, cut_nomem hq⟩
      | some p => rw [hq] at h; cases h
theorem chop_nl (a : Bytes) : chop (a ++ [10]) = a := by unfold chop; rw [if_pos (by simp)]; simp
theorem chop_no {s : Bytes} (h : (10 : UInt8) ∉ s) : chop s = s := by
  unfold chop
  rw [if_neg]
  intro e
  obtain ⟨t, rfl⟩ := List.getLast?_eq_some_iff.1 e
  exact h (List.mem_append.2 (.inr List.mem_cons_self))
theorem lines_one {s : Bytes} (h0 : s ≠ []) (h : (10 : UInt8) ∉ s) : linesV s = [s] := by
  have go : ∀ (s cur : Bytes), (10 : UInt8) ∉ s → linesG cur s = if cur ++ s = [] then [] else [cur ++ s] := by
    intro s
    induction s with
    | nil => intro cur _; rw [linesG, List.append_nil]
    | cons c t ih =>
      intro cur h
      rw [List.mem_cons, not_or] at h
      rw [linesG, if_neg (fun e => h.1 e.symm), ih _ h.2, List.append_assoc]; rfl
  unfold linesV
  rw [go s [] h, List.nil_append, if_neg h0]
theorem linesT_V : ∀ (n : Nat) (s : Bytes), s.length ≤ n → (linesT s).map chop = linesV s
  | 0, s, h => by
    have : s = [] := List.length_eq_zero_iff.1 (by omega)
    subst this; rfl
  | n + 1, s, h => by
    by_cases h0 : s = []
    · subst h0; rfl
    · cases hc : cutB 10 s with
      | none => rw [linesT_none h0 hc, lines_one h0 (cut_nomem hc), List.map_cons, List.map_nil, chop_no (cut_nomem hc)]
      | some p =>
        have e := cutB_le (a := p.1) (r := p.2) hc
        have hl := congrArg List.length e
        rw [List.length_append, List.length_cons] at hl
        rw [linesT_some (a := p.1) (r := p.2) hc, List.map_cons, chop_nl, linesT_V n p.2 (by omega)]
        conv => rhs; rw [e]
        exact (lines_pre (cut_not (a := p.1) (r := p.2) hc)).symm
theorem linesT_len : ∀ (n : Nat) (s : Bytes), s.length ≤ n → (linesT s).length ≤ s.length
  | 0, s, h => by
    have : s = [] := List.length_eq_zero_iff.1 (by omega)
    subst this; exact Nat.le_refl _
  | n + 1, s, h => by
    by_cases h0 : s = []
    · subst h0; exact Nat.le_refl _
    · have hp := List.length_pos_iff.2 h0
      cases hc : cutB 10 s with
      | none => rw [linesT_none h0 hc]; exact hp
      | some p =>
        have hl := congrArg List.length (cutB_le (a := p.1) (r := p.2) hc)
        rw [List.length_append, List.length_cons] at hl
        have := linesT_len n p.2 (by omega)
        rw [linesT_some (a := p.1) (r := p.2) hc, List.length_cons]; omega
def LinJ (s : Bytes) (pre : List Bytes) (q : Bytes) : Prop := linesT s = pre ++ linesT q
section
variable {s q : Bytes} {pre : List Bytes} {k : Nat} {r : Int}
theorem LinJ.start : LinJ s [] s := rfl
theorem IxJ.hit {c : UInt8} (h : IxJ c s (k : Int)) : k < s.length ∧ cutB c s = some (s.take k, s.drop (k + 1)) ∧ s.getD k 0 = c := by
  rcases h with ⟨h1, _⟩ | ⟨j, h1, h2, h3, h4, h5⟩
  · omega
  · obtain rfl : k = j := by omega
    exact ⟨h2, h5, h4⟩
theorem IxJ.miss {c : UInt8} (h : IxJ c s r) (hr : ¬ (0 : Int) ≤ r) : cutB c s = none := by
  rcases h with ⟨_, _, h3⟩ | ⟨j, h1, _⟩
  · exact h3
  · omega
theorem sub_line (h : k < s.length) (hc : s.getD k 0 = 10) : sub s 0 (k + 1) = s.take k ++ [10] := by
  rw [sub_head]
  have := R44.take_snoc (d := (0 : UInt8)) h
  rw [this, hc]
theorem LinJ.some_ (h : LinJ s pre q) (hi : k < q.length ∧ cutB 10 q = some (q.take k, q.drop (k + 1)) ∧ q.getD k 0 = 10) : linesT s = pre ++ sub q 0 (k + 1) :: linesT (sub q (k + 1) q.length) := by
  unfold LinJ at h
  rw [h, linesT_some hi.2.1, sub_line hi.1 hi.2.2, sub_end]
theorem LinJ.last (h : LinJ s pre q) (h0 : (0 : Int) < ((q.length : Nat) : Int)) (hi : cutB 10 q = none) : linesT s = pre ++ q :: linesT [] := by
  unfold LinJ at h
  rw [h, linesT_none (fun e => by rw [e] at h0; exact absurd h0 (by decide)) hi]; rfl
theorem LinJ.next {a : Bytes} {t : Bytes} (h : linesT s = pre ++ a :: linesT t) : LinJ s (pre ++ [a]) t := by
  unfold LinJ; rw [h, List.append_assoc]; rfl
theorem LinJ.done (h : LinJ s pre q) (h0 : ¬ (0 : Int) < ((q.length : Nat) : Int)) : linesT s = pre := by
  have : q = [] := List.length_eq_zero_iff.1 (by omega)
  unfold LinJ at h; rw [h, this, linesT_nil, List.append_nil]
end
theorem number_snoc (l : List Bytes) (x : Bytes) : number 0 (l ++ [x]) = number 0 l ++ [⟨((l.length + 1 : Nat) : Int), x⟩] := by
  rw [number_app, Nat.zero_add]; rfl
theorem rows_snoc {rs : List Row} {pre : List Bytes} {a : Bytes} (h : rs = number 0 (pre.map chop)) : rs ++ [⟨((rs.length + 1 : Nat) : Int), chop a⟩] = number 0 ((pre ++ [a]).map chop) := by
  rw [List.map_append]
  show _ = number 0 (pre.map chop ++ [chop a])
  rw [number_snoc, h, number_len]
theorem rows_len {rs : List Row} {pre : List Bytes} (h : rs = number 0 (pre.map chop)) : rs.length = pre.length := by rw [h, number_len, List.length_map]
theorem rows_of {rs : List Row} {t : Bytes} (h : rs = number 0 ((linesT t).map chop)) : rs = rowsV t := by rw [h, linesT_V t.length t (Nat.le_refl _)]; rfl
theorem number_get : ∀ (k : Nat) (l : List Bytes) (i : Nat), ((number k l).getD i default).text = l.getD i []
  | _, [], i => by simp [number]; rfl
  | k, x :: l, 0 => rfl
  | k, x :: l, i + 1 => number_get (k + 1) l i
theorem linesG_short : ∀ (s cur : Bytes), ∀ x ∈ linesG cur s, x.length ≤ cur.length + s.length
  | [], cur, x, h => by
    rw [linesG] at h
    split at h
    · cases h
    · rw [List.mem_singleton] at h; rw [h]; exact Nat.le_add_right _ _
  | c :: r, cur, x, h => by
    rw [linesG] at h
    rw [List.length_cons]
    split at h
    · rcases List.mem_cons.1 h with rfl | h
      · omega
      · have := linesG_short r [] x h
        simp only [List.length_nil] at this; omega
    · have := linesG_short r (cur ++ [c]) x h
      rw [List.length_append, List.length_singleton] at this; omega
theorem rows_txt {t : Bytes} (h : t.length ≤ 20000) (i : Nat) : ((rowsV t).getD i default).text.length ≤ 20000 := by
  unfold rowsV
  rw [number_get]
  rcases Nat.lt_or_ge i (linesV t).length with hi | hi
  · rw [List.getD_eq_getElem?_getD, List.getElem?_eq_getElem hi]
    have := linesG_short t [] _ (List.getElem_mem hi)
    simp only [List.length_nil] at this
    exact Nat.le_trans this (by omega)
  · rw [List.getD_eq_getElem?_getD, List.getElem?_eq_none hi]; exact Nat.zero_le _
theorem pka_nil {S : List Nat} {w : World} : Kp S w (PkA []) := Kp.imp (Kp.pure trivial) fun _ _ p h => by cases h
theorem lines_pre_len {t a : Bytes} {pre rest : List Bytes} (h : linesT t = pre ++ a :: rest) (ht : t.length ≤ 100000) : pre.length ≤ 100000 := by
  have := linesT_len t.length t (Nat.le_refl _)
  rw [h, List.length_append] at this; omega
theorem linesT_short : ∀ (n : Nat) (s : Bytes), s.length ≤ n → ∀ x ∈ linesT s, x.length ≤ s.length
  | 0, s, h, x, hx => by
    have : s = [] := List.length_eq_zero_iff.1 (by omega)
    subst this; cases hx
  | n + 1, s, h, x, hx => by
    by_cases h0 : s = []
    · subst h0; cases hx
    · cases hc : cutB 10 s with
      | none => rw [linesT_none h0 hc, List.mem_singleton] at hx; rw [hx]; exact Nat.le_refl _
      | some p =>
        have hl := congrArg List.length (cutB_le (a := p.1) (r := p.2) hc)
        rw [List.length_append, List.length_cons] at hl
        rw [linesT_some (a := p.1) (r := p.2) hc] at hx
        rcases List.mem_cons.1 hx with rfl | hx
        · rw [List.length_append, List.length_singleton]; omega
        · have := linesT_short n p.2 (by omega) x hx; omega
theorem lines_at {t a : Bytes} {pre rest : List Bytes} (h : linesT t = pre ++ a :: rest) (ht : t.length ≤ 100000) : a.length ≤ 100000 := by
  have := linesT_short t.length t (Nat.le_refl _) a (by rw [h]; simp)
  omega
def ExpJ (t : Bytes) (y : List Statement) (fl fc : Int) : Prop := (expand t = .ok (y.map pur) ∧ fl = 0 ∧ fc = 0) ∨ (expand t = .error (fl, fc) ∧ fc ≠ 0 ∧ y = [])
section
variable {t : Bytes} {rs : List Row} {y N : List Statement} {fl fc : Int} {M : List KV} {P : PL}
theorem exp_big (hr : rs = rowsV t) (h : (decide ((16384 : Int) < ((t.length : Nat) : Int)) || decide ((512 : Int) < ((rs.length : Nat) : Int))) = true) : ExpJ t [] 0 8 := by
  refine .inr ⟨?_, by decide, rfl⟩
  simp only [Bool.or_eq_true, decide_eq_true_eq] at h
  unfold expand
  rw [if_pos (by rw [← hr]; omega)]
theorem exp_small (h : (decide ((16384 : Int) < ((t.length : Nat) : Int)) || decide ((512 : Int) < ((rs.length : Nat) : Int))) = false) : t.length ≤ 16384 ∧ rs.length ≤ 512 := by
  simp only [Bool.or_eq_false_iff, decide_eq_false_iff_not] at h
  omega
theorem exp_go (hr : rs = rowsV t) (h : t.length ≤ 16384 ∧ rs.length ≤ 512) : expand t = (readOut rs (rsOf (lookK []) [] [])).map (·.out) := by
  unfold expand
  rw [if_neg (by rw [← hr]; omega), ← hr]; rfl
theorem exp_err (hr : rs = rowsV t) (h : t.length ≤ 16384 ∧ rs.length ≤ 512) (hj : RdJ (readOut rs (rsOf (lookK []) [] [])) fl fc (rsOf (lookK M) P ([] ++ N))) (hc : fc ≠ 0) : ExpJ t [] fl fc := by
  refine .inr ⟨?_, hc, rfl⟩
  rw [exp_go hr h]
  rcases hj with ⟨_, _, h2⟩ | ⟨h1, _⟩
  · exact absurd h2 hc
  · rw [h1]; rfl
theorem exp_ok (hr : rs = rowsV t) (h : t.length ≤ 16384 ∧ rs.length ≤ 512) (hj : RdJ (readOut rs (rsOf (lookK []) [] [])) fl fc (rsOf (lookK M) P ([] ++ N))) (hy : y = [] ++ N) (hc : ¬ fc ≠ 0) : ExpJ t y 0 0 := by
  refine .inl ⟨?_, rfl, rfl⟩
  rw [exp_go hr h]
  rcases hj with ⟨h1, _, _⟩ | ⟨_, h2⟩
  · rw [h1, hy]; rfl
  · exact absurd h2 hc
theorem kept_all {S : List Nat} {w : World} (hy : y = [] ++ N) (h : Kp S w (okL Statement.ok N)) : Kp S w (okL Statement.ok y) := by rw [hy]; exact h
end
end R39
end Go.Proofs.YtbfiibgmgopnaaaDoor

namespace Go.Proofs.YtbfiibgmgopnaaaDoor
open Go.GV
set_option linter.unusedVariables false
set_option linter.unusedSimpArgs false
theorem c39k0_ {p : Prop} (h : p := by first | omega | (simp only [sub, List.length_drop, List.length_take]; omega) | (simp; omega) | (simp_all; omega)) : p := h
theorem c39k1_ {p : Prop} (h : p := by first | exact R39.LinJ.next (i1_0.some_ hix) | exact R39.LinJ.next (i1_0.last (by assumption) (R39.IxJ.miss hf3 (by assumption)))) : p := h
theorem c39k2_ {p : Prop} (h : p := by first | exact R39.exp_big hrw (by assumption) | exact R39.exp_err hrw hsm hf39 (by assumption) | exact R39.exp_ok hrw hsm hf39 hf37 (by assumption)) : p := h
set_option maxRecDepth 20000 in
theorem f37_ok (s : Bytes) (w : World) : Calls Tryd.prog 37 #[vS s] w (Gives [] w fun v L => ∃ bs : Nat, v = Value.func (.func 60) #[] #[pB bs 0] ∧ L = [Ent.blk bs 9 [vS s]]) := by
 refine calls_J [] 4 Tryd.func37 rfl Tryd.ntmps37 [(0, _)] rfl rfl (Give.nil w) ?_
 refine q_ (g_ (o_ (bx1 fun b1 => ?_)))
 refine s_ av_ (z_ (n_ (q_ (g_ (js_ (Value.func (.func 60) #[] #[pB b1 0]) (x_makeFunc rfl rfl) (s_ av_ (z_ (n_ (rt_ ?_)))))))))
 refine JX_rets [_] _ Tryd.results37 (fun w h => ⟨rfl, trivial⟩) rfl _ (fun _ h => h) ⟨b1, ?_, ?_⟩
 ·rfl
 ·rfl
set_option maxHeartbeats 2000000 in
set_option maxRecDepth 20000 in
theorem f60_ok (yl : Nat) (X : Type) (I : List Bytes → X → Prop) (Lf : List Bytes → X → List Ent) (x0 : X) (bs : Nat) (s : Bytes) (w : World) (hY : YieldOk Tryd.prog yl (Lown (Ent.blk bs 9 [vS s] :: (Lf ([] : List Bytes) x0))) w (fun a : Bytes => [vS a]) I Lf (R39.linesT s)) (hI0 : I [] x0) (q2 : s.length ≤ 1000000) (hg : Give (Lown (Ent.blk bs 9 [vS s] :: (Lf ([] : List Bytes) x0))) w (Ent.blk bs 9 [vS s] :: (Lf ([] : List Bytes) x0))) : Calls Tryd.prog 60 #[Value.func (.yield yl) #[] #[], pB bs 0] w (Gives (Lown (Ent.blk bs 9 [vS s] :: (Lf ([] : List Bytes) x0))) w fun v L => ∃ st : X, v = Value.tuple #[] ∧ L = ((Lf (R39.linesT s) st)) ∧ (I (R39.linesT s) st)) := by
 refine calls_J (Lown (Ent.blk bs 9 [vS s] :: (Lf ([] : List Bytes) x0))) 25 Tryd.func60 rfl Tryd.ntmps60 [(0, _), (1, _)] rfl rfl hg ?_
 refine k_ ?_
 refine J_loop (X := Bytes × (List Bytes) × X) (fun (⟨q, pre, st⟩ : Bytes × (List Bytes) × X) => (R39.LinJ s pre q) ∧ (I pre st) ∧ (q.length ≤ s.length)) (fun (⟨q, pre, st⟩ : Bytes × (List Bytes) × X) => [(0, Value.func (.yield yl) #[] #[]), (1, pB bs 0)]) (fun (⟨q, pre, st⟩ : Bytes × (List Bytes) × X) => (Ent.blk bs 9 [vS q] :: (Lf pre st))) (fun (⟨q, pre, st⟩ : Bytes × (List Bytes) × X) => q.length) ((s, ([] : List Bytes), x0) : Bytes × (List Bytes) × X) ?_ ⟨rfl, rfl, trivial⟩ (fun _ h => h) ?_
 ·try dsimp only
  refine ⟨?_, ?_, ?_⟩
  ·exact R39.LinJ.start
  ·exact hI0
  ·exact Nat.le_refl _
 rintro ⟨q, pre, st⟩ hI1
 obtain ⟨i1_0, i1_1, i1_2⟩ := hI1
 try dsimp only at i1_0
 try dsimp only at i1_1
 try dsimp only at i1_2
 try dsimp only
 refine q_ (q_ (g_ (r_ (ld_ 0 Ty.sc9) (s_ (x_len_s rfl Tryd.underlying9) (s_ (x_gtr_i rfl rfl) (z_ (n_ ?_)))))))
 refine ifd (fun h1w h1 => ?_) (fun h1w h1 => ?_)
 ·refine sk_ (n_ (k_ (q_ (g_ (s_ av_ (z_ (n_ (q_ (q_ (g_ (r_ (ld_ 0 Ty.sc9) ?_)))))))))))
  refine c1 (cl_ Ty.ca25) (fun w hS => ixb_ok q (10 : UInt8) w) ?_
  rintro _ _ ⟨r2, rfl, rfl, hf3⟩
  refine s_ av_ (z_ (n_ (q_ (g_ (s_ mv_ (s_ (x_geq_i rfl rfl) (z_ (n_ ?_))))))))
  refine ifd (fun h4w h4 => ?_) (fun h4w h4 => ?_)
  ·obtain ⟨k9, rfl⟩ : ∃ k9 : Nat, r2 = (k9 : Int) := ⟨r2.toNat, by omega⟩
   have hix := R39.IxJ.hit hf3
   have hl5 := R39.sub_len_end q (k9 + 1)
   refine drU ((Lf pre st)) [9] 10 Ty.mixed ?_
   refine JA_early 0 (vS q) rfl (by kernel_rfl) (by kernel_rfl) (by kernel_rfl) rfl (by kernel_rfl) (fun _ _ _ h => h) rfl trivial (x_load 0 rfl rfl Ty.sc9 rfl) ?_
   refine jp_ 1 rfl mv_ (jp_ 2 rfl (x_add_n (a := k9) (b := 1) rfl rfl (by omega)) (jp_ 3 rfl (x_sub_s (lo := 0) (hi := k9 + 1) rfl Tryd.underlying9 (.inr ⟨rfl, rfl⟩) (.inl rfl) lt_ c39k0_) ?_))
   refine JA_early 4 (vS q) rfl (by kernel_rfl) (by kernel_rfl) (by kernel_rfl) rfl (by kernel_rfl) (fun _ _ _ h => h) rfl trivial (x_load 0 rfl rfl Ty.sc9 rfl) ?_
   refine jp_ 5 rfl mv_ (jp_ 6 rfl (x_add_n (a := k9) (b := 1) rfl rfl (by omega)) (jp_ 7 rfl (x_sub_s (lo := k9 + 1) (hi := q.length) rfl Tryd.underlying9 (.inl rfl) (.inr ⟨rfl, rfl⟩) lt_ c39k0_) (jp_ 8 rfl av_ (j1_ 9 (jio_ rfl (st1 0 Ty.sz9 ?_)) (fun _ h => ⟨h.keepN 1 [false] rfl, fun _ => h⟩)))))
   refine JA_done (by kernel_rfl) (gl_ rfl (fun _ h => h.keepN 1 [false] rfl)) ?_
   refine n_ (q_ (g_ (s_ mv_ (s_ mv_ ?_))))
   refine JO_yield hY (pre := pre) (a := sub q 0 (k9 + 1)) (st := st) (i1_0.some_ hix) i1_1 [Ent.blk bs 9 [vS (sub q (k9 + 1) q.length)]] rfl trivial rfl rfl (fun _ h => h) (fun st5 hI6 => ?_)
   refine jr_ (vB false) (z_ (xk_ [0, 1, 24] ?_))
   refine n_ (iff_ (sk_ (kx_ ?_)))
   refine JX_round ((sub q (k9 + 1) q.length, (pre ++ [sub q 0 (k9 + 1)]), st5) : Bytes × (List Bytes) × X) ?_ ?_ ⟨rfl, rfl, trivial⟩ (fun _ h => h)
   ·try dsimp only
    refine ⟨?_, ?_, ?_⟩
    ·exact c39k1_
    ·assumption
    ·first | omega | exact Nat.zero_le _
   ·try dsimp only
    first | omega | (simp only [List.length_nil]; omega)
  ·refine g_ (r_ (ld_ 0 Ty.sc9) (s_ av_ (o_ (st1 0 Ty.sz9 ?_))))
   refine z_ (n_ (q_ (g_ (s_ mv_ (s_ mv_ ?_)))))
   refine JO_yield hY (pre := pre) (a := q) (st := st) (i1_0.last (by assumption) (R39.IxJ.miss hf3 (by assumption))) i1_1 [Ent.blk bs 9 [vS []]] rfl trivial rfl rfl (fun _ h => h) (fun st7 hI8 => ?_)
   refine jr_ (vB false) (z_ (n_ (iff_ (sk_ (kx_ ?_)))))
   refine JX_round (([], (pre ++ [q]), st7) : Bytes × (List Bytes) × X) ?_ ?_ ⟨rfl, rfl, trivial⟩ (fun _ h => h)
   ·try dsimp only
    refine ⟨?_, ?_, ?_⟩
    ·exact c39k1_
    ·assumption
    ·first | omega | exact Nat.zero_le _
   ·try dsimp only
    first | omega | (simp only [List.length_nil]; omega)
 ·refine J_exit (ne_ (re_ (kh_ ?_)))
  refine JX_end0 Tryd.results60 ((Lf pre st)) (fun _ h => h.keepN 1 [false] rfl) ⟨st, ?_, ?_, ?_⟩
  ·rfl
  ·rw [i1_0.done (by omega)]
  ·rw [i1_0.done (by omega)]; assumption
set_option maxHeartbeats 4000000 in
set_option maxRecDepth 20000 in
theorem f19_ok (text : Bytes) (w : World) (hT : Tab [] w) (q0 : text.length ≤ 100000) : Calls Tryd.prog 19 #[vS text] w (GivesW [] w fun v L wx => ∃ fl : Int, ∃ fc : Int, ∃ y : List Statement, ∃ yA : Option Addr, ∃ yC : Nat, v = Value.tuple #[vL yA y.length yC, vI fl, vI fc] ∧ L = [Ent.row (.slice yA y.length yC) 40 4 y.length (y.flatMap Statement.enc)] ∧ Kp (Lown L ++ List.range w.heap.size) wx (okL Statement.ok y) ∧ (R39.ExpJ text y fl fc)) := by
 refine calls_JNW [] 48 Tryd.func19 rfl Tryd.ntmps19 [(0, _)] rfl rfl (Give.nil w) ?_
 refine q_ (g_ (s_ av_ (s_ av_ (s_ av_ (z_ (n_ (q_ (g_ (o_ (al_ Ty.ze68 fun b1 => ?_))))))))))
 refine z_ (n_ (q_ (q_ (g_ (s_ mv_ ?_)))))
 refine c1 (cl_ Ty.ca37) (fun w hS => f37_ok text w) ?_
 rintro _ _ ⟨bs2, rfl, rfl⟩
 refine z_ (n_ (k_ ?_))
 refine J_rangeFunc (n := _) (gf := 60) (lb := [pB bs2 0]) (enc := (fun a : Bytes => [vS a])) (xs := (R39.linesT text)) (fun (pre : List Bytes) (⟨rs, rsA, rsC⟩ : (List Row) × (Option Addr) × Nat) => (rs = R39.number 0 (pre.map R39.chop))) (fun (_ : List Bytes) (⟨rs, rsA, rsC⟩ : (List Row) × (Option Addr) × Nat) => [Ent.blk b1 68 [vL rsA rs.length rsC], Ent.row (.slice rsA rs.length rsC) 73 2 rs.length (rs.flatMap Row.enc)]) ((([] : List Row), none, 0) : (List Row) × (Option Addr) × Nat) [Ent.blk bs2 9 [vS text]] rfl rfl rfl Ty.ca60 (ps_ rfl) (fun _ => rfl) (fun _ h => (((h.nilrow 73 2).front 2 _ rfl).front 2 _ rfl).keep [true, true, true] rfl) ?_ ?_ ?_
 ·intro wi4 li5 di6 ri7 hold8 hg9 hY10
  refine it_done (I := (fun (pre : List Bytes) (⟨rs, rsA, rsC⟩ : (List Row) × (Option Addr) × Nat) => (rs = R39.number 0 (pre.map R39.chop)))) (Lf := LF li5 di6 ri7 (fun (_ : List Bytes) (⟨rs, rsA, rsC⟩ : (List Row) × (Option Addr) × Nat) => [Ent.blk b1 68 [vL rsA rs.length rsC], Ent.row (.slice rsA rs.length rsC) 73 2 rs.length (rs.flatMap Row.enc)])) ?_
  exact f60_ok li5 _ _ _ _ bs2 text _ hY10 rfl (by omega) hg9
 ·rintro wi11 li5 di6 ri7 pre a12 rest13 ⟨rs, rsA, rsC⟩ hp14 hI15 hold8
  have i1_0 := hI15
  try dsimp only at i1_0
  have hpl : pre.length ≤ 100000 := R39.lines_pre_len hp14 q0
  have hrl := R39.rows_len i1_0
  have hal := R39.lines_at hp14 q0
  refine J_weaken (E' := [(5, pB b1 0), (11, vS a12)]) (L' := [Ent.obj li5 (lp ri7 .ready), dfr di6, Ent.blk b1 68 [vL rsA rs.length rsC], Ent.row (.slice rsA rs.length rsC) 73 2 rs.length (rs.flatMap Row.enc)]) ⟨rfl, rfl, trivial⟩ (fun _ h => h) ?_
  refine g_ (s_ av_ (z_ (JX_begin (k_ ?_))))
  refine drU [Ent.obj li5 (lp ri7 .busy), dfr di6] [8, 9] 10 Ty.mixed ?_
  refine JA_early 0 (vL rsA rs.length rsC) rfl (by kernel_rfl) (by kernel_rfl) (by kernel_rfl) rfl (by kernel_rfl) (fun _ _ _ h => h) rfl trivial (x_load 2 rfl rfl Ty.sc68 rfl) ?_
  refine JA_earlyT 1 (vL rsA rs.length rsC) rfl (by kernel_rfl) (by kernel_rfl) (by kernel_rfl) rfl (by kernel_rfl) (fun _ _ _ h => h) rfl trivial (x_load 2 rfl rfl Ty.sc68 rfl) ?_
  refine jp_ 2 rfl (lnS Tryd.underlying68) (jp_ 3 rfl (x_add_n (a := rs.length) (b := 1) rfl rfl (by omega)) (jp_ 4 rfl mv_ (j1_ 5 (jc0_ rfl (cl_ Ty.ca38) (fun w hS => tsuf_ok a12 w hy_) ?_) (fun _ h => ⟨h.keep [true, true, false, false] rfl, fun _ => h⟩))))
  refine jt_ 6 (vG [vI ((rs.length + 1 : Nat) : Int), vS (R39.chop a12)]) rfl (fun _ _ => x_build (by kernel_rfl)) ?_
  refine j1_ 7 (jio_ rfl (O_buildSlice (cs := [vI ((rs.length + 1 : Nat) : Int), vS (R39.chop a12)]) Tryd.underlying68 Ty.sz73 Ty.ze73 (by decide) (by decide) (by kernel_rfl) fun b17 => ?_)) (fun _ h => ⟨h.keep [true, true, false, false] rfl, fun _ => h⟩)
  refine j1_ 8 (jio_ rfl (O_append_f 4 Row.enc 2 rs [(Row.mk ((rs.length + 1 : Nat) : Int) (R39.chop a12))] Tryd.underlying68 Ty.sz73 Ty.by73 Ty.ze73 rfl (by decide) rfl rfl rfl rfl Row.enc_len Row.enc_one (cells_blk 0 (off := 0) (m := 2) rfl rfl) lt_ lt_ fun A20 c21 => ?_)) (fun _ h => ⟨h.keep [false, true, true, false, false] rfl, fun _ => h.keep [false, true, true, true, true] rfl⟩)
  refine j1_ 9 (jio_ rfl (st1 3 Ty.sz68 ?_)) (gl_ rfl (fun _ h => h.keep [false, true, true, false, false] rfl))
  refine JA_done (by kernel_rfl) (gl_ rfl (fun _ h => h.keep [false, true, true, false, false] rfl)) ?_
  refine kx_ ?_
  refine JX_end [dfr di6, Ent.blk b1 68 [vL A20 ((rs ++ [(Row.mk ((rs.length + 1 : Nat) : Int) (R39.chop a12))]).length) c21], Ent.row (.slice A20 (rs ++ [(Row.mk ((rs.length + 1 : Nat) : Int) (R39.chop a12))]).length c21) 73 2 (rs ++ [(Row.mk ((rs.length + 1 : Nat) : Int) (R39.chop a12))]).length ((rs ++ [(Row.mk ((rs.length + 1 : Nat) : Int) (R39.chop a12))]).flatMap Row.enc)] (fun _ h => h.keep [false, true, true, true, true] rfl) (fun w hS => ⟨rfl, ((rs ++ [(Row.mk ((rs.length + 1 : Nat) : Int) (R39.chop a12))], A20, c21) : (List Row) × (Option Addr) × Nat), ?_, hS⟩)
  try dsimp only
  exact R39.rows_snoc i1_0
 ·rintro D22 ⟨rs, rsA, rsC⟩ hI15
  have i1_0 := hI15
  try dsimp only at i1_0
  have hrw := R39.rows_of i1_0
  have htx := fun h => R39.rows_txt (t := text) h
  try dsimp only
  refine kx_ (n_ (q_ (q_ (g_ (s_ mv_ (s_ (x_len_s rfl Tryd.underlying9) (s_ (x_gtr_i rfl rfl) (s_ mv_ ?_))))))))
  refine or_ 3 (decide ((512 : Int) < ((rs.length : Nat) : Int))) (fun g23 => ?_) ?_
  ·have g23r := g23
   have g23r := of_decide_eq_false g23r
   refine rg_ g23 (ld_ 1 Ty.sc68) (sg_ g23 (lnS Tryd.underlying68) (sg_ g23 (x_gtr_i rfl rfl) ?_))
   exact cr_
  refine z_ (n_ ?_)
  refine if_ (fun h24 => ?_) (fun h24 => ?_)
  ·have h24w := h24
   simp only [Bool.and_eq_true, Bool.or_eq_true, Bool.and_eq_false_iff, Bool.or_eq_false_iff, Bool.not_eq_true', Bool.not_eq_false', decide_eq_true_eq, decide_eq_false_iff_not] at h24
   refine q_ (g_ (s_ av_ (s_ av_ (s_ av_ (z_ (n_ (rt_ (nr_ ?_))))))))
   refine JX_retsMW (D22 :: ([] : List Nat)) [_, _, _] (Value.tuple #[_, _, _]) rfl Tryd.results19 [Ent.blk b1 68 [vL rsA rs.length rsC], Ent.row (.slice rsA rs.length rsC) 73 2 rs.length (rs.flatMap Row.enc)] (fun _ h => h) (fun w h => ⟨rfl, rfl, rfl, trivial⟩) rfl [Ent.row (.slice none ([] : List Statement).length 0) 40 4 ([] : List Statement).length (([] : List Statement).flatMap Statement.enc)] (fun _ h => (h.nilrow 40 4).keep [true, false, false] rfl) (fun _ _ h => h) (fun wx hw => ⟨0, 8, ([] : List Statement), none, 0, ?_, ?_, R39.okN_nil, ?_⟩)
   ·have e_x0 : (0 : Nat) = (([] : List Statement).length) := by rfl
    exact congrArg (fun (x0 : Nat) => Value.tuple #[vL none x0 0, vI 0, vI 8]) e_x0
   ·rfl
   ·first | exact R39.exp_big hrw (by assumption) | exact R39.exp_err hrw hsm no_such_condition (by assumption) | exact R39.exp_ok hrw hsm no_such_condition no_such_condition (by assumption)
  ·have h24w := h24
   have ⟨h24, h25⟩ := bor_false h24
   have h24 := of_decide_eq_false h24
   have h25 := of_decide_eq_false h25
   have hsm := R39.exp_small (by assumption)
   have htx2 := fun i => Nat.le_trans (Nat.le_of_eq (congrArg (fun l : List Row => (l.getD i default).text.length) hrw)) (htx (by omega) i)
   refine sk_ (n_ (q_ (g_ (o_ (O_makeMap vS fun b26 => ?_)))))
   refine o_ (O_makeMap vS fun b27 => ?_)
   refine js_ (vG [Value.map (some b26), Value.map (some b27), vL none 0 0]) (x_build (by kernel_rfl)) (o_ (bxG fun b28 => ?_))
   refine s_ av_ (z_ (n_ (q_ (q_ (g_ (s_ mv_ (r_ (ld_ 4 Ty.sc68) (js_ (vG [vL rsA rs.length rsC, vS [], vB false]) (x_build (by kernel_rfl)) ?_))))))))
   refine JO_callB (Lown [Ent.blk b28 77 [Value.map (some b26), Value.map (some b27), vL none 0 0], Ent.mp vS b26 (([] : List (Bytes × Bytes)).map kvS), Ent.mp vS b27 (([] : R39.PL).map R39.procE), Ent.row (.slice none 0 0) 40 4 0 (([] : List Statement).flatMap Statement.enc)]) [Ent.blk b28 77 [Value.map (some b26), Value.map (some b27), vL none 0 0], Ent.mp vS b26 (([] : List (Bytes × Bytes)).map kvS), Ent.mp vS b27 (([] : R39.PL).map R39.procE), Ent.row (.slice none 0 0) 40 4 0 (([] : List Statement).flatMap Statement.enc)] [dfr D22, Ent.blk b1 68 [vL rsA rs.length rsC], Ent.row (.slice rsA rs.length rsC) 73 2 rs.length (rs.flatMap Row.enc)] rfl trivial (fun _ => x_call Ty.ca39 rfl) (fun _ h => (((((((h.front 5 _ rfl).front 5 _ rfl).front 5 _ rfl).nilrow 40 4).front 5 _ rfl).front 6 _ rfl).front 6 _ rfl).keep [true, true, true, true, true, true, true] rfl) lown_mem (fun w hS => read_out b28 b26 ([] : List (Bytes × Bytes)) b27 ([] : R39.PL) ([] : List Statement) none 0 0 rs rsA rsC w (RO.of_rowS hS lown_mem 2 rfl) R39.pka_nil (hT.on hS lown_mem) hy_ (by first | exact row_le (hS.mem (j := 0) rfl) | exact row_le (hS.mem (j := 1) rfl) | exact row_le (hS.mem (j := 2) rfl) | exact row_le (hS.mem (j := 3) rfl) | exact row_le (hS.mem (j := 4) rfl) | exact row_le (hS.mem (j := 5) rfl) | exact row_le (hS.mem (j := 6) rfl) | exact row_le (hS.mem (j := 7) rfl) | exact row_le (hS.mem (j := 8) rfl)) hy_ (by exact htx2) (by exact R39.shortV_nil) (by exact Nat.zero_le _) (by exact R39.pga_nil) (hS.give lown_in)) ?_
   rintro wc _ _ wbhB40 ⟨fl29, fc30, y31, yA32, yC33, N34, e35, e36, rfl, rfl, kf41, hf37, hf38, hf39⟩ hc0 hB40
   have hT := hT.again hB40
   have kf410 := kf41.mono (lown_rangeAF (w00 := w) hc0 hc0.fr.size)
   have kf41 := kf41.mono (lown_rangeA hc0)
   refine o_ (al_ Ty.ze79 fun b42 => ?_)
   refine o_ (stG 0 Ty.sz79 ?_)
   refine z_ (xk_ [2, 3, 4, 7, 8] ?_)
   refine n_ (q_ (g_ (s_ (fA 1 Ty.fi79_1) (r_ (ld_ 0 Ty.sc25) (s_ (x_neq_i rfl rfl) (z_ (n_ ?_)))))))
   refine ifd (fun h43w h43 => ?_) (fun h43w h43 => ?_)
   ·refine q_ ?_
    refine drB [] 7 Ty.mixed ?_
    refine jp_ 0 rfl (fA 0 Ty.fi79_0) (jq_ 1 rfl (ld_ 0 Ty.sc3) (jp_ 2 rfl (fA 1 Ty.fi79_1) (jq_ 3 rfl (ld_ 0 Ty.sc25) (jp_ 4 rfl av_ (jp_ 5 rfl av_ (jp_ 6 rfl av_ ?_))))))
    refine JA_done (by kernel_rfl) gm_ ?_
    refine n_ (rt_ (nr_ ?_))
    refine JX_retsMW (D22 :: ([] : List Nat)) [_, _, _] (Value.tuple #[_, _, _]) rfl Tryd.results19 [Ent.blk b42 79 [vI fl29, vI fc30], Ent.blk b28 77 [Value.map (some b26), Value.map (some b27), vL yA32 y31.length yC33], Ent.mp vS b26 (e35.map kvS), Ent.mp vS b27 (e36.map R39.procE), Ent.row (.slice yA32 y31.length yC33) 40 4 y31.length (y31.flatMap Statement.enc), Ent.blk b1 68 [vL rsA rs.length rsC], Ent.row (.slice rsA rs.length rsC) 73 2 rs.length (rs.flatMap Row.enc)] (fun _ h => ((((((((h.front 7 _ rfl).front 7 _ rfl).front 6 _ rfl).front 6 _ rfl).front 6 _ rfl).front 6 _ rfl).front 6 _ rfl).front 7 _ rfl).keep [true, true, true, true, true, true, true, true] rfl) (fun w h => ⟨rfl, rfl, rfl, trivial⟩) rfl [Ent.row (.slice none ([] : List Statement).length 0) 40 4 ([] : List Statement).length (([] : List Statement).flatMap Statement.enc)] (fun _ h => (h.nilrow 40 4).keep [true, false, false, false, false, false, false, false] rfl) (fun _ _ h => (hB40.back _ _ h)) (fun wx hw => ⟨fl29, fc30, ([] : List Statement), none, 0, ?_, ?_, R39.okN_nil, ?_⟩)
    ·have e_x0 : (0 : Nat) = (([] : List Statement).length) := by rfl
     exact congrArg (fun (x0 : Nat) => Value.tuple #[vL none x0 0, vI fl29, vI fc30]) e_x0
    ·rfl
    ·exact c39k2_
   ·refine sk_ (n_ (q_ (g_ (s_ mv_ (s_ (x_nilCheck rfl) (s_ (fA 2 Ty.fi77_2) (r_ (ld_ 1 Ty.sc36) (s_ av_ (s_ av_ (s_ av_ (z_ (n_ (rt_ ?_)))))))))))))
    refine JX_retsMW (D22 :: ([] : List Nat)) [_, _, _] (Value.tuple #[_, _, _]) rfl Tryd.results19 [Ent.blk b42 79 [vI fl29, vI fc30], Ent.blk b28 77 [Value.map (some b26), Value.map (some b27), vL yA32 y31.length yC33], Ent.mp vS b26 (e35.map kvS), Ent.mp vS b27 (e36.map R39.procE), Ent.row (.slice yA32 y31.length yC33) 40 4 y31.length (y31.flatMap Statement.enc), Ent.blk b1 68 [vL rsA rs.length rsC], Ent.row (.slice rsA rs.length rsC) 73 2 rs.length (rs.flatMap Row.enc)] (fun _ h => ((((((((h.front 7 _ rfl).front 7 _ rfl).front 6 _ rfl).front 6 _ rfl).front 6 _ rfl).front 6 _ rfl).front 6 _ rfl).front 7 _ rfl).keep [true, true, true, true, true, true, true, true] rfl) (fun w h => ⟨rfl, rfl, rfl, trivial⟩) rfl [Ent.row (.slice yA32 y31.length yC33) 40 4 y31.length (y31.flatMap Statement.enc)] (fun _ h => h.keep [false, false, false, false, true, false, false] rfl) (fun _ _ h => (hB40.back _ _ h)) (fun wx hw => ⟨0, 0, y31, yA32, yC33, ?_, ?_, (R39.kept_all hf37 (kf410.againF (hw.keep [false, false, false, false, true, false, false] rfl))), ?_⟩)
    ·rfl
    ·rfl
    ·exact c39k2_
end Go.Proofs.YtbfiibgmgopnaaaDoor

namespace Go.Proofs.YtbfiibgmgopnaaaDoor
open Go.GV
namespace R39
def tS1 : Bytes := [115, 116, 101, 112, 32, 83, 49, 32, 112, 114, 111, 103, 114, 97, 109, 32, 99, 111, 112, 121, 10]
theorem awake_e : expand tS1 = .ok [⟨1, [], [wSTEP, [83, 49], [112, 114, 111, 103, 114, 97, 109], [99, 111, 112, 121]], []⟩] := by kernel_rfl
theorem awake_y {y : List Statement} {fl fc : Int} (h : ExpJ tS1 y fl fc) : fl = 0 ∧ fc = 0 ∧ y.length = 1 ∧ (y.getD 0 default).Line = 1 := by
  rcases h with ⟨h, h1, h2⟩ | ⟨h, _⟩
  · rw [awake_e] at h; injection h with h
    cases y with
    | nil => cases h
    | cons a r => cases r with
      | nil => rw [List.map_cons, List.map_nil] at h; injection h with h _; exact ⟨h1, h2, rfl, (congrArg Stm.line h).symm⟩
      | cons b r => rw [List.map_cons, List.map_cons] at h; injection h with _ h; cases h
  · rw [awake_e] at h; cases h
theorem texts_end {a b : List Bytes} (hl : a.length = b.length) (h : ∀ i, i < a.length → a.getD i [] = b.getD i []) : true = decide (a = b) := by
  refine (decide_eq_true ?_).symm
  apply List.ext_getElem hl
  intro i h1 h2
  have := h i h1
  rwa [List.getD_eq_getElem?_getD, List.getD_eq_getElem?_getD, List.getElem?_eq_getElem h1, List.getElem?_eq_getElem h2] at this
theorem texts_bad {a b : List Bytes} {i : Nat} (h : a.getD i [] ≠ b.getD i []) : false = decide (a = b) := by
  refine (decide_eq_false fun e => ?_).symm
  rw [e] at h; exact h rfl
theorem texts_len {a b : List Bytes} (h : a.length ≠ b.length) : false = decide (a = b) := by
  refine (decide_eq_false fun e => ?_).symm
  rw [e] at h; exact h rfl
section
variable {v line want : Bytes} {m m1 : Syms}
end
end R39
end Go.Proofs.YtbfiibgmgopnaaaDoor

namespace Go.Proofs.YtbfiibgmgopnaaaDoor
open Go.GV
set_option linter.unusedVariables false
set_option linter.unusedSimpArgs false
set_option maxRecDepth 20000 in
theorem f9_ok (w : World) (hT : Tab [] w) : Calls Tryd.prog 9 #[] w (Gives [] w fun v L => v = vB true ∧ L = []) := by
 refine calls_J [] 68 Tryd.func9 rfl Tryd.ntmps9 [] rfl rfl (Give.nil w) ?_
 refine q_ (g_ (s_ av_ (z_ (n_ (q_ (g_ ?_))))))
 refine c1 (cl_ Ty.ca10) (fun w hS => f10_ok [115, 116, 101, 112, 32, 83, 49, 32, 112, 114, 111, 103, 114, 97, 109, 32, 115, 111, 114, 116, 32, 112, 97, 114, 109, 32, 39, 98, 121, 32, 49, 32, 56, 39] w hy_) ?_
 rintro _ _ ⟨e1, e2, rfl, rfl⟩
 have ha3 := R39.scanW_len [115, 116, 101, 112, 32, 83, 49, 32, 112, 114, 111, 103, 114, 97, 109, 32, 115, 111, 114, 116, 32, 112, 97, 114, 109, 32, 39, 98, 121, 32, 49, 32, 56, 39]
 try simp only [List.length_cons, List.length_nil, Nat.zero_add, Nat.reduceAdd, Nat.reduceMul] at ha3
 have ha4 := R39.scanW_short [115, 116, 101, 112, 32, 83, 49, 32, 112, 114, 111, 103, 114, 97, 109, 32, 115, 111, 114, 116, 32, 112, 97, 114, 109, 32, 39, 98, 121, 32, 49, 32, 56, 39]
 try simp only [List.length_cons, List.length_nil, Nat.zero_add, Nat.reduceAdd, Nat.reduceMul] at ha4
 refine s_ mv_ (s_ (ex_ 0) (s_ (ex_ 1) (s_ av_ (s_ av_ (z_ (n_ (q_ (g_ (o_ (O_makeMap vS fun b5 => ?_))))))))))
 refine o_ (O_insert 0 (f := vS) (k := [68, 65, 89]) ((putK ([] : List (Bytes × Bytes)) [68, 65, 89] [55]).map kvS) [Ent.mp vS b5 ((putK ([] : List (Bytes × Bytes)) [68, 65, 89] [55]).map kvS), Ent.row (.slice e1 (R39.scanW [115, 116, 101, 112, 32, 83, 49, 32, 112, 114, 111, 103, 114, 97, 109, 32, 115, 111, 114, 116, 32, 112, 97, 114, 109, 32, 39, 98, 121, 32, 49, 32, 56, 39]).length e2) 9 1 (R39.scanW [115, 116, 101, 112, 32, 83, 49, 32, 112, 114, 111, 103, 114, 97, 109, 32, 115, 111, 114, 116, 32, 112, 97, 114, 109, 32, 39, 98, 121, 32, 49, 32, 56, 39]).length ((R39.scanW [115, 116, 101, 112, 32, 83, 49, 32, 112, 114, 111, 103, 114, 97, 109, 32, 115, 111, 114, 116, 32, 112, 97, 114, 109, 32, 39, 98, 121, 32, 49, 32, 56, 39]).map vS)] rfl rfl rfl rfl Tryd.underlying22 (mapK_s Tryd.underlying9) (upd_kv ([] : List (Bytes × Bytes)) [68, 65, 89] [55]) rfl ?_)
 refine s_ mv_ (c0 (cl_ Ty.ca12) (fun w hS => f12_ok [100, 100, 32, 79, 85, 84, 32, 100, 97, 116, 97, 32, 80, 65, 89, 46, 68, 38, 68, 65, 89, 59, 32, 110, 101, 119] _ b5 w (Kp.of_ent hS 0 rfl) (hT.on hS (fun _ h => by cases h)) hy_ (by exact R39.shortV_put R39.shortV_nil (by decide))) ?_)
 have ha6 := R39.exV_len (m := lookK (putK ([] : List (Bytes × Bytes)) [68, 65, 89] [55])) (s := [100, 100, 32, 79, 85, 84, 32, 100, 97, 116, 97, 32, 80, 65, 89, 46, 68, 38, 68, 65, 89, 59, 32, 110, 101, 119])
 try simp only [List.length_cons, List.length_nil, Nat.zero_add, Nat.reduceAdd, Nat.reduceMul] at ha6
 refine s_ mv_ (s_ (ex_ 0) (s_ (ex_ 1) (s_ av_ (s_ av_ (z_ (n_ (q_ (g_ ?_))))))))
 refine JO_callB [] [] [Ent.mp vS b5 ((putK ([] : List (Bytes × Bytes)) [68, 65, 89] [55]).map kvS), Ent.row (.slice e1 (R39.scanW [115, 116, 101, 112, 32, 83, 49, 32, 112, 114, 111, 103, 114, 97, 109, 32, 115, 111, 114, 116, 32, 112, 97, 114, 109, 32, 39, 98, 121, 32, 49, 32, 56, 39]).length e2) 9 1 (R39.scanW [115, 116, 101, 112, 32, 83, 49, 32, 112, 114, 111, 103, 114, 97, 109, 32, 115, 111, 114, 116, 32, 112, 97, 114, 109, 32, 39, 98, 121, 32, 49, 32, 56, 39]).length ((R39.scanW [115, 116, 101, 112, 32, 83, 49, 32, 112, 114, 111, 103, 114, 97, 109, 32, 115, 111, 114, 116, 32, 112, 97, 114, 109, 32, 39, 98, 121, 32, 49, 32, 56, 39]).map vS)] rfl trivial (fun _ => x_call Ty.ca19 rfl) (fun _ h => h) (fun _ h => by cases h) (fun w hS => f19_ok [115, 116, 101, 112, 32, 83, 49, 32, 112, 114, 111, 103, 114, 97, 109, 32, 99, 111, 112, 121, 10] w (hT.on hS (fun _ h => by cases h)) hy_) ?_
 rintro wc _ _ wbhB13 ⟨fl7, fc8, y9, yA10, yC11, rfl, rfl, kf14, hf12⟩ hc0 hB13
 have hT := hT.again hB13
 have kf140 := kf14.mono (lown_rangeAF (w00 := w) hc0 hc0.fr.size)
 have kf14 := kf14.mono (lown_rangeA hc0)
 refine s_ mv_ (s_ (ex_ 0) (s_ (ex_ 1) (s_ (ex_ 2) (s_ av_ (s_ av_ (s_ av_ (z_ (xk_ [0, 1, 2, 3, 4, 5, 6, 7] ?_))))))))
 refine n_ (q_ (g_ (s_ mv_ (s_ (x_eql_i rfl rfl) (s_ mv_ ?_)))))
 refine and_ 3 (decide ((((R39.scanW [115, 116, 101, 112, 32, 83, 49, 32, 112, 114, 111, 103, 114, 97, 109, 32, 115, 111, 114, 116, 32, 112, 97, 114, 109, 32, 39, 98, 121, 32, 49, 32, 56, 39]).length : Nat) : Int) = 6)) (fun g15 => ?_) ?_
 ·have g15r := g15
  have g15r := of_decide_eq_true g15r
  refine sg_ g15 mv_ (sg_ g15 (lnS Tryd.underlying24) (sg_ g15 (x_eql_i rfl rfl) ?_))
  exact cr_
 refine s_ mv_ ?_
 refine and_ 4 (decide (((R39.scanW [115, 116, 101, 112, 32, 83, 49, 32, 112, 114, 111, 103, 114, 97, 109, 32, 115, 111, 114, 116, 32, 112, 97, 114, 109, 32, 39, 98, 121, 32, 49, 32, 56, 39]).getD 5 []) = ([98, 121, 32, 49, 32, 56] : Bytes))) (fun g16 => ?_) ?_
 ·have g16r := g16
  have ⟨g16r, h17⟩ := band_true g16r
  have g16r := of_decide_eq_true g16r
  have h17 := of_decide_eq_true h17
  refine sg_ g16 mv_ (rg_ g16 (ixM (k := 5) (cells_row 2 rfl) Tryd.underlying24 Ty.sz9) (rg_ g16 (ldM vS [] (cells_row 2 rfl) Ty.sc9) (jg_ g16 (vB (decide (((R39.scanW [115, 116, 101, 112, 32, 83, 49, 32, 112, 114, 111, 103, 114, 97, 109, 32, 115, 111, 114, 116, 32, 112, 97, 114, 109, 32, 39, 98, 121, 32, 49, 32, 56, 39]).getD 5 []) = ([98, 121, 32, 49, 32, 56] : Bytes)))) (x_eql_s rfl rfl) ?_)))
  exact cr_
 refine s_ mv_ ?_
 refine and_ 2 (decide (R39.exE (R39.replV (lookK (putK ([] : List (Bytes × Bytes)) [68, 65, 89] [55])) [100, 100, 32, 79, 85, 84, 32, 100, 97, 116, 97, 32, 80, 65, 89, 46, 68, 38, 68, 65, 89, 59, 32, 110, 101, 119]) = 0)) (fun g18 => ?_) ?_
 ·have g18r := g18
  have ⟨g18r, h19⟩ := band_true g18r
  have ⟨g18r, h20⟩ := band_true g18r
  have g18r := of_decide_eq_true g18r
  have h20 := of_decide_eq_true h20
  have h19 := of_decide_eq_true h19
  refine sg_ g18 mv_ (sg_ g18 (x_eql_i rfl rfl) ?_)
  exact cr_
 refine s_ mv_ ?_
 refine and_ 2 (decide (R39.exV (R39.replV (lookK (putK ([] : List (Bytes × Bytes)) [68, 65, 89] [55])) [100, 100, 32, 79, 85, 84, 32, 100, 97, 116, 97, 32, 80, 65, 89, 46, 68, 38, 68, 65, 89, 59, 32, 110, 101, 119]) = ([100, 100, 32, 79, 85, 84, 32, 100, 97, 116, 97, 32, 80, 65, 89, 46, 68, 55, 32, 110, 101, 119] : Bytes))) (fun g21 => ?_) ?_
 ·have g21r := g21
  have ⟨g21r, h22⟩ := band_true g21r
  have ⟨g21r, h23⟩ := band_true g21r
  have ⟨g21r, h24⟩ := band_true g21r
  have g21r := of_decide_eq_true g21r
  have h24 := of_decide_eq_true h24
  have h23 := of_decide_eq_true h23
  have h22 := of_decide_eq_true h22
  refine sg_ g21 mv_ (jg_ g21 (vB (decide (R39.exV (R39.replV (lookK (putK ([] : List (Bytes × Bytes)) [68, 65, 89] [55])) [100, 100, 32, 79, 85, 84, 32, 100, 97, 116, 97, 32, 80, 65, 89, 46, 68, 38, 68, 65, 89, 59, 32, 110, 101, 119]) = ([100, 100, 32, 79, 85, 84, 32, 100, 97, 116, 97, 32, 80, 65, 89, 46, 68, 55, 32, 110, 101, 119] : Bytes)))) (x_eql_s rfl rfl) ?_)
  exact cr_
 refine s_ mv_ ?_
 refine and_ 2 (decide (fc8 = 0)) (fun g25 => ?_) ?_
 ·have g25r := g25
  have ⟨g25r, h26⟩ := band_true g25r
  have ⟨g25r, h27⟩ := band_true g25r
  have ⟨g25r, h28⟩ := band_true g25r
  have ⟨g25r, h29⟩ := band_true g25r
  have g25r := of_decide_eq_true g25r
  have h29 := of_decide_eq_true h29
  have h28 := of_decide_eq_true h28
  have h27 := of_decide_eq_true h27
  have h26 := of_decide_eq_true h26
  refine sg_ g25 mv_ (sg_ g25 (x_eql_i rfl rfl) ?_)
  exact cr_
 refine s_ mv_ ?_
 refine and_ 2 (decide (fl7 = 0)) (fun g30 => ?_) ?_
 ·have g30r := g30
  have ⟨g30r, h31⟩ := band_true g30r
  have ⟨g30r, h32⟩ := band_true g30r
  have ⟨g30r, h33⟩ := band_true g30r
  have ⟨g30r, h34⟩ := band_true g30r
  have ⟨g30r, h35⟩ := band_true g30r
  have g30r := of_decide_eq_true g30r
  have h35 := of_decide_eq_true h35
  have h34 := of_decide_eq_true h34
  have h33 := of_decide_eq_true h33
  have h32 := of_decide_eq_true h32
  have h31 := of_decide_eq_true h31
  refine sg_ g30 mv_ (sg_ g30 (x_eql_i rfl rfl) ?_)
  exact cr_
 refine s_ mv_ ?_
 refine and_ 3 (decide (((y9.length : Nat) : Int) = 1)) (fun g36 => ?_) ?_
 ·have g36r := g36
  have ⟨g36r, h37⟩ := band_true g36r
  have ⟨g36r, h38⟩ := band_true g36r
  have ⟨g36r, h39⟩ := band_true g36r
  have ⟨g36r, h40⟩ := band_true g36r
  have ⟨g36r, h41⟩ := band_true g36r
  have ⟨g36r, h42⟩ := band_true g36r
  have g36r := of_decide_eq_true g36r
  have h42 := of_decide_eq_true h42
  have h41 := of_decide_eq_true h41
  have h40 := of_decide_eq_true h40
  have h39 := of_decide_eq_true h39
  have h38 := of_decide_eq_true h38
  have h37 := of_decide_eq_true h37
  refine sg_ g36 mv_ (sg_ g36 (lnS Tryd.underlying36) (sg_ g36 (x_eql_i rfl rfl) ?_))
  exact cr_
 refine s_ mv_ ?_
 refine and_ 5 (decide ((y9.getD 0 default).Line = 1)) (fun g43 => ?_) ?_
 ·have g43r := g43
  have ⟨g43r, h44⟩ := band_true g43r
  have ⟨g43r, h45⟩ := band_true g43r
  have ⟨g43r, h46⟩ := band_true g43r
  have ⟨g43r, h47⟩ := band_true g43r
  have ⟨g43r, h48⟩ := band_true g43r
  have ⟨g43r, h49⟩ := band_true g43r
  have ⟨g43r, h50⟩ := band_true g43r
  have g43r := of_decide_eq_true g43r
  have h50 := of_decide_eq_true h50
  have h49 := of_decide_eq_true h49
  have h48 := of_decide_eq_true h48
  have h47 := of_decide_eq_true h47
  have h46 := of_decide_eq_true h46
  have h45 := of_decide_eq_true h45
  have h44 := of_decide_eq_true h44
  refine sg_ g43 mv_ (rg_ g43 (ixF (k := 0) Statement.enc_len (cells_row 0 rfl) Tryd.underlying36 Ty.sz40) (sg_ g43 (x_fieldAddr Ty.fi40_0 rfl rfl) (rg_ g43 (ldF (k := 0) 0 Statement.enc_len (cells_row 0 rfl) Ty.sc3) (sg_ g43 (x_eql_i rfl rfl) ?_))))
  exact cr_
 refine s_ mv_ ?_
 refine and_ 2 (decide (R39.quote [97, 32, 98] = ([39, 97, 32, 98, 39] : Bytes))) (fun g51 => ?_) ?_
 ·have g51r := g51
  have ⟨g51r, h52⟩ := band_true g51r
  have ⟨g51r, h53⟩ := band_true g51r
  have ⟨g51r, h54⟩ := band_true g51r
  have ⟨g51r, h55⟩ := band_true g51r
  have ⟨g51r, h56⟩ := band_true g51r
  have ⟨g51r, h57⟩ := band_true g51r
  have ⟨g51r, h58⟩ := band_true g51r
  have ⟨g51r, h59⟩ := band_true g51r
  have g51r := of_decide_eq_true g51r
  have h59 := of_decide_eq_true h59
  have h58 := of_decide_eq_true h58
  have h57 := of_decide_eq_true h57
  have h56 := of_decide_eq_true h56
  have h55 := of_decide_eq_true h55
  have h54 := of_decide_eq_true h54
  have h53 := of_decide_eq_true h53
  have h52 := of_decide_eq_true h52
  refine c0g g51 (cl_ Ty.ca15) (fun w hS => f15_ok [97, 32, 98] w (hT.on hS (fun _ h => by cases h)) hy_) ?_
  have ha60 := R39.quote_len [97, 32, 98]
  try simp only [List.length_cons, List.length_nil, Nat.zero_add, Nat.reduceAdd, Nat.reduceMul] at ha60
  refine jg_ g51 (vB (decide (R39.quote [97, 32, 98] = ([39, 97, 32, 98, 39] : Bytes)))) (x_eql_s rfl rfl) ?_
  exact cr_
 refine s_ av_ (z_ (xk_ [0] ?_))
 refine n_ (rt_ ?_)
 refine JX_retsC [_] _ Tryd.results9 (fun w h => ⟨rfl, trivial⟩) rfl _ (fun _ h => h.keep [false, false, false] rfl) (fun _ _ h => (hB13.back _ _ h)) ⟨?_, ?_⟩
 ·have e_x0 : ((((((((((decide (R39.scanE [115, 116, 101, 112, 32, 83, 49, 32, 112, 114, 111, 103, 114, 97, 109, 32, 115, 111, 114, 116, 32, 112, 97, 114, 109, 32, 39, 98, 121, 32, 49, 32, 56, 39] = 0)) && (decide ((((R39.scanW [115, 116, 101, 112, 32, 83, 49, 32, 112, 114, 111, 103, 114, 97, 109, 32, 115, 111, 114, 116, 32, 112, 97, 114, 109, 32, 39, 98, 121, 32, 49, 32, 56, 39]).length : Nat) : Int) = 6))) && (decide (((R39.scanW [115, 116, 101, 112, 32, 83, 49, 32, 112, 114, 111, 103, 114, 97, 109, 32, 115, 111, 114, 116, 32, 112, 97, 114, 109, 32, 39, 98, 121, 32, 49, 32, 56, 39]).getD 5 []) = ([98, 121, 32, 49, 32, 56] : Bytes)))) && (decide (R39.exE (R39.replV (lookK (putK ([] : List (Bytes × Bytes)) [68, 65, 89] [55])) [100, 100, 32, 79, 85, 84, 32, 100, 97, 116, 97, 32, 80, 65, 89, 46, 68, 38, 68, 65, 89, 59, 32, 110, 101, 119]) = 0))) && (decide (R39.exV (R39.replV (lookK (putK ([] : List (Bytes × Bytes)) [68, 65, 89] [55])) [100, 100, 32, 79, 85, 84, 32, 100, 97, 116, 97, 32, 80, 65, 89, 46, 68, 38, 68, 65, 89, 59, 32, 110, 101, 119]) = ([100, 100, 32, 79, 85, 84, 32, 100, 97, 116, 97, 32, 80, 65, 89, 46, 68, 55, 32, 110, 101, 119] : Bytes)))) && (decide (fc8 = 0))) && (decide (fl7 = 0))) && (decide (((y9.length : Nat) : Int) = 1))) && (decide ((y9.getD 0 default).Line = 1))) && (decide (R39.quote [97, 32, 98] = ([39, 97, 32, 98, 39] : Bytes))) : Bool) = true := by
   obtain ⟨q1, q2, q3, q4⟩ := R39.awake_y hf12
   subst q1 q2
   rw [q3, q4]
   kernel_rfl
  exact congrArg (fun (x0 : Bool) => vB x0) e_x0
 ·rfl
end Go.Proofs.YtbfiibgmgopnaaaDoor

namespace Go.Proofs.YtbfiibgmgopnaaaDoor
open Go.GV
set_option linter.unusedVariables false
set_option linter.unusedSimpArgs false
theorem c39m1_ {p : Prop} (h : p := by first | exact R39.texts_len (by omega) | exact R39.texts_bad (i := k) (by assumption) | exact R39.texts_end i1_1 (fun i hi => i1_2 i (by omega))) : p := h
set_option maxRecDepth 20000 in
theorem f14_ok (a : List Bytes) (aA : Option Addr) (aC : Nat) (b : List Bytes) (bA : Option Addr) (bC : Nat) (w : World) (aR : RO [] w aA (a.map vS)) (bR : RO [] w bA (b.map vS)) (q0 : a.length ≤ 9223372036854775807) (q1 : b.length ≤ 9223372036854775807) : Calls Tryd.prog 14 #[vL aA a.length aC, vL bA b.length bC] w (Gives [] w fun v L => v = vB (decide (a = b)) ∧ L = []) := by
 refine calls_J [] 26 Tryd.func14 rfl Tryd.ntmps14 [(0, _), (1, _)] rfl rfl (Give.nil w) ?_
 refine q_ (g_ (s_ av_ (z_ (n_ (q_ (q_ (g_ (s_ mv_ (s_ (lnS Tryd.underlying24) (s_ mv_ (s_ (lnS Tryd.underlying24) (s_ (x_neq_i rfl rfl) (z_ (n_ ?_))))))))))))))
 refine ifd (fun h1w h1 => ?_) (fun h1w h1 => ?_)
 ·refine q_ (g_ (s_ av_ (z_ (n_ (rt_ (nr_ ?_))))))
  exact p1 Tryd.results14 rfl ⟨(eB c39m1_), rfl⟩
 ·refine sk_ (n_ (q_ (q_ (g_ (s_ av_ (z_ (n_ (k_ ?_))))))))
  refine J_loop (X := Nat) (fun (k : Nat) => (k ≤ a.length) ∧ (a.length = b.length) ∧ (∀ i, i < k → a.getD i [] = b.getD i [])) (fun (k : Nat) => [(0, vL aA a.length aC), (1, vL bA b.length bC), (5, vI ((k : Nat) : Int))]) (fun (k : Nat) => []) (fun (k : Nat) => a.length - k) (0 : Nat) ?_ ⟨rfl, rfl, rfl, trivial⟩ (fun _ h => h) ?_
  ·try dsimp only
   refine ⟨?_, ?_, ?_⟩
   ·first | rfl | omega | (simp_all; done) | (simp_all; omega)
   ·omega
   ·intro i hi; omega
  intro k hI1
  obtain ⟨i1_0, i1_1, i1_2⟩ := hI1
  try dsimp only at i1_0
  try dsimp only at i1_1
  try dsimp only at i1_2
  try dsimp only
  refine q_ (q_ (g_ (s_ mv_ (s_ mv_ (s_ (lnS Tryd.underlying24) (s_ (x_lss_i rfl rfl) (z_ (n_ ?_))))))))
  refine ifd (fun h2w h2 => ?_) (fun h2w h2 => ?_)
  ·refine sk_ (n_ (q_ (k_ (q_ ?_))))
   refine drB [] 9 Ty.mixed ?_
   refine jp_ 0 rfl mv_ (jp_ 1 rfl mv_ (jq_ 2 rfl (ixM (cells_ro aR) Tryd.underlying24 Ty.sz9) (jq_ 3 rfl (ldM vS [] (cells_ro aR) Ty.sc9) (jp_ 4 rfl mv_ (jp_ 5 rfl mv_ (jq_ 6 rfl (ixM (cells_ro bR) Tryd.underlying24 Ty.sz9) (jq_ 7 rfl (ldM vS [] (cells_ro bR) Ty.sc9) (jp_ 8 rfl (x_neq_s rfl rfl) ?_))))))))
   refine JA_done (by kernel_rfl) gm_ ?_
   refine n_ ?_
   refine ifd (fun h3w h3 => ?_) (fun h3w h3 => ?_)
   ·refine q_ (g_ (s_ av_ (z_ (n_ (rt_ (kq_ (nr_ (rr_ (kq_ (nr_ ?_))))))))))
    exact p1 Tryd.results14 rfl ⟨(eB c39m1_), rfl⟩
   ·refine sk_ (kx_ (n_ (g_ (s_ mv_ (s_ (x_add_n (a := k) (b := 1) rfl rfl (by omega)) (s_ av_ (z_ ?_)))))))
    refine JX_round (k + 1 : Nat) ?_ ?_ ⟨rfl, rfl, rfl, trivial⟩ (fun _ h => h)
    ·try dsimp only
     refine ⟨?_, ?_, ?_⟩
     ·first | rfl | omega | (simp_all; done) | (simp_all; omega)
     ·first | rfl | omega | (simp_all; done) | (simp_all; omega)
     ·intro i hi
      by_cases hik : i = k
      ·subst hik; simp_all
      ·exact i1_2 i (by omega)
    ·try dsimp only
     first | omega | (simp; omega) | (simp_all; omega)
  ·refine J_exit (ne_ (re_ (kh_ (n_ (q_ ?_)))))
   refine g_ (s_ av_ (z_ (n_ (rt_ ?_))))
   exact p1 Tryd.results14 rfl ⟨(eB c39m1_), rfl⟩
end Go.Proofs.YtbfiibgmgopnaaaDoor

namespace Go.Proofs.YtbfiibgmgopnaaaDoor
open Go.GV
set_option linter.unusedVariables false
set_option linter.unusedSimpArgs false
end Go.Proofs.YtbfiibgmgopnaaaDoor

namespace Go.Proofs.YtbfiibgmgopnaaaDoor
open Go.GV
namespace R39
structure Tame (s : Bytes) : Prop where
  amp : (38 : UInt8) ∉ s
  len : s.length ≤ 1000
  word : ∀ ws, scan s = some ws → ws ≠ [] → ws.getD 0 [] ≠ wSET ∧ ws.getD 0 [] ≠ wPROC ∧ ws.getD 0 [] ≠ wCALL ∧ ws.getD 0 [] ≠ wEND
def wX : Bytes := [88]
def inX (s : Stm) : Stm := { s with line := s.line + 1, call := wX }
def RelX : Res RS → Res RS → Prop
  | .error a, .error b => b = (a.1 + 1, a.2)
  | .ok s, .ok t => t.out = s.out.map inX
  | _, _ => False
def RelL : Res (Nat × RS) → Res (Nat × RS) → Prop
  | .error a, .error b => b = (a.1 + 1, a.2)
  | .ok (k, s), .ok (j, t) => j = k ∧ t.out = s.out.map inX
  | _, _ => False
def tPROC : Bytes := [112, 114, 111, 99, 32, 80]
def tCALL : Bytes := [99, 97, 108, 108, 32, 88, 32, 80]
end R39
end Go.Proofs.YtbfiibgmgopnaaaDoor

namespace Go.Proofs.YtbfiibgmgopnaaaDoor
open Go.GV
namespace R39
def Fine (s : Bytes) : Prop := s ≠ wSTOP ∧ s.length ≤ 200
def tDD : Bytes := [100, 100, 32, 73, 78, 32, 105, 110, 108, 105, 110, 101]
def tS : Bytes := [115, 116, 101, 112, 32, 83]
end R39
end Go.Proofs.YtbfiibgmgopnaaaDoor

namespace Go.Proofs.YtbfiibgmgopnaaaDoor
open Go.GV
namespace R39
def sameS (a b : Statement) : Bool := ((decide (a.Line = b.Line) && decide (a.Call = b.Call)) && decide (a.Words = b.Words)) && decide (a.Data = b.Data)
def preM (f : Statement → Statement) (y : List Statement) (k : Nat) : List Statement := (y.take k).map f ++ y.drop k
theorem preM_done {f : Statement → Statement} {g : Stm → Stm} {y : List Statement} {k : Nat} (h : ¬ k < y.length) (hf : ∀ e, pur (f e) = g (pur e)) : (preM f y k).map pur = (y.map pur).map g := by
  unfold preM
  rw [List.take_of_length_le (by omega), List.drop_eq_nil_of_le (by omega), List.append_nil, List.map_map, List.map_map]
  exact List.map_congr_left fun e _ => hf e
def shF (d : Int) (e : Statement) : Statement := ⟨e.Line + d, e.Call, e.Words, e.WordsA, e.WordsC, e.Data, e.DataA, e.DataC⟩
theorem all_step {p : Bytes → Prop} {l : List Bytes} {k : Nat} (h : ∀ i, i < k → p (l.getD i [])) (h1 : p (l.getD k [])) : ∀ i, i < k + 1 → p (l.getD i []) := fun i hi => by
  by_cases e : i = k
  · rw [e]; exact h1
  · exact h i (by omega)
structure Two (d : Int) (g : Stm → Stm) (y b : List Statement) (n e m f : Int) : Prop where
  code : e = f
  len : y.length = b.length
  line : e ≠ 0 → m = n + d
  same : (y.map pur).map g = b.map pur
theorem Two.no {d : Int} {g : Stm → Stm} {y b : List Statement} {n e m f : Int} (h : Two d g y b n e m f) (hc : ((decide (e ≠ f) || decide (((y.length : Nat) : Int) ≠ ((b.length : Nat) : Int))) || (decide (e ≠ 0) && decide (m ≠ n + d))) = true) : False := by
  have h1 := h.code; have h2 := h.len; have h3 := h.line
  simp only [Bool.or_eq_true, Bool.and_eq_true, decide_eq_true_eq] at hc
  rcases hc with (hc | hc) | hc
  · exact hc h1
  · omega
  · exact hc.2 (h3 hc.1)
theorem Two.post {d : Int} {g : Stm → Stm} {f0 : Statement → Statement} {y b z : List Statement} {n e m f : Int} {k : Nat} (h : Two d g y b n e m f) (hf : ∀ e, pur (f0 e) = g (pur e)) (hz : z = preM f0 y k) (hk : ¬ k < y.length) : decide (z.map pur = b.map pur) = true := by
  rw [hz, preM_done hk hf, h.same]; exact decide_eq_true rfl
end R39
end Go.Proofs.YtbfiibgmgopnaaaDoor

namespace Go.Proofs.YtbfiibgmgopnaaaDoor
open Go.GV
set_option linter.unusedVariables false
set_option linter.unusedSimpArgs false
end Go.Proofs.YtbfiibgmgopnaaaDoor

namespace Go.Proofs.YtbfiibgmgopnaaaDoor
open Go.GV
namespace R39
def gh (d : Int → Int) (x : Row) : Row := ⟨d x.number, x.text⟩
def ghM (d : Int → Int) (s : Stm) : Stm := { s with line := d s.line }
def ghP (d : Int → Int) (p : Bytes × Pr) : Bytes × Pr := (p.1, ⟨p.2.vals, p.2.rows.map (gh d)⟩)
def ghS (d : Int → Int) (s : RS) : RS := ⟨s.syms, s.procs.map (ghP d), s.out.map (ghM d)⟩
def ghE {α : Type} (d : Int → Int) (f : α → α) : Res α → Res α
  | .error e => .error (d e.1, e.2)
  | .ok x => .ok (f x)
def ghL (d : Int → Int) (p : Nat × RS) : Nat × RS := (p.1, ghS d p.2)
section
variable {d : Int → Int}
end
def clamp (n : Nat) (x : Int) : Int := if 1 ≤ x ∧ x ≤ n then x else 1
end R39
end Go.Proofs.YtbfiibgmgopnaaaDoor

namespace Go.Proofs.YtbfiibgmgopnaaaDoor
open Go.GV
namespace R39
def Sml (l : List Stm) : Prop := ∀ x ∈ l, x.words.length ≤ 1000 ∧ x.data.length ≤ 64
end R39
end Go.Proofs.YtbfiibgmgopnaaaDoor

namespace Go.GV
open Go.RowKit
section
variable {E : Env} {P : Program} {x y : Operand} {dst : Option Nat} {t ty : TypeId} {pos : String} {af : Array Edge} {g : Option (Nat × Bool)}
end
end Go.GV

namespace Go.Proofs.YtbfiibgmgopnaaaDoor
open Go.GV
set_option linter.unusedVariables false
set_option linter.unusedSimpArgs false
end Go.Proofs.YtbfiibgmgopnaaaDoor

namespace Go.Proofs.YtbfiibgmgopnaaaDoor
open Go.GV
namespace R39
def dataT (L : List Bytes) : Bytes := (tDD ++ [10]) ++ body L
def dataL (l : List Bytes) (j : Nat) : List Bytes := l ++ List.replicate j [35]
def DataP (s : Bytes) : Prop := (10 : UInt8) ∉ s ∧ Fine s
structure DatJ (l : List Bytes) (k : Nat) (y b : List Statement) (n e m f : Int) : Prop where
  much : 64 < k → e = 8 ∧ n = 66 ∧ f = 8 ∧ m = 66 ∧ y = [] ∧ b = []
  few : k ≤ 64 → e = 0 ∧ n = 0 ∧ y.length = 2 ∧ (y.getD 0 default).Data.length = k ∧ (y.getD 0 default).Data.take l.length = l ∧ (y.getD 1 default).Line = ((k + 3 : Nat) : Int) ∧ f = 3 ∧ m = 1
def CalP (s : Bytes) : Prop := (10 : UInt8) ∉ s ∧ Tame s
def shX (e : Statement) : Statement := ⟨e.Line + 1, [88], e.Words, e.WordsA, e.WordsC, e.Data, e.DataA, e.DataC⟩
end R39
end Go.Proofs.YtbfiibgmgopnaaaDoor

namespace Go.Proofs.YtbfiibgmgopnaaaDoor
open Go.GV
set_option linter.unusedVariables false
set_option linter.unusedSimpArgs false
end Go.Proofs.YtbfiibgmgopnaaaDoor

namespace Go.Proofs.YtbfiibgmgopnaaaDoor
open Go.GV
set_option linter.unusedVariables false
set_option linter.unusedSimpArgs false
end Go.Proofs.YtbfiibgmgopnaaaDoor
