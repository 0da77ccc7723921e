/- Pl39j, C39c, Pl39k, GvAb in one text. -/
import Derived.Test.YtbfiibgmgopnaaaDoorJobtextLines9
import Derived.Test.YtbfiibgmgopnaaaDoorJobtextLines4
set_option linter.unusedVariables false
set_option linter.unusedSimpArgs false
namespace Go.Proofs.YtbfiibgmgopnaaaDoor
open Go.GV
namespace R39
def exV (r : Except Int Bytes) : Bytes := match r with
  | .ok x => x
  | .error _ => []
def exE (r : Except Int Bytes) : Int := match r with
  | .ok _ => 0
  | .error e => e
def ReplJ (m : Syms) (s xs l : Bytes) : Prop := repl m s = (repl m l).map (xs ++ ·)
theorem sub_end (l : Bytes) (k : Nat) : sub l k l.length = l.drop k := by unfold sub; rw [List.take_length]
theorem sub_head (l : Bytes) (k : Nat) : sub l 0 k = l.take k := by unfold sub; rw [List.drop_zero]
theorem sub_none (l : Bytes) : sub l l.length l.length = [] := by rw [sub_end, List.drop_length]
theorem sub_some {l : Bytes} {k : Nat} (hk : k < l.length) : sub l k l.length ≠ [] := by
  rw [sub_end, drop_cons hk]; exact List.cons_ne_nil _ _
theorem sub_len_end (l : Bytes) (k : Nat) : (sub l k l.length).length = l.length - k := by rw [sub_end, List.length_drop]
theorem sub_len_head {l : Bytes} {k : Nat} (h : k < l.length) : (sub l 0 k).length = k := by rw [sub_head, List.length_take]; omega
theorem take2_len {l : Bytes} (h : l.take 2 = [38, 38]) : 2 ≤ l.length := by
  have := congrArg List.length h; rw [List.length_take] at this; simp only [List.length_cons, List.length_nil] at this; omega
section
variable {m : Syms} {s xs l : Bytes}
theorem ReplJ.start : ReplJ m s [] s := (map_id _).symm
theorem ReplJ.app (h : ReplJ m s xs l) {a b : Bytes} (e : l = a ++ b) (ha : 38 ∉ a) : ReplJ m s (xs ++ a) b := by
  unfold ReplJ at *
  rw [h, e, repl_app ha, map_map]
  congr 1; funext x; exact (List.append_assoc _ _ _).symm
theorem ReplJ.last (h : ReplJ m s xs l) {r : Int} (hi : IxJ 38 l r) (hr : r < 0) : repl m s = .ok (xs ++ sub l 0 l.length) := by
  rw [sub_head, List.take_length]
  rcases hi with ⟨_, h2, _⟩ | ⟨k, h2, _⟩
  · unfold ReplJ at h
    rw [h, repl_plain h2]; rfl
  · omega
theorem ReplJ.stop (h : ReplJ m s xs l) (h0 : l = []) : repl m s = .ok xs := by
  unfold ReplJ at h; rw [h, h0, repl_nil]; show Except.ok (xs ++ []) = _; rw [List.append_nil]
theorem ReplJ.skip (h : ReplJ m s xs l) {k : Nat} (hi : IxJ 38 l (k : Int)) : ReplJ m s (xs ++ sub l 0 k) (sub l k l.length) ∧ k < l.length ∧ (sub l k l.length).getD 0 0 = 38 := by
  rcases hi with ⟨h1, _⟩ | ⟨j, h1, h2, h3, h4, _⟩
  · omega
  · obtain rfl : k = j := by omega
    rw [sub_head, sub_end]
    refine ⟨h.app (List.take_append_drop k l).symm h3, h2, ?_⟩
    rw [drop_cons h2]; exact h4
theorem head_cons {q : Bytes} (h0 : q ≠ []) (h : q.getD 0 0 = 38) : ∃ t, q = 38 :: t := by
  cases q with
  | nil => exact absurd rfl h0
  | cons c t => exact ⟨t, by rw [show c = 38 from h]⟩
theorem ReplJ.two {q : Bytes} (h : ReplJ m s xs q) (h2 : q.take 2 = [38, 38]) : ReplJ m s (xs ++ [38]) (sub q 2 q.length) := by
  obtain ⟨t, rfl⟩ : ∃ t, q = 38 :: 38 :: t := by
    cases q with
    | nil => cases h2
    | cons c q =>
      cases q with
      | nil => cases h2
      | cons d t =>
        have h2 : [c, d] = [38, 38] := h2
        injection h2 with e1 e2
        injection e2 with e2
        exact ⟨t, by rw [e1, e2]⟩
  unfold ReplJ at *
  rw [sub_end, h, repl_two, map_map]
  congr 1; funext x; exact (List.append_assoc xs [38] x).symm
theorem ReplJ.at {q : Bytes} (h : ReplJ m s xs q) (h0 : q ≠ []) (hq : q.getD 0 0 = 38) (h2 : ¬ q.take 2 = [38, 38]) : repl m s = Except.map (xs ++ ·) (match cutB 59 (sub q 1 q.length) with
    | none => .error 3
    | some (a, r) => if symV a = true then (match m a with
        | none => .error 4
        | some v => (repl m r).map (v ++ ·)) else .error 3) := by
  obtain ⟨t, rfl⟩ := head_cons h0 hq
  unfold ReplJ at h
  rw [h, sub_end, repl_sym]
  · rfl
  · intro e
    cases t with
    | nil => cases e
    | cons d t => injection e with e; exact h2 (by rw [show d = 38 from e]; rfl)
theorem ReplJ.err3 {q a r : Bytes} {o : Bool} (h : ReplJ m s xs q) (h0 : q ≠ []) (hq : q.getD 0 0 = 38) (h2 : ¬ q.take 2 = [38, 38]) (ho : o = true → cutB 59 (sub q 1 q.length) = some (a, r)) (hn : o = false → cutB 59 (sub q 1 q.length) = none) (hb : (!o || !symV a) = true) : repl m s = .error 3 := by
  rw [h.at h0 hq h2]
  cases o with
  | false => rw [hn rfl]; rfl
  | true =>
    rw [ho rfl]
    have hs : ¬ symV a = true := by
      simp only [Bool.not_true, Bool.false_or, Bool.not_eq_true'] at hb
      rw [hb]; decide
    show Except.map _ (if symV a = true then _ else _) = _
    rw [if_neg hs]; rfl
theorem ReplJ.err4 {q a r : Bytes} {o : Bool} (h : ReplJ m s xs q) (h0 : q ≠ []) (hq : q.getD 0 0 = 38) (h2 : ¬ q.take 2 = [38, 38]) (ho : o = true → cutB 59 (sub q 1 q.length) = some (a, r)) (hb : (!o || !symV a) = false) (hm : (m a).isSome = false) : repl m s = .error 4 := by
  rw [h.at h0 hq h2]
  cases o with
  | false => cases hb
  | true =>
    rw [ho rfl]
    have hs : symV a = true := by simpa using hb
    show Except.map _ (if symV a = true then (match m a with | none => Except.error 4 | some v => (repl m r).map (v ++ ·)) else _) = _
    rw [if_pos hs, show m a = none from by cases e : m a with | none => rfl | some v => rw [e] at hm; cases hm]; rfl
theorem ReplJ.sym {q a r : Bytes} {o : Bool} (h : ReplJ m s xs q) (h0 : q ≠ []) (hq : q.getD 0 0 = 38) (h2 : ¬ q.take 2 = [38, 38]) (ho : o = true → cutB 59 (sub q 1 q.length) = some (a, r)) (hb : (!o || !symV a) = false) (hm : (m a).isSome = true) : ReplJ m s (xs ++ (m a).getD []) r := by
  have e := h.at h0 hq h2
  cases o with
  | false => cases hb
  | true =>
    rw [ho rfl] at e
    have hs : symV a = true := by simpa using hb
    obtain ⟨v, hv⟩ := Option.isSome_iff_exists.1 hm
    have e : repl m s = Except.map (xs ++ ·) (if symV a = true then (match m a with | none => Except.error 4 | some v => (repl m r).map (v ++ ·)) else .error 3) := e
    rw [if_pos hs, hv] at e
    unfold ReplJ
    rw [e, hv]
    show Except.map _ (Except.map _ (repl m r)) = _
    rw [map_map]
    congr 1; funext x; exact (List.append_assoc _ _ _).symm
theorem cut_short {q a r : Bytes} {o : Bool} (ho : o = true → cutB 59 q = some (a, r)) (hn : (!o || !symV a) = false) : a.length + r.length < q.length := by
  cases o with
  | false => cases hn
  | true =>
    have := congrArg List.length (cutB_le (ho rfl))
    rw [List.length_append, List.length_cons] at this; omega
theorem replV_ok {x : Bytes} (h : repl m s = .ok x) (hl : ¬ (1000 : Int) < ((x.length : Nat) : Int)) : replV m s = .ok x := by unfold replV; rw [h]; exact if_neg (by omega)
theorem replV_big {x : Bytes} (h : repl m s = .ok x) (hl : (1000 : Int) < ((x.length : Nat) : Int)) : replV m s = .error 8 := by unfold replV; rw [h]; exact if_pos (by omega)
theorem replV_err {e : Int} (h : repl m s = .error e) : replV m s = .error e := by unfold replV; rw [h]
theorem exV_ok {r : Except Int Bytes} {x : Bytes} (h : r = .ok x) : x = exV r := by rw [h]; rfl
theorem exE_ok {r : Except Int Bytes} {x : Bytes} (h : r = .ok x) : 0 = exE r := by rw [h]; rfl
theorem exV_er {r : Except Int Bytes} {e : Int} (h : r = .error e) : [] = exV r := by rw [h]; rfl
theorem exE_er {r : Except Int Bytes} {e : Int} (h : r = .error e) : e = exE r := by rw [h]; rfl
theorem exV_len : (exV (replV m s)).length ≤ 1000 := by
  unfold replV
  split
  · split
    · exact Nat.zero_le _
    · rename_i x _ hx; show x.length ≤ 1000; omega
  · exact Nat.zero_le _
end
def ShortV (l : List (Bytes × Bytes)) : Prop := ∀ k, ((lookK l k).getD []).length ≤ 20000
end R39
end Go.Proofs.YtbfiibgmgopnaaaDoor

namespace Go.Proofs.YtbfiibgmgopnaaaDoor
open Go.GV
set_option linter.unusedVariables false
set_option linter.unusedSimpArgs false
theorem c39c0_ {p : Prop} (h : p := by first | omega | (simp only [sub, List.length_drop, List.length_take]; omega) | (simp; omega) | (simp_all; omega)) : p := h
theorem c39c1_ {p : Prop} (h : p := by first | assumption | exact .inl rfl | exact .inr rfl) : p := h
theorem c39c2_ {p : Prop} (h : p := by first | ((try simp only [List.length_append, List.length_cons, List.length_nil]); omega) | (have hcs := R39.cut_short no_such_condition (by assumption); (try simp only [List.length_append]); omega)) : p := h
theorem c39c3_ {p : Prop} (h : p := by first | ((try simp only [List.length_append, List.length_cons, List.length_nil]); omega) | (have hcs := R39.cut_short hf20 (by assumption); (try simp only [List.length_append]); omega)) : p := h
theorem c39c4_ {p : Prop} (h : p := by first | exact R39.exV_er (R39.replV_err (hsk.1.err3 (by assumption) hsk.2.2 (by assumption) no_such_condition no_such_condition (by assumption))) | exact R39.exV_er (R39.replV_err (hsk.1.err4 (by assumption) hsk.2.2 (by assumption) no_such_condition (by assumption) (by assumption))) | exact R39.exV_er (R39.replV_big (i1_0.stop (Decidable.not_not.1 (by assumption))) (by assumption)) | exact R39.exV_er (R39.replV_big (i1_0.last hf4 (by assumption)) (by assumption)) | exact R39.exV_ok (R39.replV_ok (i1_0.stop (Decidable.not_not.1 (by assumption))) (by assumption)) | exact R39.exV_ok (R39.replV_ok (i1_0.last hf4 (by assumption)) (by assumption))) : p := h
theorem c39c5_ {p : Prop} (h : p := by first | exact R39.exE_er (R39.replV_err (hsk.1.err3 (by assumption) hsk.2.2 (by assumption) no_such_condition no_such_condition (by assumption))) | exact R39.exE_er (R39.replV_err (hsk.1.err4 (by assumption) hsk.2.2 (by assumption) no_such_condition (by assumption) (by assumption))) | exact R39.exE_er (R39.replV_big (i1_0.stop (Decidable.not_not.1 (by assumption))) (by assumption)) | exact R39.exE_er (R39.replV_big (i1_0.last hf4 (by assumption)) (by assumption)) | exact R39.exE_ok (R39.replV_ok (i1_0.stop (Decidable.not_not.1 (by assumption))) (by assumption)) | exact R39.exE_ok (R39.replV_ok (i1_0.last hf4 (by assumption)) (by assumption))) : p := h
theorem c39c6_ {p : Prop} (h : p := by first | exact R39.exV_er (R39.replV_err (hsk.1.err3 (by assumption) hsk.2.2 (by assumption) hf20 hf21 (by assumption))) | exact R39.exV_er (R39.replV_err (hsk.1.err4 (by assumption) hsk.2.2 (by assumption) hf20 (by assumption) (by assumption))) | exact R39.exV_er (R39.replV_big (i1_0.stop (Decidable.not_not.1 (by assumption))) (by assumption)) | exact R39.exV_er (R39.replV_big (i1_0.last hf4 (by assumption)) (by assumption)) | exact R39.exV_ok (R39.replV_ok (i1_0.stop (Decidable.not_not.1 (by assumption))) (by assumption)) | exact R39.exV_ok (R39.replV_ok (i1_0.last hf4 (by assumption)) (by assumption))) : p := h
theorem c39c7_ {p : Prop} (h : p := by first | exact R39.exE_er (R39.replV_err (hsk.1.err3 (by assumption) hsk.2.2 (by assumption) hf20 hf21 (by assumption))) | exact R39.exE_er (R39.replV_err (hsk.1.err4 (by assumption) hsk.2.2 (by assumption) hf20 (by assumption) (by assumption))) | exact R39.exE_er (R39.replV_big (i1_0.stop (Decidable.not_not.1 (by assumption))) (by assumption)) | exact R39.exE_er (R39.replV_big (i1_0.last hf4 (by assumption)) (by assumption)) | exact R39.exE_ok (R39.replV_ok (i1_0.stop (Decidable.not_not.1 (by assumption))) (by assumption)) | exact R39.exE_ok (R39.replV_ok (i1_0.last hf4 (by assumption)) (by assumption))) : p := h
theorem c39c8_ {p : Prop} (h : p := by first | exact R39.exV_er (R39.replV_err (hsk.1.err3 (by assumption) hsk.2.2 (by assumption) no_such_condition no_such_condition (by assumption))) | exact R39.exV_er (R39.replV_err (hsk.1.err4 (by assumption) hsk.2.2 (by assumption) no_such_condition (by assumption) (by assumption))) | exact R39.exV_er (R39.replV_big (i1_0.stop (Decidable.not_not.1 (by assumption))) (by assumption)) | exact R39.exV_er (R39.replV_big (i1_0.last no_such_condition (by assumption)) (by assumption)) | exact R39.exV_ok (R39.replV_ok (i1_0.stop (Decidable.not_not.1 (by assumption))) (by assumption)) | exact R39.exV_ok (R39.replV_ok (i1_0.last no_such_condition (by assumption)) (by assumption))) : p := h
theorem c39c9_ {p : Prop} (h : p := by first | exact R39.exE_er (R39.replV_err (hsk.1.err3 (by assumption) hsk.2.2 (by assumption) no_such_condition no_such_condition (by assumption))) | exact R39.exE_er (R39.replV_err (hsk.1.err4 (by assumption) hsk.2.2 (by assumption) no_such_condition (by assumption) (by assumption))) | exact R39.exE_er (R39.replV_big (i1_0.stop (Decidable.not_not.1 (by assumption))) (by assumption)) | exact R39.exE_er (R39.replV_big (i1_0.last no_such_condition (by assumption)) (by assumption)) | exact R39.exE_ok (R39.replV_ok (i1_0.stop (Decidable.not_not.1 (by assumption))) (by assumption)) | exact R39.exE_ok (R39.replV_ok (i1_0.last no_such_condition (by assumption)) (by assumption))) : p := h
set_option maxRecDepth 20000 in
theorem f12_ok (line : Bytes) (sy : List (Bytes × Bytes)) (syB : Nat) (w : World) (syR : Kp [] w (Ent.at (Ent.mp vS syB (sy.map kvS)))) (hT : Tab [] w) (q0 : line.length ≤ 20000) (q1 : R39.ShortV sy) : Calls Tryd.prog 12 #[vS line, Value.map (some syB)] w (Gives [] w fun v L => v = Value.tuple #[vS (R39.exV (R39.replV (lookK sy) line)), vI (R39.exE (R39.replV (lookK sy) line))] ∧ L = []) := by
 refine calls_J [] 62 Tryd.func12 rfl Tryd.ntmps12 [(0, _), (1, _)] rfl rfl (Give.nil w) ?_
 refine q_ (g_ (s_ av_ (s_ av_ (z_ (n_ (q_ (g_ (o_ (al_ Ty.ze54 fun b1 => ?_)))))))))
 refine z_ (n_ (q_ (k_ ?_)))
 refine J_loop (X := Bytes × Value × (List UInt8) × (Option Addr) × Nat) (fun (⟨l, pv, xs, xsA, xsC⟩ : Bytes × Value × (List UInt8) × (Option Addr) × Nat) => (R39.ReplJ (lookK sy) line xs l) ∧ (pv = Value.pointer none ∨ pv = pB b1 0) ∧ (xs.length + 20000 * l.length ≤ 20000 * line.length) ∧ (l.length ≤ line.length)) (fun (⟨l, pv, xs, xsA, xsC⟩ : Bytes × Value × (List UInt8) × (Option Addr) × Nat) => [(0, vS l), (1, Value.map (some syB)), (6, pB b1 0)]) (fun (⟨l, pv, xs, xsA, xsC⟩ : Bytes × Value × (List UInt8) × (Option Addr) × Nat) => [Ent.blk b1 54 [pv, vL xsA xs.length xsC], Ent.row (.slice xsA xs.length xsC) 5 1 xs.length (xs.map vU8)]) (fun (⟨l, pv, xs, xsA, xsC⟩ : Bytes × Value × (List UInt8) × (Option Addr) × Nat) => l.length) ((line, Value.pointer none, ([] : List UInt8), none, 0) : Bytes × Value × (List UInt8) × (Option Addr) × Nat) ?_ ⟨rfl, rfl, rfl, trivial⟩ (fun _ h => ((h.nilrow 5 1).front 1 _ rfl).keep [true, true] rfl) ?_
 ·try dsimp only
  refine ⟨?_, ?_, ?_, ?_⟩
  ·exact R39.ReplJ.start
  ·exact .inl rfl
  ·simp only [List.length_nil]; omega
  ·first | rfl | omega | (simp_all; done) | (simp_all; omega)
 rintro ⟨l, pv, xs, xsA, xsC⟩ hI1
 obtain ⟨i1_0, i1_1, i1_2, i1_3⟩ := hI1
 try dsimp only at i1_0
 try dsimp only at i1_1
 try dsimp only at i1_2
 try dsimp only at i1_3
 try dsimp only
 refine q_ (q_ (g_ (s_ mv_ (js_ (vB (decide (l ≠ ([] : Bytes)))) (x_neq_s rfl rfl) (z_ (n_ ?_))))))
 refine ifd (fun h2w h2 => ?_) (fun h2w h2 => ?_)
 ·have h2l := List.length_pos_iff.2 h2
  refine sk_ (n_ (k_ (q_ (g_ (s_ mv_ ?_)))))
  refine c1 (cl_ Ty.ca25) (fun w hS => ixb_ok l (38 : UInt8) w) ?_
  rintro _ _ ⟨r3, rfl, rfl, hf4⟩
  refine s_ av_ (z_ (n_ (q_ (q_ (g_ (s_ mv_ (s_ (x_lss_i rfl rfl) (z_ (n_ ?_)))))))))
  refine ifd (fun h5w h5 => ?_) (fun h5w h5 => ?_)
  ·refine g_ (s_ mv_ (s_ (x_len_s rfl Tryd.underlying9) (s_ av_ (z_ (n_ (q_ (g_ (s_ mv_ (s_ mv_ (s_ (x_sub_s (lo := 0) (hi := l.length) rfl Tryd.underlying9 (.inr ⟨rfl, rfl⟩) (.inl rfl) lt_ c39c0_) ?_))))))))))
   refine JO_call (Lown [Ent.blk b1 54 [pv, vL xsA xs.length xsC], Ent.row (.slice xsA xs.length xsC) 5 1 xs.length (xs.map vU8)]) [Ent.blk b1 54 [pv, vL xsA xs.length xsC], Ent.row (.slice xsA xs.length xsC) 5 1 xs.length (xs.map vU8)] [] rfl trivial (fun _ => x_call Ty.ca26 rfl) (fun _ h => h) lown_mem (fun w hS => f26_ok b1 pv xs xsA xsC xs.length (sub l 0 l.length) w hy_ c39c1_ hy_ hy_ (hS.give lown_in)) ?_
   rintro _ _ ⟨yA6, yC7, rfl, rfl⟩
   refine z_ (n_ (q_ (g_ (s_ mv_ (s_ mv_ (s_ (x_sub_s (lo := l.length) (hi := l.length) rfl Tryd.underlying9 (.inl rfl) (.inr ⟨rfl, rfl⟩) lt_ c39c0_) (s_ av_ (z_ (n_ (q_ (q_ (g_ (s_ mv_ (js_ (vB (decide (sub l l.length l.length = ([] : Bytes)))) (x_eql_s rfl rfl) (z_ (xk_ [0, 1, 6, 28] ?_))))))))))))))))
   refine n_ ?_
   refine ifd (fun h8w h8 => ?_) (fun h8w h8 => ?_)
   ·refine J_exit (ne_ ?_)
    refine JX_block_miss rfl ?_
    refine re_ (kh_ (n_ (q_ (q_ (g_ ?_)))))
    refine JO_call (Lown [Ent.blk b1 54 [pB b1 0, vL yA6 ((xs ++ (sub l 0 l.length)).length) yC7], Ent.row (.slice yA6 ((xs ++ (sub l 0 l.length)).length) yC7) 5 1 ((xs ++ (sub l 0 l.length)).length) ((xs ++ (sub l 0 l.length)).map vU8)]) [Ent.blk b1 54 [pB b1 0, vL yA6 ((xs ++ (sub l 0 l.length)).length) yC7], Ent.row (.slice yA6 ((xs ++ (sub l 0 l.length)).length) yC7) 5 1 ((xs ++ (sub l 0 l.length)).length) ((xs ++ (sub l 0 l.length)).map vU8)] [] rfl trivial (fun _ => x_call Ty.ca31 rfl) (fun _ h => h) lown_mem (fun w hS => f31_ok b1 (pB b1 0) (xs ++ (sub l 0 l.length)) yA6 yC7 ((xs ++ (sub l 0 l.length)).length) w hy_ (hS.give lown_in)) ?_
    rintro _ _ ⟨rfl, rfl⟩
    refine s_ (x_gtr_i rfl rfl) (z_ (n_ ?_))
    refine ifd (fun h9w h9 => ?_) (fun h9w h9 => ?_)
    ·refine q_ (g_ (s_ av_ (s_ av_ (z_ (n_ (rt_ (nr_ ?_)))))))
     exact p2 Tryd.results12 rfl rfl ⟨t2 (eS c39c4_) (eI c39c5_), rfl⟩
    ·refine sk_ (n_ (q_ (g_ ?_)))
     refine JO_call (Lown [Ent.blk b1 54 [pB b1 0, vL yA6 ((xs ++ (sub l 0 l.length)).length) yC7], Ent.row (.slice yA6 (xs ++ (sub l 0 l.length)).length yC7) 5 1 (xs ++ (sub l 0 l.length)).length ((xs ++ (sub l 0 l.length)).map vU8)]) [Ent.blk b1 54 [pB b1 0, vL yA6 ((xs ++ (sub l 0 l.length)).length) yC7], Ent.row (.slice yA6 (xs ++ (sub l 0 l.length)).length yC7) 5 1 (xs ++ (sub l 0 l.length)).length ((xs ++ (sub l 0 l.length)).map vU8)] [] rfl trivial (fun _ => x_call Ty.ca32 rfl) (fun _ h => h) lown_mem (fun w hS => str_ok b1 (pB b1 0) (xs ++ (sub l 0 l.length)) yA6 yC7 w hy_ (hS.give lown_in)) ?_
     rintro _ _ ⟨rfl, rfl⟩
     refine s_ av_ (s_ av_ (z_ (n_ (rt_ ?_))))
     exact p2 Tryd.results12 rfl rfl ⟨t2 (eS c39c4_) (eI c39c5_), rfl⟩
   ·have h8l := List.length_pos_iff.2 h8
    exact absurd (R39.sub_none l) (by assumption)
  ·obtain ⟨k9, rfl⟩ : ∃ k9 : Nat, r3 = (k9 : Int) := ⟨r3.toNat, by omega⟩
   have hsk := i1_0.skip hf4
   have hl1 := R39.sub_len_end l k9
   have hl2 := R39.sub_len_head hsk.2.1
   have hl3 := R39.sub_len_end (sub l k9 l.length) 1
   have hl4 := R39.sub_len_end (sub l k9 l.length) 2
   refine sk_ (n_ (q_ (g_ (s_ mv_ (s_ mv_ (s_ (x_sub_s (lo := 0) (hi := k9) rfl Tryd.underlying9 (.inr ⟨rfl, rfl⟩) (.inl rfl) lt_ c39c0_) ?_))))))
   refine JO_call (Lown [Ent.blk b1 54 [pv, vL xsA xs.length xsC], Ent.row (.slice xsA xs.length xsC) 5 1 xs.length (xs.map vU8)]) [Ent.blk b1 54 [pv, vL xsA xs.length xsC], Ent.row (.slice xsA xs.length xsC) 5 1 xs.length (xs.map vU8)] [] rfl trivial (fun _ => x_call Ty.ca26 rfl) (fun _ h => h) lown_mem (fun w hS => f26_ok b1 pv xs xsA xsC xs.length (sub l 0 k9) w hy_ c39c1_ hy_ hy_ (hS.give lown_in)) ?_
   rintro _ _ ⟨yA10, yC11, rfl, rfl⟩
   refine z_ (n_ (q_ (g_ (s_ mv_ (s_ mv_ (s_ (x_sub_s (lo := k9) (hi := l.length) rfl Tryd.underlying9 (.inl rfl) (.inr ⟨rfl, rfl⟩) lt_ c39c0_) (s_ av_ (z_ (n_ (q_ (q_ (g_ (s_ mv_ (js_ (vB (decide (sub l k9 l.length = ([] : Bytes)))) (x_eql_s rfl rfl) (z_ (n_ ?_))))))))))))))))
   refine ifd (fun h12w h12 => ?_) (fun h12w h12 => ?_)
   ·exact absurd (by assumption) (R39.sub_some hsk.2.1)
   ·have h12l := List.length_pos_iff.2 h12
    refine sk_ (n_ (q_ (q_ (g_ (s_ mv_ (c0 (cl_ Ty.ca27) (fun w hS => hasp_ok _ w) (z_ (xk_ [0, 1, 6, 30] ?_))))))))
    refine n_ ?_
    refine ifd (fun h13w h13 => ?_) (fun h13w h13 => ?_)
    ·have hi14 := R39.take2_len h13
     refine q_ (g_ ?_)
     refine JO_call (Lown [Ent.blk b1 54 [pB b1 0, vL yA10 ((xs ++ (sub l 0 k9)).length) yC11], Ent.row (.slice yA10 ((xs ++ (sub l 0 k9)).length) yC11) 5 1 ((xs ++ (sub l 0 k9)).length) ((xs ++ (sub l 0 k9)).map vU8)]) [Ent.blk b1 54 [pB b1 0, vL yA10 ((xs ++ (sub l 0 k9)).length) yC11], Ent.row (.slice yA10 ((xs ++ (sub l 0 k9)).length) yC11) 5 1 ((xs ++ (sub l 0 k9)).length) ((xs ++ (sub l 0 k9)).map vU8)] [] rfl trivial (fun _ => x_call Ty.ca28 rfl) (fun _ h => h) lown_mem (fun w hS => f28_ok b1 (pB b1 0) (xs ++ (sub l 0 k9)) yA10 yC11 ((xs ++ (sub l 0 k9)).length) (38 : UInt8) w hy_ c39c1_ hy_ (hS.give lown_in)) ?_
     rintro _ _ ⟨yA15, yC16, rfl, rfl⟩
     refine z_ (n_ (q_ (g_ (s_ mv_ (s_ (x_sub_s (lo := 2) (hi := (sub l k9 l.length).length) rfl Tryd.underlying9 (.inl rfl) (.inr ⟨rfl, rfl⟩) lt_ c39c0_) (s_ av_ (z_ (n_ (J_exit (ne_ (kh_ ?_)))))))))))
     refine JX_round ((sub (sub l k9 l.length) 2 ((sub l k9 l.length).length), pB b1 0, (xs ++ (sub l 0 k9)) ++ [(38 : UInt8)], yA15, yC16) : Bytes × Value × (List UInt8) × (Option Addr) × Nat) ?_ ?_ ⟨rfl, rfl, rfl, trivial⟩ (fun _ h => h)
     ·try dsimp only
      refine ⟨?_, ?_, ?_, ?_⟩
      ·first | exact hsk.1.two (by assumption) | exact hsk.1.sym (by assumption) hsk.2.2 (by assumption) no_such_condition (by assumption) (by assumption)
      ·exact .inr rfl
      ·exact c39c2_
      ·exact c39c2_
     ·try dsimp only
      exact c39c2_
    ·refine sk_ (n_ (q_ (g_ (s_ mv_ (s_ (x_sub_s (lo := 1) (hi := (sub l k9 l.length).length) rfl Tryd.underlying9 (.inl rfl) (.inr ⟨rfl, rfl⟩) lt_ c39c0_) ?_)))))
     refine c1 (cl_ Ty.ca29) (fun w hS => cut_ok 59 _ w (hT.on hS (fun _ h => by cases h)) hy_) ?_
     rintro _ _ ⟨a17, r18, o19, rfl, rfl, hf20, hf21, hf22⟩
     have ha23 := q1 a17
     refine s_ mv_ (s_ (ex_ 0) (s_ (ex_ 1) (s_ (ex_ 2) (s_ av_ (s_ av_ (s_ av_ (z_ (n_ (q_ (q_ (g_ (s_ mv_ (s_ (x_not rfl) ?_)))))))))))))
     refine s_ mv_ ?_
     refine or_ 3 (!(R39.symV a17)) (fun g24 => ?_) ?_
     ·have g24r := g24
      have g24r : (o19) = true := bnot_false g24r
      refine sg_ g24 mv_ (c0g g24 (cl_ Ty.ca30) (fun w hS => f30_ok a17 w (hT.on hS (fun _ h => by cases h)) hy_) (sg_ g24 (x_not rfl) ?_))
      exact cr_
     refine z_ (n_ ?_)
     refine if_ (fun h25 => ?_) (fun h25 => ?_)
     ·have h25w := h25
      simp only [Bool.and_eq_true, Bool.or_eq_true, Bool.and_eq_false_iff, Bool.or_eq_false_iff, Bool.not_eq_true', Bool.not_eq_false', decide_eq_true_eq, decide_eq_false_iff_not] at h25
      refine q_ (g_ (s_ av_ (s_ av_ (z_ (n_ (rt_ (nr_ (kq_ (rr_ (kq_ (nr_ ?_)))))))))))
      exact p2 Tryd.results12 rfl rfl ⟨t2 (eS c39c6_) (eI c39c7_), rfl⟩
     ·have h25w := h25
      have ⟨h25, h26⟩ := bor_false h25
      have h25 : (o19) = true := bnot_false h25
      have h26 : (R39.symV a17) = true := bnot_false h26
      refine sk_ (n_ (q_ (g_ (s_ mv_ (s_ mv_ ?_)))))
      refine JO_read (Value.tuple #[vS ((lookK sy a17).getD []), vB ((lookK sy a17).isSome)]) rfl trivial (x_lookup_okR (f := vS) (k := a17) (kp_mp syR) rfl rfl Tryd.underlying22 (mapK_s Tryd.underlying9) Ty.ze9 (lk_kv sy a17) (getD_kv _) (isSome_mp _ _)) ?_
      refine s_ mv_ (s_ (ex_ 0) (s_ (ex_ 1) (s_ av_ (s_ av_ (z_ (xk_ [0, 1, 6, 9, 10, 11] ?_))))))
      refine n_ (q_ (q_ (g_ (s_ mv_ (s_ (x_not rfl) (z_ (n_ ?_)))))))
      refine if_ (fun h27 => ?_) (fun h27 => ?_)
      ·have h27w := h27
       have h27 : ((lookK sy a17).isSome) = false := bnot_true h27
       refine q_ (g_ (s_ av_ (s_ av_ (z_ (n_ (rt_ (nr_ (kq_ (rr_ (kq_ (nr_ ?_)))))))))))
       exact p2 Tryd.results12 rfl rfl ⟨t2 (eS c39c6_) (eI c39c7_), rfl⟩
      ·have h27w := h27
       have h27 : ((lookK sy a17).isSome) = true := bnot_false h27
       refine sk_ (n_ (q_ (g_ (s_ mv_ ?_))))
       refine JO_call (Lown [Ent.blk b1 54 [pB b1 0, vL yA10 ((xs ++ (sub l 0 k9)).length) yC11], Ent.row (.slice yA10 ((xs ++ (sub l 0 k9)).length) yC11) 5 1 ((xs ++ (sub l 0 k9)).length) ((xs ++ (sub l 0 k9)).map vU8)]) [Ent.blk b1 54 [pB b1 0, vL yA10 ((xs ++ (sub l 0 k9)).length) yC11], Ent.row (.slice yA10 ((xs ++ (sub l 0 k9)).length) yC11) 5 1 ((xs ++ (sub l 0 k9)).length) ((xs ++ (sub l 0 k9)).map vU8)] [] rfl trivial (fun _ => x_call Ty.ca26 rfl) (fun _ h => h) lown_mem (fun w hS => f26_ok b1 (pB b1 0) (xs ++ (sub l 0 k9)) yA10 yC11 ((xs ++ (sub l 0 k9)).length) ((lookK sy a17).getD []) w hy_ c39c1_ hy_ hy_ (hS.give lown_in)) ?_
       rintro _ _ ⟨yA28, yC29, rfl, rfl⟩
       refine z_ (n_ (g_ (s_ mv_ (s_ av_ (z_ (kx_ ?_))))))
       refine JX_round ((r18, pB b1 0, (xs ++ (sub l 0 k9)) ++ ((lookK sy a17).getD []), yA28, yC29) : Bytes × Value × (List UInt8) × (Option Addr) × Nat) ?_ ?_ ⟨rfl, rfl, rfl, trivial⟩ (fun _ h => h)
       ·try dsimp only
        refine ⟨?_, ?_, ?_, ?_⟩
        ·first | exact hsk.1.two (by assumption) | exact hsk.1.sym (by assumption) hsk.2.2 (by assumption) hf20 (by assumption) (by assumption)
        ·exact .inr rfl
        ·exact c39c3_
        ·exact c39c3_
       ·try dsimp only
        exact c39c3_
 ·refine J_exit (ne_ (re_ (kh_ (n_ (q_ ?_)))))
  refine q_ (g_ ?_)
  refine JO_call (Lown [Ent.blk b1 54 [pv, vL xsA xs.length xsC], Ent.row (.slice xsA xs.length xsC) 5 1 xs.length (xs.map vU8)]) [Ent.blk b1 54 [pv, vL xsA xs.length xsC], Ent.row (.slice xsA xs.length xsC) 5 1 xs.length (xs.map vU8)] [] rfl trivial (fun _ => x_call Ty.ca31 rfl) (fun _ h => h) lown_mem (fun w hS => f31_ok b1 pv xs xsA xsC xs.length w hy_ (hS.give lown_in)) ?_
  rintro _ _ ⟨rfl, rfl⟩
  refine s_ (x_gtr_i rfl rfl) (z_ (n_ ?_))
  refine ifd (fun h30w h30 => ?_) (fun h30w h30 => ?_)
  ·refine q_ (g_ (s_ av_ (s_ av_ (z_ (n_ (rt_ (nr_ ?_)))))))
   exact p2 Tryd.results12 rfl rfl ⟨t2 (eS c39c8_) (eI c39c9_), rfl⟩
  ·refine sk_ (n_ (q_ (g_ ?_)))
   refine JO_call (Lown [Ent.blk b1 54 [pv, vL xsA xs.length xsC], Ent.row (.slice xsA xs.length xsC) 5 1 xs.length (xs.map vU8)]) [Ent.blk b1 54 [pv, vL xsA xs.length xsC], Ent.row (.slice xsA xs.length xsC) 5 1 xs.length (xs.map vU8)] [] rfl trivial (fun _ => x_call Ty.ca32 rfl) (fun _ h => h) lown_mem (fun w hS => str_ok b1 pv xs xsA xsC w hy_ (hS.give lown_in)) ?_
   rintro _ _ ⟨rfl, rfl⟩
   refine s_ av_ (s_ av_ (z_ (n_ (rt_ ?_))))
   exact p2 Tryd.results12 rfl rfl ⟨t2 (eS c39c8_) (eI c39c9_), rfl⟩
end Go.Proofs.YtbfiibgmgopnaaaDoor

namespace Go.Proofs.YtbfiibgmgopnaaaDoor
open Go.GV
namespace R39
theorem look_eq (m : List KV) (k : Bytes) : look m k = lookK m k := rfl
theorem valsG_cons (M : List KV) (x : Bytes) (r : List Bytes) : valsG M (x :: r) = match cutB 61 x with
    | none => none
    | some (a, v) => if (look M a).isSome = true ∨ symV a = false then none else valsG (M ++ [(a, v)]) r := by
  rw [valsG]
  cases cutB 61 x with
  | none => rfl
  | some p => rfl
theorem dropL {α : Type} [Inhabited α] {l : List α} {k : Nat} (h : k < l.length) (d : α) : l.drop k = l.getD k d :: l.drop (k + 1) := by
  rw [List.drop_eq_getElem_cons h, List.getD_eq_getElem?_getD, List.getElem?_eq_getElem h]; rfl
section
variable {M : List KV} {ws : List Bytes} {k : Nat} {V : Option (List KV)} {o : Bool} {a r : Bytes}
theorem vals_step (h : valsG M (ws.drop k) = V) (hk : k < ws.length) (ho : o = true → cutB 61 (ws.getD k []) = some (a, r)) (hb : ((!o || (lookK M a).isSome) || !symV a) = false) : valsG (putK M a r) (ws.drop (k + 1)) = V := by
  rw [dropL hk [], valsG_cons] at h
  cases o with
  | false => cases hb
  | true =>
    rw [ho rfl] at h
    have h : (if (look M a).isSome = true ∨ symV a = false then none else valsG (M ++ [(a, r)]) (ws.drop (k + 1))) = V := h
    simp only [Bool.not_true, Bool.false_or, Bool.or_eq_false_iff, Bool.not_eq_false'] at hb
    have hn : lookK M a = none := by cases e : lookK M a with | none => rfl | some x => rw [e] at hb; cases hb.1
    rw [if_neg (by rw [look_eq, hn, hb.2]; decide)] at h
    rw [put_new a r M hn]; exact h
theorem vals_bad (h : valsG M (ws.drop k) = V) (hk : k < ws.length) (ho : o = true → cutB 61 (ws.getD k []) = some (a, r)) (hn : o = false → cutB 61 (ws.getD k []) = none) (hb : ((!o || (lookK M a).isSome) || !symV a) = true) : V = none := by
  rw [dropL hk [], valsG_cons] at h
  cases o with
  | false => rw [hn rfl] at h; exact h.symm
  | true =>
    rw [ho rfl] at h
    have h : (if (look M a).isSome = true ∨ symV a = false then none else valsG (M ++ [(a, r)]) (ws.drop (k + 1))) = V := h
    rw [if_pos (by
      simp only [Bool.not_true, Bool.false_or, Bool.or_eq_true, Bool.not_eq_true'] at hb
      exact hb)] at h
    exact h.symm
theorem vals_done (h : valsG M (ws.drop k) = V) (hk : ¬ k < ws.length) : V = some M := by
  rw [List.drop_eq_nil_of_le (by omega), valsG] at h; exact h.symm
theorem vals_yes (h : V = none) (hs : V.isSome = true) : False := by rw [h] at hs; cases hs
theorem vals_no (h : V = some M) (hs : V.isSome = false) : False := by rw [h] at hs; cases hs
theorem valsG_short : ∀ (ws : List Bytes) (M V : List KV), valsG M ws = some V → ShortV M → (∀ w ∈ ws, w.length ≤ 20000) → ShortV V
  | [], M, V, h, hM, _ => by rw [valsG] at h; cases h; exact hM
  | x :: r, M, V, h, hM, hw => by
    rw [valsG_cons] at h
    cases hc : cutB 61 x with
    | none => rw [hc] at h; cases h
    | some p =>
      rw [hc] at h
      have h : (if (look M p.1).isSome = true ∨ symV p.1 = false then none else valsG (M ++ [(p.1, p.2)]) r) = some V := h
      split at h
      · cases h
      · rename_i hn
        rw [not_or] at hn
        have hn1 : lookK M p.1 = none := by
          cases e : lookK M p.1 with
          | none => rfl
          | some y => exact absurd (by rw [look_eq, e]; rfl) hn.1
        rw [← put_new p.1 p.2 M hn1] at h
        refine valsG_short r _ V h (fun q => ?_) fun w hm => hw w (List.mem_cons_of_mem _ hm)
        rw [look_put]
        split
        · show p.2.length ≤ _
          have h1 := congrArg List.length (cutB_le (a := p.1) (r := p.2) hc)
          rw [List.length_append, List.length_cons] at h1
          have h2 := hw x List.mem_cons_self
          omega
        · exact hM q
end
theorem shortV_nil : ShortV [] := fun _ => Nat.zero_le _
theorem shortV_put {M : List KV} (h : ShortV M) {k v : Bytes} (hv : v.length ≤ 20000) : ShortV (putK M k v) := fun q => by
  rw [look_put]; split
  · exact hv
  · exact h q
def resL (r : Res (List Bytes)) : List Bytes := match r with
  | .ok l => l
  | .error _ => []
def resN {α : Type} (r : Res α) : Int := match r with
  | .ok _ => 0
  | .error e => e.1
def resC {α : Type} (r : Res α) : Int := match r with
  | .ok _ => 0
  | .error e => e.2
def InlJ (n : Int) (rest : List Row) (out : List Bytes) (k : Nat) : Prop := inl n 0 rest = (inl n k (rest.drop k)).map (out ++ ·)
section
variable {n : Int} {rest : List Row} {out : List Bytes} {k : Nat}
theorem InlJ.start : InlJ n rest [] 0 := by
  unfold InlJ
  rw [List.drop_zero]
  cases inl n 0 rest <;> rfl
theorem InlJ.step (h : InlJ n rest out k) (hk : k < rest.length) (ho : out.length = k) (h1 : ¬ (rest.getD k default).text = wSTOP) (h2 : (decide ((64 : Int) ≤ ((out.length : Nat) : Int)) || decide ((200 : Int) < (((rest.getD k default).text.length : Nat) : Int))) = false) : InlJ n rest (out ++ [(rest.getD k default).text]) (k + 1) := by
  unfold InlJ at *
  simp only [Bool.or_eq_false_iff, decide_eq_false_iff_not] at h2
  rw [h, dropL hk default, inl, if_neg h1, if_neg (by show ¬ (64 ≤ k ∨ 200 < List.length _); omega)]
  cases inl n (k + 1) (rest.drop (k + 1)) with
  | error e => rfl
  | ok l => exact congrArg Except.ok (by simp)
theorem InlJ.stop (h : InlJ n rest out k) (hk : k < rest.length) (h1 : (rest.getD k default).text = wSTOP) : inl n 0 rest = .ok out := by
  unfold InlJ at h
  rw [h, dropL hk default, inl, if_pos h1]; show Except.ok (out ++ []) = _; rw [List.append_nil]
theorem InlJ.big (h : InlJ n rest out k) (hk : k < rest.length) (ho : out.length = k) (h1 : ¬ (rest.getD k default).text = wSTOP) (h2 : (decide ((64 : Int) ≤ ((out.length : Nat) : Int)) || decide ((200 : Int) < (((rest.getD k default).text.length : Nat) : Int))) = true) : inl n 0 rest = .error ((rest.getD k default).number, 8) := by
  unfold InlJ at h
  simp only [Bool.or_eq_true, decide_eq_true_eq] at h2
  rw [h, dropL hk default, inl, if_neg h1, if_pos (by show 64 ≤ k ∨ 200 < List.length _; omega)]; rfl
theorem InlJ.out_ (h : InlJ n rest out k) (hk : ¬ k < rest.length) : inl n 0 rest = .error (n, 3) := by
  unfold InlJ at h
  rw [h, List.drop_eq_nil_of_le (by omega)]; rfl
theorem resL_ok {l : List Bytes} {r : Res (List Bytes)} (h : r = .ok l) : l = resL r := by rw [h]; rfl
theorem resL_er {r : Res (List Bytes)} {x : Int × Int} (h : r = .error x) : [] = resL r := by rw [h]; rfl
theorem resN_ok {α : Type} {r : Res α} {l : α} (h : r = .ok l) : 0 = resN r := by rw [h]; rfl
theorem resC_ok {α : Type} {r : Res α} {l : α} (h : r = .ok l) : 0 = resC r := by rw [h]; rfl
theorem resN_er {α : Type} {r : Res α} {a b : Int} (h : r = .error (a, b)) : a = resN r := by rw [h]; rfl
theorem resC_er {α : Type} {r : Res α} {a b : Int} (h : r = .error (a, b)) : b = resC r := by rw [h]; rfl
theorem inl_code : ∀ (k : Nat) (l : List Row) (e : Int × Int), inl n k l = .error e → e.2 ≠ 0
  | k, [], e, h => by cases h; show (3 : Int) ≠ 0; decide
  | k, x :: r, e, h => by
    rw [inl] at h
    split at h
    · cases h
    · split at h
      · cases h; show (8 : Int) ≠ 0; decide
      · cases hr : inl n (k + 1) r with
        | error y => rw [hr] at h; cases h; exact inl_code (k + 1) r _ hr
        | ok l => rw [hr] at h; cases h
theorem inl_max : ∀ (k : Nat) (r : List Row) (l : List Bytes), k ≤ 64 → inl n k r = .ok l → l.length + k ≤ 64
  | k, [], l, _, h => by cases h
  | k, x :: r, l, hk, h => by
    rw [inl] at h
    split at h
    · cases h; simpa using hk
    · split at h
      · cases h
      · rename_i h2
        cases hr : inl n (k + 1) r with
        | error y => rw [hr] at h; cases h
        | ok l2 =>
          rw [hr] at h; cases h
          have := inl_max (k + 1) r l2 (by rw [not_or] at h2; omega) hr
          rw [List.length_cons]; omega
end
theorem resL_64 {n : Int} {r : List Row} {l : List Bytes} (h : inl n 0 r = .ok l) : l.length ≤ 64 := by have := inl_max 0 r l (by omega) h; omega
def pur (e : Statement) : Stm := ⟨e.Line, e.Call, e.Words, e.Data⟩
def stmN (len : Nat) (n : Int) (ws : List Bytes) (rest : List Row) : Res (Nat × List Bytes) :=
  if 400 ≤ len then .error (n, 8)
  else if ws.getD 0 [] = wDD ∧ ws.length = 3 ∧ ws.getD 2 [] = wINL then
    match inl n 0 rest with
    | .error e => .error e
    | .ok l => .ok (l.length + 1, l)
  else .ok (0, [])
theorem stmV_eq (n : Int) (call : Bytes) (ws : List Bytes) (rest : List Row) (s : RS) : stmV n call ws rest s = match stmN s.out.length n ws rest with
    | .error e => .error e
    | .ok (k, l) => .ok (k, { s with out := s.out ++ [⟨n, call, ws, l⟩] }) := by
  unfold stmV stmN
  split
  · rfl
  · split
    · cases inl n 0 rest <;> rfl
    · rfl
def StmJ (R : Res (Nat × List Bytes)) (o y : List Statement) (e : Statement) (l : List Bytes) (n fl fc : Int) : Prop :=
  (∃ k : Nat, R = .ok (k, l) ∧ y = o ++ [e] ∧ n = k ∧ fl = 0 ∧ fc = 0) ∨ (R = .error (fl, fc) ∧ fc ≠ 0 ∧ y = o)
section
variable {len : Nat} {n m : Int} {ws : List Bytes} {rest : List Row} {o : List Statement} {e : Statement}
theorem stm_big (h : (400 : Int) ≤ ((len : Nat) : Int)) {l : List Bytes} : StmJ (stmN len n ws rest) o o e l m n 8 := .inr ⟨by unfold stmN; rw [if_pos (by omega)], by decide, rfl⟩
theorem stm_dd {b : Bool} (h : ((decide (ws.getD 0 [] = wDD) && b) && decide (ws.getD 2 [] = wINL)) = true) (hb : b = decide (((ws.length : Nat) : Int) = 3)) : ws.getD 0 [] = wDD ∧ ws.length = 3 ∧ ws.getD 2 [] = wINL := by
  subst hb
  simp only [Bool.and_eq_true, decide_eq_true_eq] at h
  exact ⟨h.1.1, by omega, h.2⟩
theorem stm_nd {b : Bool} (h : ((decide (ws.getD 0 [] = wDD) && b) && decide (ws.getD 2 [] = wINL)) = false) (hb : b = decide (((ws.length : Nat) : Int) = 3)) : ¬ (ws.getD 0 [] = wDD ∧ ws.length = 3 ∧ ws.getD 2 [] = wINL) := by
  rintro ⟨h1, h2, h3⟩
  subst hb
  rw [decide_eq_true h1, decide_eq_true h3, decide_eq_true (show ((ws.length : Nat) : Int) = 3 by omega)] at h
  cases h
theorem stm_err (h0 : ¬ (400 : Int) ≤ ((len : Nat) : Int)) (h : ws.getD 0 [] = wDD ∧ ws.length = 3 ∧ ws.getD 2 [] = wINL) (hc : resC (inl n 0 rest) ≠ 0) {l : List Bytes} : StmJ (stmN len n ws rest) o o e l m (resN (inl n 0 rest)) (resC (inl n 0 rest)) := by
  refine .inr ⟨?_, hc, rfl⟩
  unfold stmN
  rw [if_neg (by omega), if_pos h]
  cases hi : inl n 0 rest with
  | error x => rfl
  | ok l => rw [hi] at hc; exact absurd rfl hc
theorem stm_data (h0 : ¬ (400 : Int) ≤ ((len : Nat) : Int)) (h : ws.getD 0 [] = wDD ∧ ws.length = 3 ∧ ws.getD 2 [] = wINL) (hc : ¬ resC (inl n 0 rest) ≠ 0) {l : List Bytes} (hl : l = resL (inl n 0 rest)) : StmJ (stmN len n ws rest) o (o ++ [e]) e l ((l.length + 1 : Nat) : Int) 0 0 := by
  refine .inl ⟨l.length + 1, ?_, rfl, rfl, rfl, rfl⟩
  unfold stmN
  rw [if_neg (by omega), if_pos h]
  cases hi : inl n 0 rest with
  | error x => exact absurd (inl_code 0 rest x hi) (by rw [hi] at hc; exact hc)
  | ok q => rw [hi] at hl; rw [show l = q from hl]
theorem stm_none (h0 : ¬ (400 : Int) ≤ ((len : Nat) : Int)) (h : ¬ (ws.getD 0 [] = wDD ∧ ws.length = 3 ∧ ws.getD 2 [] = wINL)) : StmJ (stmN len n ws rest) o (o ++ [e]) e [] 0 0 0 := by
  refine .inl ⟨0, ?_, rfl, rfl, rfl, rfl⟩
  unfold stmN
  rw [if_neg (by omega), if_neg h]
end
def KeysNd (m : List KV) : Prop := (m.map (·.1)).Nodup
theorem look_mem : ∀ {m : List KV} {q v : Bytes}, KeysNd m → (q, v) ∈ m → lookK m q = some v
  | [], _, _, _, h => by cases h
  | (a, u) :: m, q, v, hn, h => by
    unfold KeysNd at hn
    rw [List.map_cons, List.nodup_cons] at hn
    unfold lookK
    rw [List.find?_cons]
    rcases List.mem_cons.1 h with e | h
    · cases e; simp
    · have hne : a ≠ q := fun e => hn.1 (List.mem_map.2 ⟨(q, v), h, e.symm⟩)
      rw [show decide ((a, u).1 = q) = false from decide_eq_false hne]
      exact look_mem (m := m) hn.2 h
theorem look_none {m : List KV} {q : Bytes} (h : ∀ v, (q, v) ∉ m) : lookK m q = none := by
  unfold lookK
  cases e : m.find? (fun p => p.1 = q) with
  | none => rfl
  | some p =>
    have h1 := List.mem_of_find?_eq_some e
    have h2 := List.find?_some e
    simp only [decide_eq_true_eq] at h2
    subst h2
    exact absurd h1 (h p.2)
def CopyJ (D m left X : List KV) : Prop := (∀ p ∈ left, p ∈ m) ∧ ∀ q, (∀ v, (q, v) ∉ left) → lookK X q = over (lookK D) m q
section
variable {D m left X : List KV} {p : KV} {n : Nat}
theorem CopyJ.start : CopyJ D m m D := ⟨fun _ h => h, fun q h => by
  unfold over; rw [look_eq, look_none h]⟩
theorem CopyJ.step (h : CopyJ D m left X) (hn : KeysNd m) (hp : left[n]? = some p) : CopyJ D m (left.eraseIdx n) (putK X p.1 p.2) := by
  have hl := (List.getElem?_eq_some_iff.1 hp).1
  have hm := List.mem_of_getElem? hp
  refine ⟨fun x hx => h.1 x (List.mem_of_mem_eraseIdx hx), fun q hq => ?_⟩
  rw [look_put]
  by_cases e : q = p.1
  · subst e
    rw [if_pos rfl]
    unfold over
    rw [look_eq, look_mem hn (h.1 p hm)]
  · rw [if_neg e]
    refine h.2 q fun v hv => hq v ?_
    obtain ⟨i, hi, hie⟩ := List.getElem_of_mem hv
    have hne : i ≠ n := fun e2 => by
      subst e2
      rw [List.getElem?_eq_getElem hi, hie] at hp
      injection hp with hp
      exact e (by rw [← hp])
    exact List.mem_eraseIdx_iff_getElem?.2 ⟨i, hne, by rw [List.getElem?_eq_getElem hi, hie]⟩
theorem CopyJ.done (h : CopyJ D m left X) (h0 : left = []) : lookK X = over (lookK D) m := by
  funext q; exact h.2 q fun v hv => by rw [h0] at hv; cases hv
end
theorem shortV_over {D X m : List KV} (h : lookK X = over (lookK D) m) (h1 : ShortV D) (h2 : ShortV m) : ShortV X := fun q => by
  rw [h]; unfold over
  have := h2 q
  rw [look_eq]
  cases e : lookK m q with
  | none => exact h1 q
  | some v => rw [e] at this; exact this
theorem keys_nil : KeysNd [] := List.nodup_nil
theorem valsG_nd : ∀ (ws : List Bytes) (M V : List KV), valsG M ws = some V → KeysNd M → KeysNd V
  | [], M, V, h, hM => by rw [valsG] at h; cases h; exact hM
  | x :: r, M, V, h, hM => by
    rw [valsG_cons] at h
    cases hc : cutB 61 x with
    | none => rw [hc] at h; cases h
    | some p =>
      rw [hc] at h
      have h : (if (look M p.1).isSome = true ∨ symV p.1 = false then none else valsG (M ++ [(p.1, p.2)]) r) = some V := h
      split at h
      · cases h
      · rename_i hn
        rw [not_or] at hn
        refine valsG_nd r _ V h ?_
        unfold KeysNd at *
        rw [List.map_append, List.nodup_append]
        refine ⟨hM, by simp, fun a ha b hb => ?_⟩
        simp only [List.map_cons, List.map_nil, List.mem_singleton] at hb
        subst hb
        intro e
        obtain ⟨y, hy, rfl⟩ := List.mem_map.1 ha
        refine hn.1 ?_
        rw [look_eq, ← e, look_mem (q := y.1) (v := y.2) hM hy]; rfl
end R39
end Go.Proofs.YtbfiibgmgopnaaaDoor

namespace Go.GV
open Go.RowKit
section
variable {P : Program} {n : Dim} {S : List Nat} {w0 : World} {Q : Post} {E : Env} {L : List Ent} {ops : Array Oper} {o : Oper} {Lg Lu : List Ent} {us : List Nat} {fuel : Nat} {listed : Array Bool}
theorem wpAnyG_monoG {ro : Option Nat} {G1 G2 : Array Bool → World → Prop} (hG : ∀ l w, G1 l w → G2 l w) : ∀ (fuel : Nat) (listed : Array Bool) (a : Act) (w : World), wpAnyG ro P ops Q G1 fuel listed a w → wpAnyG ro P ops Q G2 fuel listed a w
  | 0, _, _, _, h => ⟨hG _ _ h.1, h.2.1, h.2.2⟩
  | fuel + 1, listed, a, w, h => ⟨hG _ _ h.1, h.2.1, fun i hi => wpOpIn_mono (fun a w h => wpAnyG_monoG hG fuel _ a w h) (h.2.2 i hi)⟩
theorem JI_callB {i : Nat} (Sc : List Nat) (Lc Lr : List Ent) {f : FuncId} {args : Array Value} {φ : World → Value → List Ent → World → Prop} (hi : ops[i]? = some o) (hfit : fit n E o = true) (hw : wants ops E o)
    (hr : ∀ w, (execOp (ev E) o).run P w = .ok (.enter f args) w) (hL : ∀ w, St S w0 w L → St S w0 w (Lc ++ Lr)) (hS : ∀ b ∈ Sc, ∃ e ∈ Lc, e.own = some b)
    (hc : ∀ w, St S w0 w (Lc ++ Lr) → Calls P f args w (GivesW Sc w (φ w)))
    (h : ∀ w v L' w', φ w v L' w' → St S w0 w (Lc ++ Lr) → St S w0 w' (L' ++ Lr) → JA P n (Lown (L' ++ Lr)) w' ops Q Lg us Lu fuel (listed.setIfInBounds i true) (put E o.dst v) (L' ++ Lr)) : JI P n S w0 ops Q Lg us Lu fuel listed E L i := by
  intro a w hR hSt hcl
  unfold wpOpIn
  rw [hi]
  simp only [wants_wanted hR hw, if_true]
  refine ⟨fun _ _ => trivial, ?_⟩
  rw [fit_sem hfit hR, hr w]
  refine ⟨fun h => (by cases h), (callsIn_wd (m := 0 - 1)).2 ((hc w (hL w hSt)).mono ?_)⟩
  rintro e w' ⟨v, L', rfl, hφ, hS'⟩
  have hs := (hL w hSt).after hS hS'
  exact wpAnyG_monoG (fun l w2 hG => ⟨hs.back _ _ hG.1, fun hu => hs.back _ _ (hG.2 hu)⟩) _ _ _ _ (h w v L' w' hφ (hL w hSt) hs _ _ (hR.put (fit_dst hfit) v) hs.base hcl)
end
end Go.GV
