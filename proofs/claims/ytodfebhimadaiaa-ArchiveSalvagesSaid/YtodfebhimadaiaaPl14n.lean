/- Pl14n: frames that are damaged, lost or put behind the others. -/
import Derived.Test.YtodfebhimadaiaaPl14m
import Derived.Test.YtodfebhimadaiaaDa14c
import Derived.Test.YtodfebhimadaiaaGvR
namespace Go.Proofs.Ytodfebhimadaiaa
open Go.GV
namespace R14
open Rd
def lkB : List (Int × Bytes) → Int → Option Bytes
  | [], _ => none
  | (a, v) :: l, k => if k = a then some v else lkB l k
def updB (m : List (Int × Bytes)) (k : Int) (v : Bytes) : List (Int × Bytes) := match m with
  | [] => [(k, v)]
  | (a, u) :: l => if k = a then (k, v) :: l else (a, u) :: updB l k v
def mB (p : Int × Bytes) : Int × Value := (p.1, vS p.2)
theorem lk_mB : ∀ (m : List (Int × Bytes)) (k : Int), lk (m.map mB) k = (lkB m k).map vS
  | [], _ => rfl
  | (a, v) :: l, k => by
    show lk ((a, vS v) :: l.map mB) k = _
    unfold lk lkB
    by_cases h : k = a
    · rw [if_pos h, if_pos h]; rfl
    · rw [if_neg h, if_neg h, lk_mB l k]
theorem upd_mB : ∀ (m : List (Int × Bytes)) (k : Int) (v : Bytes), upd (m.map mB) k (vS v) = (updB m k v).map mB
  | [], _, _ => rfl
  | (a, u) :: l, k, v => by
    show upd ((a, vS u) :: l.map mB) k _ = _
    unfold upd updB
    by_cases h : k = a
    · rw [if_pos h, if_pos h]; rfl
    · rw [if_neg h, if_neg h, upd_mB l k v]; rfl
theorem lkB_v (m : List (Int × Bytes)) (k : Int) : ((lkB m k).map vS).getD (vS []) = vS ((lkB m k).getD []) := by
  cases lkB m k <;> rfl
theorem lkB_updB : ∀ (m : List (Int × Bytes)) (k x : Int) (v : Bytes), lkB (updB m k v) x = if x = k then some v else lkB m x
  | [], k, x, v => rfl
  | (a, u) :: l, k, x, v => by
    unfold updB
    by_cases h : k = a
    · rw [if_pos h]
      unfold lkB
      by_cases h2 : x = k
      · rw [if_pos h2, if_pos h2]
      · rw [if_neg h2, if_neg h2, if_neg (by omega)]
    · rw [if_neg h]
      unfold lkB
      rw [lkB_updB l k x v]
      by_cases h2 : x = a
      · rw [if_pos h2, if_pos h2, if_neg (by omega)]
      · rw [if_neg h2, if_neg h2]
structure HS where
  done : List Int
  gone : List Int
  dam : List (Int × Bytes)
  back : List Int
def hIx (N : Nat) (h : Harm) : Nat := h.Frame.toNat % N
def harmed (s : Bytes) (h : Harm) (i : Nat) : Bytes := R02.xorAt (sub s (i * 64) (i * 64 + 64)) (h.At.toNat % 61) (R02.le (h.Mask ||| 1))
def hstep (s : Bytes) (N : Nat) (st : HS) (h : Harm) : HS :=
  if hasK st.done ((hIx N h : Nat) : Int) = true then st else
    if h.Kind % 3 = 0 then ⟨addK st.done ((hIx N h : Nat) : Int), addK st.gone ((hIx N h : Nat) : Int), updB st.dam ((hIx N h : Nat) : Int) (harmed s h (hIx N h)), st.back⟩
    else if h.Kind % 3 = 1 then ⟨addK st.done ((hIx N h : Nat) : Int), addK st.gone ((hIx N h : Nat) : Int), st.dam, st.back⟩
    else if h.Kind % 3 = 2 then ⟨addK st.done ((hIx N h : Nat) : Int), st.gone, st.dam, st.back ++ [((hIx N h : Nat) : Int)]⟩
    else ⟨addK st.done ((hIx N h : Nat) : Int), st.gone, st.dam, st.back⟩
def h0 : HS := ⟨[], [], [], []⟩
def hrun (s : Bytes) (N : Nat) (l : List Harm) : HS := l.foldl (hstep s N) h0
def hpart (s : Bytes) (st : HS) (j : Nat) : Bytes := if hasK st.done (j : Int) = false then sub s (j * 64) (j * 64 + 64) else (lkB st.dam (j : Int)).getD []
def hback (s : Bytes) (x : Int) : Bytes := sub s ((x * 64).toNat) ((x * 64 + 64).toNat)
theorem hback_nat (s : Bytes) {x : Int} (h : 0 ≤ x) : hback s x = sub s (x.toNat * 64) (x.toNat * 64 + 64) := by
  unfold hback
  rw [show (x * 64).toNat = x.toNat * 64 by omega, show (x * 64 + 64).toNat = x.toNat * 64 + 64 by omega]
def harmT (s : Bytes) (l : List Harm) : Bytes := (List.range (s.length / 64)).flatMap (hpart s (hrun s (s.length / 64) l)) ++ (hrun s (s.length / 64) l).back.flatMap (hback s)
def harmG (s : Bytes) (l : List Harm) : List Int := (hrun s (s.length / 64) l).gone
theorem hrun_succ (s : Bytes) (N : Nat) (l : List Harm) (k : Nat) (hk : k < l.length) : hrun s N (l.take (k + 1)) = hstep s N (hrun s N (l.take k)) (l.getD k default) := R02.fold_take_succ _ _ _ _ _ hk
structure HInv (s : Bytes) (N : Nat) (st : HS) : Prop where
  parts : ∀ x, x ∈ st.done ↔ x ∈ st.gone ∨ x ∈ st.back
  apart : ∀ x, x ∈ st.gone → x ∉ st.back
  range : ∀ x, x ∈ st.done → 0 ≤ x ∧ x < N
  dam : ∀ k b, lkB st.dam k = some b → k ∈ st.gone ∧ ∃ h, b = harmed s h k.toNat
theorem h0_inv (s : Bytes) (N : Nat) : HInv s N h0 := ⟨fun x => by simp [h0], fun x h => (by cases h), fun x h => (by cases h), fun k b h => (by cases h)⟩
theorem addK_iff {l : List Int} {s x : Int} : x ∈ addK l s ↔ x ∈ l ∨ x = s := addK_mem
theorem hstep_inv {s : Bytes} {N : Nat} (hN : 1 ≤ N) {st : HS} (h : HInv s N st) (q : Harm) : HInv s N (hstep s N st q) := by
  have hi : hIx N q < N := Nat.mod_lt _ (by omega)
  unfold hstep
  generalize hIx N q = i at hi ⊢
  by_cases hk : hasK st.done ((i : Nat) : Int) = true
  · rw [if_pos hk]; exact h
  · rw [if_neg hk]
    have hnot : ((i : Nat) : Int) ∉ st.done := hasK_not (by simpa using hk)
    have hng : ((i : Nat) : Int) ∉ st.gone := fun h2 => hnot ((h.parts _).2 (.inl h2))
    have hnb : ((i : Nat) : Int) ∉ st.back := fun h2 => hnot ((h.parts _).2 (.inr h2))
    have hr : ∀ x, x ∈ addK st.done ((i : Nat) : Int) → 0 ≤ x ∧ x < N := fun x hx => by
      rcases addK_iff.1 hx with hx | hx
      · exact h.range x hx
      · omega
    have hg : ∀ x, x ∈ addK st.done ((i : Nat) : Int) ↔ x ∈ addK st.gone ((i : Nat) : Int) ∨ x ∈ st.back := fun x => by
      rw [addK_iff, addK_iff, h.parts x]
      exact ⟨fun hx => by rcases hx with (hx | hx) | hx <;> simp [hx], fun hx => by rcases hx with (hx | hx) | hx <;> simp [hx]⟩
    have ha : ∀ x, x ∈ addK st.gone ((i : Nat) : Int) → x ∉ st.back := fun x hx => by
      rcases addK_iff.1 hx with hx | hx
      · exact h.apart x hx
      · rw [hx]; exact hnb
    by_cases c0 : q.Kind % 3 = 0
    · rw [if_pos c0]
      refine ⟨hg, ha, hr, fun k b hb => ?_⟩
      rw [lkB_updB] at hb
      by_cases hki : k = ((i : Nat) : Int)
      · rw [if_pos hki] at hb
        cases hb
        exact ⟨addK_iff.2 (.inr hki), q, by rw [hki]; rfl⟩
      · rw [if_neg hki] at hb
        obtain ⟨g1, g2⟩ := h.dam k b hb
        exact ⟨addK_iff.2 (.inl g1), g2⟩
    · rw [if_neg c0]
      by_cases c1 : q.Kind % 3 = 1
      · rw [if_pos c1]
        refine ⟨hg, ha, hr, fun k b hb => ?_⟩
        obtain ⟨g1, g2⟩ := h.dam k b hb
        exact ⟨addK_iff.2 (.inl g1), g2⟩
      · have c2 : q.Kind % 3 = 2 := by
          have a0 : q.Kind.toNat % 3 ≠ 0 := fun e => c0 (UInt8.toNat_inj.1 (by rw [UInt8.toNat_mod]; exact e))
          have a1 : q.Kind.toNat % 3 ≠ 1 := fun e => c1 (UInt8.toNat_inj.1 (by rw [UInt8.toNat_mod]; exact e))
          apply UInt8.toNat_inj.1
          rw [UInt8.toNat_mod]
          show q.Kind.toNat % 3 = 2
          omega
        rw [if_neg c1, if_pos c2]
        have hb2 : ∀ x, x ∈ st.back ++ [((i : Nat) : Int)] ↔ x ∈ st.back ∨ x = ((i : Nat) : Int) := fun x => by rw [List.mem_append, List.mem_singleton]
        refine ⟨fun x => ?_, fun x hx hx2 => ?_, hr, h.dam⟩
        · show x ∈ addK st.done ((i : Nat) : Int) ↔ x ∈ st.gone ∨ x ∈ st.back ++ [((i : Nat) : Int)]
          rw [addK_iff, h.parts x, hb2]
          exact ⟨fun hx => by rcases hx with (hx | hx) | hx <;> simp [hx], fun hx => by rcases hx with hx | hx | hx <;> simp [hx]⟩
        · rcases (hb2 x).1 hx2 with hx2 | hx2
          · exact h.apart x hx hx2
          · exact hng (by rw [← hx2]; exact hx)
theorem hrun_inv {s : Bytes} {N : Nat} (hN : 1 ≤ N) (l : List Harm) : HInv s N (hrun s N l) := by
  have key : ∀ (l : List Harm) (st : HS), HInv s N st → HInv s N (l.foldl (hstep s N) st) := by
    intro l
    induction l with
    | nil => exact fun st h => h
    | cons q l ih => exact fun st h => ih _ (hstep_inv hN h q)
  exact key l h0 (h0_inv s N)
theorem hrun_back (s : Bytes) (N : Nat) (l : List Harm) : (hrun s N l).back.length ≤ l.length := by
  have key : ∀ (l : List Harm) (st : HS), (l.foldl (hstep s N) st).back.length ≤ st.back.length + l.length := by
    intro l
    induction l with
    | nil => exact fun st => Nat.le_refl _
    | cons q l ih =>
      intro st
      have h1 := ih (hstep s N st q)
      have h2 : (hstep s N st q).back.length ≤ st.back.length + 1 := by
        unfold hstep
        split
        · omega
        · split
          · exact Nat.le_succ _
          · split
            · exact Nat.le_succ _
            · split
              · show (st.back ++ [_]).length ≤ _
                rw [List.length_append]; exact Nat.le_refl _
              · exact Nat.le_succ _
      rw [List.foldl_cons, List.length_cons]; omega
  have := key l h0
  rwa [show h0.back.length = 0 from rfl, Nat.zero_add] at this
section
variable {up : UInt32 → Bytes → UInt32} {F : List Frame}
theorem coll_fold (l : List Bytes) (h : ∀ x ∈ l, x.length = 64) : ∀ k, k ≤ l.length → coll up l.flatten k = (l.take k).foldl (stepF up) []
  | 0, _ => rfl
  | k + 1, hk => by
    have ih := coll_fold l h k (by omega)
    show stepF up (coll up l.flatten k) (blk l.flatten k) = _
    rw [ih, (flat64 l h).2 k (by omega), R02.fold_take_succ (stepF up) [] l [] k (by omega)]
theorem sv_fold (l : List Bytes) (h : ∀ x ∈ l, x.length = 64) : sv up l.flatten = l.foldl (stepF up) [] := by
  unfold sv
  rw [(flat64 l h).1, Nat.mul_div_cancel_left _ (by decide), coll_fold l h _ (Nat.le_refl _), List.take_length]
def Blk (up : UInt32 → Bytes → UInt32) (F : List Frame) (x : Option Nat × Bytes) : Prop := x.2.length = 64 ∧ (∀ j, x.1 = some j → ∃ h : j < F.length, x.2 = frame up (j : Int) F[j].first F[j].last F[j].data) ∧ (x.1 = none → rfE up x.2 ≠ 0)
theorem kept_congr {K K' : Nat → Bool} (h : ∀ i, i < F.length → K i = K' i) : kept F K = kept F K' := by
  funext n
  unfold kept
  by_cases hn : n.toNat < F.length
  · rw [h _ hn]
  · rw [List.getElem?_eq_none (by omega)]
    split <;> split <;> rfl
theorem fold_kept (hL : Lays F) : ∀ (X : List (Option Nat × Bytes)) (m : List (Int × Frame)) (K : Nat → Bool), (∀ x ∈ X, Blk up F x) → lkF m = kept F K → lkF ((X.map (·.2)).foldl (stepF up) m) = kept F (fun i => K i || X.any fun x => decide (x.1 = some i))
  | [], m, K, _, hm => by
    show lkF m = _
    rw [hm]
    exact kept_congr fun i _ => by simp
  | x :: X, m, K, hX, hm => by
    obtain ⟨hx1, hx2, hx3⟩ := hX x (by simp)
    have step : lkF (stepF up m x.2) = kept F (fun i => K i || decide (x.1 = some i)) := by
      cases ho : x.1 with
      | none =>
        have e : stepF up m x.2 = m := if_neg fun h => hx3 ho h.1
        rw [e, hm]
        exact kept_congr fun i _ => by simp
      | some j =>
        obtain ⟨hj, hb⟩ := hx2 j ho
        obtain ⟨h1, h2, h3, h4, h5⟩ := rf_frame (up := up) (a := F[j].first) (b := F[j].last) (lay_ok hL hj)
        unfold stepF fr
        rw [hb, h1, h2, h3, h4, h5]
        have hkj : (lkF m ((j : Nat) : Int)) = if K j = true then F[j]? else none := by rw [hm, kept_at]
        cases hK : K j with
        | true =>
          rw [hK, if_pos rfl, List.getElem?_eq_getElem hj] at hkj
          rw [if_neg (fun h => by rw [hkj] at h; cases h.2), hm]
          refine kept_congr fun i _ => ?_
          by_cases hij : j = i
          · subst hij; rw [hK]; rfl
          · rw [decide_eq_false (fun e => hij (Option.some.inj e)), Bool.or_false]
        | false =>
          rw [hK, if_neg (by decide)] at hkj
          rw [if_pos ⟨rfl, by rw [hkj]; rfl⟩]
          funext n
          rw [lkF_append, hm]
          by_cases h0 : 0 ≤ n
          · obtain ⟨i, rfl⟩ := Int.eq_ofNat_of_zero_le h0
            rw [kept_at, kept_at]
            by_cases hij : j = i
            · subst hij
              rw [hK, if_neg (by decide), if_pos rfl, if_pos (by simp), List.getElem?_eq_getElem hj]
            · rw [if_neg (show ¬ (i : Int) = (j : Int) by omega), decide_eq_false (fun e => hij (Option.some.inj e)), Bool.or_false]
              cases K i with
              | true => rw [if_pos rfl]; cases F[i]? <;> rfl
              | false => rfl
          · unfold kept
            rw [if_neg (fun h => h0 h.1), if_neg (show ¬ n = (j : Int) by omega), if_neg (fun h => h0 h.1)]
    rw [List.map_cons, List.foldl_cons, fold_kept hL X _ _ (fun y hy => hX y (by simp [hy])) step]
    refine kept_congr fun i _ => ?_
    rw [List.any_cons, Bool.or_assoc]
end
def hX (s : Bytes) (st : HS) (N : Nat) : List (Option Nat × Bytes) :=
  (List.range N).flatMap (fun (j : Nat) => if hasK st.done (j : Int) = false then [((some j : Option Nat), sub s (j * 64) (j * 64 + 64))] else match lkB st.dam (j : Int) with
    | some b => [((none : Option Nat), b)]
    | none => []) ++ st.back.map fun x => ((some x.toNat : Option Nat), hback s x)
theorem hX_flat (s : Bytes) (st : HS) (N : Nat) : ((hX s st N).map (·.2)).flatten = (List.range N).flatMap (hpart s st) ++ st.back.flatMap (hback s) := by
  unfold hX
  rw [List.map_append, List.flatten_append]
  congr 1
  · induction List.range N with
    | nil => rfl
    | cons j l ih =>
      rw [List.flatMap_cons, List.map_append, List.flatten_append, List.flatMap_cons, ih]
      congr 1
      unfold hpart
      by_cases h : hasK st.done (j : Int) = false
      · rw [if_pos h, if_pos h]; simp
      · rw [if_neg h, if_neg h]
        cases lkB st.dam (j : Int) with
        | none => rfl
        | some b => simp
  · induction st.back with
    | nil => rfl
    | cons x l ih => rw [List.map_cons, List.map_cons, List.flatten_cons, List.flatMap_cons, ih]
theorem mask_ne (m : UInt32) : m ||| 1 ≠ 0 := by
  intro h
  have h2 := congrArg (fun x : UInt32 => x.toBitVec.getLsbD 0) h
  simp at h2
section
variable {d : DataSet} {n : Int} {ps : List Pair} {l : List Harm}
theorem sub_blk (s : Bytes) (j : Nat) : sub s (j * 64) (j * 64 + 64) = blk s j := by
  unfold blk; rw [Nat.mul_comm]
theorem enc_div (h : valid d n ps = true) : (encode R02.updateN d n ps).length / 64 = (pcs (items d n ps)).length := by
  rw [encode_len R02.updateN h, Nat.mul_div_cancel_left _ (by decide)]
theorem enc_blk (h : valid d n ps = true) {j : Nat} (hj : j < (pcs (items d n ps)).length) : sub (encode R02.updateN d n ps) (j * 64) (j * 64 + 64) = frame R02.updateN (j : Int) (pcs (items d n ps))[j].first (pcs (items d n ps))[j].last (pcs (items d n ps))[j].data := by
  rw [sub_blk, encode_lay R02.updateN h, lay_blk (items_lays h) hj]
theorem frames_pos (h : valid d n ps = true) : 1 ≤ (pcs (items d n ps)).length := by
  have h1 := items_pos (d := d) (n := n) (ps := ps) (first d n ps.length) (by unfold items; simp)
  have e : pcs (items d n ps) = pc (first d n ps.length) ++ pcs (ps.map pair) := by unfold items pcs; rw [List.flatMap_cons]
  rw [e, List.length_append, pc_len]
  unfold chunks; omega
theorem xorAt_len (s : Bytes) (a : Nat) (m : Bytes) : (R02.xorAt s a m).length = s.length := by unfold R02.xorAt; rw [List.length_map, List.length_range]
theorem good_blk (h : valid d n ps = true) {j : Nat} (hj : j < (pcs (items d n ps)).length) : Blk R02.updateN (pcs (items d n ps)) (some j, sub (encode R02.updateN d n ps) (j * 64) (j * 64 + 64)) := by
  refine ⟨?_, fun i hi => ?_, fun hn => by cases hn⟩
  · show (sub _ _ _).length = 64
    rw [enc_blk h hj]; exact frame_len (lay_ok (items_lays h) hj)
  · cases hi
    exact ⟨hj, enc_blk h hj⟩
theorem harm_blk (h : valid d n ps = true) : ∀ x ∈ hX (encode R02.updateN d n ps) (hrun (encode R02.updateN d n ps) (pcs (items d n ps)).length l) (pcs (items d n ps)).length, Blk R02.updateN (pcs (items d n ps)) x := by
  have hi := (hrun_inv (s := encode R02.updateN d n ps) (frames_pos h) l)
  generalize hrun (encode R02.updateN d n ps) (pcs (items d n ps)).length l = st at hi
  intro x hx
  unfold hX at hx
  rcases List.mem_append.1 hx with hx | hx
  · obtain ⟨j, hj, hx⟩ := List.mem_flatMap.1 hx
    rw [List.mem_range] at hj
    by_cases hd : hasK st.done (j : Int) = false
    · rw [if_pos hd, List.mem_singleton] at hx
      rw [hx]; exact good_blk h hj
    · rw [if_neg hd] at hx
      cases hb : lkB st.dam (j : Int) with
      | none => rw [hb] at hx; cases hx
      | some b =>
        rw [hb] at hx
        have hx : x = (none, b) := by simpa using hx
        obtain ⟨_, q, hq⟩ := hi.dam _ _ hb
        rw [Int.toNat_natCast] at hq
        have hL := items_lays h
        have hdat := hL.2 _ (List.getElem_mem hj)
        have hlen := hL.1
        subst hx
        refine ⟨?_, fun i hi => (by cases hi), fun _ => ?_⟩
        · show b.length = 64
          rw [hq]
          unfold harmed
          rw [xorAt_len, enc_blk h hj]; exact frame_len (lay_ok hL hj)
        · show rfE R02.updateN b ≠ 0
          have e : (((UInt16.ofNat j).toNat : Nat) : Int) = (j : Int) := by
            rw [UInt16.toNat_ofNat']; omega
          have hdm := damage (n := UInt16.ofNat j) (a := (pcs (items d n ps))[j].first) (b := (pcs (items d n ps))[j].last) (d := (pcs (items d n ps))[j].data) (p := q.At.toNat % 61) (m := q.Mask ||| 1) hdat.1 hdat.2 (by omega) (mask_ne _)
          rw [e] at hdm
          rw [hq]
          unfold harmed
          rw [enc_blk h hj, hdm]; decide
  · obtain ⟨y, hy, rfl⟩ := List.mem_map.1 hx
    have hr := hi.range y ((hi.parts y).2 (.inr hy))
    rw [hback_nat _ hr.1]
    exact good_blk h (by omega)
theorem sv_harm (h : valid d n ps = true) : lkF (sv R02.updateN (harmT (encode R02.updateN d n ps) l)) = kept (pcs (items d n ps)) (fun i => !(hasK (harmG (encode R02.updateN d n ps) l) (i : Int))) := by
  have hb := harm_blk (l := l) h
  have hi := (hrun_inv (s := encode R02.updateN d n ps) (frames_pos h) l)
  unfold harmT harmG
  rw [enc_div h]
  generalize hrun (encode R02.updateN d n ps) (pcs (items d n ps)).length l = st at hb hi
  rw [← hX_flat, sv_fold _ (fun x hx => by obtain ⟨y, hy, rfl⟩ := List.mem_map.1 hx; exact (hb y hy).1)]
  have h0 : lkF ([] : List (Int × Frame)) = kept (pcs (items d n ps)) (fun _ => false) := by
    funext n
    unfold kept
    rw [if_neg (fun h => by cases h.2)]; rfl
  rw [fold_kept (items_lays h) _ _ _ hb h0]
  refine kept_congr fun i hiN => ?_
  rw [Bool.false_or, Bool.eq_iff_iff, List.any_eq_true]
  have hfin : (∃ x ∈ hX (encode R02.updateN d n ps) st (pcs (items d n ps)).length, decide (x.1 = some i) = true) ↔ ((i : Int) ∉ st.done ∨ (i : Int) ∈ st.back) := by
    unfold hX
    constructor
    · rintro ⟨x, hx, he⟩
      have he := of_decide_eq_true he
      rcases List.mem_append.1 hx with hx | hx
      · obtain ⟨j, hj, hx⟩ := List.mem_flatMap.1 hx
        by_cases hd : hasK st.done (j : Int) = false
        · rw [if_pos hd, List.mem_singleton] at hx
          rw [hx] at he
          cases he
          exact .inl (hasK_not hd)
        · rw [if_neg hd] at hx
          cases hb : lkB st.dam (j : Int) with
          | none => rw [hb] at hx; cases hx
          | some b =>
            rw [hb] at hx
            have hx : x = (none, b) := by simpa using hx
            rw [hx] at he; cases he
      · obtain ⟨y, hy, rfl⟩ := List.mem_map.1 hx
        have hr := hi.range y ((hi.parts y).2 (.inr hy))
        have he : some y.toNat = some i := he
        have := Option.some.inj he
        refine .inr ?_
        rw [show (i : Int) = y by omega]; exact hy
    · rintro (hx | hx)
      · refine ⟨(some i, sub (encode R02.updateN d n ps) (i * 64) (i * 64 + 64)), List.mem_append.2 (.inl (List.mem_flatMap.2 ⟨i, List.mem_range.2 hiN, ?_⟩)), decide_eq_true rfl⟩
        have hx' : hasK st.done (i : Int) = false := decide_eq_false hx
        rw [if_pos hx']
        exact List.mem_singleton.2 rfl
      · exact ⟨(some (i : Int).toNat, hback (encode R02.updateN d n ps) (i : Int)), List.mem_append.2 (.inr (List.mem_map.2 ⟨(i : Int), hx, rfl⟩)), decide_eq_true (by rw [Int.toNat_natCast])⟩
  rw [hfin, Bool.not_eq_true', hi.parts]
  constructor
  · rintro (hx | hx)
    · exact decide_eq_false fun hg => hx (.inl hg)
    · exact decide_eq_false fun hg => hi.apart _ hg hx
  · intro hx
    have hng := hasK_not hx
    by_cases hbk : (i : Int) ∈ st.back
    · exact .inr hbk
    · exact .inl fun hx => hx.elim hng hbk
end
end R14
end Go.Proofs.Ytodfebhimadaiaa
