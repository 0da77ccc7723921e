/- Pl14o: which items are whole, and what is salvaged from what harm left. -/
import Derived.Test.YtodfebhimadaiaaPl14n
namespace Go.Proofs.Ytodfebhimadaiaa
open Go.GV
namespace R14
open Rd
theorem set_last {α : Type} (w : List α) (b c : α) : (w ++ [b]).set w.length c = w ++ [c] := by
  induction w with
  | nil => rfl
  | cons a w ih => rw [List.cons_append, List.length_cons, List.set_cons_succ, ih]; rfl
theorem get_last {α : Type} (w : List α) (b d : α) : (w ++ [b]).getD w.length d = b := by
  rw [List.getD_eq_getElem?_getD, List.getElem?_append_right (Nat.le_refl _), Nat.sub_self]; rfl
def scanV (F : List Frame) (w : List Bool) (i : Nat) : List Bool := if (F.getD i default).first = true then w ++ [true] else w
def scanS (F : List Frame) (K : Nat → Bool) (w : List Bool) (i : Nat) : List Bool := (scanV F w i).set ((scanV F w i).length - 1) ((scanV F w i).getD ((scanV F w i).length - 1) default && K i)
def scan (F : List Frame) (K : Nat → Bool) : Nat → List Bool
  | 0 => []
  | i + 1 => scanS F K (scan F K i) i
def wlist (K : Nat → Bool) : Nat → List Bytes → List Bool
  | _, [] => []
  | p, t :: l => whole K p t :: wlist K (p + chunks t) l
theorem wlist_len (K : Nat → Bool) : ∀ (p : Nat) (l : List Bytes), (wlist K p l).length = l.length
  | _, [] => rfl
  | p, t :: l => by rw [wlist, List.length_cons, List.length_cons, wlist_len K _ l]
section
variable {F A B : List Frame} {K : Nat → Bool} {t : Bytes}
theorem mid_get (hF : F = A ++ pc t ++ B) {i : Nat} (hi : i < chunks t) : F.getD (A.length + i) default = piece t i := by
  rw [List.getD_eq_getElem?_getD, hF, List.getElem?_append_left (by rw [List.length_append, pc_len]; omega), List.getElem?_append_right (by omega), Nat.add_sub_cancel_left, pc_get t hi]; rfl
theorem scan_at (hF : F = A ++ pc t ++ B) : ∀ i, i < chunks t → scan F K (A.length + (i + 1)) = scan F K A.length ++ [(List.range (i + 1)).all fun j => K (A.length + j)]
  | 0, hi => by
    have hg := mid_get hF hi
    show scanS F K (scan F K (A.length + 0)) (A.length + 0) = _
    have e : scanV F (scan F K (A.length + 0)) (A.length + 0) = scan F K A.length ++ [true] := by
      unfold scanV
      rw [hg]; rfl
    unfold scanS
    rw [e, List.length_append, show (scan F K A.length).length + [true].length - 1 = (scan F K A.length).length from Nat.add_sub_cancel .., set_last, get_last]
    simp
  | i + 1, hi => by
    have ih := scan_at hF i (by omega)
    have hg := mid_get hF hi
    show scanS F K (scan F K (A.length + (i + 1))) (A.length + (i + 1)) = _
    have e : scanV F (scan F K (A.length + (i + 1))) (A.length + (i + 1)) = scan F K A.length ++ [(List.range (i + 1)).all fun j => K (A.length + j)] := by
      unfold scanV
      rw [hg, ih]; rfl
    unfold scanS
    rw [e, List.length_append, List.length_singleton, Nat.add_sub_cancel, set_last, get_last]
    congr 2
    rw [List.range_succ (n := i + 1), List.all_append]
    simp
theorem scan_items : ∀ (l : List Bytes) (A : List Frame), F = A ++ pcs l → (∀ t ∈ l, 1 ≤ t.length) → scan F K (A.length + (pcs l).length) = scan F K A.length ++ wlist K A.length l
  | [], A, _, _ => by rw [wlist, List.append_nil]; rfl
  | t :: l, A, hF, ht => by
    have e : pcs (t :: l) = pc t ++ pcs l := by unfold pcs; rw [List.flatMap_cons]
    rw [e] at hF ⊢
    have hF2 : F = A ++ pc t ++ pcs l := by rw [hF, List.append_assoc]
    have h1 := ht t (by simp)
    have hc : (chunks t - 1) + 1 = chunks t := by unfold chunks; omega
    have ih := scan_items l (A ++ pc t) hF2 fun x hx => ht x (by simp [hx])
    have h2 := scan_at (K := K) hF2 (chunks t - 1) (by omega)
    rw [hc] at h2
    rw [List.length_append, pc_len, h2] at ih
    rw [List.length_append, pc_len, ← Nat.add_assoc, ih, wlist, List.append_assoc]
    rfl
end
def keepP : List Bool → List Pair → List Pair
  | b :: bs, p :: ps => (if b = true then [p] else []) ++ keepP bs ps
  | _, _ => []
theorem wholes_keep (K : Nat → Bool) : ∀ (p : Nat) (ps : List Pair), ps.any badP = false → wholes K p (ps.map pair) = keepP (wlist K p (ps.map pair)) ps
  | _, [], _ => rfl
  | p, q :: ps, h => by
    rw [List.any_cons, Bool.or_eq_false_iff] at h
    rw [List.map_cons, wholes, wlist, keepP, pair_ok h.1, wholes_keep K _ ps h.2]
def wantP (ws : List Bool) (ps : List Pair) (i : Nat) : List Pair := if ws.getD (1 + i) default = true then [ps.getD i default] else []
theorem want_keep : ∀ (bs : List Bool) (ps : List Pair) (b : Bool), bs.length = ps.length → (List.range ps.length).flatMap (wantP (b :: bs) ps) = keepP bs ps
  | [], [], _, _ => rfl
  | [], _ :: _, _, h => by cases h
  | _ :: _, [], _, h => by cases h
  | c :: bs, p :: ps, b, h => by
    have ih := want_keep bs ps c (by simpa using h)
    rw [List.length_cons, List.range_succ_eq_map, List.flatMap_cons, List.flatMap_map, keepP, ← ih]
    have e1 : wantP (b :: c :: bs) (p :: ps) 0 = if c = true then [p] else [] := by
      unfold wantP
      rfl
    have e2 : (fun i => wantP (b :: c :: bs) (p :: ps) (Nat.succ i)) = wantP (c :: bs) ps := by
      funext i
      unfold wantP
      rw [show 1 + Nat.succ i = (1 + i) + 1 by omega, List.getD_cons_succ, List.getD_cons_succ]
    rw [e1]
    congr 1
section
variable {d : DataSet} {n : Int} {ps : List Pair} {l : List Harm} {s : Bytes}
def kp (s : Bytes) (l : List Harm) (i : Nat) : Bool := !(hasK (harmG s l) (i : Int))
def fs (d : DataSet) (n : Int) (ps : List Pair) : List Frame := pcs (items d n ps)
def wsc (s : Bytes) (l : List Harm) (d : DataSet) (n : Int) (ps : List Pair) (i : Nat) : List Bool := scan (fs d n ps) (kp s l) i
theorem wsc_all (s : Bytes) (l : List Harm) (d : DataSet) (n : Int) (ps : List Pair) : wsc s l d n ps (fs d n ps).length = whole (kp s l) 0 (first d n ps.length) :: wlist (kp s l) (chunks (first d n ps.length)) (ps.map pair) := by
  have h := scan_items (F := fs d n ps) (K := kp s l) (items d n ps) [] rfl items_pos
  have e : wlist (kp s l) 0 (items d n ps) = whole (kp s l) 0 (first d n ps.length) :: wlist (kp s l) (0 + chunks (first d n ps.length)) (ps.map pair) := rfl
  have h : scan (fs d n ps) (kp s l) (0 + (fs d n ps).length) = [] ++ wlist (kp s l) 0 (items d n ps) := h
  rw [Nat.zero_add, List.nil_append, e, Nat.zero_add] at h
  exact h
theorem wsc_len (s : Bytes) (l : List Harm) (d : DataSet) (n : Int) (ps : List Pair) : (wsc s l d n ps (fs d n ps).length).length = ps.length + 1 := by
  rw [wsc_all, List.length_cons, wlist_len, List.length_map]
theorem fs_len (h : valid d n ps = true) : (encode R02.updateN d n ps).length / 64 = (fs d n ps).length := enc_div h
theorem fs_first (_ : valid d n ps = true) : ((fs d n ps).getD 0 default).first = true := by
  have h1 := items_pos (d := d) (n := n) (ps := ps) (first d n ps.length) (by unfold items; simp)
  have e : fs d n ps = [] ++ pc (first d n ps.length) ++ pcs (ps.map pair) := by unfold fs items pcs; rw [List.flatMap_cons]; rfl
  have := mid_get e (i := 0) (by unfold chunks; omega)
  show ((fs d n ps).getD (([] : List Frame).length + 0) default).first = true
  rw [this]; rfl
theorem fs_read (h : valid d n ps = true) {i : Nat} (hi : i < (encode R02.updateN d n ps).length / 64) : rfE R02.updateN (sub (encode R02.updateN d n ps) (i * 64) (i * 64 + 64)) = 0 ∧ rfA R02.updateN (sub (encode R02.updateN d n ps) (i * 64) (i * 64 + 64)) = ((fs d n ps).getD i default).first := by
  rw [fs_len h] at hi
  have hi : i < (pcs (items d n ps)).length := hi
  rw [enc_blk h hi]
  obtain ⟨h1, h2, h3, h4, h5⟩ := rf_frame (up := R02.updateN) (a := (pcs (items d n ps))[i].first) (b := (pcs (items d n ps))[i].last) (lay_ok (items_lays h) hi)
  have e : (fs d n ps).getD i default = (pcs (items d n ps))[i] := by
    show (pcs (items d n ps)).getD i default = _
    rw [List.getD_eq_getElem?_getD, List.getElem?_eq_getElem hi]; rfl
  rw [e]
  exact ⟨h1, h3⟩
theorem salvaged (h : valid d n ps = true) (hs : s = encode R02.updateN d n ps) : (whole (kp s l) 0 (first d n ps.length) = false → svE R02.updateN (harmT s l) = 11 ∧ svD R02.updateN (harmT s l) = dz ∧ svN R02.updateN (harmT s l) = 0 ∧ svP R02.updateN (harmT s l) = [] ∧ svM R02.updateN (harmT s l) = 0) ∧
    (whole (kp s l) 0 (first d n ps.length) = true → svE R02.updateN (harmT s l) = 0 ∧ svD R02.updateN (harmT s l) = d ∧ svN R02.updateN (harmT s l) = n ∧ svP R02.updateN (harmT s l) = keepP (wlist (kp s l) (chunks (first d n ps.length)) (ps.map pair)) ps ∧ svM R02.updateN (harmT s l) = max 0 ((ps.length : Int) - (svP R02.updateN (harmT s l)).length)) := by
  subst hs
  have hk := sv_harm (l := l) h
  have hL := items_lays h
  have hb := valid_bounds h
  have hi := item_first (F := pcs (items d n ps)) (K := kp (encode R02.updateN d n ps) l) hL rfl (items_pos (d := d) (n := n) (ps := ps) _ (List.mem_cons_self ..))
  have hk2 : lkF (sv R02.updateN (harmT (encode R02.updateN d n ps) l)) = kept (pcs (items d n ps)) (kp (encode R02.updateN d n ps) l) := hk
  generalize harmT (encode R02.updateN d n ps) l = T at hk hk2
  generalize kp (encode R02.updateN d n ps) l = K at hk2 hi
  constructor
  · intro hw
    rw [hw, if_neg (by decide), ← hk2] at hi
    have hsk : ¬ sOk (sv R02.updateN T) = true := by
      unfold sOk
      rw [hi]
      intro h; cases h
    unfold svE svD svN svP svM
    rw [if_neg hsk, if_neg hsk, if_neg hsk, if_neg hsk, if_neg hsk]
    exact ⟨rfl, rfl, rfl, rfl, rfl⟩
  · intro hw
    rw [hw, if_pos rfl, ← hk2] at hi
    have hf := first_ok (c := (ps.length : Int)) h (by omega) (by omega)
    have hh : head (sv R02.updateN T) = first d n ps.length := by unfold head; rw [hi]; rfl
    have hsk : sOk (sv R02.updateN T) = true := by
      unfold sOk
      rw [hh, hi, hf.1]; rfl
    have hp : pairs (sv R02.updateN T) = keepP (wlist K (chunks (first d n ps.length)) (ps.map pair)) ps := by
      rw [pairs_kept (good_sv rfl) hk2 hL rfl items_pos, wholes_keep _ _ _ (valid_any h)]
    unfold svE svD svN svP svM
    rw [if_pos hsk, if_pos hsk, if_pos hsk, if_pos hsk, if_pos hsk, hp, hh, hf.2.1, hf.2.2.1, hf.2.2.2]
    exact ⟨rfl, rfl, rfl, rfl, rfl⟩
end
section
variable {s t t2 : Bytes} {N k i j : Nat} {l : List Harm} {dn gn bk : List Int} {dm : List (Int × Bytes)}
theorem hs_skip (hk : k < l.length) (h : HS.mk dn gn dm bk = hrun s N (l.take k)) (h2 : hasK dn ((hIx N (l.getD k default) : Nat) : Int) = true) : HS.mk dn gn dm bk = hrun s N (l.take (k + 1)) := by
  rw [hrun_succ _ _ _ _ hk, ← h]; exact (if_pos h2).symm
theorem hs_0 (hk : k < l.length) (h : HS.mk dn gn dm bk = hrun s N (l.take k)) (h2 : hasK dn ((hIx N (l.getD k default) : Nat) : Int) = false) (c : (l.getD k default).Kind % 3 = 0) : HS.mk (addK dn ((hIx N (l.getD k default) : Nat) : Int)) (addK gn ((hIx N (l.getD k default) : Nat) : Int)) (updB dm ((hIx N (l.getD k default) : Nat) : Int) (harmed s (l.getD k default) (hIx N (l.getD k default)))) bk = hrun s N (l.take (k + 1)) := by
  rw [hrun_succ _ _ _ _ hk, ← h]
  unfold hstep
  rw [if_neg (by rw [h2]; decide), if_pos c]
theorem hs_1 (hk : k < l.length) (h : HS.mk dn gn dm bk = hrun s N (l.take k)) (h2 : hasK dn ((hIx N (l.getD k default) : Nat) : Int) = false) (c0 : ¬ (l.getD k default).Kind % 3 = 0) (c : (l.getD k default).Kind % 3 = 1) : HS.mk (addK dn ((hIx N (l.getD k default) : Nat) : Int)) (addK gn ((hIx N (l.getD k default) : Nat) : Int)) dm bk = hrun s N (l.take (k + 1)) := by
  rw [hrun_succ _ _ _ _ hk, ← h]
  unfold hstep
  rw [if_neg (by rw [h2]; decide), if_neg c0, if_pos c]
theorem hs_2 (hk : k < l.length) (h : HS.mk dn gn dm bk = hrun s N (l.take k)) (h2 : hasK dn ((hIx N (l.getD k default) : Nat) : Int) = false) (c0 : ¬ (l.getD k default).Kind % 3 = 0) (c1 : ¬ (l.getD k default).Kind % 3 = 1) (c : (l.getD k default).Kind % 3 = 2) : HS.mk (addK dn ((hIx N (l.getD k default) : Nat) : Int)) gn dm (bk ++ [((hIx N (l.getD k default) : Nat) : Int)]) = hrun s N (l.take (k + 1)) := by
  rw [hrun_succ _ _ _ _ hk, ← h]
  unfold hstep
  rw [if_neg (by rw [h2]; decide), if_neg c0, if_neg c1, if_pos c]
theorem hs_3 (hk : k < l.length) (h : HS.mk dn gn dm bk = hrun s N (l.take k)) (h2 : hasK dn ((hIx N (l.getD k default) : Nat) : Int) = false) (c0 : ¬ (l.getD k default).Kind % 3 = 0) (c1 : ¬ (l.getD k default).Kind % 3 = 1) (c : ¬ (l.getD k default).Kind % 3 = 2) : HS.mk (addK dn ((hIx N (l.getD k default) : Nat) : Int)) gn dm bk = hrun s N (l.take (k + 1)) := by
  rw [hrun_succ _ _ _ _ hk, ← h]
  unfold hstep
  rw [if_neg (by rw [h2]; decide), if_neg c0, if_neg c1, if_neg c]
theorem hs_end (hk : k ≤ l.length) (hk2 : ¬ ((k : Nat) : Int) < ((l.length : Nat) : Int)) (h : HS.mk dn gn dm bk = hrun s N (l.take k)) : HS.mk dn gn dm bk = hrun s N l := by
  rw [h, List.take_of_length_le (by omega)]
theorem hs_inv (hN : 1 ≤ N) (h : HS.mk dn gn dm bk = hrun s N l) : HInv s N (HS.mk dn gn dm bk) ∧ ∀ j, 0 ≤ bk.getD j 0 ∧ bk.getD j 0 < N := by
  have hi := hrun_inv (s := s) hN l
  rw [← h] at hi
  refine ⟨hi, fun j => ?_⟩
  rw [List.getD_eq_getElem?_getD]
  cases hg : bk[j]? with
  | none => exact ⟨Int.le_refl _, by show (0 : Int) < N; omega⟩
  | some x => exact hi.range x ((hi.parts x).2 (.inr (List.mem_of_getElem? hg)))
theorem sub64 (s : Bytes) (i : Nat) : (sub s (i * 64) (i * 64 + 64)).length ≤ 64 := by
  unfold sub
  rw [List.length_drop, List.length_take]; omega
theorem sub64i (s : Bytes) (x : Int) : (sub s ((x * 64).toNat) ((x * 64 + 64).toNat)).length ≤ 64 := by
  unfold sub
  rw [List.length_drop, List.length_take]; omega
theorem hs_dam (h : HInv s N (HS.mk dn gn dm bk)) (i : Int) : ((lkB dm i).getD []).length ≤ 64 := by
  cases hb : lkB dm i with
  | none => exact Nat.zero_le _
  | some b =>
    obtain ⟨_, q, hq⟩ := h.dam i b hb
    show b.length ≤ 64
    rw [hq]
    unfold harmed
    rw [xorAt_len]
    exact sub64 s _
theorem hp_in (h : t = (List.range i).flatMap (hpart s (HS.mk dn gn dm bk))) (h2 : hasK dn ((i : Nat) : Int) = false) : t ++ sub s (i * 64) (i * 64 + 64) = (List.range (i + 1)).flatMap (hpart s (HS.mk dn gn dm bk)) := by
  have e : hpart s (HS.mk dn gn dm bk) i = sub s (i * 64) (i * 64 + 64) := if_pos h2
  rw [List.range_succ, List.flatMap_append, List.flatMap_cons, List.flatMap_nil, List.append_nil, e, h]
theorem hp_dam (h : t = (List.range i).flatMap (hpart s (HS.mk dn gn dm bk))) (h2 : hasK dn ((i : Nat) : Int) = true) : t ++ (lkB dm ((i : Nat) : Int)).getD [] = (List.range (i + 1)).flatMap (hpart s (HS.mk dn gn dm bk)) := by
  have e : hpart s (HS.mk dn gn dm bk) i = (lkB dm ((i : Nat) : Int)).getD [] := if_neg (by show ¬ hasK dn ((i : Nat) : Int) = false; rw [h2]; decide)
  rw [List.range_succ, List.flatMap_append, List.flatMap_cons, List.flatMap_nil, List.append_nil, e, h]
theorem hp_no (h : t = (List.range i).flatMap (hpart s (HS.mk dn gn dm bk))) (h2 : hasK dn ((i : Nat) : Int) = true) (h3 : ¬ (lkB dm ((i : Nat) : Int)).getD [] ≠ ([] : Bytes)) : t = (List.range (i + 1)).flatMap (hpart s (HS.mk dn gn dm bk)) := by
  rw [← hp_dam h h2, Decidable.not_not.1 h3, List.append_nil]
theorem hp_end (hi : i ≤ N) (hi2 : ¬ ((i : Nat) : Int) < ((N : Nat) : Int)) (h : t = (List.range i).flatMap (hpart s (HS.mk dn gn dm bk))) : t = (List.range N).flatMap (hpart s (HS.mk dn gn dm bk)) ++ (bk.take 0).flatMap (hback s) := by
  rw [h, show i = N by omega, List.take_zero, List.flatMap_nil, List.append_nil]
theorem hb_step {base b : Bytes} {f : Int → Bytes} (hj : j < bk.length) (h : t2 = base ++ (bk.take j).flatMap f) (hb : b = f (bk.getD j 0)) : t2 ++ b = base ++ (bk.take (j + 1)).flatMap f := by
  rw [hb]; exact flat_step 0 hj h
theorem harm_end (hst : HS.mk dn gn dm bk = hrun s (s.length / 64) l) (hj : j ≤ bk.length) (hj2 : ¬ ((j : Nat) : Int) < ((bk.length : Nat) : Int)) (h : t2 = (List.range (s.length / 64)).flatMap (hpart s (HS.mk dn gn dm bk)) ++ (bk.take j).flatMap (hback s)) : t2 = harmT s l := by
  unfold harmT
  rw [h, ← hst, List.take_of_length_le (by omega)]
theorem harm_gone (hst : HS.mk dn gn dm bk = hrun s (s.length / 64) l) : gn = harmG s l := by
  unfold harmG
  rw [← hst]
end
section
variable {d : DataSet} {n it : Int} {ps qs : List Pair} {l : List Harm} {ws : List Bool} {i k : Nat}
theorem valid_okE (hv : valid d n ps = true) : okE (valid d n ps) = 0 := by rw [hv]; rfl
theorem enc_long (hv : valid d n ps = true) : 64 ≤ (encode R02.updateN d n ps).length := by
  have := frames_pos hv
  rw [encode_len R02.updateN hv]; omega
theorem sal_bad0 (hv : valid d n ps = true) (h : ((decide (okE (valid d n ps) ≠ 0)) || (decide ((((encode R02.updateN d n ps).length : Nat) : Int) < 64))) = true) : False := by
  have := enc_long hv
  simp only [Bool.or_eq_true, decide_eq_true_eq, valid_okE hv] at h
  omega
theorem scanV_len (F : List Frame) (w : List Bool) (i : Nat) : w.length ≤ (scanV F w i).length := by
  unfold scanV
  split
  · rw [List.length_append]; omega
  · exact Nat.le_refl _
theorem wsc_pos (hv : valid d n ps = true) : ∀ i, 1 ≤ (wsc (encode R02.updateN d n ps) l d n ps (i + 1)).length
  | 0 => by
    show 1 ≤ (scanS (fs d n ps) (kp (encode R02.updateN d n ps) l) [] 0).length
    unfold scanS scanV
    rw [List.length_set, if_pos (fs_first hv)]; exact Nat.le_refl _
  | i + 1 => by
    have ih := wsc_pos hv i
    show 1 ≤ (scanS (fs d n ps) (kp (encode R02.updateN d n ps) l) (wsc (encode R02.updateN d n ps) l d n ps (i + 1)) (i + 1)).length
    unfold scanS
    rw [List.length_set]
    exact Nat.le_trans ih (scanV_len _ _ _)
theorem sal_bad1 (hv : valid d n ps = true) (h1 : ws = wsc (encode R02.updateN d n ps) l d n ps i) (h2 : it = ((ws.length : Nat) : Int) - 1) (h3 : it < 0) (hi : i < (encode R02.updateN d n ps).length / 64) (hf : rfA R02.updateN (sub (encode R02.updateN d n ps) (i * 64) (i * 64 + 64)) = false) : False := by
  cases i with
  | zero =>
    rw [(fs_read hv hi).2, fs_first hv] at hf; cases hf
  | succ i =>
    have := wsc_pos (l := l) hv i
    rw [← h1] at this
    omega
theorem sal_a (hv : valid d n ps = true) (hi : i < (encode R02.updateN d n ps).length / 64) (h1 : ws = wsc (encode R02.updateN d n ps) l d n ps i) (h2 : it = ((ws.length : Nat) : Int) - 1) (hf : rfA R02.updateN (sub (encode R02.updateN d n ps) (i * 64) (i * 64 + 64)) = true) :
    (ws ++ [true]).set ((it + 1).toNat) (((ws ++ [true]).getD ((it + 1).toNat) false) && (!(hasK (harmG (encode R02.updateN d n ps) l) ((i : Nat) : Int)))) = wsc (encode R02.updateN d n ps) l d n ps (i + 1) := by
  have e : scanV (fs d n ps) ws i = ws ++ [true] := if_pos (by rw [← (fs_read hv hi).2]; exact hf)
  show _ = scanS (fs d n ps) (kp (encode R02.updateN d n ps) l) (wsc (encode R02.updateN d n ps) l d n ps i) i
  rw [← h1]
  unfold scanS
  rw [e, show (it + 1).toNat = (ws ++ [true]).length - 1 by rw [List.length_append, List.length_singleton]; omega]
  rfl
theorem sal_b (hv : valid d n ps = true) (hi : i < (encode R02.updateN d n ps).length / 64) (h1 : ws = wsc (encode R02.updateN d n ps) l d n ps i) (h2 : it = ((ws.length : Nat) : Int) - 1) (hf : rfA R02.updateN (sub (encode R02.updateN d n ps) (i * 64) (i * 64 + 64)) = false) (h3 : ¬ it < 0) :
    ws.set (it.toNat) ((ws.getD (it.toNat) false) && (!(hasK (harmG (encode R02.updateN d n ps) l) ((i : Nat) : Int)))) = wsc (encode R02.updateN d n ps) l d n ps (i + 1) := by
  have e : scanV (fs d n ps) ws i = ws := if_neg (by rw [← (fs_read hv hi).2, hf]; decide)
  show _ = scanS (fs d n ps) (kp (encode R02.updateN d n ps) l) (wsc (encode R02.updateN d n ps) l d n ps i) i
  rw [← h1]
  unfold scanS
  rw [e, show it.toNat = ws.length - 1 by omega]
  rfl
theorem sal_end (hv : valid d n ps = true) (hi : i ≤ (encode R02.updateN d n ps).length / 64) (hi2 : ¬ ((i : Nat) : Int) < (((encode R02.updateN d n ps).length / 64 : Nat) : Int)) (h1 : ws = wsc (encode R02.updateN d n ps) l d n ps i) : ws = wsc (encode R02.updateN d n ps) l d n ps (fs d n ps).length := by
  rw [h1, ← fs_len hv, show i = (encode R02.updateN d n ps).length / 64 by omega]
theorem sal_len (h : ws = wsc (encode R02.updateN d n ps) l d n ps (fs d n ps).length) : ws.length = ps.length + 1 := by rw [h, wsc_len]
theorem want_yes (h : qs = (List.range k).flatMap (wantP ws ps)) (h2 : ws.getD (1 + k) false = true) : qs ++ [ps.getD k default] = (List.range (k + 1)).flatMap (wantP ws ps) := by
  have e : wantP ws ps k = [ps.getD k default] := if_pos h2
  rw [range_step, ← h, e]
theorem want_no (h : qs = (List.range k).flatMap (wantP ws ps)) (h2 : ws.getD (1 + k) false = false) : qs = (List.range (k + 1)).flatMap (wantP ws ps) := by
  have e : wantP ws ps k = [] := if_neg (by show ¬ ws.getD (1 + k) false = true; rw [h2]; decide)
  rw [range_step, ← h, e, List.append_nil]
theorem sal_none (hv : valid d n ps = true) (h : ws = wsc (encode R02.updateN d n ps) l d n ps (fs d n ps).length) (h0 : ws.getD 0 false = false) : (((decide (svE R02.updateN (harmT (encode R02.updateN d n ps) l) = 11)) && (same (svD R02.updateN (harmT (encode R02.updateN d n ps) l)) (svN R02.updateN (harmT (encode R02.updateN d n ps) l)) (svP R02.updateN (harmT (encode R02.updateN d n ps) l)) (DataSet.mk 0 0 0 0 0 0 0 0 0 0 0 0 0 0 false 0 [] [] 0 0 false) 0 [])) && (decide (svM R02.updateN (harmT (encode R02.updateN d n ps) l) = 0)) : Bool) = true := by
  rw [h, wsc_all] at h0
  obtain ⟨h1, h2, h3, h4, h5⟩ := (salvaged (l := l) hv rfl).1 h0
  rw [h1, h2, h3, h4, h5]
  decide
theorem sal_yes (hv : valid d n ps = true) (h : ws = wsc (encode R02.updateN d n ps) l d n ps (fs d n ps).length) (h0 : ws.getD 0 false = true) (hk : k ≤ ps.length) (hk2 : ¬ ((k : Nat) : Int) < ((ps.length : Nat) : Int)) (hq : qs = (List.range k).flatMap (wantP ws ps)) : (((decide (svE R02.updateN (harmT (encode R02.updateN d n ps) l) = 0)) && (same (svD R02.updateN (harmT (encode R02.updateN d n ps) l)) (svN R02.updateN (harmT (encode R02.updateN d n ps) l)) (svP R02.updateN (harmT (encode R02.updateN d n ps) l)) d n qs)) && (decide (svM R02.updateN (harmT (encode R02.updateN d n ps) l) = ((ps.length : Nat) : Int) - ((qs.length : Nat) : Int))) : Bool) = true := by
  rw [h, wsc_all] at h0
  obtain ⟨h1, h2, h3, h4, h5⟩ := (salvaged (l := l) hv rfl).2 h0
  have hl : (wlist (kp (encode R02.updateN d n ps) l) (chunks (first d n ps.length)) (ps.map pair)).length = ps.length := by rw [wlist_len, List.length_map]
  have e : qs = svP R02.updateN (harmT (encode R02.updateN d n ps) l) := by
    rw [h4, hq, h, wsc_all, show k = ps.length by omega]
    exact want_keep _ _ _ hl
  have hlen : qs.length ≤ ps.length := by
    have key : ∀ (bs : List Bool) (xs : List Pair), (keepP bs xs).length ≤ xs.length := by
      intro bs
      induction bs with
      | nil => intro xs; cases xs <;> exact Nat.zero_le _
      | cons b bs ih =>
        intro xs
        cases xs with
        | nil => exact Nat.zero_le _
        | cons x xs =>
          have := ih xs
          rw [keepP, List.length_append, List.length_cons]
          cases b <;> simp <;> omega
    rw [e, h4]; exact key _ _
  rw [h5, h1, h2, h3, ← e]
  have h6 : max 0 ((ps.length : Int) - (qs.length : Int)) = ((ps.length : Nat) : Int) - ((qs.length : Nat) : Int) := by omega
  rw [h6]
  simp [same]
theorem harmT_len (hv : valid d n ps = true) (h20 : l.length ≤ 20) (hl : (encode R02.updateN d n ps).length ≤ 39680) : (harmT (encode R02.updateN d n ps) l).length ≤ 1000000 := by
  have hb := harm_blk (l := l) hv
  have hi := hrun_back (encode R02.updateN d n ps) (pcs (items d n ps)).length l
  have hd := enc_div hv
  have h64 : ∀ x ∈ (hX (encode R02.updateN d n ps) (hrun (encode R02.updateN d n ps) (pcs (items d n ps)).length l) (pcs (items d n ps)).length).map (·.2), x.length = 64 := fun x hx => by
    obtain ⟨y, hy, rfl⟩ := List.mem_map.1 hx; exact (hb y hy).1
  unfold harmT
  rw [hd, ← hX_flat, (flat64 _ h64).1, List.length_map]
  have hn : (pcs (items d n ps)).length ≤ 620 := by
    rw [encode_len R02.updateN hv] at hl; omega
  have hx : (hX (encode R02.updateN d n ps) (hrun (encode R02.updateN d n ps) (pcs (items d n ps)).length l) (pcs (items d n ps)).length).length ≤ (pcs (items d n ps)).length + l.length := by
    unfold hX
    rw [List.length_append, List.length_map]
    refine Nat.add_le_add ?_ hi
    have key : ∀ (f : Nat → List (Option Nat × Bytes)), (∀ j, (f j).length ≤ 1) → ∀ L : List Nat, (L.flatMap f).length ≤ L.length := by
      intro f hf L
      induction L with
      | nil => exact Nat.le_refl _
      | cons a L ih => have := hf a; rw [List.flatMap_cons, List.length_append, List.length_cons]; omega
    refine Nat.le_trans (key _ (fun j => ?_) _) (Nat.le_of_eq List.length_range)
    split
    · exact Nat.le_refl _
    · split
      · exact Nat.le_refl _
      · exact Nat.zero_le _
  omega
end
end R14
end Go.Proofs.Ytodfebhimadaiaa
