/- Pl14m: what was encoded is read back: a valid archive returns from its frames. -/
import Derived.Test.YtodfebhimadaiaaPl14l
import Derived.Test.YtodfebhimadaiaaPl14j
namespace Go.Proofs.Ytodfebhimadaiaa
open Go.GV
namespace R14
open Rd
theorem num_pos (n : Nat) : 1 ≤ (R01.num n).length := by
  by_cases h : n < 128
  · rw [R01.num_lt h]; exact Nat.le_refl _
  · rw [R01.num_ge h]; simp
theorem number_read (x : UInt64) (t : Bytes) : number ⟨R01.num x.toNat ++ t, 0⟩ = (x, ⟨t, 0⟩) := by
  have hd := R01.dec_num (n := x.toNat) x.toNat_lt t
  have := num_pos x.toNat
  rw [number_ok (r := ⟨R01.num x.toNat ++ t, 0⟩) (by simp) (by rw [hd]; show ¬ (R01.num x.toNat).length = 0; omega), hd]
  show (UInt64.ofNat x.toNat, (⟨List.drop (R01.num x.toNat).length (R01.num x.toNat ++ t), 0⟩ : Reader)) = _
  rw [List.drop_left, UInt64.ofNat_toNat]
theorem count_read {n most : Int} (h0 : 0 ≤ n) (h1 : n ≤ most) (h2 : n ≤ M) (t : Bytes) : count ⟨enc n ++ t, 0⟩ most = (n, ⟨t, 0⟩) := by
  have h := number_read (UInt64.ofInt n) t
  have e := ofInt64 n h0 (by unfold M at h2; omega)
  show count ⟨R01.num (UInt64.ofInt n).toNat ++ t, 0⟩ most = _
  rw [count_ok (by rw [h]; simp) (by rw [h]; show ¬ most < ((UInt64.ofInt n).toNat : Int); rw [e]; omega), h]
  show (((UInt64.ofInt n).toNat : Int), _) = _
  rw [e, Int.toNat_of_nonneg h0]
theorem okN_iff {n : Int} (h : okN n = true) : 0 ≤ n ∧ n ≤ M := by
  unfold okN at h
  simp only [Bool.and_eq_true, decide_eq_true_eq] at h
  exact h
theorem gets_read : ∀ (k : Nat) (xs : List Int) (t : Bytes), xs.length = k → (∀ x ∈ xs, okN x = true) → gets k ⟨xs.flatMap enc ++ t, 0⟩ = (xs, ⟨t, 0⟩)
  | 0, xs, t, hl, _ => by
    obtain rfl := List.length_eq_zero_iff.1 hl
    rfl
  | k + 1, xs, t, hl, h => by
    have hne : xs ≠ [] := by intro e; rw [e] at hl; cases hl
    have e := List.dropLast_concat_getLast hne
    generalize xs.dropLast = ys at e
    generalize xs.getLast hne = y at e
    subst e
    have hy := okN_iff (h y (by simp))
    have ih := gets_read k ys (enc y ++ t) (by simpa using hl) fun x hx => h x (by simp [hx])
    have e2 : (ys ++ [y]).flatMap enc ++ t = ys.flatMap enc ++ (enc y ++ t) := by
      rw [List.flatMap_append, List.flatMap_cons, List.flatMap_nil, List.append_nil, List.append_assoc]
    rw [e2, gets_succ, ih]
    show (ys ++ [(count ⟨enc y ++ t, 0⟩ M).1], (count ⟨enc y ++ t, 0⟩ M).2) = _
    rw [count_read hy.1 hy.2 hy.2]
theorem rbool_read (b : Bool) (t : Bytes) : rbool ⟨R01.bool b ++ t, 0⟩ = (b, ⟨t, 0⟩) := by
  cases b
  · exact rbool_ok (r := ⟨R01.bool false ++ t, 0⟩) (by simp) (by simp [R01.bool])
  · exact rbool_ok (r := ⟨R01.bool true ++ t, 0⟩) (by simp) (by simp [R01.bool])
theorem rtext_read {v : Bytes} {most : Int} (h : (v.length : Int) ≤ most) (h2 : most ≤ M) (t : Bytes) : rtext ⟨R01.text v ++ t, 0⟩ most = (v, ⟨t, 0⟩) := by
  have e : R01.text v ++ t = enc (v.length : Int) ++ (v ++ t) := by
    unfold R01.text enc
    rw [ofInt64 _ (by omega) (by unfold M at h2; omega), Int.toNat_natCast, List.append_assoc]
  have hc := count_read (n := (v.length : Int)) (most := most) (by omega) h (by omega) (v ++ t)
  rw [← e] at hc
  rw [rtext_ok (by rw [hc]; simp) (by rw [hc]; show ¬ (((v ++ t).length : Nat) : Int) < (v.length : Int); rw [List.length_append]; omega), hc]
  show (List.take (v.length : Int).toNat (v ++ t), (⟨List.drop (v.length : Int).toNat (v ++ t), 0⟩ : Reader)) = _
  rw [Int.toNat_natCast, List.take_left, List.drop_left]
section
variable {d : DataSet} {n c : Int} {ps : List Pair}
theorem valid_nums (h : valid d n ps = true) : ∀ x ∈ nums17 d ++ [n], okN x = true := by
  unfold valid at h
  simp only [Bool.and_eq_true, Bool.not_eq_true', List.any_eq_false] at h
  intro x hx
  have := h.1.1.1.1 x hx
  simpa using this
theorem first_parts : first d n c = (nums d).flatMap enc ++ (R01.bool d.Unique ++ ([d.Class].flatMap enc ++ (R01.text d.Volume ++ (R01.text d.Owner ++ ([d.Created, d.Expires].flatMap enc ++ (R01.bool d.Archived ++ ([n].flatMap enc ++ (enc c ++ [])))))))) := by
  unfold first
  simp only [List.append_assoc, List.flatMap_cons, List.flatMap_nil, List.append_nil]
theorem first_read (h : valid d n ps = true) (h0 : 0 ≤ c) (h1 : c ≤ 1024) : z1 (first d n c) = (nums d, (z1 (first d n c)).2) ∧ z2 (first d n c) = (d.Unique, (z2 (first d n c)).2) ∧ z3 (first d n c) = ([d.Class], (z3 (first d n c)).2) ∧ z4 (first d n c) = (d.Volume, (z4 (first d n c)).2) ∧ z5 (first d n c) = (d.Owner, (z5 (first d n c)).2) ∧ z6 (first d n c) = ([d.Created, d.Expires], (z6 (first d n c)).2) ∧ z8 (first d n c) = (d.Archived, (z8 (first d n c)).2) ∧ z9 (first d n c) = ([n], (z9 (first d n c)).2) ∧ zc (first d n c) = (c, ⟨[], 0⟩) := by
  have hv := valid_nums h
  have hb := valid_bounds h
  have h1' : ∀ x ∈ nums d, okN x = true := fun x hx => hv x (by simp only [nums, nums17, List.mem_append, List.mem_cons, List.not_mem_nil, or_false] at hx ⊢; rcases hx with h | h | h | h | h | h | h | h | h | h | h | h | h | h <;> simp [h])
  have h3' : ∀ x ∈ [d.Class], okN x = true := fun x hx => hv x (by rw [List.mem_singleton] at hx; rw [hx]; simp [nums17])
  have h6' : ∀ x ∈ [d.Created, d.Expires], okN x = true := fun x hx => hv x (by simp only [List.mem_cons, List.not_mem_nil, or_false] at hx; rcases hx with hx | hx <;> simp [nums17, hx])
  have h9' : ∀ x ∈ [n], okN x = true := fun x hx => hv x (by rw [List.mem_singleton] at hx; rw [hx]; simp)
  have h4' : (d.Volume.length : Int) ≤ 31 := by omega
  have h5' : (d.Owner.length : Int) ≤ 31 := by omega
  have h31 : (31 : Int) ≤ M := by decide
  have hcM : c ≤ M := by unfold M; omega
  have e1 : z1 (first d n c) = _ := (congrArg (fun s => gets 14 (Reader.mk s 0)) (first_parts (d := d) (n := n) (c := c))).trans (gets_read 14 (nums d) _ rfl h1')
  have e2 : z2 (first d n c) = _ := (congrArg (fun p : List Int × Reader => rbool p.2) e1).trans (rbool_read _ _)
  have e3 : z3 (first d n c) = _ := (congrArg (fun p : Bool × Reader => gets 1 p.2) e2).trans (gets_read 1 [d.Class] _ rfl h3')
  have e4 : z4 (first d n c) = _ := (congrArg (fun p : List Int × Reader => rtext p.2 31) e3).trans (rtext_read h4' h31 _)
  have e5 : z5 (first d n c) = _ := (congrArg (fun p : Bytes × Reader => rtext p.2 31) e4).trans (rtext_read h5' h31 _)
  have e6 : z6 (first d n c) = _ := (congrArg (fun p : Bytes × Reader => gets 2 p.2) e5).trans (gets_read 2 [d.Created, d.Expires] _ rfl h6')
  have e8 : z8 (first d n c) = _ := (congrArg (fun p : List Int × Reader => rbool p.2) e6).trans (rbool_read _ _)
  have e9 : z9 (first d n c) = _ := (congrArg (fun p : Bool × Reader => gets 1 p.2) e8).trans (gets_read 1 [n] _ rfl h9')
  have ec : zc (first d n c) = (c, ⟨[], 0⟩) := (congrArg (fun p : List Int × Reader => count p.2 1024) e9).trans (count_read h0 h1 hcM _)
  refine ⟨?_, ?_, ?_, ?_, ?_, ?_, ?_, ?_, ec⟩
  · rw [e1]
  · rw [e2]
  · rw [e3]
  · rw [e4]
  · rw [e5]
  · rw [e6]
  · rw [e8]
  · rw [e9]
theorem first_ok (h : valid d n ps = true) (h0 : 0 ≤ c) (h1 : c ≤ 1024) : zOk (first d n c) = true ∧ fD (first d n c) = d ∧ fN (first d n c) = n ∧ fC (first d n c) = c := by
  obtain ⟨e1, e2, e3, e4, e5, e6, e8, e9, ec⟩ := first_read h h0 h1
  have hz : zOk (first d n c) = true := by
    unfold zOk
    rw [ec]; rfl
  refine ⟨hz, (if_pos hz).trans ?_, (if_pos hz).trans ?_, (if_pos hz).trans ?_⟩
  · unfold setOf
    rw [e1, e2, e3, e4, e5, e6, e8]
    rfl
  · rw [e9]; rfl
  · rw [ec]
theorem pair_ok {p : Pair} (h : badP p = false) : stepT (pair p) = [p] := by
  unfold badP at h
  simp only [Bool.or_eq_false_iff, decide_eq_false_iff_not] at h
  have e0 : pair p = R01.text p.key ++ (R01.text p.record ++ []) := by unfold pair; rw [List.append_nil]
  have hk' : (p.key.length : Int) ≤ 32 := by omega
  have hr' : (p.record.length : Int) ≤ 1000 := by omega
  have e1 : pairK (pair p) = (p.key, ⟨R01.text p.record ++ [], 0⟩) := (congrArg (fun s => rtext (Reader.mk s 0) 32) e0).trans (rtext_read hk' (by decide) _)
  have e2 : pairR (pair p) = (p.record, ⟨[], 0⟩) := (congrArg (fun q : Bytes × Reader => rtext q.2 1000) e1).trans (rtext_read hr' (by decide) _)
  have hk : pOk (pair p) = true := by unfold pOk; rw [e2]; rfl
  unfold stepT pairOf
  rw [if_pos hk, e1, e2]
theorem whole_true (p : Nat) (t : Bytes) : whole (fun _ => true) p t = true := by
  unfold whole
  rw [List.all_eq_true]
  exact fun _ _ => rfl
theorem wholes_true : ∀ (p : Nat) (l : List Bytes), wholes (fun _ => true) p l = l.flatMap stepT
  | _, [] => rfl
  | p, t :: l => by
    show (if whole (fun _ => true) p t = true then stepT t else []) ++ wholes (fun _ => true) (p + chunks t) l = _
    rw [if_pos (whole_true p t), wholes_true _ l, List.flatMap_cons]
theorem pairs_back : ∀ {ps : List Pair}, ps.any badP = false → (ps.map pair).flatMap stepT = ps
  | [], _ => rfl
  | p :: ps, h => by
    rw [List.any_cons, Bool.or_eq_false_iff] at h
    rw [List.map_cons, List.flatMap_cons, pair_ok h.1, pairs_back h.2]; rfl
theorem valid_any (h : valid d n ps = true) : ps.any badP = false := by
  unfold valid at h
  simp only [Bool.and_eq_true, Bool.not_eq_true'] at h
  exact h.2
theorem text_pos (v : Bytes) : 1 ≤ (R01.text v).length := by
  unfold R01.text
  have := num_pos v.length
  rw [List.length_append]; omega
theorem items_pos : ∀ t ∈ items d n ps, 1 ≤ t.length := by
  intro t ht
  unfold items at ht
  rcases List.mem_cons.1 ht with rfl | ht
  · have := num_pos (UInt64.ofInt (ps.length : Int)).toNat
    unfold first
    rw [List.length_append]
    unfold enc
    omega
  · obtain ⟨p, _, rfl⟩ := List.mem_map.1 ht
    have := text_pos p.key
    unfold pair
    rw [List.length_append]; omega
theorem items_lays (h : valid d n ps = true) : Lays (pcs (items d n ps)) := by
  have h1 := items_len h
  have h2 := valid_bounds h
  have h3 := pcs_len (l := items d n ps) fun t ht => by
    obtain ⟨i, hi, rfl⟩ := List.mem_iff_getElem.1 ht
    have := h1 i
    rw [List.getD_eq_getElem?_getD, List.getElem?_eq_getElem hi] at this
    exact this
  rw [items_length] at h3
  exact ⟨by omega, pcs_data⟩
theorem encode_lay (up : UInt32 → Bytes → UInt32) (h : valid d n ps = true) : encode up d n ps = (lay up (pcs (items d n ps))).flatten := by
  unfold encode
  rw [if_pos h, frames_lay]
theorem encode_len (up : UInt32 → Bytes → UInt32) (h : valid d n ps = true) : (encode up d n ps).length = 64 * (pcs (items d n ps)).length := by
  rw [encode_lay up h, lay_len64 (items_lays h)]
theorem returns (up : UInt32 → Bytes → UInt32) (h : valid d n ps = true) : svE up (encode up d n ps) = 0 ∧ svD up (encode up d n ps) = d ∧ svN up (encode up d n ps) = n ∧ svP up (encode up d n ps) = ps ∧ svM up (encode up d n ps) = 0 := by
  have hl := items_lays h
  have hb := valid_bounds h
  have hk : lkF (sv up (encode up d n ps)) = kept (pcs (items d n ps)) (fun _ => true) := by rw [encode_lay up h]; exact sv_lay hl
  have hi : item (lkF (sv up (encode up d n ps))) 0 = some (first d n ps.length) := by
    rw [hk, item_first hl rfl (items_pos _ (List.mem_cons_self ..)), if_pos (whole_true _ _)]
  have hf := first_ok (c := (ps.length : Int)) h (by omega) (by omega)
  have hh : head (sv up (encode up d n ps)) = first d n ps.length := by unfold head; rw [hi]; rfl
  have hs : sOk (sv up (encode up d n ps)) = true := by
    unfold sOk
    rw [hh, hi, hf.1]; rfl
  have hg : Good (sv up (encode up d n ps)) := good_sv rfl
  have hp : pairs (sv up (encode up d n ps)) = ps := by
    rw [pairs_kept hg hk hl rfl items_pos, wholes_true, pairs_back (valid_any h)]
  unfold svE svD svN svP svM
  rw [if_pos hs, if_pos hs, if_pos hs, if_pos hs, if_pos hs, hp, hh, hf.2.1, hf.2.2.1, hf.2.2.2]
  exact ⟨rfl, rfl, rfl, rfl, by omega⟩
theorem decodes (up : UInt32 → Bytes → UInt32) (h : valid d n ps = true) : dcE up (encode up d n ps) = 0 ∧ dcD up (encode up d n ps) = d ∧ dcN up (encode up d n ps) = n ∧ dcP up (encode up d n ps) = ps := by
  obtain ⟨h1, h2, h3, h4, h5⟩ := returns up h
  have hd : dcOk up (encode up d n ps) = true := by
    unfold dcOk
    rw [sv_state h1, h2, h3, h4, h, decide_eq_true rfl]; rfl
  unfold dcE dcD dcN dcP
  rw [if_pos hd, if_pos hd, if_pos hd, if_pos hd]
  exact ⟨rfl, h2, h3, h4⟩
theorem few_len (up : UInt32 → Bytes → UInt32) (h : few d ps = true) : (encode up d n ps).length ≤ 39680 := by
  cases hv : valid d n ps with
  | false => unfold encode; rw [hv]; exact Nat.zero_le _
  | true =>
    have h1 := items_len hv
    have h3 := pcs_len (l := items d n ps) fun t ht => by
      obtain ⟨i, hi, rfl⟩ := List.mem_iff_getElem.1 ht
      have := h1 i
      rw [List.getD_eq_getElem?_getD, List.getElem?_eq_getElem hi] at this
      exact this
    rw [items_length] at h3
    unfold few at h
    simp only [Bool.and_eq_true, decide_eq_true_eq] at h
    rw [encode_len up hv]; omega
end
end R14
end Go.Proofs.Ytodfebhimadaiaa
