/- Pl47c: laws of the plain functions of chapter 47. -/
import Derived.Test.YtknibpmmjhmjeaaDoorPl47b
namespace Go.Proofs.YtknibpmmjhmjeaaDoor
open Go.GV
namespace R47
/-! reading what was written -/
theorem nz : ¬ ((0 : Int) ≠ 0) := fun h => h rfl
theorem num_pos (n : Nat) : 1 ≤ (R01.num n).length := by
  by_cases h : n < 128
  · rw [R01.num_lt h]; exact Nat.le_refl _
  · rw [R01.num_ge h, List.length_cons]; omega
theorem number_num {n : Nat} (h : n < 2 ^ 64) (t : Bytes) : number ⟨R01.num n ++ t, 0⟩ = (UInt64.ofNat n, ⟨t, 0⟩) := by
  have hd := R01.dec_num h t
  have hp := num_pos n
  rw [number_ok nz (by show ¬ (R01.dec (R01.num n ++ t)).2 = 0; rw [hd]; show ¬ (R01.num n).length = 0; omega)]
  show ((R01.dec (R01.num n ++ t)).1, (⟨(R01.num n ++ t).drop (R01.dec (R01.num n ++ t)).2, 0⟩ : Reader)) = _
  rw [hd, List.drop_left']
  rfl
theorem ofNat64 {n : Nat} (h : n < 2 ^ 64) : (UInt64.ofNat n).toNat = n := by simp only [UInt64.toNat_ofNat']; exact Nat.mod_eq_of_lt h
theorem encn_nat {x : Int} (h0 : 0 ≤ x) (h : x ≤ 1099511627776) : encn x = R01.num x.toNat := by unfold encn; rw [ofInt64 x h0 (by omega)]
theorem count_encn {x most : Int} (h0 : 0 ≤ x) (h1 : x ≤ most) (h2 : most ≤ 1099511627776) (t : Bytes) : count ⟨encn x ++ t, 0⟩ most = (x, ⟨t, 0⟩) := by
  rw [encn_nat h0 (by omega)]
  have hn : x.toNat < 2 ^ 64 := by omega
  have h := number_num hn t
  have hx : ((UInt64.ofNat x.toNat).toNat : Int) = x := by rw [ofNat64 hn]; omega
  rw [count_ok (by rw [h]; exact nz) (by rw [h]; show ¬ most < ((UInt64.ofNat x.toNat).toNat : Int); rw [hx]; omega), h]
  show (((UInt64.ofNat x.toNat).toNat : Int), (⟨t, 0⟩ : Reader)) = _
  rw [hx]
theorem rtext_text {s : Bytes} {most : Int} (h1 : (s.length : Int) ≤ most) (h2 : most ≤ 1099511627776) (t : Bytes) : rtext ⟨R01.text s ++ t, 0⟩ most = (s, ⟨t, 0⟩) := by
  have he : R01.text s ++ t = encn s.length ++ (s ++ t) := by
    rw [encn_nat (by omega) (by omega)]; unfold R01.text; rw [List.append_assoc]; rfl
  have hc := count_encn (x := (s.length : Int)) (by omega) h1 h2 (s ++ t)
  rw [he, rtext_ok (by rw [hc]; exact nz) (by rw [hc]; show ¬ ((s ++ t).length : Int) < (s.length : Int); rw [List.length_append]; omega), hc]
  show ((s ++ t).take (s.length : Int).toNat, (⟨(s ++ t).drop (s.length : Int).toNat, 0⟩ : Reader)) = _
  rw [Int.toNat_natCast, List.take_left', List.drop_left'] <;> rfl
theorem one_enc {c : Change} (h : valid c = true) (t : Bytes) : one ⟨encC c ++ t, 0⟩ = (c, ⟨t, 0⟩) := by
  obtain ⟨_, ⟨a1, a2⟩, a3, a4, _, _, _, _, a5, a6, a7⟩ := valid_facts h
  unfold one encC
  simp only [List.append_assoc]
  rw [count_encn a1 a2 (by decide)]
  dsimp only
  rw [count_encn (by omega) a4 (by decide)]
  dsimp only
  rw [rtext_text (by omega) (by decide)]
  dsimp only
  rw [rtext_text (by omega) (by decide)]
  dsimp only
  rw [rtext_text (by omega) (by decide)]
theorem many_enc {cs : List Change} (h : cs.all valid = true) : ∀ (k : Nat) (t : Bytes), k ≤ cs.length → many k ⟨(cs.take k).flatMap encC ++ t, 0⟩ = (cs.take k, ⟨t, 0⟩)
  | 0, t, _ => rfl
  | k + 1, t, hk => by
    have hv := getD_all (d := default) h (show k < cs.length by omega)
    rw [flat_step (d := default) (by omega), List.append_assoc, many_step (many_enc h k _ (by omega)), one_enc hv]
    rw [List.take_succ_eq_append_getElem (by omega), List.getD_eq_getElem?_getD, List.getElem?_eq_getElem (by omega)]
    rfl
theorem decode_enc {num unit : Int} {ch : List Change} (h : sound num unit ch = true) (hl : (enc num unit ch).length ≤ 16384) : decode (enc num unit ch) = (num, unit, ch, 0) := by
  obtain ⟨a1, a2, a3, a4, a5, a6, a7⟩ := sound_facts h
  have e1 : r1 (enc num unit ch) = (num, ⟨encn unit ++ encn ch.length ++ ch.flatMap encC, 0⟩) := by
    unfold r1 enc
    rw [List.append_assoc, List.append_assoc, count_encn (by omega) (by omega) (by decide), List.append_assoc]
  have e2 : r2 (enc num unit ch) = (unit, ⟨encn ch.length ++ ch.flatMap encC, 0⟩) := by
    unfold r2
    rw [e1]; dsimp only
    rw [List.append_assoc, count_encn (by omega) (by omega) (by decide)]
  have e3 : r3 (enc num unit ch) = ((ch.length : Int), ⟨ch.flatMap encC, 0⟩) := by
    unfold r3
    rw [e2]; dsimp only
    rw [count_encn (by omega) (by omega) (by decide)]
  have hm := many_enc a7 ch.length [] (Nat.le_refl _)
  rw [List.take_length, List.append_nil] at hm
  refine (decode_ok (xs := ch) (rd := ⟨[], 0⟩) (by omega) (k := ch.length) (by rw [e3]; exact hm) (by rw [e3]) ?_).trans (by rw [e1, e2])
  rw [e1, e2]
  dsimp only
  rw [h]; rfl
/-! writing what was read -/
theorem number_inv {r : Reader} (h : (number r).2.err = 0) : r.err = 0 ∧ r.left = R01.num (number r).1.toNat ++ (number r).2.left := by
  by_cases h1 : r.err ≠ 0
  · rw [number_no h1] at h; exact absurd h h1
  · by_cases h2 : (R01.dec r.left).2 = 0
    · rw [number_bad h1 h2] at h; exact absurd h (by decide)
    · rw [number_ok h1 h2]
      exact ⟨by omega, R01.dec_inv h2⟩
theorem count_inv {r : Reader} {most : Int} (hm : most ≤ 1099511627776) (h : (count r most).2.err = 0) : r.err = 0 ∧ r.left = encn (count r most).1 ++ (count r most).2.left := by
  by_cases h1 : (number r).2.err ≠ 0
  · rw [count_no h1] at h; exact absurd h h1
  · by_cases h2 : most < (number r).1.toNat
    · rw [count_bad h1 h2] at h; exact absurd h (by decide)
    · rw [count_ok h1 h2]
      obtain ⟨a1, a2⟩ := number_inv (r := r) (by omega)
      refine ⟨a1, ?_⟩
      show r.left = encn ((number r).1.toNat : Int) ++ (number r).2.left
      rw [encn_nat (by omega) (by omega), Int.toNat_natCast]; exact a2
theorem rtext_inv {r : Reader} {most : Int} (h0 : 0 ≤ most) (hm : most ≤ 1099511627776) (h : (rtext r most).2.err = 0) : r.err = 0 ∧ r.left = R01.text (rtext r most).1 ++ (rtext r most).2.left := by
  by_cases h1 : (count r most).2.err ≠ 0
  · rw [rtext_no h1] at h; exact absurd h h1
  · by_cases h2 : ((count r most).2.left.length : Int) < (count r most).1
    · rw [rtext_bad h1 h2] at h; exact absurd h (by decide)
    · rw [rtext_ok h1 h2]
      obtain ⟨a1, a2⟩ := count_inv hm (r := r) (by omega)
      have hc := count_range r most h0
      refine ⟨a1, ?_⟩
      show r.left = R01.text ((count r most).2.left.take (count r most).1.toNat) ++ (count r most).2.left.drop (count r most).1.toNat
      unfold R01.text
      rw [List.append_assoc, List.take_append_drop, List.length_take, Nat.min_eq_left (by omega), ← encn_nat hc.1 (by omega)]
      exact a2
theorem one_inv {r : Reader} (h : (one r).2.err = 0) : r.err = 0 ∧ r.left = encC (one r).1 ++ (one r).2.left := by
  have h5 := rtext_inv (r := (rtext (rtext (count (count r 7).2 1099511627776).2 32).2 1000).2) (most := 31) (by decide) (by decide) h
  have h4 := rtext_inv (r := (rtext (count (count r 7).2 1099511627776).2 32).2) (most := 1000) (by decide) (by decide) h5.1
  have h3 := rtext_inv (r := (count (count r 7).2 1099511627776).2) (most := 32) (by decide) (by decide) h4.1
  have h2 := count_inv (r := (count r 7).2) (most := 1099511627776) (by decide) h3.1
  have h1 := count_inv (r := r) (most := 7) (by decide) h2.1
  refine ⟨h1.1, ?_⟩
  rw [h1.2, h2.2, h3.2, h4.2, h5.2]
  show _ = (encn (count r 7).1 ++ encn (count (count r 7).2 1099511627776).1 ++ R01.text (rtext (count (count r 7).2 1099511627776).2 32).1 ++ R01.text (rtext (rtext (count (count r 7).2 1099511627776).2 32).2 1000).1 ++ R01.text (rtext (rtext (rtext (count (count r 7).2 1099511627776).2 32).2 1000).2 31).1) ++ (rtext (rtext (rtext (count (count r 7).2 1099511627776).2 32).2 1000).2 31).2.left
  simp only [List.append_assoc]
theorem many_inv {r : Reader} : ∀ k : Nat, (many k r).2.err = 0 → r.err = 0 ∧ r.left = (many k r).1.flatMap encC ++ (many k r).2.left
  | 0, h => ⟨h, rfl⟩
  | k + 1, h => by
    have h1 := one_inv (r := (many k r).2) h
    have h2 := many_inv k h1.1
    refine ⟨h2.1, ?_⟩
    show r.left = ((many k r).1 ++ [(one (many k r).2).1]).flatMap encC ++ (one (many k r).2).2.left
    rw [h2.2, h1.2, List.flatMap_append]
    simp only [List.flatMap_cons, List.flatMap_nil, List.append_nil, List.append_assoc]
theorem fin_zero {r : Reader} (h : fin r = 0) : r.err = 0 ∧ r.left = [] := by
  unfold fin at h
  split at h
  · cases h
  · rename_i h1
    refine ⟨h, ?_⟩
    by_cases h2 : r.left = []
    · exact h2
    · exact absurd ⟨h, h2⟩ h1
theorem decode_cases (s : Bytes) : decode s = (0, 0, [], 11) ∨ (s.length ≤ 16384 ∧ fin (r4 s).2 = 0 ∧ sound (r1 s).1 (r2 s).1 (r4 s).1 = true ∧ decode s = ((r1 s).1, (r2 s).1, (r4 s).1, 0)) := by
  unfold decode
  by_cases h1 : 16384 < s.length
  · rw [if_pos h1]; exact .inl rfl
  · rw [if_neg h1]
    by_cases h2 : fin (r4 s).2 ≠ 0 ∨ sound (r1 s).1 (r2 s).1 (r4 s).1 = false
    · rw [if_pos h2]; exact .inl rfl
    · rw [if_neg h2]
      refine .inr ⟨by omega, ?_, ?_, rfl⟩
      · by_cases h3 : fin (r4 s).2 = 0
        · exact h3
        · exact absurd (.inl h3) h2
      · cases h3 : sound (r1 s).1 (r2 s).1 (r4 s).1 with
        | true => rfl
        | false => exact absurd (.inr h3) h2
theorem decode_inv {s : Bytes} (h : ¬ (decode s).2.2.2 ≠ 0) : s.length ≤ 16384 ∧ sound (decode s).1 (decode s).2.1 (decode s).2.2.1 = true ∧ enc (decode s).1 (decode s).2.1 (decode s).2.2.1 = s := by
  rcases decode_cases s with e | ⟨h1, h2, h3, e⟩
  · rw [e] at h; exact absurd (by decide) h
  · rw [e]
    refine ⟨h1, h3, ?_⟩
    obtain ⟨b1, b2⟩ := fin_zero h2
    have k4 := many_inv (r := (r3 s).2) (r3 s).1.toNat b1
    have k3 := count_inv (r := (r2 s).2) (most := 300) (by decide) k4.1
    have k2 := count_inv (r := (r1 s).2) (most := 1099511627776) (by decide) k3.1
    have k1 := count_inv (r := ⟨s, 0⟩) (most := 1099511627776) (by decide) k2.1
    have hlen : ((r4 s).1.length : Int) = (r3 s).1 := by
      have := many_len (r3 s).1.toNat (r3 s).2
      have hr := count_range (r2 s).2 300 (by decide)
      show ((many (r3 s).1.toNat (r3 s).2).1.length : Int) = (r3 s).1
      rw [this]
      exact Int.toNat_of_nonneg hr.1
    show enc (r1 s).1 (r2 s).1 (r4 s).1 = s
    unfold enc
    rw [hlen]
    have k1' : s = encn (r1 s).1 ++ (r1 s).2.left := k1.2
    have k2' : (r1 s).2.left = encn (r2 s).1 ++ (r2 s).2.left := k2.2
    have k3' : (r2 s).2.left = encn (r3 s).1 ++ (r3 s).2.left := k3.2
    have k4' : (r3 s).2.left = (r4 s).1.flatMap encC ++ (r4 s).2.left := k4.2
    rw [b2, List.append_nil] at k4'
    rw [List.append_assoc, List.append_assoc, ← k4', ← k3', ← k2', ← k1']
theorem decode_len (s : Bytes) : (decode s).2.2.1.length ≤ 300 := by
  rcases decode_cases s with e | ⟨_, _, h3, e⟩
  · rw [e]; exact Nat.zero_le _
  · rw [e]; exact (sound_facts h3).2.2.2.1
theorem decode_vol (s : Bytes) : ∀ i, i < (decode s).2.2.1.length → ((decode s).2.2.1.getD i default).Volume.length ≤ 9223372036854775807 := by
  rcases decode_cases s with e | ⟨_, _, h3, e⟩
  · rw [e]; intro i hi; exact absurd hi (Nat.not_lt_zero _)
  · rw [e]; intro i hi
    have := sound_lens h3 i hi
    show ((r4 s).1.getD i default).Volume.length ≤ _
    omega
/-! the laws -/
theorem decodes_err {s : Bytes} (h : (decode s).2.2.2 ≠ 0) : decode s = (0, 0, [], 11) := by
  rcases decode_cases s with e | ⟨_, _, _, e⟩
  · exact e
  · rw [e] at h; exact absurd rfl h
theorem decodes_enc {s : Bytes} (h : ¬ (decode s).2.2.2 ≠ 0) : encode (decode s).1 (decode s).2.1 (decode s).2.2.1 = (s, 0) := by
  obtain ⟨h1, h2, h3⟩ := decode_inv h
  rw [encode_ok h2 (by rw [h3]; exact h1), h3]
theorem valid_enc (num unit : Int) (ch : List Change) : (sound num unit ch && decide (((enc num unit ch).length : Int) ≤ 16384)) = decide ((encode num unit ch).2 = 0) := by
  cases h : sound num unit ch with
  | false => rw [encode_no h]; rfl
  | true =>
    by_cases h2 : (enc num unit ch).length ≤ 16384
    · rw [encode_ok h h2, decide_eq_true (p := ((enc num unit ch).length : Int) ≤ 16384) (by omega)]; rfl
    · rw [encode_big h h2, decide_eq_false (p := ((enc num unit ch).length : Int) ≤ 16384) (by omega)]; rfl
theorem encodes_dec {num unit : Int} {ch : List Change} (h : ¬ (encode num unit ch).2 ≠ 0) : decode (encode num unit ch).1 = (num, unit, ch, 0) := by
  cases hs : sound num unit ch with
  | false => rw [encode_no hs] at h; exact absurd (by decide) h
  | true =>
    by_cases h2 : (enc num unit ch).length ≤ 16384
    · rw [encode_ok hs h2]; exact decode_enc hs h2
    · rw [encode_big hs h2] at h; exact absurd (by decide) h
section
variable {a b c u k : Int}
theorem unit_fine (h : ¬ (unit a b c).2 ≠ 0) : (1 ≤ a ∧ a ≤ 4 ∧ 1 ≤ b ∧ b ≤ 65535 ∧ 1 ≤ c ∧ c ≤ 65535) ∧ (unit a b c).1 = (b * 4 + a - 1) * 65536 + c := by
  by_cases h1 : 1 ≤ a ∧ a ≤ 4 ∧ 1 ≤ b ∧ b ≤ 65535 ∧ 1 ≤ c ∧ c ≤ 65535
  · exact ⟨h1, by rw [unit_ok h1]⟩
  · rw [unit_no h1] at h; exact absurd (by decide) h
theorem unit_err (h : (unit a b c).2 ≠ 0) : unit a b c = (0, 2) := by
  by_cases h1 : 1 ≤ a ∧ a ≤ 4 ∧ 1 ≤ b ∧ b ≤ 65535 ∧ 1 ≤ c ∧ c ≤ 65535
  · rw [unit_ok h1] at h; exact absurd rfl h
  · exact unit_no h1
theorem unit_parts (h : ¬ (unit a b c).2 ≠ 0) : parts (unit a b c).1 = (a, b, c, true) := by
  obtain ⟨h1, h2⟩ := unit_fine h
  rw [h2, parts_ok (by omega)]
  refine Prod.ext ?_ (Prod.ext ?_ (Prod.ext ?_ rfl))
  · show ((b * 4 + a - 1) * 65536 + c) / 65536 % 4 + 1 = a; omega
  · show ((b * 4 + a - 1) * 65536 + c) / 65536 / 4 = b; omega
  · show ((b * 4 + a - 1) * 65536 + c) % 65536 = c; omega
theorem unit_next (h : ¬ (unit a b c).2 ≠ 0) (h2 : (decide ((unit 1 (b + 1) 1).2 = 0) && decide ((unit 1 (b + 1) 1).1 ≤ (unit a b c).1)) = true) : False := by
  have ⟨h3, h4⟩ := R01.and_t h2
  have h5 := unit_fine h
  have h6 := unit_fine (a := 1) (b := b + 1) (c := 1) (by omega)
  omega
theorem parts_cases (u : Int) : (parts u = (0, 0, 0, false) ∧ (u < 1 ∨ u % 65536 = 0 ∨ u / 65536 / 4 < 1 ∨ 65535 < u / 65536 / 4)) ∨ (parts u = (u / 65536 % 4 + 1, u / 65536 / 4, u % 65536, true) ∧ ¬ (u < 1 ∨ u % 65536 = 0 ∨ u / 65536 / 4 < 1 ∨ 65535 < u / 65536 / 4)) := by
  by_cases h : u < 1 ∨ u % 65536 = 0 ∨ u / 65536 / 4 < 1 ∨ 65535 < u / 65536 / 4
  · exact .inl ⟨parts_no h, h⟩
  · exact .inr ⟨parts_ok h, h⟩
theorem parses_no (h : (parts u).2.2.2 = false) : ((((decide ((parts u).1 = 0)) && (decide ((parts u).2.1 = 0))) && (decide ((parts u).2.2.1 = 0))) && (((decide (u < 262145)) || (decide (17179869183 < u))) || (decide (u % 65536 = 0)))) = true := by
  rcases parts_cases u with ⟨e, h1⟩ | ⟨e, h1⟩
  · rw [e]
    show (true && (((decide (u < 262145)) || (decide (17179869183 < u))) || (decide (u % 65536 = 0)))) = true
    simp only [Bool.true_and, Bool.or_eq_true, decide_eq_true_eq]
    omega
  · rw [e] at h; cases h
theorem parses_ok (h : (parts u).2.2.2 = true) : unit (parts u).1 (parts u).2.1 (parts u).2.2.1 = (u, 0) := by
  rcases parts_cases u with ⟨e, h1⟩ | ⟨e, h1⟩
  · rw [e] at h; cases h
  · rw [e]
    show unit (u / 65536 % 4 + 1) (u / 65536 / 4) (u % 65536) = (u, 0)
    rw [unit_ok (by omega)]
    refine Prod.ext ?_ rfl
    show (u / 65536 / 4 * 4 + (u / 65536 % 4 + 1) - 1) * 65536 + u % 65536 = u
    omega
end
/-! the example -/
def exA : Change := Change.mk 1 3 [107] [] []
def exB : Change := Change.mk 3 4 [] [] []
theorem ex_num1 : encn 7 = [7] := by rw [encn_nat (by decide) (by decide)]; exact R01.num_lt (by decide)
theorem ex_num2 : encn 262145 = [129, 128, 16] := by
  rw [encn_nat (by decide) (by decide)]
  show R01.num 262145 = _
  rw [R01.num_ge (by decide), R01.num_ge (by decide), R01.num_lt (by decide)]; rfl
theorem ex_small {n : Nat} (h : n < 128) : encn n = [UInt8.ofNat n] := by rw [encn_nat (by omega) (by omega)]; exact R01.num_lt h
theorem ex_enc : enc 7 262145 [exA, exB] = [7, 129, 128, 16, 2, 1, 3, 1, 107, 0, 0, 3, 4, 0, 0, 0] := by
  have t0 : R01.text [] = [0] := by unfold R01.text; rw [R01.num_lt (by decide)]; rfl
  have t1 : R01.text [107] = [1, 107] := by unfold R01.text; rw [R01.num_lt (by decide)]; rfl
  have n1 : encn 1 = [1] := ex_small (n := 1) (by decide)
  have n2 : encn 2 = [2] := ex_small (n := 2) (by decide)
  have n3 : encn 3 = [3] := ex_small (n := 3) (by decide)
  have n4 : encn 4 = [4] := ex_small (n := 4) (by decide)
  unfold enc encC exA exB
  simp only [List.flatMap_cons, List.flatMap_nil, t0, t1, n1, n3, n4, ex_num1, ex_num2, List.length_cons, List.length_nil]
  rw [show encn ((0 + 1 + 1 : Nat) : Int) = [2] from n2]
  rfl
theorem ex_sound : sound 7 262145 [exA, exB] = true := by decide +kernel
theorem ex_encode : encode 7 262145 [exA, exB] = ([7, 129, 128, 16, 2, 1, 3, 1, 107, 0, 0, 3, 4, 0, 0, 0], 0) := by
  rw [encode_ok ex_sound (by rw [ex_enc]; decide), ex_enc]
theorem ex_decode : decode [7, 129, 128, 16, 2, 1, 3, 1, 107, 0, 0, 3, 4, 0, 0, 0] = (7, 262145, [exA, exB], 0) := by
  have := decode_enc ex_sound (by rw [ex_enc]; decide)
  rwa [ex_enc] at this
theorem ex_text1 : text exA = [101, 114, 97, 115, 101, 32, 51, 32, 54, 98] := by
  rw [text1 (by decide +kernel) rfl]
  show _ ++ _ ++ Lib.decDigits 3 ++ _ = _
  rw [dec_small (by decide)]; rfl
theorem ex_text2 : text exB = [101, 109, 112, 116, 121, 32, 52] := by
  rw [text3 (by decide +kernel) rfl]
  show _ ++ _ ++ Lib.decDigits 4 = _
  rw [dec_small (by decide)]; rfl
theorem ex_unit : unit 1 1 1 = (262145, 0) := rfl
theorem ex_encode_ : encode 7 262145 [Change.mk 1 3 [107] [] [], Change.mk 3 4 [] [] []] = ([7, 129, 128, 16, 2, 1, 3, 1, 107, 0, 0, 3, 4, 0, 0, 0], 0) := ex_encode
theorem ex_decode_ : decode [7, 129, 128, 16, 2, 1, 3, 1, 107, 0, 0, 3, 4, 0, 0, 0] = (7, 262145, [Change.mk 1 3 [107] [] [], Change.mk 3 4 [] [] []], 0) := ex_decode
theorem ex_text1_ : text (Change.mk 1 3 [107] [] []) = [101, 114, 97, 115, 101, 32, 51, 32, 54, 98] := ex_text1
theorem ex_text2_ : text (Change.mk 3 4 [] [] []) = [101, 109, 112, 116, 121, 32, 52] := ex_text2
theorem ex_idn : idn 262145 2 = (4194322, 0) := rfl
theorem ex_creator : creator 4194322 = 262145 := rfl
theorem twice_bad {x y : Int} (h : (decide (x ≠ x) || decide (y ≠ y)) = true) : False := by simp at h
theorem ids_ok {u k w : Int} (h : 1 ≤ u ∧ u ≤ 68719476735 ∧ 0 ≤ k ∧ k ≤ 15) (hw : creator u = w) : (((((decide ((idn u k).2 = 0)) && (decide ((idn u k).1 = (16 * u) + k))) && (decide (creator (idn u k).1 = u))) && (decide (creator u = w))) && true) = true := by
  have hc : creator (16 * u + k) = u := by rw [creator_ok (by omega)]; omega
  rw [idn_ok h]
  dsimp only
  rw [hc, hw]
  simp
theorem encodes_bad {num unit : Int} {ch : List Change} (h : (((decide ((encode num unit ch).1 ≠ (encode num unit ch).1)) || (decide ((encode num unit ch).2 ≠ (encode num unit ch).2))) || (decide (((sound num unit ch) && (decide (((enc num unit ch).length : Int) ≤ 16384))) ≠ (decide ((encode num unit ch).2 = 0))))) = true) : False := by
  rw [valid_enc] at h
  simp at h
end R47
end Go.Proofs.YtknibpmmjhmjeaaDoor
