/- Da14c: ReadFrame reads what Frame writes; a damaged frame is not a frame. -/
import Derived.Test.YtodfebhimadaiaaDa14b
namespace Go.Proofs.Ytodfebhimadaiaa
open Go.GV
namespace R14
theorem frame_good {up : UInt32 → Bytes → UInt32} {n : Int} {a b : Bool} {d : Bytes} (h : ¬ (n < 0 ∨ 65535 < n ∨ d.length < 1 ∨ 56 < d.length)) :
    ∃ z f, frame up n a b d = UInt8.ofInt n :: UInt8.ofInt (n / 256) :: marks a b :: UInt8.ofNat d.length :: (d ++ List.replicate z 0 ++ R02.le (up 0 f)) := by
  refine ⟨(60 : Int).toNat - (([UInt8.ofInt n, UInt8.ofInt (n / 256), marks a b, UInt8.ofNat d.length] ++ d) : Bytes).length, R01.padded ([UInt8.ofInt n, UInt8.ofInt (n / 256), marks a b, UInt8.ofNat d.length] ++ d) 60, ?_⟩
  unfold frame
  rw [if_neg h]
  unfold R01.padded
  simp only [List.cons_append, List.nil_append, List.append_assoc]
theorem marks_get (a b : Bool) : decide (marks a b % 2 = 1) = a ∧ decide ((2 : UInt8) ≤ marks a b) = b ∧ marks a b ≤ 3 := by
  cases a <;> cases b <;> decide
theorem ofInt_get {n : Int} (h0 : 0 ≤ n) (h1 : n ≤ 65535) : (((UInt8.ofInt n).toNat + 256 * (UInt8.ofInt (n / 256)).toNat : Nat) : Int) = n := by
  simp only [UInt8.ofInt, UInt8.toNat_ofNat']
  omega
theorem len_get {d : Bytes} (h : d.length ≤ 56) : (UInt8.ofNat d.length).toNat = d.length := by
  simp only [UInt8.toNat_ofNat']; omega
theorem read_back {up : UInt32 → Bytes → UInt32} {n : Int} {a b : Bool} {d : Bytes} (h : ¬ (n < 0 ∨ 65535 < n ∨ d.length < 1 ∨ 56 < d.length)) :
    rN (frame up n a b d) = n ∧ rA (frame up n a b d) = a ∧ rB (frame up n a b d) = b ∧ rD (frame up n a b d) = d ∧ rOk up (frame up n a b d) = true := by
  have hl := frame_len (up := up) (a := a) (b := b) h
  obtain ⟨z, f, hf⟩ := frame_good (up := up) (a := a) (b := b) h
  have hm := marks_get a b
  have hN : rN (frame up n a b d) = n := by
    unfold rN; rw [hf]; exact ofInt_get (by omega) (by omega)
  have hA : rA (frame up n a b d) = a := by unfold rA; rw [hf]; exact hm.1
  have hB : rB (frame up n a b d) = b := by unfold rB; rw [hf]; exact hm.2.1
  have hD : rD (frame up n a b d) = d := by
    unfold rD; rw [hf]
    show sub _ 4 (4 + (UInt8.ofNat d.length).toNat) = d
    rw [len_get (by omega)]
    unfold sub
    rw [Nat.add_comm 4 d.length]
    simp only [List.take_succ_cons, List.drop_succ_cons, List.drop_zero]
    rw [List.append_assoc, List.take_append_of_le_length (Nat.le_refl _), List.take_length]
  refine ⟨hN, hA, hB, hD, ?_⟩
  unfold rOk
  rw [hN, hA, hB, hD, decide_eq_true rfl, Bool.and_true]
  simp only [rPre, Bool.and_eq_true, decide_eq_true_eq]
  refine ⟨⟨⟨hl, ?_⟩, ?_⟩, ?_⟩
  · rw [hf]; exact hm.2.2
  · rw [hf]
    show (1 : UInt8) ≤ UInt8.ofNat d.length
    rw [UInt8.le_iff_toNat_le, len_get (by omega)]
    show 1 ≤ d.length; omega
  · rw [hf]
    show UInt8.ofNat d.length ≤ (56 : UInt8)
    rw [UInt8.le_iff_toNat_le, len_get (by omega)]
    show d.length ≤ 56; omega
theorem rOk_residue {t : Bytes} (h : rOk R02.update t = true) : R02.pB (BitVec.allOnes 32) t = R02.iB 32 (BitVec.allOnes 32) ∧ t.length = 64 := by
  unfold rOk at h
  simp only [Bool.and_eq_true, decide_eq_true_eq, rPre] at h
  obtain ⟨⟨⟨⟨hl, h2⟩, h3⟩, h4⟩, hf⟩ := h
  refine ⟨?_, hl⟩
  rw [← hf]
  rw [← hf] at hl
  unfold frame at hl ⊢
  split
  · next hbad => rw [if_pos hbad] at hl; simp at hl
  · exact R02.residue _
theorem damage {n : UInt16} {a b : Bool} {d : Bytes} {p : Nat} {m : UInt32} (h1 : 1 ≤ d.length) (h2 : d.length ≤ 56) (hp : p ≤ 60) (hm : m ≠ 0) : rfE R02.updateN (R02.xorAt (frame R02.updateN (n.toNat : Int) a b d) p (R02.le m)) = 11 := by
  rw [R02.updateN_eq]
  have hn := n.toNat_lt
  have hb := read_back (up := R02.update) (n := (n.toNat : Int)) (a := a) (b := b) (d := d) (by omega)
  have hs := rOk_residue hb.2.2.2.2
  unfold rfE
  cases h : rOk R02.update (R02.xorAt (frame R02.update (n.toNat : Int) a b d) p (R02.le m)) with
  | false => rfl
  | true =>
    exfalso
    have ht := rOk_residue h
    exact R02.burst (by rw [hs.2]; omega) hm (ht.1.trans hs.1.symm)
theorem damage_bad {n : UInt16} {a b : Bool} {d : Bytes} (h1 : 1 ≤ d.length) (h2 : d.length ≤ 56)
    (h : (((((((frame R02.updateN (n.toNat : Int) a b d).length : Int) ≠ 64 ∨ rfN R02.updateN (frame R02.updateN (n.toNat : Int) a b d) ≠ (n.toNat : Int)) ∨ rfA R02.updateN (frame R02.updateN (n.toNat : Int) a b d) ≠ a) ∨ rfB R02.updateN (frame R02.updateN (n.toNat : Int) a b d) ≠ b) ∨ rfD R02.updateN (frame R02.updateN (n.toNat : Int) a b d) ≠ d) ∨ rfE R02.updateN (frame R02.updateN (n.toNat : Int) a b d) ≠ 0)) : False := by
  have hn := n.toNat_lt
  have hb := read_back (up := R02.updateN) (n := (n.toNat : Int)) (a := a) (b := b) (d := d) (by omega)
  have hl := frame_len (up := R02.updateN) (n := (n.toNat : Int)) (a := a) (b := b) (d := d) (by omega)
  obtain ⟨hN, hA, hB, hD, hO⟩ := hb
  simp only [rfN, rfA, rfB, rfD, rfE, hO, if_true, hN, hA, hB, hD, hl] at h
  simp at h
end R14
end Go.Proofs.Ytodfebhimadaiaa
