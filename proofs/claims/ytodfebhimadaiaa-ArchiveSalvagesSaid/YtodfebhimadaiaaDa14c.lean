/- Da14c: ReadFrame reads what Frame writes; a damaged frame is not a frame. -/
import Derived.Test.YtodfebhimadaiaaDa14b
import Derived.Test.YtodfebhimadaiaaFr14
namespace Go.Proofs.Ytodfebhimadaiaa
open Go.GV
namespace R14
theorem rOk_residue {t : Bytes} (h : rOk R02.update t = true) : R02.pB (BitVec.allOnes 32) t = R02.iB 32 (BitVec.allOnes 32) ∧ t.length = 64 := by
  unfold rOk at h
  simp only [Bool.and_eq_true, decide_eq_true_eq, rPre] at h
  obtain ⟨⟨⟨⟨hl, h2⟩, h3⟩, h4⟩, hf⟩ := h
  refine ⟨?_, hl⟩
  rw [← hf]
  rw [← hf] at hl
  unfold frame at hl ⊢
  split
  · next hbad => rw [if_pos hbad] at hl; simp at hl
  · exact R02.residue _
theorem damage {n : UInt16} {a b : Bool} {d : Bytes} {p : Nat} {m : UInt32} (h1 : 1 ≤ d.length) (h2 : d.length ≤ 56) (hp : p ≤ 60) (hm : m ≠ 0) : rfE R02.updateN (R02.xorAt (frame R02.updateN (n.toNat : Int) a b d) p (R02.le m)) = 11 := by
  rw [R02.updateN_eq]
  have hn := n.toNat_lt
  have hb := read_back (up := R02.update) (n := (n.toNat : Int)) (a := a) (b := b) (d := d) (by omega)
  have hs := rOk_residue hb.2.2.2.2
  unfold rfE
  cases h : rOk R02.update (R02.xorAt (frame R02.update (n.toNat : Int) a b d) p (R02.le m)) with
  | false => rfl
  | true =>
    exfalso
    have ht := rOk_residue h
    exact R02.burst (by rw [hs.2]; omega) hm (ht.1.trans hs.1.symm)
end R14
end Go.Proofs.Ytodfebhimadaiaa
