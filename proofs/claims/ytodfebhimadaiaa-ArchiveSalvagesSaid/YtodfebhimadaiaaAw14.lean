/- Aw14: the example of the chapter. -/
import Derived.Test.YtodfebhimadaiaaCr14
namespace Go.Proofs.Ytodfebhimadaiaa
open Go.GV
namespace R14
theorem frame_len {up : UInt32 → Bytes → UInt32} {n : Int} {a b : Bool} {d : Bytes} (h : ¬ (n < 0 ∨ 65535 < n ∨ d.length < 1 ∨ 56 < d.length)) : (frame up n a b d).length = 64 := by
  unfold frame
  rw [if_neg h]
  simp only [List.length_append, R02.le_length, R01.padded_length, List.length_cons, List.length_nil]
  omega
theorem enc_small {x : Int} (h : 0 ≤ x) (h2 : x < 128) : (enc x).length = 1 := by
  unfold enc
  have : (UInt64.ofInt x).toNat < 128 := by
    simp only [UInt64.ofInt, UInt64.toNat_ofNat']
    omega
  rw [R01.num_lt this]; rfl
abbrev d0 : DataSet := (DataSet.mk 0 0 0 0 0 0 0 0 0 0 0 0 0 0 false 0 [] [] 0 0 false)
theorem first0 : (first d0 0 0).length = 23 := by
  have h0 : (enc 0).length = 1 := enc_small (by decide) (by decide)
  have ht : (R01.text []).length = 1 := by
    unfold R01.text
    rw [R01.num_lt (by decide)]; rfl
  unfold first nums
  simp only [List.length_append, List.flatMap_cons, List.flatMap_nil, List.length_nil, h0, ht, R01.bool_len]
theorem size0 (up : UInt32 → Bytes → UInt32) : (encode up d0 0 []).length = 64 := by
  have hv : valid d0 0 [] = true := by decide
  unfold encode
  rw [hv, if_pos rfl]
  show ((frames up [first d0 0 (([] : List Pair).length : Int)]).flatten).length = 64
  have hl : (first d0 0 (([] : List Pair).length : Int)).length = 23 := first0
  generalize first d0 0 (([] : List Pair).length : Int) = x at hl
  unfold frames itemF chunks
  simp only [List.foldl_cons, List.foldl_nil, hl, List.nil_append]
  show ([chunk up 0 x 0] : List Bytes).flatten.length = 64
  rw [List.flatten_cons, List.flatten_nil, List.append_nil]
  unfold chunk
  rw [hl]
  refine frame_len ?_
  have : (sub x (56 * 0) (min 23 (56 * 0 + 56))).length = 23 := by rw [sub_length _ _ _ (by rw [hl]; decide)]; rfl
  rw [this]
  decide
theorem frame_head {up : UInt32 → Bytes → UInt32} : (frame up 300 true true [97, 98]).take 7 = [44, 1, 3, 2, 97, 98, 0] := by
  unfold frame
  rw [if_neg (by decide)]
  rfl
theorem awake_eq : (decide ((((frame R02.updateN 300 true true [97, 98]).length : Nat) : Int) = 64) && decide (sub (frame R02.updateN 300 true true [97, 98]) 0 7 = [44, 1, 3, 2, 97, 98, 0]) && decide ((((encode R02.updateN d0 0 []).length : Nat) : Int) = 64)) = true := by
  rw [frame_len (by decide), size0]
  have : sub (frame R02.updateN 300 true true [97, 98]) 0 7 = [44, 1, 3, 2, 97, 98, 0] := by unfold sub; rw [List.drop_zero]; exact frame_head
  rw [this]
  decide
end R14
end Go.Proofs.Ytodfebhimadaiaa
