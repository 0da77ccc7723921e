/- contracts C14g -/
import Derived.Test.YtodfebhimadaiaaC14f
import Derived.Test.YtodfebhimadaiaaCr14
import Derived.Test.YtodfebhimadaiaaAw14
namespace Go.Proofs.Ytodfebhimadaiaa
open Go.GV
set_option linter.unusedVariables false
set_option linter.unusedSimpArgs false
set_option maxRecDepth 20000 in
theorem f10_ok (w : World) : Calls Try.prog 10 #[] w (Gives [] w fun v L => v = vB true ∧ L = []) := by
  refine calls_J [] 16 Try.func10 rfl Try.ntmps10 [] rfl rfl (Give.nil w) ?_
  refine J_seq (J_region ?_)
  refine jr_ (vB false) ?_
  refine JO_nil (JX_then (J_seq (J_region ?_)))
  refine JO_call [] [] [] rfl trivial (fun _ => x_call Ty.ca13 rfl) (fun _ h => h) (fun _ h => by cases h) (fun w hS => f13_ok 300 true true [97, 98] w hy_) ?_
  rintro _ _ ⟨rfl, rfl⟩
  have ha1 := R14.frame_le R02.updateN 300 true true [97, 98]
  try simp only [List.length_cons, List.length_nil, Nat.zero_add, Nat.reduceAdd, Nat.reduceMul] at ha1
  refine jr_ (vS (R14.frame R02.updateN 300 true true [97, 98])) ?_
  refine JO_nil (JX_then (J_seq (J_region ?_)))
  refine jr_ (vS (R14.frame R02.updateN 300 true true [97, 98])) ?_
  refine JO_read (vI (((R14.frame R02.updateN 300 true true [97, 98]).length : Nat) : Int)) rfl trivial (fun _ _ => x_len_s rfl Try.underlying9) ?_
  refine JO_read (vB (decide ((((R14.frame R02.updateN 300 true true [97, 98]).length : Nat) : Int) = 64))) rfl trivial (fun _ _ => x_eql_i rfl rfl) ?_
  refine jr_ (vB (decide ((((R14.frame R02.updateN 300 true true [97, 98]).length : Nat) : Int) = 64))) ?_
  refine JO_cut (X := Bool) 4 (fun z => z = ((decide ((((R14.frame R02.updateN 300 true true [97, 98]).length : Nat) : Int) = 64)) && (decide (sub (R14.frame R02.updateN 300 true true [97, 98]) 0 7 = ([44, 1, 3, 2, 97, 98, 0] : Bytes))))) (fun z => [(0, vB false), (10, vB z)]) (fun _ => []) ?_ ?_
  · rcases Bool.eq_false_or_eq_true (decide ((((R14.frame R02.updateN 300 true true [97, 98]).length : Nat) : Int) = 64)) with g3 | g3
    · have g3r := g3
      have g3r := of_decide_eq_true g3r
      refine JO_read (vS (R14.frame R02.updateN 300 true true [97, 98])) rfl ⟨_, rfl, g3⟩ (fun _ _ => rfl) ?_
      refine JO_read (vS (sub (R14.frame R02.updateN 300 true true [97, 98]) 0 7)) rfl ⟨_, rfl, g3⟩ (fun _ _ => x_sub_s (lo := 0) (hi := 7) rfl Try.underlying9 (.inr ⟨rfl, rfl⟩) (.inl rfl) lt_ (by first | omega | (simp only [sub, List.length_drop, List.length_take]; omega) | (simp; omega) | (simp_all; omega))) ?_
      refine JO_read (vB (decide (sub (R14.frame R02.updateN 300 true true [97, 98]) 0 7 = ([44, 1, 3, 2, 97, 98, 0] : Bytes)))) rfl ⟨_, rfl, g3⟩ (fun _ _ => x_eql_s rfl rfl) ?_
      refine JO_read (vB (decide (sub (R14.frame R02.updateN 300 true true [97, 98]) 0 7 = ([44, 1, 3, 2, 97, 98, 0] : Bytes)))) rfl trivial (fun _ _ => x_pick_t rfl g3 rfl) ?_
      refine JO_nil (JX_cut (decide (sub (R14.frame R02.updateN 300 true true [97, 98]) 0 7 = ([44, 1, 3, 2, 97, 98, 0] : Bytes))) (by rw [g3]; simp) ⟨rfl, rfl, trivial⟩ (fun _ h => h))
    · have g3r := g3
      have g3r := of_decide_eq_false g3r
      refine JO_shun rfl ⟨_, rfl, g3⟩ ?_
      refine JO_shun rfl ⟨_, rfl, g3⟩ ?_
      refine JO_shun rfl ⟨_, rfl, g3⟩ ?_
      refine JO_read (vB false) rfl trivial (fun _ _ => x_pick_f rfl g3 rfl) ?_
      refine JO_nil (JX_cut (false) (by rw [g3]; simp) ⟨rfl, rfl, trivial⟩ (fun _ h => h))
  rintro z2 rfl
  refine jr_ (vB ((decide ((((R14.frame R02.updateN 300 true true [97, 98]).length : Nat) : Int) = 64)) && (decide (sub (R14.frame R02.updateN 300 true true [97, 98]) 0 7 = ([44, 1, 3, 2, 97, 98, 0] : Bytes))))) ?_
  refine JO_cut (X := Bool) 4 (fun z => z = (((decide ((((R14.frame R02.updateN 300 true true [97, 98]).length : Nat) : Int) = 64)) && (decide (sub (R14.frame R02.updateN 300 true true [97, 98]) 0 7 = ([44, 1, 3, 2, 97, 98, 0] : Bytes)))) && (decide ((((R14.encode R02.updateN (DataSet.mk 0 0 0 0 0 0 0 0 0 0 0 0 0 0 false 0 [] [] 0 0 false) 0 []).length : Nat) : Int) = 64)))) (fun z => [(0, vB false), (15, vB z)]) (fun _ => []) ?_ ?_
  · rcases Bool.eq_false_or_eq_true ((decide ((((R14.frame R02.updateN 300 true true [97, 98]).length : Nat) : Int) = 64)) && (decide (sub (R14.frame R02.updateN 300 true true [97, 98]) 0 7 = ([44, 1, 3, 2, 97, 98, 0] : Bytes)))) with g5 | g5
    · have g5r := g5
      have ⟨g5r, h6⟩ := band_true g5r
      have g5r := of_decide_eq_true g5r
      have h6 := of_decide_eq_true h6
      refine JO_read (Value.agg #[vI 0, vI 0, vI 0, vI 0, vI 0, vI 0, vI 0, vI 0, vI 0, vI 0, vI 0, vI 0, vI 0, vI 0, vB false, vI 0, vS [], vS [], vI 0, vI 0, vB false, vI 0, Value.slice none 0 0]) rfl ⟨_, rfl, g5⟩ (fun _ _ => x_build (by kernel_rfl)) ?_
      refine JO_call [] [] [] rfl ⟨_, rfl, g5⟩ (fun _ => x_call Ty.ca24 rfl) (fun _ h => h) (fun _ h => by cases h) (fun w hS => f24_ok (DataSet.mk 0 0 0 0 0 0 0 0 0 0 0 0 0 0 false 0 [] [] 0 0 false) 0 [] none 0 w RO.nil hy_) ?_
      rintro _ _ ⟨rfl, rfl⟩
      refine JO_read (vB (decide ((((R14.encode R02.updateN (DataSet.mk 0 0 0 0 0 0 0 0 0 0 0 0 0 0 false 0 [] [] 0 0 false) 0 []).length : Nat) : Int) = 64))) rfl ⟨_, rfl, g5⟩ (fun _ _ => x_eql_i rfl rfl) ?_
      refine JO_read (vB (decide ((((R14.encode R02.updateN (DataSet.mk 0 0 0 0 0 0 0 0 0 0 0 0 0 0 false 0 [] [] 0 0 false) 0 []).length : Nat) : Int) = 64))) rfl trivial (fun _ _ => x_pick_t rfl g5 rfl) ?_
      refine JO_nil (JX_cut (decide ((((R14.encode R02.updateN (DataSet.mk 0 0 0 0 0 0 0 0 0 0 0 0 0 0 false 0 [] [] 0 0 false) 0 []).length : Nat) : Int) = 64)) (by rw [g5]; simp) ⟨rfl, rfl, trivial⟩ (fun _ h => h))
    · have g5r := g5
      simp only [Bool.and_eq_true, Bool.or_eq_true, Bool.and_eq_false_iff, Bool.or_eq_false_iff, Bool.not_eq_true', Bool.not_eq_false', decide_eq_true_eq, decide_eq_false_iff_not] at g5r
      refine JO_shun rfl ⟨_, rfl, g5⟩ ?_
      refine JO_shun rfl ⟨_, rfl, g5⟩ ?_
      refine JO_shun rfl ⟨_, rfl, g5⟩ ?_
      refine JO_read (vB false) rfl trivial (fun _ _ => x_pick_f rfl g5 rfl) ?_
      refine JO_nil (JX_cut (false) (by rw [g5]; simp) ⟨rfl, rfl, trivial⟩ (fun _ h => h))
  rintro z4 rfl
  refine jr_ (vB (((decide ((((R14.frame R02.updateN 300 true true [97, 98]).length : Nat) : Int) = 64)) && (decide (sub (R14.frame R02.updateN 300 true true [97, 98]) 0 7 = ([44, 1, 3, 2, 97, 98, 0] : Bytes)))) && (decide ((((R14.encode R02.updateN (DataSet.mk 0 0 0 0 0 0 0 0 0 0 0 0 0 0 false 0 [] [] 0 0 false) 0 []).length : Nat) : Int) = 64)))) ?_
  refine JO_nil (JX_then (J_ret ?_))
  refine JX_rets [vB (((decide ((((R14.frame R02.updateN 300 true true [97, 98]).length : Nat) : Int) = 64)) && (decide (sub (R14.frame R02.updateN 300 true true [97, 98]) 0 7 = ([44, 1, 3, 2, 97, 98, 0] : Bytes)))) && (decide ((((R14.encode R02.updateN (DataSet.mk 0 0 0 0 0 0 0 0 0 0 0 0 0 0 false 0 [] [] 0 0 false) 0 []).length : Nat) : Int) = 64)))] (vB (((decide ((((R14.frame R02.updateN 300 true true [97, 98]).length : Nat) : Int) = 64)) && (decide (sub (R14.frame R02.updateN 300 true true [97, 98]) 0 7 = ([44, 1, 3, 2, 97, 98, 0] : Bytes)))) && (decide ((((R14.encode R02.updateN (DataSet.mk 0 0 0 0 0 0 0 0 0 0 0 0 0 0 false 0 [] [] 0 0 false) 0 []).length : Nat) : Int) = 64)))) Try.results10 (fun w h => ⟨rfl, trivial⟩) rfl [] (fun _ h => h) ⟨?_, ?_⟩
  · have e_x0 : (((decide ((((R14.frame R02.updateN 300 true true [97, 98]).length : Nat) : Int) = 64)) && (decide (sub (R14.frame R02.updateN 300 true true [97, 98]) 0 7 = ([44, 1, 3, 2, 97, 98, 0] : Bytes)))) && (decide ((((R14.encode R02.updateN (DataSet.mk 0 0 0 0 0 0 0 0 0 0 0 0 0 0 false 0 [] [] 0 0 false) 0 []).length : Nat) : Int) = 64)) : Bool) = true := R14.awake_eq
    exact congrArg (fun (x0 : Bool) => vB x0) e_x0
  · rfl
end Go.Proofs.Ytodfebhimadaiaa
