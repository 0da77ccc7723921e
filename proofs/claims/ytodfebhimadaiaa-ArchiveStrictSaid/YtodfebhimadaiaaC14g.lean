/- contracts C14g -/
import Derived.Test.YtodfebhimadaiaaC14f
import Derived.Test.YtodfebhimadaiaaCr14
import Derived.Test.YtodfebhimadaiaaAw14
namespace Go.Proofs.Ytodfebhimadaiaa
open Go.GV
set_option linter.unusedVariables false
set_option linter.unusedSimpArgs false

set_option maxRecDepth 20000 in
theorem f10_ok (w : World) : Calls Try.prog 10 #[] w (Gives [] w fun v L => v = vB true ∧ L = []) := by
  refine calls_J [] 16 Try.func10 rfl Try.ntmps10 [] rfl rfl (Give.nil w) ?_
  refine J_seq ?_
  refine J_region ?_
  refine JO_read (vB false) rfl trivial (fun _ _ => rfl) ?_
  refine JO_nil ?_
  refine JX_then ?_
  refine J_seq ?_
  refine J_region ?_
  refine JO_call [] [] [] rfl trivial (fun _ => x_call Ty.ca13 rfl) (fun _ h => h) (fun _ h => by cases h) (fun w hS => f13_ok 300 true true [97, 98] w hy_) ?_
  rintro _ _ ⟨rfl, rfl⟩
  have ha1 := R14.frame_le R02.updateN 300 true true [97, 98]
  try simp only [List.length_cons, List.length_nil, Nat.zero_add, Nat.reduceAdd, Nat.reduceMul] at ha1
  refine JO_read (vS (R14.frame R02.updateN 300 true true [97, 98])) rfl trivial (fun _ _ => rfl) ?_
  refine JO_nil ?_
  refine JX_then ?_
  refine J_seq ?_
  refine J_region ?_
  refine JO_read (vS (R14.frame R02.updateN 300 true true [97, 98])) rfl trivial (fun _ _ => rfl) ?_
  refine JO_read (vI (((R14.frame R02.updateN 300 true true [97, 98]).length : Nat) : Int)) rfl trivial (fun _ _ => x_len_s rfl Try.underlying9) ?_
  refine JO_read (vB (decide ((((R14.frame R02.updateN 300 true true [97, 98]).length : Nat) : Int) = 64))) rfl trivial (fun _ _ => x_eql_i rfl rfl) ?_
  refine JO_read (vB (decide ((((R14.frame R02.updateN 300 true true [97, 98]).length : Nat) : Int) = 64))) rfl trivial (fun _ _ => rfl) ?_
  refine JO_cut (X := Bool) 4 (fun z => z = ((decide ((((R14.frame R02.updateN 300 true true [97, 98]).length : Nat) : Int) = 64)) && (decide (sub (R14.frame R02.updateN 300 true true [97, 98]) 0 7 = ([44, 1, 3, 2, 97, 98, 0] : Bytes))))) (fun z => [(0, vB false), (10, vB z)]) (fun _ => []) ?_ ?_
  · rcases Bool.eq_false_or_eq_true (decide ((((R14.frame R02.updateN 300 true true [97, 98]).length : Nat) : Int) = 64)) with g3 | g3
    · have g3r := g3
      have g3r := of_decide_eq_true g3r
      refine JO_read (vS (R14.frame R02.updateN 300 true true [97, 98])) rfl ⟨_, rfl, g3⟩ (fun _ _ => rfl) ?_
      refine JO_read (vS (sub (R14.frame R02.updateN 300 true true [97, 98]) 0 7)) rfl ⟨_, rfl, g3⟩ (fun _ _ => x_sub_s (lo := 0) (hi := 7) rfl Try.underlying9 (.inr ⟨rfl, rfl⟩) (.inl rfl) lt_ (by first | omega | (simp only [sub, List.length_drop, List.length_take]; omega) | (simp; omega) | (simp_all; omega))) ?_
      refine JO_read (vB (decide (sub (R14.frame R02.updateN 300 true true [97, 98]) 0 7 = ([44, 1, 3, 2, 97, 98, 0] : Bytes)))) rfl ⟨_, rfl, g3⟩ (fun _ _ => x_eql_s rfl rfl) ?_
      refine JO_read (vB (decide (sub (R14.frame R02.updateN 300 true true [97, 98]) 0 7 = ([44, 1, 3, 2, 97, 98, 0] : Bytes)))) rfl trivial (fun _ _ => x_pick_t rfl g3 rfl) ?_
      refine JO_nil (JX_cut (decide (sub (R14.frame R02.updateN 300 true true [97, 98]) 0 7 = ([44, 1, 3, 2, 97, 98, 0] : Bytes))) (by rw [g3]; simp) ⟨rfl, rfl, trivial⟩ (fun _ h => h))
    · have g3r := g3
      have g3r := of_decide_eq_false g3r
      refine JO_shun rfl ⟨_, rfl, g3⟩ ?_
      refine JO_shun rfl ⟨_, rfl, g3⟩ ?_
      refine JO_shun rfl ⟨_, rfl, g3⟩ ?_
      refine JO_read (vB false) rfl trivial (fun _ _ => x_pick_f rfl g3 rfl) ?_
      refine JO_nil (JX_cut (false) (by rw [g3]; simp) ⟨rfl, rfl, trivial⟩ (fun _ h => h))
  rintro z2 rfl
  refine JO_read (vB ((decide ((((R14.frame R02.updateN 300 true true [97, 98]).length : Nat) : Int) = 64)) && (decide (sub (R14.frame R02.updateN 300 true true [97, 98]) 0 7 = ([44, 1, 3, 2, 97, 98, 0] : Bytes))))) rfl trivial (fun _ _ => rfl) ?_
  refine JO_cut (X := Bool) 4 (fun z => z = (((decide ((((R14.frame R02.updateN 300 true true [97, 98]).length : Nat) : Int) = 64)) && (decide (sub (R14.frame R02.updateN 300 true true [97, 98]) 0 7 = ([44, 1, 3, 2, 97, 98, 0] : Bytes)))) && (decide ((((R14.encode R02.updateN (DataSet.mk 0 0 0 0 0 0 0 0 0 0 0 0 0 0 false 0 [] [] 0 0 false) 0 []).length : Nat) : Int) = 64)))) (fun z => [(0, vB false), (15, vB z)]) (fun _ => []) ?_ ?_
  · rcases Bool.eq_false_or_eq_true ((decide ((((R14.frame R02.updateN 300 true true [97, 98]).length : Nat) : Int) = 64)) && (decide (sub (R14.frame R02.updateN 300 true true [97, 98]) 0 7 = ([44, 1, 3, 2, 97, 98, 0] : Bytes)))) with g5 | g5
    · have g5r := g5
      have ⟨g5r, h6⟩ := band_true g5r
      have g5r := of_decide_eq_true g5r
      have h6 := of_decide_eq_true h6
      refine JO_read (Value.agg #[vI 0, vI 0, vI 0, vI 0, vI 0, vI 0, vI 0, vI 0, vI 0, vI 0, vI 0, vI 0, vI 0, vI 0, vB false, vI 0, vS [], vS [], vI 0, vI 0, vB false, vI 0, Value.slice none 0 0]) rfl ⟨_, rfl, g5⟩ (fun _ _ => x_build (by kernel_rfl)) ?_
      refine JO_call [] [] [] rfl ⟨_, rfl, g5⟩ (fun _ => x_call Ty.ca24 rfl) (fun _ h => h) (fun _ h => by cases h) (fun w hS => f24_ok (DataSet.mk 0 0 0 0 0 0 0 0 0 0 0 0 0 0 false 0 [] [] 0 0 false) 0 [] none 0 w RO.nil hy_) ?_
      rintro _ _ ⟨rfl, rfl⟩
      refine JO_read (vB (decide ((((R14.encode R02.updateN (DataSet.mk 0 0 0 0 0 0 0 0 0 0 0 0 0 0 false 0 [] [] 0 0 false) 0 []).length : Nat) : Int) = 64))) rfl ⟨_, rfl, g5⟩ (fun _ _ => x_eql_i rfl rfl) ?_
      refine JO_read (vB (decide ((((R14.encode R02.updateN (DataSet.mk 0 0 0 0 0 0 0 0 0 0 0 0 0 0 false 0 [] [] 0 0 false) 0 []).length : Nat) : Int) = 64))) rfl trivial (fun _ _ => x_pick_t rfl g5 rfl) ?_
      refine JO_nil (JX_cut (decide ((((R14.encode R02.updateN (DataSet.mk 0 0 0 0 0 0 0 0 0 0 0 0 0 0 false 0 [] [] 0 0 false) 0 []).length : Nat) : Int) = 64)) (by rw [g5]; simp) ⟨rfl, rfl, trivial⟩ (fun _ h => h))
    · have g5r := g5
      simp only [Bool.and_eq_true, Bool.or_eq_true, Bool.and_eq_false_iff, Bool.or_eq_false_iff, Bool.not_eq_true', Bool.not_eq_false', decide_eq_true_eq, decide_eq_false_iff_not] at g5r
      refine JO_shun rfl ⟨_, rfl, g5⟩ ?_
      refine JO_shun rfl ⟨_, rfl, g5⟩ ?_
      refine JO_shun rfl ⟨_, rfl, g5⟩ ?_
      refine JO_read (vB false) rfl trivial (fun _ _ => x_pick_f rfl g5 rfl) ?_
      refine JO_nil (JX_cut (false) (by rw [g5]; simp) ⟨rfl, rfl, trivial⟩ (fun _ h => h))
  rintro z4 rfl
  refine JO_read (vB (((decide ((((R14.frame R02.updateN 300 true true [97, 98]).length : Nat) : Int) = 64)) && (decide (sub (R14.frame R02.updateN 300 true true [97, 98]) 0 7 = ([44, 1, 3, 2, 97, 98, 0] : Bytes)))) && (decide ((((R14.encode R02.updateN (DataSet.mk 0 0 0 0 0 0 0 0 0 0 0 0 0 0 false 0 [] [] 0 0 false) 0 []).length : Nat) : Int) = 64)))) rfl trivial (fun _ _ => rfl) ?_
  refine JO_nil ?_
  refine JX_then ?_
  refine J_ret ?_
  refine JX_rets [vB (((decide ((((R14.frame R02.updateN 300 true true [97, 98]).length : Nat) : Int) = 64)) && (decide (sub (R14.frame R02.updateN 300 true true [97, 98]) 0 7 = ([44, 1, 3, 2, 97, 98, 0] : Bytes)))) && (decide ((((R14.encode R02.updateN (DataSet.mk 0 0 0 0 0 0 0 0 0 0 0 0 0 0 false 0 [] [] 0 0 false) 0 []).length : Nat) : Int) = 64)))] (vB (((decide ((((R14.frame R02.updateN 300 true true [97, 98]).length : Nat) : Int) = 64)) && (decide (sub (R14.frame R02.updateN 300 true true [97, 98]) 0 7 = ([44, 1, 3, 2, 97, 98, 0] : Bytes)))) && (decide ((((R14.encode R02.updateN (DataSet.mk 0 0 0 0 0 0 0 0 0 0 0 0 0 0 false 0 [] [] 0 0 false) 0 []).length : Nat) : Int) = 64)))) Try.results10 (fun w h => ⟨rfl, trivial⟩) rfl [] (fun _ h => h) ⟨?_, ?_⟩
  · have e_x0 : (((decide ((((R14.frame R02.updateN 300 true true [97, 98]).length : Nat) : Int) = 64)) && (decide (sub (R14.frame R02.updateN 300 true true [97, 98]) 0 7 = ([44, 1, 3, 2, 97, 98, 0] : Bytes)))) && (decide ((((R14.encode R02.updateN (DataSet.mk 0 0 0 0 0 0 0 0 0 0 0 0 0 0 false 0 [] [] 0 0 false) 0 []).length : Nat) : Int) = 64)) : Bool) = true := by
      exact R14.awake_eq
    exact congrArg (fun (x0 : Bool) => vB x0) e_x0
  · rfl

set_option maxRecDepth 20000 in
theorem f3_ok (n : Int) (a : Bool) (b : Bool) (d : Bytes) (s : Bytes) (w : World) : Calls Try.prog 3 #[vI n, vB a, vB b, vS d, vS s] w (Gives [] w fun v L => v = vB true ∧ L = []) := by
  refine calls_J [] 86 Try.func3 rfl Try.ntmps3 [(0, vI n), (1, vB a), (2, vB b), (3, vS d), (4, vS s)] rfl rfl (Give.nil w) ?_
  refine J_seq ?_
  refine J_region ?_
  refine JO_read (vB false) rfl trivial (fun _ _ => rfl) ?_
  refine JO_nil ?_
  refine JX_then ?_
  refine J_seq ?_
  refine J_seq ?_
  refine J_region ?_
  refine JO_call [] [] [] rfl trivial (fun _ => x_call Ty.ca10 rfl) (fun _ h => h) (fun _ h => by cases h) (fun w hS => f10_ok w) ?_
  rintro _ _ ⟨rfl, rfl⟩
  refine JO_read (vB false) rfl trivial (fun _ _ => rfl) ?_
  refine JO_read (vB false) rfl trivial (fun _ _ => rfl) ?_
  refine JO_read (vS d) rfl ⟨_, rfl, rfl⟩ (fun _ _ => rfl) ?_
  refine JO_read (vI ((d.length : Nat) : Int)) rfl ⟨_, rfl, rfl⟩ (fun _ _ => x_len_s rfl Try.underlying9) ?_
  refine JO_read (vB (decide ((100 : Int) < ((d.length : Nat) : Int)))) rfl ⟨_, rfl, rfl⟩ (fun _ _ => x_gtr_i rfl rfl) ?_
  refine JO_read (vB (decide ((100 : Int) < ((d.length : Nat) : Int)))) rfl trivial (fun _ _ => rfl) ?_
  refine JO_read (vB (decide ((100 : Int) < ((d.length : Nat) : Int)))) rfl trivial (fun _ _ => rfl) ?_
  refine JO_cut (X := Bool) 4 (fun z => z = ((decide ((100 : Int) < ((d.length : Nat) : Int))) || (decide ((100 : Int) < ((s.length : Nat) : Int))))) (fun z => [(0, vI n), (1, vB a), (2, vB b), (3, vS d), (4, vS s), (10, vB false), (32, vB z)]) (fun _ => []) ?_ ?_
  · rcases Bool.eq_false_or_eq_true (decide ((100 : Int) < ((d.length : Nat) : Int))) with g2 | g2
    · have g2r := g2
      have g2r := of_decide_eq_true g2r
      refine JO_shun rfl ⟨_, rfl, g2⟩ ?_
      refine JO_shun rfl ⟨_, rfl, g2⟩ ?_
      refine JO_shun rfl ⟨_, rfl, g2⟩ ?_
      refine JO_read (vB true) rfl trivial (fun _ _ => x_pick_t rfl g2 rfl) ?_
      refine JO_nil (JX_cut (true) (by rw [g2]; simp) ⟨rfl, rfl, rfl, rfl, rfl, rfl, rfl, trivial⟩ (fun _ h => h))
    · have g2r := g2
      have g2r := of_decide_eq_false g2r
      refine JO_read (vS s) rfl ⟨_, rfl, g2⟩ (fun _ _ => rfl) ?_
      refine JO_read (vI ((s.length : Nat) : Int)) rfl ⟨_, rfl, g2⟩ (fun _ _ => x_len_s rfl Try.underlying9) ?_
      refine JO_read (vB (decide ((100 : Int) < ((s.length : Nat) : Int)))) rfl ⟨_, rfl, g2⟩ (fun _ _ => x_gtr_i rfl rfl) ?_
      refine JO_read (vB (decide ((100 : Int) < ((s.length : Nat) : Int)))) rfl trivial (fun _ _ => x_pick_f rfl g2 rfl) ?_
      refine JO_nil (JX_cut (decide ((100 : Int) < ((s.length : Nat) : Int))) (by rw [g2]; simp) ⟨rfl, rfl, rfl, rfl, rfl, rfl, rfl, trivial⟩ (fun _ h => h))
  rintro z1 rfl
  refine JO_nil ?_
  refine JX_then ?_
  refine J_cond ((decide ((100 : Int) < ((d.length : Nat) : Int))) || (decide ((100 : Int) < ((s.length : Nat) : Int)))) rfl rfl (fun h3 => ?_) (fun h3 => ?_)
  · simp only [Bool.and_eq_true, Bool.or_eq_true, Bool.and_eq_false_iff, Bool.or_eq_false_iff, Bool.not_eq_true', Bool.not_eq_false', decide_eq_true_eq, decide_eq_false_iff_not] at h3
    refine J_seq ?_
    refine J_region ?_
    refine JO_call [] [] [] rfl trivial (fun _ => x_call Ty.ca10 rfl) (fun _ h => h) (fun _ h => by cases h) (fun w hS => f10_ok w) ?_
    rintro _ _ ⟨rfl, rfl⟩
    refine JO_read (vB true) rfl trivial (fun _ _ => rfl) ?_
    refine JO_nil ?_
    refine JX_then ?_
    refine J_ret ?_
    refine JX_then_ret ?_
    refine JX_rets [vB true] (vB true) Try.results3 (fun w h => ⟨rfl, trivial⟩) rfl [] (fun _ h => h) ⟨?_, ?_⟩
    · rfl
    · rfl
  · have ⟨h3, h4⟩ := bor_false h3
    have h3 := of_decide_eq_false h3
    have h4 := of_decide_eq_false h4
    refine J_skip ?_
    refine JX_then ?_
    refine J_seq ?_
    refine J_region ?_
    refine JO_read (vS s) rfl trivial (fun _ _ => rfl) ?_
    refine JO_call [] [] [] rfl trivial (fun _ => x_call Ty.ca11 rfl) (fun _ h => h) (fun _ h => by cases h) (fun w hS => f11_ok s w hy_) ?_
    rintro _ _ ⟨rfl, rfl⟩
    refine JO_read (Value.tuple #[vI (R14.rfN R02.updateN s), vB (R14.rfA R02.updateN s), vB (R14.rfB R02.updateN s), vS (R14.rfD R02.updateN s), vI (R14.rfE R02.updateN s)]) rfl trivial (fun _ _ => rfl) ?_
    refine JO_read (vI (R14.rfN R02.updateN s)) rfl trivial (fun _ _ => rfl) ?_
    refine JO_read (vB (R14.rfA R02.updateN s)) rfl trivial (fun _ _ => rfl) ?_
    refine JO_read (vB (R14.rfB R02.updateN s)) rfl trivial (fun _ _ => rfl) ?_
    refine JO_read (vS (R14.rfD R02.updateN s)) rfl trivial (fun _ _ => rfl) ?_
    refine JO_read (vI (R14.rfE R02.updateN s)) rfl trivial (fun _ _ => rfl) ?_
    refine JO_read (vI (R14.rfN R02.updateN s)) rfl trivial (fun _ _ => rfl) ?_
    refine JO_read (vB (R14.rfA R02.updateN s)) rfl trivial (fun _ _ => rfl) ?_
    refine JO_read (vB (R14.rfB R02.updateN s)) rfl trivial (fun _ _ => rfl) ?_
    refine JO_read (vS (R14.rfD R02.updateN s)) rfl trivial (fun _ _ => rfl) ?_
    refine JO_read (vI (R14.rfE R02.updateN s)) rfl trivial (fun _ _ => rfl) ?_
    refine JO_nil ?_
    refine JX_then ?_
    refine J_seq ?_
    refine J_region ?_
    refine JO_read (vS s) rfl trivial (fun _ _ => rfl) ?_
    refine JO_call [] [] [] rfl trivial (fun _ => x_call Ty.ca12 rfl) (fun _ h => h) (fun _ h => by cases h) (fun w hS => f12_ok s w hy_) ?_
    rintro _ _ ⟨rfl, rfl⟩
    refine JO_read (Value.tuple #[vI (R14.rfN R02.update s), vB (R14.rfA R02.update s), vB (R14.rfB R02.update s), vS (R14.rfD R02.update s), vI (R14.rfE R02.update s)]) rfl trivial (fun _ _ => rfl) ?_
    refine JO_read (vI (R14.rfN R02.update s)) rfl trivial (fun _ _ => rfl) ?_
    refine JO_read (vB (R14.rfA R02.update s)) rfl trivial (fun _ _ => rfl) ?_
    refine JO_read (vB (R14.rfB R02.update s)) rfl trivial (fun _ _ => rfl) ?_
    refine JO_read (vS (R14.rfD R02.update s)) rfl trivial (fun _ _ => rfl) ?_
    refine JO_read (vI (R14.rfE R02.update s)) rfl trivial (fun _ _ => rfl) ?_
    refine JO_read (vI (R14.rfN R02.update s)) rfl trivial (fun _ _ => rfl) ?_
    refine JO_read (vB (R14.rfA R02.update s)) rfl trivial (fun _ _ => rfl) ?_
    refine JO_read (vB (R14.rfB R02.update s)) rfl trivial (fun _ _ => rfl) ?_
    refine JO_read (vS (R14.rfD R02.update s)) rfl trivial (fun _ _ => rfl) ?_
    refine JO_read (vI (R14.rfE R02.update s)) rfl trivial (fun _ _ => rfl) ?_
    refine JO_nil ?_
    refine JX_then ?_
    refine J_seq ?_
    refine J_region ?_
    refine JO_read (vI n) rfl trivial (fun _ _ => rfl) ?_
    refine JO_read (vB a) rfl trivial (fun _ _ => rfl) ?_
    refine JO_read (vB b) rfl trivial (fun _ _ => rfl) ?_
    refine JO_read (vS d) rfl trivial (fun _ _ => rfl) ?_
    refine JO_call [] [] [] rfl trivial (fun _ => x_call Ty.ca13 rfl) (fun _ h => h) (fun _ h => by cases h) (fun w hS => f13_ok n a b d w hy_) ?_
    rintro _ _ ⟨rfl, rfl⟩
    have ha5 := R14.frame_le R02.updateN n a b d
    refine JO_read (vI n) rfl trivial (fun _ _ => rfl) ?_
    refine JO_read (vB a) rfl trivial (fun _ _ => rfl) ?_
    refine JO_read (vB b) rfl trivial (fun _ _ => rfl) ?_
    refine JO_read (vS d) rfl trivial (fun _ _ => rfl) ?_
    refine JO_call [] [] [] rfl trivial (fun _ => x_call Ty.ca14 rfl) (fun _ h => h) (fun _ h => by cases h) (fun w hS => f14_ok n a b d w hy_) ?_
    rintro _ _ ⟨rfl, rfl⟩
    have ha6 := R14.frame_le R02.update n a b d
    refine JO_read (vB (decide (R14.frame R02.updateN n a b d = R14.frame R02.update n a b d))) rfl trivial (fun _ _ => x_eql_s rfl rfl) ?_
    refine JO_read (vB (decide (R14.frame R02.updateN n a b d = R14.frame R02.update n a b d))) rfl trivial (fun _ _ => rfl) ?_
    refine JO_cut (X := Bool) 4 (fun z => z = ((decide (R14.frame R02.updateN n a b d = R14.frame R02.update n a b d)) && (decide (R14.rfN R02.updateN s = R14.rfN R02.update s)))) (fun z => [(10, vB false), (12, vB (R14.rfA R02.updateN s)), (13, vB (R14.rfB R02.updateN s)), (14, vS (R14.rfD R02.updateN s)), (15, vI (R14.rfE R02.updateN s)), (17, vB (R14.rfA R02.update s)), (18, vB (R14.rfB R02.update s)), (19, vS (R14.rfD R02.update s)), (20, vI (R14.rfE R02.update s)), (65, vB z)]) (fun _ => []) ?_ ?_
    · rcases Bool.eq_false_or_eq_true (decide (R14.frame R02.updateN n a b d = R14.frame R02.update n a b d)) with g8 | g8
      · have g8r := g8
        have g8r := of_decide_eq_true g8r
        refine JO_read (vI (R14.rfN R02.updateN s)) rfl ⟨_, rfl, g8⟩ (fun _ _ => rfl) ?_
        refine JO_read (vI (R14.rfN R02.update s)) rfl ⟨_, rfl, g8⟩ (fun _ _ => rfl) ?_
        refine JO_read (vB (decide (R14.rfN R02.updateN s = R14.rfN R02.update s))) rfl ⟨_, rfl, g8⟩ (fun _ _ => x_eql_i rfl rfl) ?_
        refine JO_read (vB (decide (R14.rfN R02.updateN s = R14.rfN R02.update s))) rfl trivial (fun _ _ => x_pick_t rfl g8 rfl) ?_
        refine JO_nil (JX_cut (decide (R14.rfN R02.updateN s = R14.rfN R02.update s)) (by rw [g8]; simp) ⟨rfl, rfl, rfl, rfl, rfl, rfl, rfl, rfl, rfl, rfl, trivial⟩ (fun _ h => h))
      · have g8r := g8
        have g8r := of_decide_eq_false g8r
        refine JO_shun rfl ⟨_, rfl, g8⟩ ?_
        refine JO_shun rfl ⟨_, rfl, g8⟩ ?_
        refine JO_shun rfl ⟨_, rfl, g8⟩ ?_
        refine JO_read (vB false) rfl trivial (fun _ _ => x_pick_f rfl g8 rfl) ?_
        refine JO_nil (JX_cut (false) (by rw [g8]; simp) ⟨rfl, rfl, rfl, rfl, rfl, rfl, rfl, rfl, rfl, rfl, trivial⟩ (fun _ h => h))
    rintro z7 rfl
    refine JO_read (vB ((decide (R14.frame R02.updateN n a b d = R14.frame R02.update n a b d)) && (decide (R14.rfN R02.updateN s = R14.rfN R02.update s)))) rfl trivial (fun _ _ => rfl) ?_
    refine JO_cut (X := Bool) 4 (fun z => z = (((decide (R14.frame R02.updateN n a b d = R14.frame R02.update n a b d)) && (decide (R14.rfN R02.updateN s = R14.rfN R02.update s))) && (decide ((R14.rfA R02.updateN s) = (R14.rfA R02.update s))))) (fun z => [(10, vB false), (13, vB (R14.rfB R02.updateN s)), (14, vS (R14.rfD R02.updateN s)), (15, vI (R14.rfE R02.updateN s)), (18, vB (R14.rfB R02.update s)), (19, vS (R14.rfD R02.update s)), (20, vI (R14.rfE R02.update s)), (70, vB z)]) (fun _ => []) ?_ ?_
    · rcases Bool.eq_false_or_eq_true ((decide (R14.frame R02.updateN n a b d = R14.frame R02.update n a b d)) && (decide (R14.rfN R02.updateN s = R14.rfN R02.update s))) with g10 | g10
      · have g10r := g10
        have ⟨g10r, h11⟩ := band_true g10r
        have g10r := of_decide_eq_true g10r
        have h11 := of_decide_eq_true h11
        refine JO_read (vB (R14.rfA R02.updateN s)) rfl ⟨_, rfl, g10⟩ (fun _ _ => rfl) ?_
        refine JO_read (vB (R14.rfA R02.update s)) rfl ⟨_, rfl, g10⟩ (fun _ _ => rfl) ?_
        refine JO_read (vB (decide ((R14.rfA R02.updateN s) = (R14.rfA R02.update s)))) rfl ⟨_, rfl, g10⟩ (fun _ _ => x_eql_b Try.underlying4 rfl rfl) ?_
        refine JO_read (vB (decide ((R14.rfA R02.updateN s) = (R14.rfA R02.update s)))) rfl trivial (fun _ _ => x_pick_t rfl g10 rfl) ?_
        refine JO_nil (JX_cut (decide ((R14.rfA R02.updateN s) = (R14.rfA R02.update s))) (by rw [g10]; simp) ⟨rfl, rfl, rfl, rfl, rfl, rfl, rfl, rfl, trivial⟩ (fun _ h => h))
      · have g10r := g10
        simp only [Bool.and_eq_true, Bool.or_eq_true, Bool.and_eq_false_iff, Bool.or_eq_false_iff, Bool.not_eq_true', Bool.not_eq_false', decide_eq_true_eq, decide_eq_false_iff_not] at g10r
        refine JO_shun rfl ⟨_, rfl, g10⟩ ?_
        refine JO_shun rfl ⟨_, rfl, g10⟩ ?_
        refine JO_shun rfl ⟨_, rfl, g10⟩ ?_
        refine JO_read (vB false) rfl trivial (fun _ _ => x_pick_f rfl g10 rfl) ?_
        refine JO_nil (JX_cut (false) (by rw [g10]; simp) ⟨rfl, rfl, rfl, rfl, rfl, rfl, rfl, rfl, trivial⟩ (fun _ h => h))
    rintro z9 rfl
    refine JO_read (vB (((decide (R14.frame R02.updateN n a b d = R14.frame R02.update n a b d)) && (decide (R14.rfN R02.updateN s = R14.rfN R02.update s))) && (decide ((R14.rfA R02.updateN s) = (R14.rfA R02.update s))))) rfl trivial (fun _ _ => rfl) ?_
    refine JO_cut (X := Bool) 4 (fun z => z = ((((decide (R14.frame R02.updateN n a b d = R14.frame R02.update n a b d)) && (decide (R14.rfN R02.updateN s = R14.rfN R02.update s))) && (decide ((R14.rfA R02.updateN s) = (R14.rfA R02.update s)))) && (decide ((R14.rfB R02.updateN s) = (R14.rfB R02.update s))))) (fun z => [(10, vB false), (14, vS (R14.rfD R02.updateN s)), (15, vI (R14.rfE R02.updateN s)), (19, vS (R14.rfD R02.update s)), (20, vI (R14.rfE R02.update s)), (75, vB z)]) (fun _ => []) ?_ ?_
    · rcases Bool.eq_false_or_eq_true (((decide (R14.frame R02.updateN n a b d = R14.frame R02.update n a b d)) && (decide (R14.rfN R02.updateN s = R14.rfN R02.update s))) && (decide ((R14.rfA R02.updateN s) = (R14.rfA R02.update s)))) with g13 | g13
      · have g13r := g13
        have ⟨g13r, h14⟩ := band_true g13r
        have ⟨g13r, h15⟩ := band_true g13r
        have g13r := of_decide_eq_true g13r
        have h15 := of_decide_eq_true h15
        have h14 := of_decide_eq_true h14
        refine JO_read (vB (R14.rfB R02.updateN s)) rfl ⟨_, rfl, g13⟩ (fun _ _ => rfl) ?_
        refine JO_read (vB (R14.rfB R02.update s)) rfl ⟨_, rfl, g13⟩ (fun _ _ => rfl) ?_
        refine JO_read (vB (decide ((R14.rfB R02.updateN s) = (R14.rfB R02.update s)))) rfl ⟨_, rfl, g13⟩ (fun _ _ => x_eql_b Try.underlying4 rfl rfl) ?_
        refine JO_read (vB (decide ((R14.rfB R02.updateN s) = (R14.rfB R02.update s)))) rfl trivial (fun _ _ => x_pick_t rfl g13 rfl) ?_
        refine JO_nil (JX_cut (decide ((R14.rfB R02.updateN s) = (R14.rfB R02.update s))) (by rw [g13]; simp) ⟨rfl, rfl, rfl, rfl, rfl, rfl, trivial⟩ (fun _ h => h))
      · have g13r := g13
        simp only [Bool.and_eq_true, Bool.or_eq_true, Bool.and_eq_false_iff, Bool.or_eq_false_iff, Bool.not_eq_true', Bool.not_eq_false', decide_eq_true_eq, decide_eq_false_iff_not] at g13r
        refine JO_shun rfl ⟨_, rfl, g13⟩ ?_
        refine JO_shun rfl ⟨_, rfl, g13⟩ ?_
        refine JO_shun rfl ⟨_, rfl, g13⟩ ?_
        refine JO_read (vB false) rfl trivial (fun _ _ => x_pick_f rfl g13 rfl) ?_
        refine JO_nil (JX_cut (false) (by rw [g13]; simp) ⟨rfl, rfl, rfl, rfl, rfl, rfl, trivial⟩ (fun _ h => h))
    rintro z12 rfl
    refine JO_read (vB ((((decide (R14.frame R02.updateN n a b d = R14.frame R02.update n a b d)) && (decide (R14.rfN R02.updateN s = R14.rfN R02.update s))) && (decide ((R14.rfA R02.updateN s) = (R14.rfA R02.update s)))) && (decide ((R14.rfB R02.updateN s) = (R14.rfB R02.update s))))) rfl trivial (fun _ _ => rfl) ?_
    refine JO_cut (X := Bool) 4 (fun z => z = (((((decide (R14.frame R02.updateN n a b d = R14.frame R02.update n a b d)) && (decide (R14.rfN R02.updateN s = R14.rfN R02.update s))) && (decide ((R14.rfA R02.updateN s) = (R14.rfA R02.update s)))) && (decide ((R14.rfB R02.updateN s) = (R14.rfB R02.update s)))) && (decide (R14.rfD R02.updateN s = R14.rfD R02.update s)))) (fun z => [(10, vB false), (15, vI (R14.rfE R02.updateN s)), (20, vI (R14.rfE R02.update s)), (80, vB z)]) (fun _ => []) ?_ ?_
    · rcases Bool.eq_false_or_eq_true ((((decide (R14.frame R02.updateN n a b d = R14.frame R02.update n a b d)) && (decide (R14.rfN R02.updateN s = R14.rfN R02.update s))) && (decide ((R14.rfA R02.updateN s) = (R14.rfA R02.update s)))) && (decide ((R14.rfB R02.updateN s) = (R14.rfB R02.update s)))) with g17 | g17
      · have g17r := g17
        have ⟨g17r, h18⟩ := band_true g17r
        have ⟨g17r, h19⟩ := band_true g17r
        have ⟨g17r, h20⟩ := band_true g17r
        have g17r := of_decide_eq_true g17r
        have h20 := of_decide_eq_true h20
        have h19 := of_decide_eq_true h19
        have h18 := of_decide_eq_true h18
        refine JO_read (vS (R14.rfD R02.updateN s)) rfl ⟨_, rfl, g17⟩ (fun _ _ => rfl) ?_
        refine JO_read (vS (R14.rfD R02.update s)) rfl ⟨_, rfl, g17⟩ (fun _ _ => rfl) ?_
        refine JO_read (vB (decide (R14.rfD R02.updateN s = R14.rfD R02.update s))) rfl ⟨_, rfl, g17⟩ (fun _ _ => x_eql_s rfl rfl) ?_
        refine JO_read (vB (decide (R14.rfD R02.updateN s = R14.rfD R02.update s))) rfl trivial (fun _ _ => x_pick_t rfl g17 rfl) ?_
        refine JO_nil (JX_cut (decide (R14.rfD R02.updateN s = R14.rfD R02.update s)) (by rw [g17]; simp) ⟨rfl, rfl, rfl, rfl, trivial⟩ (fun _ h => h))
      · have g17r := g17
        simp only [Bool.and_eq_true, Bool.or_eq_true, Bool.and_eq_false_iff, Bool.or_eq_false_iff, Bool.not_eq_true', Bool.not_eq_false', decide_eq_true_eq, decide_eq_false_iff_not] at g17r
        refine JO_shun rfl ⟨_, rfl, g17⟩ ?_
        refine JO_shun rfl ⟨_, rfl, g17⟩ ?_
        refine JO_shun rfl ⟨_, rfl, g17⟩ ?_
        refine JO_read (vB false) rfl trivial (fun _ _ => x_pick_f rfl g17 rfl) ?_
        refine JO_nil (JX_cut (false) (by rw [g17]; simp) ⟨rfl, rfl, rfl, rfl, trivial⟩ (fun _ h => h))
    rintro z16 rfl
    refine JO_read (vB (((((decide (R14.frame R02.updateN n a b d = R14.frame R02.update n a b d)) && (decide (R14.rfN R02.updateN s = R14.rfN R02.update s))) && (decide ((R14.rfA R02.updateN s) = (R14.rfA R02.update s)))) && (decide ((R14.rfB R02.updateN s) = (R14.rfB R02.update s)))) && (decide (R14.rfD R02.updateN s = R14.rfD R02.update s)))) rfl trivial (fun _ _ => rfl) ?_
    refine JO_cut (X := Bool) 4 (fun z => z = ((((((decide (R14.frame R02.updateN n a b d = R14.frame R02.update n a b d)) && (decide (R14.rfN R02.updateN s = R14.rfN R02.update s))) && (decide ((R14.rfA R02.updateN s) = (R14.rfA R02.update s)))) && (decide ((R14.rfB R02.updateN s) = (R14.rfB R02.update s)))) && (decide (R14.rfD R02.updateN s = R14.rfD R02.update s))) && (decide (R14.rfE R02.updateN s = R14.rfE R02.update s)))) (fun z => [(10, vB false), (85, vB z)]) (fun _ => []) ?_ ?_
    · rcases Bool.eq_false_or_eq_true (((((decide (R14.frame R02.updateN n a b d = R14.frame R02.update n a b d)) && (decide (R14.rfN R02.updateN s = R14.rfN R02.update s))) && (decide ((R14.rfA R02.updateN s) = (R14.rfA R02.update s)))) && (decide ((R14.rfB R02.updateN s) = (R14.rfB R02.update s)))) && (decide (R14.rfD R02.updateN s = R14.rfD R02.update s))) with g22 | g22
      · have g22r := g22
        have ⟨g22r, h23⟩ := band_true g22r
        have ⟨g22r, h24⟩ := band_true g22r
        have ⟨g22r, h25⟩ := band_true g22r
        have ⟨g22r, h26⟩ := band_true g22r
        have g22r := of_decide_eq_true g22r
        have h26 := of_decide_eq_true h26
        have h25 := of_decide_eq_true h25
        have h24 := of_decide_eq_true h24
        have h23 := of_decide_eq_true h23
        refine JO_read (vI (R14.rfE R02.updateN s)) rfl ⟨_, rfl, g22⟩ (fun _ _ => rfl) ?_
        refine JO_read (vI (R14.rfE R02.update s)) rfl ⟨_, rfl, g22⟩ (fun _ _ => rfl) ?_
        refine JO_read (vB (decide (R14.rfE R02.updateN s = R14.rfE R02.update s))) rfl ⟨_, rfl, g22⟩ (fun _ _ => x_eql_i rfl rfl) ?_
        refine JO_read (vB (decide (R14.rfE R02.updateN s = R14.rfE R02.update s))) rfl trivial (fun _ _ => x_pick_t rfl g22 rfl) ?_
        refine JO_nil (JX_cut (decide (R14.rfE R02.updateN s = R14.rfE R02.update s)) (by rw [g22]; simp) ⟨rfl, rfl, trivial⟩ (fun _ h => h))
      · have g22r := g22
        simp only [Bool.and_eq_true, Bool.or_eq_true, Bool.and_eq_false_iff, Bool.or_eq_false_iff, Bool.not_eq_true', Bool.not_eq_false', decide_eq_true_eq, decide_eq_false_iff_not] at g22r
        refine JO_shun rfl ⟨_, rfl, g22⟩ ?_
        refine JO_shun rfl ⟨_, rfl, g22⟩ ?_
        refine JO_shun rfl ⟨_, rfl, g22⟩ ?_
        refine JO_read (vB false) rfl trivial (fun _ _ => x_pick_f rfl g22 rfl) ?_
        refine JO_nil (JX_cut (false) (by rw [g22]; simp) ⟨rfl, rfl, trivial⟩ (fun _ h => h))
    rintro z21 rfl
    refine JO_read (vB ((((((decide (R14.frame R02.updateN n a b d = R14.frame R02.update n a b d)) && (decide (R14.rfN R02.updateN s = R14.rfN R02.update s))) && (decide ((R14.rfA R02.updateN s) = (R14.rfA R02.update s)))) && (decide ((R14.rfB R02.updateN s) = (R14.rfB R02.update s)))) && (decide (R14.rfD R02.updateN s = R14.rfD R02.update s))) && (decide (R14.rfE R02.updateN s = R14.rfE R02.update s)))) rfl trivial (fun _ _ => rfl) ?_
    refine JO_nil ?_
    refine JX_then ?_
    refine J_ret ?_
    refine JX_rets [vB ((((((decide (R14.frame R02.updateN n a b d = R14.frame R02.update n a b d)) && (decide (R14.rfN R02.updateN s = R14.rfN R02.update s))) && (decide ((R14.rfA R02.updateN s) = (R14.rfA R02.update s)))) && (decide ((R14.rfB R02.updateN s) = (R14.rfB R02.update s)))) && (decide (R14.rfD R02.updateN s = R14.rfD R02.update s))) && (decide (R14.rfE R02.updateN s = R14.rfE R02.update s)))] (vB ((((((decide (R14.frame R02.updateN n a b d = R14.frame R02.update n a b d)) && (decide (R14.rfN R02.updateN s = R14.rfN R02.update s))) && (decide ((R14.rfA R02.updateN s) = (R14.rfA R02.update s)))) && (decide ((R14.rfB R02.updateN s) = (R14.rfB R02.update s)))) && (decide (R14.rfD R02.updateN s = R14.rfD R02.update s))) && (decide (R14.rfE R02.updateN s = R14.rfE R02.update s)))) Try.results3 (fun w h => ⟨rfl, trivial⟩) rfl [] (fun _ h => h) ⟨?_, ?_⟩
    · have e_x0 : ((((((decide (R14.frame R02.updateN n a b d = R14.frame R02.update n a b d)) && (decide (R14.rfN R02.updateN s = R14.rfN R02.update s))) && (decide ((R14.rfA R02.updateN s) = (R14.rfA R02.update s)))) && (decide ((R14.rfB R02.updateN s) = (R14.rfB R02.update s)))) && (decide (R14.rfD R02.updateN s = R14.rfD R02.update s))) && (decide (R14.rfE R02.updateN s = R14.rfE R02.update s)) : Bool) = true := by
        first | rfl | (rw [R02.updateN_eq]; simp)
      exact congrArg (fun (x0 : Bool) => vB x0) e_x0
    · rfl

end Go.Proofs.Ytodfebhimadaiaa
