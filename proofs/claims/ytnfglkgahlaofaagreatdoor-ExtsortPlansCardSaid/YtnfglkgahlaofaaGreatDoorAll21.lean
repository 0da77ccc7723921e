/- C44t, Pl44n, Pl44p in one text. -/
import Derived.Test.YtnfglkgahlaofaaGreatDoorAll13
import Derived.Test.YtnfglkgahlaofaaGreatDoorAll20
import Derived.Test.YtnfglkgahlaofaaGreatDoorAll19
import Derived.Test.YtnfglkgahlaofaaGreatDoorAll11
namespace Go.Proofs.YtnfglkgahlaofaaGreatDoor
open Go.GV
set_option linter.unusedVariables false
set_option linter.unusedSimpArgs false
set_option maxRecDepth 20000 in
theorem f11_ok (w : World) (hT : Tab [] w) : Calls Tryz.prog 11 #[] w (Gives [] w fun v L => v = vB true ∧ L = []) := by
 refine calls_J [] 84 Tryz.func11 rfl Tryz.ntmps11 [] rfl rfl (Give.nil w) ?_
 refine q_ (g_ (s_ av_ (z_ (n_ (q_ (g_ (js_ (vG [vI 0, vI 1, vI 0, vB false]) (x_build (by kernel_rfl)) (o_ (O_buildSlice (cs := [vI 0, vI 1, vI 0, vB false]) Tryz.underlying24 Ty.sz50 Ty.ze50 (by decide) (by decide) (by kernel_rfl) fun b1 => ?_)))))))))
 refine s_ av_ (z_ (n_ (q_ (g_ (o_ (O_buildSlice (cs := [vS [51], vS [49], vS [52], vS [49], vS [53], vS [57], vS [50], vS [54]]) Tryz.underlying22 Ty.sz9 Ty.ze9 (by decide) (by decide) (by kernel_rfl) fun b2 => ?_))))))
 refine s_ mv_ ?_
 refine JO_callB [] [] [Ent.blk b2 9 [vS [51], vS [49], vS [52], vS [49], vS [53], vS [57], vS [50], vS [54]], Ent.blk b1 50 [vI 0, vI 1, vI 0, vB false]] rfl trivial (fun _ => x_call Ty.ca13 rfl) (fun _ h => h) (fun _ h => by cases h) (fun w hS => f13_ok [[51], [49], [52], [49], [53], [57], [50], [54]] (some ⟨b2, 0, none⟩) 8 2 [(SortField.mk 0 1 0 false)] (some ⟨b1, 0, none⟩) 1 w (RO.of_blk hS 0 (off := 0) (m := 8) rfl rfl) (RO.of_blk hS 1 (off := 0) (m := 4) rfl rfl) hy_ (by exact R44.short_all (by decide)) (by decide) hy_) ?_
 rintro wc _ _ wbhB4 ⟨rout, routA, routC, rfl, rfl, routR, routL, routN, routK, hf3⟩ hc0 hB4
 have hT := hT.again hB4
 have routR := routR.mono (lown_range hc0)
 have routN := fun i => (routN i).mono (lown_range hc0)
 refine s_ av_ (z_ (n_ (q_ (g_ (o_ (O_buildSlice (cs := [vS [97], vS [98], vS [97]]) Tryz.underlying22 Ty.sz9 Ty.ze9 (by decide) (by decide) (by kernel_rfl) fun b5 => ?_))))))
 refine js_ (vG [vI 1, vI 2]) (x_build (by kernel_rfl)) (js_ (vG [vI 0, vI 1, vI 0, vB true]) (x_build (by kernel_rfl)) (o_ (O_buildSlice (cs := [vI 0, vI 1, vI 0, vB true]) Tryz.underlying24 Ty.sz50 Ty.ze50 (by decide) (by decide) (by kernel_rfl) fun b6 => ?_)))
 refine js_ (vG [Value.nilFunc, Value.nilFunc]) (x_build (by kernel_rfl)) ?_
 refine JO_callB [] [] [Ent.blk b6 50 [vI 0, vI 1, vI 0, vB true], Ent.blk b5 9 [vS [97], vS [98], vS [97]], Ent.blk b2 9 [vS [51], vS [49], vS [52], vS [49], vS [53], vS [57], vS [50], vS [54]], Ent.blk b1 50 [vI 0, vI 1, vI 0, vB false]] rfl trivial (fun _ => x_call Ty.ca18 rfl) (fun _ h => h) (fun _ h => by cases h) (fun w hS => f18_ok [[97], [98], [97]] (some ⟨b5, 0, none⟩) 3 1 2 [(SortField.mk 0 1 0 true)] (some ⟨b6, 0, none⟩) 1 w (RO.of_blk hS 1 (off := 0) (m := 3) rfl rfl) (RO.of_blk hS 0 (off := 0) (m := 4) rfl rfl) hy_ (by exact R44.short_all (by decide)) hy_ hy_) ?_
 rintro wc _ _ wbhB13 ⟨rout7, rout7A, rout7C, e8, e9, e10, e11, rfl, rfl, rout7R, rout7L, hf12⟩ hc0 hB13
 have routR := routR.again hB13
 have routN := fun i => (routN i).again hB13
 have hT := hT.again hB13
 have rout7R := rout7R.mono (lown_range hc0)
 refine s_ mv_ (s_ (ex_ 0) (s_ (ex_ 1) (s_ (ex_ 2) (o_ (al_ Ty.ze34 fun b14 => ?_)))))
 refine s_ av_ (o_ (stG 0 Ty.sz34 ?_))
 refine s_ av_ (z_ (xk_ [0, 1, 2, 4, 3, 5] ?_))
 refine n_ (q_ (g_ ?_))
 refine c1 (cl_ Ty.ca27) (fun w hS => f27_ok [48, 32, 49, 32, 100, 101, 115, 99, 101, 110, 100, 105, 110, 103] w (hT.on hS (fun _ h => by cases h)) hy_) ?_
 rintro _ _ ⟨out15, outA16, outC17, e18, rfl, rfl, hf19⟩
 refine s_ mv_ (s_ (ex_ 0) (s_ (ex_ 1) (s_ av_ (s_ av_ (z_ (n_ (q_ (g_ (s_ mv_ (s_ (lnS Tryz.underlying23) (s_ (x_eql_i rfl rfl) (s_ mv_ ?_))))))))))))
 refine and_ 5 (decide ((((rout.getD 0 default).s.length : Nat) : Int) = 5)) (fun g20 => ?_) ?_
 ·have g20r := g20
  have g20r := of_decide_eq_true g20r
  refine sg_ g20 mv_ (rg_ g20 (ixF (k := 0) Rw.enc_len (cells_ro routR) Tryz.underlying23 Ty.sz22) (rg_ g20 (ldF (k := 0) 0 Rw.enc_len (cells_ro routR) Ty.sc22) (sg_ g20 (lnS Tryz.underlying22) (sg_ g20 (x_eql_i rfl rfl) ?_))))
  exact cr_
 refine s_ mv_ ?_
 refine and_ 2 (R44.valid [(SortField.mk 0 1 0 false)]) (fun g21 => ?_) ?_
 ·have g21r := g21
  have ⟨g21r, h22⟩ := band_true g21r
  have g21r := of_decide_eq_true g21r
  have h22 := of_decide_eq_true h22
  refine sg_ g21 mv_ (c0g g21 (cl_ Ty.ca21) (fun w hS => f21_ok [(SortField.mk 0 1 0 false)] _ 1 w (RO.of_blk hS 5 (off := 0) (m := 4) rfl rfl) hy_) ?_)
  exact cr_
 refine s_ mv_ ?_
 refine and_ 3 (decide (R44.cmpV [(SortField.mk 0 1 0 false)] [97] [98] = (-1))) (fun g23 => ?_) ?_
 ·have g23r := g23
  have ⟨g23r, h24⟩ := band_true g23r
  have ⟨g23r, h25⟩ := band_true g23r
  have g23r := of_decide_eq_true g23r
  have h25 := of_decide_eq_true h25
  have hi26 := R44.valid_facts h24
  refine sg_ g23 mv_ (c0g g23 (cl_ Ty.ca22) (fun w hS => f22_ok [97] [98] [(SortField.mk 0 1 0 false)] _ 1 w (RO.of_blk hS 5 (off := 0) (m := 4) rfl rfl) hy_ hy_ hy_) ?_)
  have ha27 := R44.cmpV_bd [(SortField.mk 0 1 0 false)] [97] [98]
  try simp only [List.length_cons, List.length_nil, Nat.zero_add, Nat.reduceAdd, Nat.reduceMul] at ha27
  refine sg_ g23 (x_eql_i rfl rfl) ?_
  exact cr_
 refine s_ mv_ ?_
 refine and_ 2 (decide (e11 = 0)) (fun g28 => ?_) ?_
 ·have g28r := g28
  have ⟨g28r, h29⟩ := band_true g28r
  have ⟨g28r, h30⟩ := band_true g28r
  have ⟨g28r, h31⟩ := band_true g28r
  have g28r := of_decide_eq_true g28r
  have h31 := of_decide_eq_true h31
  have hi32 := R44.valid_facts h30
  have h29 := of_decide_eq_true h29
  refine sg_ g28 mv_ (sg_ g28 (x_eql_i rfl rfl) ?_)
  exact cr_
 refine s_ mv_ ?_
 refine and_ 3 (decide (((rout7.length : Nat) : Int) = 3)) (fun g33 => ?_) ?_
 ·have g33r := g33
  have ⟨g33r, h34⟩ := band_true g33r
  have ⟨g33r, h35⟩ := band_true g33r
  have ⟨g33r, h36⟩ := band_true g33r
  have ⟨g33r, h37⟩ := band_true g33r
  have g33r := of_decide_eq_true g33r
  have h37 := of_decide_eq_true h37
  have hi38 := R44.valid_facts h36
  have h35 := of_decide_eq_true h35
  have h34 := of_decide_eq_true h34
  refine sg_ g33 mv_ (sg_ g33 (lnS Tryz.underlying22) (sg_ g33 (x_eql_i rfl rfl) ?_))
  exact cr_
 refine s_ mv_ ?_
 refine and_ 4 (decide ((rout7.getD 0 []) = ([98] : Bytes))) (fun g39 => ?_) ?_
 ·have g39r := g39
  have ⟨g39r, h40⟩ := band_true g39r
  have ⟨g39r, h41⟩ := band_true g39r
  have ⟨g39r, h42⟩ := band_true g39r
  have ⟨g39r, h43⟩ := band_true g39r
  have ⟨g39r, h44⟩ := band_true g39r
  have g39r := of_decide_eq_true g39r
  have h44 := of_decide_eq_true h44
  have hi45 := R44.valid_facts h43
  have h42 := of_decide_eq_true h42
  have h41 := of_decide_eq_true h41
  have h40 := of_decide_eq_true h40
  refine sg_ g39 mv_ (rg_ g39 (ixM (k := 0) (cells_ro rout7R) Tryz.underlying22 Ty.sz9) (rg_ g39 (ldM vS [] (cells_ro rout7R) Ty.sc9) (jg_ g39 (vB (decide ((rout7.getD 0 []) = ([98] : Bytes)))) (x_eql_s rfl rfl) ?_)))
  exact cr_
 refine s_ mv_ ?_
 refine and_ 3 (decide (e8 = 2)) (fun g46 => ?_) ?_
 ·have g46r := g46
  have ⟨g46r, h47⟩ := band_true g46r
  have ⟨g46r, h48⟩ := band_true g46r
  have ⟨g46r, h49⟩ := band_true g46r
  have ⟨g46r, h50⟩ := band_true g46r
  have ⟨g46r, h51⟩ := band_true g46r
  have ⟨g46r, h52⟩ := band_true g46r
  have g46r := of_decide_eq_true g46r
  have h52 := of_decide_eq_true h52
  have hi53 := R44.valid_facts h51
  have h50 := of_decide_eq_true h50
  have h49 := of_decide_eq_true h49
  have h48 := of_decide_eq_true h48
  have h47 := of_decide_eq_true h47
  refine sg_ g46 (fA 0 Ty.fi34_0) (rg_ g46 (ld_ 1 Ty.sc3) (sg_ g46 (x_eql_i rfl rfl) ?_))
  exact cr_
 refine s_ mv_ ?_
 refine and_ 2 (decide (e18 = 0)) (fun g54 => ?_) ?_
 ·have g54r := g54
  have ⟨g54r, h55⟩ := band_true g54r
  have ⟨g54r, h56⟩ := band_true g54r
  have ⟨g54r, h57⟩ := band_true g54r
  have ⟨g54r, h58⟩ := band_true g54r
  have ⟨g54r, h59⟩ := band_true g54r
  have ⟨g54r, h60⟩ := band_true g54r
  have ⟨g54r, h61⟩ := band_true g54r
  have g54r := of_decide_eq_true g54r
  have h61 := of_decide_eq_true h61
  have hi62 := R44.valid_facts h60
  have h59 := of_decide_eq_true h59
  have h58 := of_decide_eq_true h58
  have h57 := of_decide_eq_true h57
  have h56 := of_decide_eq_true h56
  have h55 := of_decide_eq_true h55
  refine sg_ g54 mv_ (sg_ g54 (x_eql_i rfl rfl) ?_)
  exact cr_
 refine s_ mv_ ?_
 refine and_ 3 (decide (((out15.length : Nat) : Int) = 1)) (fun g63 => ?_) ?_
 ·have g63r := g63
  have ⟨g63r, h64⟩ := band_true g63r
  have ⟨g63r, h65⟩ := band_true g63r
  have ⟨g63r, h66⟩ := band_true g63r
  have ⟨g63r, h67⟩ := band_true g63r
  have ⟨g63r, h68⟩ := band_true g63r
  have ⟨g63r, h69⟩ := band_true g63r
  have ⟨g63r, h70⟩ := band_true g63r
  have ⟨g63r, h71⟩ := band_true g63r
  have g63r := of_decide_eq_true g63r
  have h71 := of_decide_eq_true h71
  have hi72 := R44.valid_facts h70
  have h69 := of_decide_eq_true h69
  have h68 := of_decide_eq_true h68
  have h67 := of_decide_eq_true h67
  have h66 := of_decide_eq_true h66
  have h65 := of_decide_eq_true h65
  have h64 := of_decide_eq_true h64
  refine sg_ g63 mv_ (sg_ g63 (lnS Tryz.underlying24) (sg_ g63 (x_eql_i rfl rfl) ?_))
  exact cr_
 refine s_ mv_ ?_
 refine and_ 7 (decide ((((R44.mergeV [(SortField.mk 0 1 0 false)] ([[[97]], [[98]]])).length : Nat) : Int) = 2)) (fun g73 => ?_) ?_
 ·have g73r := g73
  have ⟨g73r, h74⟩ := band_true g73r
  have ⟨g73r, h75⟩ := band_true g73r
  have ⟨g73r, h76⟩ := band_true g73r
  have ⟨g73r, h77⟩ := band_true g73r
  have ⟨g73r, h78⟩ := band_true g73r
  have ⟨g73r, h79⟩ := band_true g73r
  have ⟨g73r, h80⟩ := band_true g73r
  have ⟨g73r, h81⟩ := band_true g73r
  have ⟨g73r, h82⟩ := band_true g73r
  have g73r := of_decide_eq_true g73r
  have h82 := of_decide_eq_true h82
  have hi83 := R44.valid_facts h81
  have h80 := of_decide_eq_true h80
  have h79 := of_decide_eq_true h79
  have h78 := of_decide_eq_true h78
  have h77 := of_decide_eq_true h77
  have h76 := of_decide_eq_true h76
  have h75 := of_decide_eq_true h75
  have h74 := of_decide_eq_true h74
  refine og_ g73 (O_buildSlice (cs := [vS [97]]) Tryz.underlying22 Ty.sz9 Ty.ze9 (by decide) (by decide) (by kernel_rfl) fun b84 => ?_)
  refine og_ g73 (O_buildSlice (cs := [vS [98]]) Tryz.underlying22 Ty.sz9 Ty.ze9 (by decide) (by decide) (by kernel_rfl) fun b85 => ?_)
  refine og_ g73 (O_buildSlice (cs := [vL (some ⟨b84, 0, none⟩) 1 1, vL (some ⟨b85, 0, none⟩) 1 1]) Tryz.underlying23 Ty.sz22 Ty.ze22 (by decide) (by decide) (by kernel_rfl) fun b86 => ?_)
  refine sg_ g73 mv_ ?_
  refine c1g g73 (cl_ Ty.ca16) (fun w hS => f16_ok [(Rw.mk [[97]] (some ⟨b84, 0, none⟩) 1), (Rw.mk [[98]] (some ⟨b85, 0, none⟩) 1)] _ 2 [(SortField.mk 0 1 0 false)] _ 1 w (RO.of_blk hS 0 (off := 0) (m := 2) rfl rfl) (ron_cons1 (fA := Rw.sA) (fl := fun x => x.s.map vS) (RO.of_blk hS 2 (off := 0) (m := 1) rfl rfl) (ron_cons1 (fA := Rw.sA) (fl := fun x => x.s.map vS) (RO.of_blk hS 1 (off := 0) (m := 1) rfl rfl) (ron_nil1 (fA := Rw.sA) (fl := fun x => x.s.map vS) RO.nil))) (RO.of_blk hS 8 (off := 0) (m := 4) rfl rfl) hy_ (by exact R44.rws_short rfl) (by exact R44.rws_cap rfl) hy_ hy_) ?_
  rintro _ _ ⟨e87, e88, rfl, rfl⟩
  refine sg_ g73 (lnS Tryz.underlying22) (sg_ g73 (x_eql_i rfl rfl) ?_)
  exact cr_ (fun _ h => h.keep [false, false, false, false, true, true, true, true, true, true] rfl)
 refine s_ av_ (z_ (xk_ [0] ?_))
 refine n_ (rt_ ?_)
 refine JX_retsC [_] _ Tryz.results11 (fun w h => ⟨rfl, trivial⟩) rfl _ (fun _ h => h.keep [false, false, false, false, false, false] rfl) (fun _ _ h => (hB4.back _ _ (hB13.back _ _ h))) ⟨?_, ?_⟩
 ·have e_x0 : (((((((((((decide (((rout.length : Nat) : Int) = 2)) && (decide ((((rout.getD 0 default).s.length : Nat) : Int) = 5))) && (R44.valid [(SortField.mk 0 1 0 false)])) && (decide (R44.cmpV [(SortField.mk 0 1 0 false)] [97] [98] = (-1)))) && (decide (e11 = 0))) && (decide (((rout7.length : Nat) : Int) = 3))) && (decide ((rout7.getD 0 []) = ([98] : Bytes)))) && (decide (e8 = 2))) && (decide (e18 = 0))) && (decide (((out15.length : Nat) : Int) = 1))) && (decide ((((R44.mergeV [(SortField.mk 0 1 0 false)] ([[[97]], [[98]]])).length : Nat) : Int) = 2)) : Bool) = true := R44.aw_all (by assumption) (by assumption) (by assumption)
  exact congrArg (fun (x0 : Bool) => vB x0) e_x0
 ·rfl
end Go.Proofs.YtnfglkgahlaofaaGreatDoor

namespace Go.Proofs.YtnfglkgahlaofaaGreatDoor
open Go.GV
namespace R44
theorem few_q1 {rs : List Bytes} {m : Int} (h : few rs m = true) (i : Nat) : (rs.getD i []).length ≤ 1000000 := by have := (few_facts h).2 i; omega
theorem inR_len (f : Bytes → Bytes × Bool) (rs : List Bytes) : (inR f rs).1.length ≤ rs.length := by
  unfold inR
  cases hi : inputs f rs with
  | none => exact Nat.zero_le _
  | some r => exact (inputs_len hi).1
theorem sortV_len (l : List SortField) (m fan : Int) (fi : Bytes → Bytes × Bool) (fs : Bytes → Bytes → Bytes × Bool) (rs : List Bytes) : (sortV l m fan fi fs rs).1.length ≤ rs.length := by
  unfold sortV
  split
  · exact Nat.zero_le _
  split
  · exact Nat.zero_le _
  split
  · exact Nat.zero_le _
  split
  · exact Nat.zero_le _
  rename_i h
  have h1 := sums_len (c := cmpL l) (f := fs) (Srt.srt (cmpL l) (inR fi rs).1) [] (by omega)
  rw [Srt.srt_len] at h1
  have := inR_len fi rs
  simp only [List.length_nil, Nat.zero_add] at h1
  show (sums (cmpL l) fs [] (Srt.srt (cmpL l) (inR fi rs).1)).1.length ≤ rs.length
  omega
theorem sv_len {l : List SortField} {m fan : Int} {fi : Bytes → Bytes × Bool} {fs : Bytes → Bytes → Bytes × Bool} {rs out : List Bytes} {w : SortWork} {e : Int} (h : (out, w, e) = sortV l m fan fi fs rs) : out.length ≤ rs.length := by
  have := sortV_len l m fan fi fs rs; rw [← h] at this; exact this
end R44
end Go.Proofs.YtnfglkgahlaofaaGreatDoor

namespace Go.Proofs.YtnfglkgahlaofaaGreatDoor
open Go.GV
open Srt (Cmp)
namespace R44
theorem map_eq {a b : List Rw} (h : a.map Rw.s = b.map Rw.s) : a.length = b.length ∧ ∀ i, (a.getD i default).s = (b.getD i default).s := by
  refine ⟨by have := congrArg List.length h; rwa [List.length_map, List.length_map] at this, fun i => ?_⟩
  have h2 := congrArg (fun l => l[i]?) h
  simp only [List.getElem?_map] at h2
  rw [List.getD_eq_getElem?_getD, List.getD_eq_getElem?_getD]
  cases ha : a[i]? with
  | none => rw [ha] at h2; cases hb : b[i]? with
    | none => rfl
    | some y => rw [hb] at h2; cases h2
  | some x => rw [ha] at h2; cases hb : b[i]? with
    | none => rw [hb] at h2; cases h2
    | some y => rw [hb] at h2; exact Option.some.inj h2
theorem runs_each {l : List SortField} {m : Int} {rs : List Bytes} {out : List Rw} (h : out.map Rw.s = runsV l m rs) : out.length ≤ rs.length ∧ ∀ i, (out.getD i default).s.length ≤ rs.length := by
  unfold runsV at h
  split at h
  · rename_i hm
    have hs := runs_small (cmpL_ok l) (M := m.toNat) (by omega) rs
    rw [← h, List.length_map] at hs
    refine ⟨hs.1, fun i => ?_⟩
    by_cases hi : i < out.length
    · exact hs.2 _ (List.mem_map_of_mem (getD_mem hi))
    · rw [getD_out (by omega)]; exact Nat.zero_le _
  · rw [List.map_eq_nil_iff.1 h]
    exact ⟨Nat.zero_le _, fun i => by rw [getD_out (Nat.zero_le _)]; exact Nat.zero_le _⟩
theorem mergeV_len (l : List SortField) (ls : List (List Bytes)) : (mergeV l ls).length ≤ ls.flatten.length := by
  unfold mergeV
  split
  · rw [(Srt.merge_perm (cmpL_ok l) ls).length_eq]; exact Nat.le_refl _
  · exact Nat.zero_le _
theorem flat_few {n : Nat} : ∀ {ls : List (List Bytes)}, (∀ x ∈ ls, x.length ≤ n) → ls.flatten.length ≤ n * ls.length
  | [], _ => Nat.le_refl _
  | x :: r, h => by
    have h1 := h x List.mem_cons_self
    have h2 := flat_few (ls := r) fun y hy => h y (List.mem_cons_of_mem _ hy)
    rw [List.flatten_cons, List.length_append, List.length_cons, Nat.mul_add]
    omega
theorem lists_few {lists : List Rw} {n : Nat} (h : ∀ i, i < lists.length → few (lists.getD i default).s (n : Int) = true) : (lists.map Rw.s).flatten.length ≤ n * lists.length ∧ ∀ i j, ((lists.getD i default).s.getD j []).length ≤ 1000000 := by
  refine ⟨?_, fun i j => ?_⟩
  · have := flat_few (ls := lists.map Rw.s) (n := n) fun x hx => by
      obtain ⟨r, hr, rfl⟩ := List.mem_map.1 hx
      obtain ⟨i, hi, e⟩ := getD_ex (d := default) hr
      rw [← e]
      have := (few_facts (h i hi)).1
      omega
    rwa [List.length_map] at this
  · by_cases hi : i < lists.length
    · have := (few_facts (h i hi)).2 j; omega
    · rw [getD_out (by omega)]; exact Nat.zero_le _
theorem few_next {lists : List Rw} {k : Nat} {n : Int} (h : ∀ i, i < k → few (lists.getD i default).s n = true) (hk : few (lists.getD k default).s n = true) : ∀ i, i < k + 1 → few (lists.getD i default).s n = true := fun i hi => by
  by_cases e : i = k
  · subst e; exact hk
  · exact h i (by omega)
theorem map_eq2 {a b : List Rw} {X : List (List Bytes)} (h : a.map Rw.s = X) (h2 : b.map Rw.s = X) : a.length = b.length ∧ ∀ i, (a.getD i default).s = (b.getD i default).s := map_eq (h.trans h2.symm)
theorem law_runs {a b : List Rw} {x : List Bytes} (h : a.length = b.length ∧ ∀ i, (a.getD i default).s = (b.getD i default).s) : ((decide (((a.length : Nat) : Int) = ((b.length : Nat) : Int))) && (decide (x = x))) = true := by
  rw [h.1]; simp
end R44
end Go.Proofs.YtnfglkgahlaofaaGreatDoor
