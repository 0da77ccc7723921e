/- C45a, Pl45b, C45b in one text. -/
import Derived.Test.YtggobegaiijhhaaGreatDoorUtilityOnly10
set_option linter.unusedVariables false
set_option linter.unusedSimpArgs false
set_option maxRecDepth 20000
namespace Go.Proofs.YtggobegaiijhhaaGreatDoor
open Go.GV Go.Proofs.Tryz Ty
open Go.GV.Ent (blk row mp)
theorem c45a0_ {p:Prop} (h:p:=by first | (left;omega) | (right;assumption)):p:=h
theorem c45a2_ {p:Prop} (h:p:=by first | exact R45.recV_in as_ | exact R45.recV_no as_ as_ | exact R45.recV_rows as_ as_ (i1_0.done as_ as_)):p:=h
theorem c45a3_ {p:Prop} (h:p:=by first | exact i1_1.none om_ as_ _ _ | exact i1_1.some om_ om_ as_):p:=h
theorem f240_ok (s:Nat) (rows:List SRow) (rowsA:OA_) (rowsC:Nat) (calls:Nat) (w:World) (rowsR:RO [s] w rowsA (rows.flatMap SRow.enc)) (q0:rows.length≤1000000) (q1:calls≤1000000) (hg:Give [s] w [sH_ s rowsA rows.length rowsC calls]):Calls prog 240 #[pB s 0] w (Gives [s] w fun v L=>v=vB false∧L=[blk s 52 [vL rowsA rows.length rowsC,vI 0,vI 0,vI ((calls+1:Nat):Int)]]):=by
 refine calls_J [s] 19 func240 rfl ntmps240 [(0,_)] rfl rfl hg ?_
 refine q_ (g_ (s_ av_ (z_ (n_ (q_ (g_ (s_ mv_ (s_ (x_nilCheck rfl) (s_ (fA 3 fi52_3) (r_ (ld_ 0 sc3) (s_ (x_add_n (a:=calls) (b:=1) rfl rfl om_) (s_ (x_nilCheck rfl) (s_ (fA 3 fi52_3) ?_)))))))))))))
 refine o_ (st1 0 sz3 ?_)
 refine z_ (n_ (q_ ?_))
 refine drB [] 10 mixed ?_
 refine jp_ 0 rfl mv_ (jp_ 1 rfl (x_nilCheck rfl) (jp_ 2 rfl (fA 3 fi52_3) (jq_ 3 rfl (ld_ 0 sc3) (jp_ 4 rfl mv_ (jp_ 5 rfl (x_nilCheck rfl) (jp_ 6 rfl (fA 1 fi52_1) (jq_ 7 rfl (ld_ 0 sc3) (jp_ 8 rfl (x_eql_i rfl rfl) (jp_ 9 rfl av_ ?_)))))))))
 refine JA_done kf_ gm_ ?_
 refine n_ (rt_ ?_)
 refine JX_rets [_] _ results240 (fun w h=>⟨rfl,trivial⟩) rfl _ i_ ⟨?_,?_⟩
 ·have e_x0:(decide (((calls+1:Nat):Int)=0):Bool)=false:=decide_eq_false om_
  exact congrArg (fun (x0:Bool)=>vB x0) e_x0
 ·rfl
theorem f239_ok (s:Nat) (rows:List SRow) (rowsA:OA_) (rowsC:Nat) (calls:Nat) (id:Int) (key:Bytes) (w:World) (rowsR:RO [s] w rowsA (rows.flatMap SRow.enc)) (q0:rows.length≤1000000) (q1:calls≤1000000) (hg:Give [s] w [sH_ s rowsA rows.length rowsC calls]):Calls prog 239 #[pB s 0,vI id,vS key] w (Gives [s] w fun v L=>∃ k:Bytes,∃ r:Bytes,∃ e:Int,v=Value.tuple #[vS k,vS r,vI e]∧L=[blk s 52 [vL rowsA rows.length rowsC,vI 0,vI 0,vI ((calls+1:Nat):Int)]]∧(R45.NextJ rows id key k r e)):=by
 refine calls_J [s] 90 func239 rfl ntmps239 [(0,_),(1,_),(2,_)] rfl rfl hg ?_
 refine q_ (g_ (s_ av_ (s_ av_ (s_ av_ (z_ (n_ (q_ (q_ (g_ (s_ mv_ ?_))))))))))
 refine JO_call [s] [sH_ s rowsA rows.length rowsC calls] [] rfl trivial (fun _=>x_call ca240 rfl) i_ (own_mem rfl) (fun w hS=>f240_ok s rows rowsA rowsC calls w (rowsR.on hS (own_mem rfl)) hy_ hy_ (hS.give (own_in rfl))) ?_
 rintro _ _ ⟨rfl,rfl⟩
 refine z_ (n_ (iff_ (sk_ (n_ (q_ (g_ (s_ av_ (z_ (n_ (q_ (q_ (g_ (s_ av_ (z_ (n_ (k_ ?_))))))))))))))))
 refine J_loop (X:=Nat × Int) (fun (⟨i,a⟩:Nat × Int)=>(i≤rows.length)∧(R45.AtJ rows id key i a)) (fun (⟨i,a⟩:Nat × Int)=>[(0,pB s 0),(1,vI id),(2,vS key),(6,vS []),(7,vS []),(8,vI 0),(9,vI a),(10,vN i)]) (fun (⟨i,a⟩:Nat × Int)=>[blk s 52 [vL rowsA rows.length rowsC,vI 0,vI 0,vI ((calls+1:Nat):Int)]]) (fun (⟨i,a⟩:Nat × Int)=>rows.length-i) ((0,(-1)):Nat × Int) ?_ se_ i_ ?_
 ·try dsimp only
  refine ⟨?_,?_⟩
  ·exact df_
  ·exact R45.AtJ.start
 rintro ⟨i,a⟩ hI1
 obtain ⟨i1_0,i1_1⟩:=hI1
 try dsimp only at i1_0
 try dsimp only at i1_1
 have hbd:=i1_1.bd
 try dsimp only
 refine q_ (q_ (g_ (s_ mv_ (s_ mv_ (s_ (x_nilCheck rfl) (s_ (fA 0 fi52_0) (r_ (ld_ 0 sc22) (s_ (lnS underlying22) (s_ (x_lss_i rfl rfl) (z_ (n_ ?_)))))))))))
 refine ifd (fun h1w h1=>?_) (fun h1w h1=>?_)
 ·refine sk_ (n_ (q_ (k_ (q_ ?_))))
  refine drB [] 45 mixed ?_
  refine jp_ 0 rfl mv_ (jp_ 1 rfl (x_nilCheck rfl) (jp_ 2 rfl (fA 0 fi52_0) (jq_ 3 rfl (ld_ 0 sc22) (jp_ 4 rfl mv_ (jq_ 5 rfl (ixF SRow.enc_len (cells_ro rowsR) underlying22 sz57) (jp_ 6 rfl (fB0 fi57_0) (jq_ 7 rfl (ldF0 SRow.enc_len (cells_ro rowsR) sc3) (jp_ 8 rfl mv_ (jp_ 9 rfl (x_eql_i rfl rfl) ?_)))))))))
  refine jp_ 10 rfl mv_ ?_
  refine jb_ 36 (fun h2=>?_) (fun h2=>?_)
  ·have h2:=ot_ h2
   refine jp_ 11 rfl mv_ (jp_ 12 rfl (x_nilCheck rfl) (jp_ 13 rfl (fA 0 fi52_0) (jq_ 14 rfl (ld_ 0 sc22) (jp_ 15 rfl mv_ (jq_ 16 rfl (ixF SRow.enc_len (cells_ro rowsR) underlying22 sz57) (jp_ 17 rfl (fB fi57_1) (jq_ 18 rfl (ldF 1 SRow.enc_len (cells_ro rowsR) sc9) (jp_ 19 rfl mv_ (jp_ 20 rfl (x_gtr_s rfl rfl) ?_ (hw:=w_)) (hw:=w_)) (hw:=w_)) (hw:=w_)) (hw:=w_)) (hw:=w_)) (hw:=w_)) (hw:=w_)) (hw:=w_)) (hw:=w_)
   refine jt_ 21 (vB (!((Op.bytesLess ((rows.getD i default).Key) key)||(decide ((rows.getD i default).Key=key))))) rfl (fun _ _=>rfl) ?_
   refine jp_ 22 rfl mv_ ?_
   refine jb_ 48 (fun h3=>?_) (fun h3=>?_)
   ·have h3:((Op.bytesLess ((rows.getD i default).Key) key)||(decide ((rows.getD i default).Key=key)))=false:=bnot_true h3
    have ⟨h3,h4⟩:=bor_false h3
    have h4:=of_ h4
    refine jp_ 23 rfl mv_ (jp_ 24 rfl (x_lss_i rfl rfl) (jp_ 25 rfl mv_ ?_ (hw:=w_)) (hw:=w_)) (hw:=w_)
    refine jb_ 51 (fun h5=>?_) (fun h5=>?_)
    ·have h5:=ot_ h5
     refine js2_ 26 rfl (js2_ 27 rfl (js2_ 28 rfl (js2_ 29 rfl (js2_ 30 rfl (js2_ 31 rfl (js2_ 32 rfl (js2_ 33 rfl (js2_ 34 rfl (js2_ 35 rfl ?_)))))))))
     refine js2_ 36 rfl (js2_ 37 rfl (js2_ 38 rfl (js2_ 39 rfl (js2_ 40 rfl (js2_ 41 rfl (js2_ 42 rfl ?_))))))
     refine JA_take 43 (vB true) rfl kf_ kf_ kf_ rfl (fun _ _ _ h=>h) rfl ⟨_,rfl,rfl⟩ (fun _ _=>rfl) ?_
     refine jt_ 44 (vB true) rfl (fun _ _=>rfl) ?_
     refine JA_done kf_ gm_ ?_
     refine n_ (ift (g_ (s_ mv_ (s_ av_ (z_ (kx_ (n_ (g_ (s_ mv_ (s_ (x_add_n (a:=i) (b:=1) rfl rfl om_) (s_ av_ (z_ ?_))))))))))))
     refine JX_round ((i+1,((i:Nat):Int)):Nat × Int) ?_ ?_ se_ i_
     ·try dsimp only
      refine ⟨?_,?_⟩
      ·exact df_
      ·first | exact i1_1.hit om_ as_ (R45.gt_of as_ as_) c45a0_ | exact i1_1.skip om_ (fun h1 h2=>by first | exact absurd h1 as_ | exact absurd h2 (R45.ge_no as_) | exact ⟨by omega,by assumption⟩)
     ·try dsimp only
      first | omega | (simp;omega) | (simp_all;omega)
    ·have h5:=of_ h5
     refine jp_ 26 rfl mv_ (jp_ 27 rfl (x_nilCheck rfl) (jp_ 28 rfl (fA 0 fi52_0) (jq_ 29 rfl (ld_ 0 sc22) (jp_ 30 rfl mv_ (jq_ 31 rfl (ixF SRow.enc_len (cells_ro rowsR) underlying22 sz57) (jp_ 32 rfl (fB fi57_1) (jq_ 33 rfl (ldF 1 SRow.enc_len (cells_ro rowsR) sc9) (jp_ 34 rfl mv_ (jp_ 35 rfl (x_nilCheck rfl) ?_ (hw:=w_)) (hw:=w_)) (hw:=w_)) (hw:=w_)) (hw:=w_)) (hw:=w_)) (hw:=w_)) (hw:=w_)) (hw:=w_)) (hw:=w_)
     refine jp_ 36 rfl (fA 0 fi52_0) (jq_ 37 rfl (ld_ 0 sc22) (jp_ 38 rfl mv_ (jq_ 39 rfl (ixF (k:=(a).toNat) (hy:=(ix_nat rfl om_)) SRow.enc_len (cells_ro rowsR) underlying22 sz57) (jp_ 40 rfl (fB fi57_1) (jq_ 41 rfl (ldF 1 SRow.enc_len (cells_ro rowsR) sc9) (jp_ 42 rfl (x_lss_s rfl rfl) ?_ (hw:=w_)) (hw:=w_)) (hw:=w_)) (hw:=w_)) (hw:=w_)) (hw:=w_)) (hw:=w_)
     refine JA_take 43 (vB (Op.bytesLess ((rows.getD i default).Key) ((rows.getD ((a).toNat) default).Key))) rfl kf_ kf_ kf_ rfl (fun _ _ _ h=>h) rfl ⟨_,rfl,rfl⟩ (fun _ _=>rfl) ?_
     refine jt_ 44 (vB (Op.bytesLess ((rows.getD i default).Key) ((rows.getD ((a).toNat) default).Key))) rfl (fun _ _=>rfl) ?_
     refine JA_done kf_ gm_ ?_
     refine n_ ?_
     refine if_ (fun h6=>?_) (fun h6=>?_)
     ·have h6w:=h6
      refine g_ (s_ mv_ (s_ av_ (z_ (kx_ (n_ (g_ (s_ mv_ (s_ (x_add_n (a:=i) (b:=1) rfl rfl om_) (s_ av_ (z_ ?_))))))))))
      refine JX_round ((i+1,((i:Nat):Int)):Nat × Int) ?_ ?_ se_ i_
      ·try dsimp only
       refine ⟨?_,?_⟩
       ·exact df_
       ·first | exact i1_1.hit om_ as_ (R45.gt_of as_ as_) c45a0_ | exact i1_1.skip om_ (fun h1 h2=>by first | exact absurd h1 as_ | exact absurd h2 (R45.ge_no as_) | exact ⟨by omega,by assumption⟩)
      ·try dsimp only
       first | omega | (simp;omega) | (simp_all;omega)
     ·have h6w:=h6
      refine sk_ (kx_ (n_ (g_ (s_ mv_ (s_ (x_add_n (a:=i) (b:=1) rfl rfl om_) (s_ av_ (z_ ?_)))))))
      refine JX_round ((i+1,a):Nat × Int) ?_ ?_ se_ i_
      ·try dsimp only
       refine ⟨?_,?_⟩
       ·exact df_
       ·first | exact i1_1.hit om_ as_ (R45.gt_of as_ as_) c45a0_ | exact i1_1.skip om_ (fun h1 h2=>by first | exact absurd h1 as_ | exact absurd h2 (R45.ge_no as_) | exact ⟨by omega,by assumption⟩)
      ·try dsimp only
       first | omega | (simp;omega) | (simp_all;omega)
   ·have h3:((Op.bytesLess ((rows.getD i default).Key) key)||(decide ((rows.getD i default).Key=key)))=true:=bnot_false h3
    simp only [Bool.and_eq_true,Bool.or_eq_true,Bool.and_eq_false_iff,Bool.or_eq_false_iff,Bool.not_eq_true',Bool.not_eq_false',decide_eq_true_eq,decide_eq_false_iff_not] at h3
    refine js2_ 23 rfl (js2_ 24 rfl (js2_ 25 rfl (ju_ 26 rfl (ju_ 27 rfl (ju_ 28 rfl (ju_ 29 rfl (ju_ 30 rfl (ju_ 31 rfl (ju_ 32 rfl ?_)))))))))
    refine ju_ 33 rfl (ju_ 34 rfl (ju_ 35 rfl (ju_ 36 rfl (ju_ 37 rfl (ju_ 38 rfl (ju_ 39 rfl (ju_ 40 rfl (ju_ 41 rfl (ju_ 42 rfl ?_)))))))))
    refine js2_ 43 rfl ?_
    refine jt_ 44 (vB false) rfl (fun _ _=>rfl) ?_
    refine JA_done kf_ gm_ ?_
    refine n_ (iff_ (sk_ (kx_ (n_ (g_ (s_ mv_ (s_ (x_add_n (a:=i) (b:=1) rfl rfl om_) (s_ av_ (z_ ?_)))))))))
    refine JX_round ((i+1,a):Nat × Int) ?_ ?_ se_ i_
    ·try dsimp only
     refine ⟨?_,?_⟩
     ·exact df_
     ·first | exact i1_1.hit om_ as_ (R45.gt_of as_ as_) c45a0_ | exact i1_1.skip om_ (fun h1 h2=>by first | exact absurd h1 as_ | exact absurd h2 (R45.ge_no as_) | exact ⟨by omega,by assumption⟩)
    ·try dsimp only
     first | omega | (simp;omega) | (simp_all;omega)
  ·have h2:=of_ h2
   refine js2_ 11 rfl (js2_ 12 rfl (js2_ 13 rfl (js2_ 14 rfl (js2_ 15 rfl (js2_ 16 rfl (js2_ 17 rfl (js2_ 18 rfl (js2_ 19 rfl (js2_ 20 rfl ?_)))))))))
   refine jt_ 21 (vB false) rfl (fun _ _=>rfl) ?_
   refine jp_ 22 rfl mv_ (js2_ 23 rfl (js2_ 24 rfl (js2_ 25 rfl (ju_ 26 rfl (ju_ 27 rfl (ju_ 28 rfl (ju_ 29 rfl (ju_ 30 rfl (ju_ 31 rfl ?_)))))))))
   refine ju_ 32 rfl (ju_ 33 rfl (ju_ 34 rfl (ju_ 35 rfl (ju_ 36 rfl (ju_ 37 rfl (ju_ 38 rfl (ju_ 39 rfl (ju_ 40 rfl (ju_ 41 rfl ?_)))))))))
   refine ju_ 42 rfl (js2_ 43 rfl ?_)
   refine jt_ 44 (vB false) rfl (fun _ _=>rfl) ?_
   refine JA_done kf_ gm_ ?_
   refine n_ (iff_ (sk_ (kx_ (n_ (g_ (s_ mv_ (s_ (x_add_n (a:=i) (b:=1) rfl rfl om_) (s_ av_ (z_ ?_)))))))))
   refine JX_round ((i+1,a):Nat × Int) ?_ ?_ se_ i_
   ·try dsimp only
    refine ⟨?_,?_⟩
    ·exact df_
    ·first | exact i1_1.hit om_ as_ (R45.gt_of as_ as_) c45a0_ | exact i1_1.skip om_ (fun h1 h2=>by first | exact absurd h1 as_ | exact absurd h2 (R45.ge_no as_) | exact ⟨by omega,by assumption⟩)
   ·try dsimp only
    first | omega | (simp;omega) | (simp_all;omega)
 ·refine J_exit (ne_ (re_ (kh_ (n_ (q_ ?_)))))
  refine q_ (g_ (s_ mv_ (s_ (x_lss_i rfl rfl) (z_ (n_ ?_)))))
  refine ifd (fun h7w h7=>?_) (fun h7w h7=>?_)
  ·refine q_ (g_ (s_ av_ (s_ av_ (s_ av_ (z_ (n_ (rt_ (nr_ ?_))))))))
   refine JX_rets [_,_,_] (Value.tuple #[_,_,_]) results239 (fun w h=>⟨rfl,rfl,rfl,trivial⟩) rfl _ i_ ⟨[],[],6,?_,?_,?_⟩
   ·rfl
   ·rfl
   ·exact c45a3_
  ·refine sk_ (n_ (q_ ?_))
   refine drB [] 19 mixed ?_
   refine jp_ 0 rfl mv_ (jp_ 1 rfl (x_nilCheck rfl) (jp_ 2 rfl (fA 0 fi52_0) (jq_ 3 rfl (ld_ 0 sc22) (jp_ 4 rfl mv_ (jq_ 5 rfl (ixF (k:=(a).toNat) (hy:=(ix_nat rfl om_)) SRow.enc_len (cells_ro rowsR) underlying22 sz57) (jp_ 6 rfl (fB fi57_1) (jq_ 7 rfl (ldF 1 SRow.enc_len (cells_ro rowsR) sc9) (jp_ 8 rfl mv_ (jp_ 9 rfl (x_nilCheck rfl) ?_)))))))))
   refine jp_ 10 rfl (fA 0 fi52_0) (jq_ 11 rfl (ld_ 0 sc22) (jp_ 12 rfl mv_ (jq_ 13 rfl (ixF (k:=(a).toNat) (hy:=(ix_nat rfl om_)) SRow.enc_len (cells_ro rowsR) underlying22 sz57) (jp_ 14 rfl (fB fi57_2) (jq_ 15 rfl (ldF 2 SRow.enc_len (cells_ro rowsR) sc9) (jp_ 16 rfl av_ (jp_ 17 rfl av_ (jp_ 18 rfl av_ ?_))))))))
   refine JA_done kf_ gm_ ?_
   refine n_ (rt_ ?_)
   refine JX_rets [_,_,_] (Value.tuple #[_,_,_]) results239 (fun w h=>⟨rfl,rfl,rfl,trivial⟩) rfl _ i_ ⟨(rows.getD ((a).toNat) default).Key,(rows.getD ((a).toNat) default).Record,0,?_,?_,?_⟩
   ·rfl
   ·rfl
   ·exact c45a3_
theorem f24_ok (rs:LB_) (rsA:OA_) (rsC:Nat) (w:World) (rsR:RO [] w rsA (rs.map vS)) (q0:rs.length≤1000000):Calls prog 24 #[vL rsA rs.length rsC] w (Gives [] w fun v L=>∃ A2:OA_,∃ c2:Nat,v=vL A2 rs.length c2∧L=[row (.slice A2 rs.length c2) 9 1 rs.length (rs.map vS)]):=by
 refine calls_J [] 8 func24 rfl ntmps24 [(0,_)] rfl rfl (Give.nil w) ?_
 refine q_ (g_ (s_ av_ (z_ (n_ (q_ (q_ (g_ (s_ mv_ (s_ (x_eql_sl rfl rfl underlying25) (z_ (n_ ?_)))))))))))
 refine if_ (fun h1=>?_) (fun h1=>?_)
 ·refine q_ (g_ (s_ av_ (z_ (n_ (rt_ (nr_ ?_))))))
  refine JX_rets [_] _ results24 (fun w h=>⟨rfl,trivial⟩) rfl [row (.slice none ([]:LB_).length 0) 9 1 ([]:LB_).length (([]:LB_).map vS)] (fun _ h=>(h.nilrow 9 1).keep [T_] rfl) ⟨none,0,?_,?_⟩
  ·have e_x0:(0:Nat)=rs.length:=by first | rfl | (rw [RO.empty rsR as_];rfl)
   exact congrArg (fun (x0:Nat)=>vL none x0 0) e_x0
  ·have e_y0:(([]:LB_):LB_)=rs:=by
    first | rfl | exact (RO.empty rsR as_).symm
   have e_all:=(congrArg (fun (y0:LB_)=>[row (.slice none y0.length 0) 9 1 y0.length (y0.map vS)]) e_y0)
   exact e_all
 ·refine sk_ (n_ (q_ (g_ (o_ (O_buildSlice0 underlying25 sz9 fun b2=>?_)))))
  refine s_ mv_ ?_
  refine JO_weaken (E':=[(0,vL rsA rs.length rsC),(2,vL none 0 0),(3,vL rsA rs.length rsC),(4,vB rsA.isNone),(5,vL (some ⟨b2,0,none⟩) ((([]:LB_)).length) 0),(6,vL rsA rs.length rsC)]) (L':=[row (.slice (some ⟨b2,0,none⟩) ([]:LB_).length 0) 9 1 ([]:LB_).length (([]:LB_).map vS)]) se_ (fun _ h=>(St.torow (cs:=[]) h 1 0 rfl dd_).keep [T_] rfl) ?_
  refine o_ (O_append_m 0 vS ([]:LB_) rs underlying25 sz9 by9 ze9 rfl rfl rfl rfl rfl (fun _=>rfl) (cells_ro rsR) lt_ lt_ fun A3 c4=>?_)
  refine s_ av_ (z_ (n_ (rt_ ?_)))
  refine JX_rets [_] _ results24 (fun w h=>⟨rfl,trivial⟩) rfl _ i_ ⟨A3,c4,?_,?_⟩
  ·have e_x0:((([]:LB_)++rs).length:Nat)=rs.length:=by first | rfl | (rw [RO.empty rsR as_];rfl)
   exact congrArg (fun (x0:Nat)=>vL A3 x0 c4) e_x0
  ·have e_y0:(([]:LB_)++rs:LB_)=rs:=by
    first | rfl | exact (RO.empty rsR as_).symm
   have e_all:=(congrArg (fun (y0:LB_)=>[row (.slice A3 y0.length c4) 9 1 y0.length (y0.map vS)]) e_y0)
   exact e_all
theorem f11_ok (s:Nat) (rows:List SRow) (rowsA:OA_) (rowsC:Nat) (calls:Nat) (b:Binding) (w:World) (rowsR:RO [s] w rowsA (rows.flatMap SRow.enc)) (bN:Kp [s] w (Binding.ok b)) (q0:rows.length≤1000) (q1:calls≤900000) (q2:R45.Dist rows) (q3:b.Lines.length≤1000) (hg:Give [s] w [sH_ s rowsA rows.length rowsC calls]):Calls prog 11 #[Value.iface 41 (pB s 0),vG (Binding.enc b)] w (Gives [s] w fun v L=>∃ out:LB_,∃ outA:OA_,∃ outC:Nat,∃ c2:Nat,v=Value.tuple #[vL outA out.length outC,vI 0]∧L=[sH_ s rowsA rows.length rowsC c2,row (.slice outA out.length outC) 9 1 out.length (out.map vS)]∧(out=R45.recV rows b)∧(c2≤calls+rows.length+1)):=by
 refine calls_J [s] 55 func11 rfl ntmps11 [(0,_),(1,_)] rfl rfl hg ?_
 refine q_ (g_ (o_ (bxG fun b1=>?_)))
 refine s_ av_ (s_ av_ (z_ (n_ (q_ (g_ (s_ av_ (z_ (n_ (q_ (k_ (q_ (g_ (s_ (fA 0 fi33_0) (s_ (fA 32 fi27_12) (r_ (ld_ 0 sc4) (s_ av_ (z_ (n_ ?_))))))))))))))))))
 refine if_ (fun h2=>?_) (fun h2=>?_)
 ·have h2w:=h2
  refine g_ (s_ (fA 0 fi33_0) (s_ (fA 33 fi27_13) (r_ (ld_ 0 sc25) ?_)))
  refine c1 (cl_ ca24) (fun w hS=>f24_ok _ _ _ w ((Kp.ro (bN.imp fun _ h=>h)).on hS (fun _ h=>by cases h)) hy_) ?_
  rintro _ _ ⟨e3,e4,rfl,rfl⟩
  refine s_ av_ (z_ (kx_ (n_ (q_ (q_ (g_ (s_ mv_ (s_ (lnS underlying25) (s_ (x_gtr_i rfl rfl) (z_ (n_ ?_)))))))))))
  refine ifd (fun h5w h5=>?_) (fun h5w h5=>?_)
  ·exfalso;(try simp only [List.length_append,List.length_singleton] at *);omega
  ·refine sk_ (n_ (q_ (g_ (s_ mv_ (s_ av_ (s_ av_ (z_ (n_ (rt_ ?_)))))))))
   refine JX_rets [_,_] (Value.tuple #[_,_]) results11 (fun w h=>⟨rfl,rfl,trivial⟩) rfl [sH_ s rowsA rows.length rowsC calls,row (.slice e3 b.Lines.length e4) 9 1 b.Lines.length (b.Lines.map vS)] (fun _ h=>(h.front 2 _ rfl).keep [T_,T_,F_] rfl) ⟨b.Lines,e3,e4,calls,?_,?_,?_,?_⟩
   ·rfl
   ·rfl
   ·exact c45a2_
   ·omega
 ·have h2w:=h2
  refine q_ (g_ (s_ (fA 0 fi33_0) (s_ (fA 34 fi27_14) (r_ (ld_ 0 sc4) (s_ mv_ ?_)))))
  refine or_ 2 (b.Create) (fun g6=>?_) ?_
  ·have g6r:=g6
   refine sg_ g6 (fA 69 fi33_3) (rg_ g6 (ld_ 0 sc4) ?_)
   exact cr_
  refine s_ av_ (z_ (n_ ?_))
  refine if_ (fun h7=>?_) (fun h7=>?_)
  ·have h7w:=h7
   simp only [Bool.and_eq_true,Bool.or_eq_true,Bool.and_eq_false_iff,Bool.or_eq_false_iff,Bool.not_eq_true',Bool.not_eq_false',decide_eq_true_eq,decide_eq_false_iff_not] at h7
   refine sk_ (kx_ (n_ (q_ (q_ (g_ (s_ mv_ (s_ (lnS underlying25) (jr_ (vB false) (z_ (n_ (iff_ (sk_ (n_ (q_ (g_ (s_ mv_ (s_ av_ (s_ av_ (z_ (n_ (rt_ ?_)))))))))))))))))))))
   refine JX_rets [_,_] (Value.tuple #[_,_]) results11 (fun w h=>⟨rfl,rfl,trivial⟩) rfl [sH_ s rowsA rows.length rowsC calls,row (.slice none ([]:LB_).length 0) 9 1 ([]:LB_).length (([]:LB_).map vS)] (fun _ h=>((h.nilrow 9 1).front 2 _ rfl).keep [T_,T_,F_] rfl) ⟨([]:LB_),none,0,calls,?_,?_,?_,?_⟩
   ·have e_x0:(0:Nat)=(([]:LB_).length):=by exact df_
    exact congrArg (fun (x0:Nat)=>Value.tuple #[vL none x0 0,vI 0]) e_x0
   ·rfl
   ·exact c45a2_
   ·omega
  ·have h7w:=h7
   have ⟨h7,h8⟩:=bor_false h7
   refine q_ (g_ (s_ av_ (z_ (n_ (k_ ?_)))))
   refine J_loop (X:=Bytes × (LB_) × (OA_) × Nat × Nat) (fun (⟨k,out,outA,outC,c2⟩:Bytes × (LB_) × (OA_) × Nat × Nat)=>(R45.RecJ rows b.EData.Id k out)∧(c2≤calls+out.length)) (fun (⟨k,out,outA,outC,c2⟩:Bytes × (LB_) × (OA_) × Nat × Nat)=>[(0,Value.iface 41 (pB s 0)),(3,pB b1 0),(6,vL outA out.length outC),(7,vS k)]) (fun (⟨k,out,outA,outC,c2⟩:Bytes × (LB_) × (OA_) × Nat × Nat)=>[blk b1 33 (Binding.enc b),sH_ s rowsA rows.length rowsC c2,row (.slice outA out.length outC) 9 1 out.length (out.map vS)]) (fun (⟨k,out,outA,outC,c2⟩:Bytes × (LB_) × (OA_) × Nat × Nat)=>(R45.above rows b.EData.Id k).length) (([],([]:LB_),none,0,calls):Bytes × (LB_) × (OA_) × Nat × Nat) ?_ se_ (fun _ h=>(((h.nilrow 9 1).front 2 _ rfl).front 2 _ rfl).keep [T_,T_,T_] rfl) ?_
   ·try dsimp only
    refine ⟨?_,?_⟩
    ·exact R45.RecJ.start
    ·exact Nat.le_refl _
   rintro ⟨k,out,outA,outC,c2⟩ hI1
   obtain ⟨i1_0,i1_1⟩:=hI1
   try dsimp only at i1_0
   try dsimp only at i1_1
   have hln:=i1_0.len
   try dsimp only
   refine k_ (q_ (g_ (s_ mv_ (s_ (fA 36 fi33_2) (s_ (fA 38 fi31_2) (s_ (fA 38 fi24_0) (r_ (ld_ 0 sc3) (s_ mv_ ?_))))))))
   refine JO_call [s] [sH_ s rowsA rows.length rowsC c2] [blk b1 33 (Binding.enc b),row (.slice outA out.length outC) 9 1 out.length (out.map vS)] rfl trivial (fun _=>x_invokeP rfl mt239 ca239 mtd rfl) (fun _ h=>(((h.front 2 _ rfl).front 1 _ rfl).front 2 _ rfl).keep [T_,T_,T_] rfl) (own_mem rfl) (fun w hS=>f239_ok s rows rowsA rowsC c2 b.EData.Id k w (rowsR.on hS (own_mem rfl)) hy_ hy_ (hS.give (own_in rfl))) ?_
   rintro _ _ ⟨k9,r10,e11,rfl,rfl,hf12⟩
   have ha13:=R45.NextJ.e as_
   refine s_ mv_ (s_ (ex_ 0) (s_ (ex_ 1) (s_ (ex_ 2) (s_ av_ (s_ av_ (s_ av_ (z_ (n_ (q_ (q_ (g_ (s_ mv_ (s_ (x_eql_i rfl rfl) ?_)))))))))))))
   refine z_ (n_ ?_)
   refine ifd (fun h14w h14=>?_) (fun h14w h14=>?_)
   ·refine J_exit (ne_ ?_)
    refine JX_block_miss rfl ?_
    refine re_ (kh_ (kx_ (n_ (q_ (q_ (g_ (s_ mv_ (s_ (lnS underlying25) (s_ (x_gtr_i rfl rfl) (z_ (xk_ [6,53] ?_)))))))))))
    refine n_ ?_
    refine ifd (fun h15w h15=>?_) (fun h15w h15=>?_)
    ·exfalso;(try simp only [List.length_append,List.length_singleton] at *);omega
    ·refine sk_ (n_ (q_ (g_ (s_ mv_ (s_ av_ (s_ av_ (z_ (n_ (rt_ ?_)))))))))
     refine JX_rets [_,_] (Value.tuple #[_,_]) results11 (fun w h=>⟨rfl,rfl,trivial⟩) rfl _ (fun _ h=>h.keep [T_,F_,T_] rfl) ⟨out,outA,outC,c2+1,?_,?_,?_,?_⟩
     ·rfl
     ·have e_y0:(c2+1:Nat)=(c2+1):=by
       exact df_
      have e_all:=(congrArg (fun (y0:Nat)=>[sH_ s rowsA rows.length rowsC y0,row (.slice outA out.length outC) 9 1 out.length (out.map vS)]) e_y0)
      exact e_all
     ·exact c45a2_
     ·omega
   ·refine sk_ (n_ (q_ (q_ (g_ (s_ mv_ (s_ (x_neq_i rfl rfl) (z_ (xk_ [0,3,6,7,8,9,10,25] ?_))))))))
    refine n_ ?_
    refine ifd (fun h16w h16=>?_) (fun h16w h16=>?_)
    ·exfalso;(try simp only [List.length_append,List.length_singleton] at *);omega
    ·refine sk_ (n_ (q_ (g_ (s_ mv_ (s_ mv_ (o_ (O_buildSlice (cs:=[vS r10]) underlying25 sz9 ze9 dd_ dd_ kf_ fun b17=>?_)))))))
     refine o_ (O_append_m 3 vS out [r10] underlying25 sz9 by9 ze9 rfl rfl rfl rfl rfl (fun _=>rfl) (cells_blk 0 (off:=0) (m:=1) rfl rfl) lt_ lt_ fun A18 c19=>?_)
     refine s_ mv_ (s_ av_ (s_ av_ (z_ (n_ (q_ (g_ (s_ mv_ (s_ (lnS underlying25) (s_ (x_gtr_i rfl rfl) (z_ (n_ ?_)))))))))))
     refine ifd (fun h20w h20=>?_) (fun h20w h20=>?_)
     ·exfalso;(try simp only [List.length_append,List.length_singleton] at *);omega
     ·refine sk_ (kx_ ?_)
      refine JX_round ((k9,out++[r10],A18,c19,c2+1):Bytes × (LB_) × (OA_) × Nat × Nat) ?_ ?_ se_ (fun _ h=>(((h.front 3 _ rfl).front 2 _ rfl).front 3 _ rfl).keep [T_,T_,T_,F_] rfl)
      ·try dsimp only
       refine ⟨?_,?_⟩
       ·exact i1_0.step q2 as_ as_
       ·rw [List.length_append,List.length_singleton];omega
      ·try dsimp only
       exact R45.RecJ.less q2 as_ as_
end Go.Proofs.YtggobegaiijhhaaGreatDoor
namespace Go.Proofs.YtggobegaiijhhaaGreatDoor
open Go.GV
namespace R45
def FewR (rows:List SRow) (m:Int):Prop:=(rows.length:Int)≤m ∧ ∀ i,(rows.getD i default).Key.length≤60∧(rows.getD i default).Record.length≤300
def FewP (rows:List SRow) (l:List Binding):Prop:=FewR rows 30∧l.length≤4 ∧ ∀ i,(l.getD i default).Lines.length≤310∧(l.getD i default).Name.length≤60 ∧ ∀ j,((l.getD i default).Lines.getD j []).length≤60
theorem all_end {α:Type} {l:List α} [Inhabited α] {k:Nat} {p:α→Prop} (hd:p default) (h:∀ i,i<k→p (l.getD i default)) (hk:l.length≤k) (i:Nat):p (l.getD i default):=by
  by_cases hi:i<k
  · exact h i hi
  · rw [List.getD_eq_getElem?_getD,List.getElem?_eq_none (by omega)];exact hd
theorem few_rows {rows:List SRow} {k:Nat} {m:Int} (h:∀ i,i<k→(rows.getD i default).Key.length≤60∧(rows.getD i default).Record.length≤300) (hk:rows.length≤k) (hm:(rows.length:Int)≤m):FewR rows m:=
  ⟨hm,fun i=>all_end (p:=fun x:SRow=>x.Key.length≤60∧x.Record.length≤300) ⟨Nat.zero_le _,Nat.zero_le _⟩ h hk i⟩
def FewB (b:Binding):Prop:=b.Lines.length≤310∧b.Name.length≤60 ∧ ∀ j,(b.Lines.getD j []).length≤60
theorem few_b {b:Binding} {k:Nat} (h1:b.Lines.length≤310) (h2:b.Name.length≤60) (h:∀ j,j<k→(b.Lines.getD j []).length≤60) (hk:b.Lines.length≤k):FewB b:=
  ⟨h1,h2,fun j=>all_end (α:=Bytes) (p:=fun x:Bytes=>x.length≤60) (Nat.zero_le _) h hk j⟩
theorem few_all {rows:List SRow} {l:List Binding} {k:Nat} (h:∀ i,i<k→FewB (l.getD i default)) (hk:l.length≤k) (hr:FewR rows 30) (hl:l.length≤4):FewP rows l:=
  ⟨hr,hl,fun i=>all_end (p:=FewB) ⟨Nat.zero_le _,Nat.zero_le _,fun j=>by show (([]:List Bytes).getD j []).length≤60;simp⟩ h hk i⟩
def noSet:DataSet:=⟨0,0,0,0,0,0,0,0,0,0,0,0,0,0,false,0,[],[],0,0,false⟩
def freshB (n:Bytes) (id:Int):Binding:={ (default:Binding) with Name:=n,Tracks:=1,Create:=true,Set:={ noSet with Id:=id } }
def inlineB (n:Bytes) (l:List Bytes) (A:Option Addr) (c:Nat):Binding:={ (default:Binding) with Name:=n,Inline:=true,Lines:=l,LinesA:=A,LinesC:=c }
end R45
theorem kp_true {S:List Nat} {w:World} {b:Binding} (h:RO S w b.LinesA (b.Lines.map vS)):Kp S w (Binding.ok b):=h.kp
theorem fresh_kp {S:List Nat} {w:World} (n:Bytes) (id:Int):Kp S w (Binding.ok (R45.freshB n id)):=kp_true (b:=R45.freshB n id) RO.nil
theorem inline_kp {S:List Nat} {w:World} {n:Bytes} {l:List Bytes} {A:Option Addr} {c:Nat} (h:RO S w A (l.map vS)):Kp S w (Binding.ok (R45.inlineB n l A c)):=kp_true (b:=R45.inlineB n l A c) h
theorem Binding.ok_none {S:List Nat} {w:World} : Kp S w (okL Binding.ok ([]:List Binding)):=okL_nil (kp_true (b:=default) RO.nil)
theorem okL_cons {α:Type} [Inhabited α] {ok:α→World→Prop} {S:List Nat} {w:World} {a:α} {l:List α} (h:Kp S w (ok a)) (k:Kp S w (okL ok l)):Kp S w (okL ok (a::l)):=(h.and k).imp fun w hh i=>by
  cases i with
  | zero=>exact hh.1
  | succ i=>exact hh.2 i
end Go.Proofs.YtggobegaiijhhaaGreatDoor
namespace Go.Proofs.YtggobegaiijhhaaGreatDoor
open Go.GV Go.Proofs.Tryz Ty
open Go.GV.Ent (blk row mp)
theorem c45b2_ {p:Prop} (h:p:=by first | (intro h;exact absurd h dd_) | exact fun h=>by obtain ⟨h1,h2⟩:=band_true h;exact R45.few_all (fun i hi=>i1_1 i om_) om_ (by simp_all) (by have:=ot_ h2;omega)):p:=h
theorem c45b3_ {p:Prop} (h:p:=by first | exact R45.NewJ.same (by first | rfl | assumption) | exact i2_1.go as_ (fun h=>by simp_all)):p:=h
theorem c45b6_ {p:Prop} (h:p:=by first | (intro h;exact absurd h dd_) | exact fun h=>R45.few_rows (fun i hi=>i1_1 i om_) om_ (ot_ h)):p:=h
theorem c45b7_ {p:Prop} (h:p:=by first | exact i1_1.add om_ i2_1 (by simpa using ‹_›) om_ | exact i1_1.skip om_):p:=h
theorem f23_ok (rows:List SRow) (rowsA:OA_) (rowsC:Nat) (m:Int) (w:World) (rowsR:RO [] w rowsA (rows.flatMap SRow.enc)) (q0:rows.length≤9223372036854775807):Calls prog 23 #[vL rowsA rows.length rowsC,vI m] w (Gives [] w fun v L=>∃ z:Bool,v=vB z∧L=[]∧(z=true→R45.FewR rows m)):=by
 refine calls_J [] 32 func23 rfl ntmps23 [(0,_),(1,_)] rfl rfl (Give.nil w) ?_
 refine q_ (g_ (s_ av_ (z_ (n_ (q_ (q_ (g_ (s_ av_ (z_ (n_ (k_ ?_)))))))))))
 refine J_loop (X:=Nat) (fun (k:Nat)=>(k≤rows.length)∧(∀ i,i<k→(rows.getD i default).Key.length≤60∧(rows.getD i default).Record.length≤300)) (fun (k:Nat)=>[(0,vL rowsA rows.length rowsC),(1,vI m),(5,vN k)]) (fun (k:Nat)=>[]) (fun (k:Nat)=>rows.length-k) (0:Nat) ?_ ⟨rfl,rfl,rfl,trivial⟩ i_ ?_
 ·try dsimp only
  refine ⟨?_,?_⟩
  ·exact df_
  ·intro i hi;omega
 intro k hI1
 obtain ⟨i1_0,i1_1⟩:=hI1
 try dsimp only at i1_0
 try dsimp only at i1_1
 try dsimp only
 refine q_ (q_ (g_ (s_ mv_ (s_ mv_ (s_ (lnS underlying22) (s_ (x_lss_i rfl rfl) (z_ (n_ ?_))))))))
 refine ifd (fun h1w h1=>?_) (fun h1w h1=>?_)
 ·refine sk_ (n_ (q_ (k_ (q_ (g_ (s_ mv_ (s_ mv_ (r_ (ixF SRow.enc_len (cells_ro rowsR) underlying22 sz57) (s_ (fB fi57_1) (r_ (ldF 1 SRow.enc_len (cells_ro rowsR) sc9) (s_ (x_len_s rfl underlying9) (s_ (x_gtr_i rfl rfl) (s_ mv_ ?_)))))))))))))
  refine or_ 7 (decide ((300:Int)<((((rows.getD k default).Record).length:Nat):Int))) (fun g2=>?_) ?_
  ·have g2r:=g2
   have g2r:=of_ g2r
   refine sg_ g2 mv_ (sg_ g2 mv_ (rg_ g2 (ixF SRow.enc_len (cells_ro rowsR) underlying22 sz57) (sg_ g2 (fB fi57_2) (rg_ g2 (ldF 2 SRow.enc_len (cells_ro rowsR) sc9) (sg_ g2 (x_len_s rfl underlying9) (sg_ g2 (x_gtr_i rfl rfl) ?_))))))
   exact cr_
  refine z_ (n_ ?_)
  refine if_ (fun h3=>?_) (fun h3=>?_)
  ·simp only [Bool.and_eq_true,Bool.or_eq_true,Bool.and_eq_false_iff,Bool.or_eq_false_iff,Bool.not_eq_true',Bool.not_eq_false',decide_eq_true_eq,decide_eq_false_iff_not] at h3
   refine q_ (g_ (s_ av_ (z_ (n_ (rt_ (kq_ (nr_ (rr_ (kq_ (nr_ ?_))))))))))
   refine JX_rets [_] _ results23 (fun w h=>⟨rfl,trivial⟩) rfl _ i_ ⟨(false),?_,?_,?_⟩
   ·have e_x0:(false:Bool)=(false):=by exact df_
    exact congrArg (fun (x0:Bool)=>vB x0) e_x0
   ·rfl
   ·exact c45b6_
  ·have ⟨h3,h4⟩:=bor_false h3
   have h3:=of_ h3
   have h4:=of_ h4
   refine sk_ (kx_ (n_ (g_ (s_ mv_ (s_ (x_add_n (a:=k) (b:=1) rfl rfl om_) (s_ av_ (z_ ?_)))))))
   refine JX_round (k+1:Nat) ?_ ?_ ⟨rfl,rfl,rfl,trivial⟩ i_
   ·try dsimp only
    refine ⟨?_,?_⟩
    ·exact df_
    ·intro i hi
     by_cases hik:i=k
     ·subst hik;omega
     ·exact i1_1 i om_
   ·try dsimp only
    first | omega | (simp;omega) | (simp_all;omega)
 ·refine J_exit (ne_ (re_ (kh_ (n_ (q_ ?_)))))
  refine g_ (s_ mv_ (s_ (lnS underlying22) (s_ mv_ (s_ (x_leq_i rfl rfl) (s_ av_ (z_ (n_ (rt_ ?_))))))))
  refine JX_rets [_] _ results23 (fun w h=>⟨rfl,trivial⟩) rfl _ i_ ⟨(decide (((rows.length:Nat):Int)≤m)),?_,?_,?_⟩
  ·rfl
  ·rfl
  ·exact c45b6_
theorem f9_ok (rows:List SRow) (rowsA:OA_) (rowsC:Nat) (l:List Binding) (lA:OA_) (lC:Nat) (w:World) (rowsR:RO [] w rowsA (rows.flatMap SRow.enc)) (lR:RO [] w lA (l.flatMap Binding.enc)) (lN:Kp [] w (okL Binding.ok l)) (q0:rows.length≤9223372036854775807) (q1:l.length≤9223372036854775807) (q2:∀ i,(l.getD i default).Lines.length≤9223372036854775807):Calls prog 9 #[vL rowsA rows.length rowsC,vL lA l.length lC] w (Gives [] w fun v L=>∃ z:Bool,v=vB z∧L=[]∧(z=true→R45.FewP rows l)):=by
 refine calls_J [] 47 func9 rfl ntmps9 [(0,_),(1,_)] rfl rfl (Give.nil w) ?_
 refine q_ (g_ (s_ av_ (z_ (n_ (q_ (q_ (g_ (s_ mv_ (s_ (lnS underlying36) (s_ mv_ (z_ (n_ (k_ ?_)))))))))))))
 refine J_loop (X:=Nat) (fun (k:Nat)=>(k≤l.length)∧(∀ i,i<k→R45.FewB (l.getD i default))) (fun (k:Nat)=>[(0,vL rowsA rows.length rowsC),(1,vL lA l.length lC),(9,vL lA l.length lC),(10,vN l.length),(11,vN k)]) (fun (k:Nat)=>[]) (fun (k:Nat)=>l.length-k) (0:Nat) ?_ se_ i_ ?_
 ·try dsimp only
  refine ⟨?_,?_⟩
  ·exact df_
  ·intro i hi;omega
 intro k hI1
 obtain ⟨i1_0,i1_1⟩:=hI1
 try dsimp only at i1_0
 try dsimp only at i1_1
 have hq2:=q2 k
 try dsimp only
 refine q_ (g_ (s_ (x_lss_i rfl rfl) (z_ (n_ (q_ ?_)))))
 refine ifd (fun h1w h1=>?_) (fun h1w h1=>?_)
 ·refine sk_ (n_ (q_ (k_ (q_ (g_ (r_ (ixF Binding.enc_len (cells_ro lR) underlying36 sz33) (r_ (ldFN Binding.enc_len (cells_ro lR) ag33 sz33) (o_ (al_ ze33 fun b2=>?_)))))))))
  refine o_ (stG 0 sz33 ?_)
  refine z_ (n_ (q_ (q_ (g_ (s_ (fA 0 fi33_0) (s_ (fA 33 fi27_13) (r_ (ld_ 0 sc25) (s_ (lnS underlying25) (s_ (x_gtr_i rfl rfl) (s_ mv_ ?_))))))))))
  refine or_ 5 (decide ((60:Int)<((((l.getD k default).Name).length:Nat):Int))) (fun g3=>?_) ?_
  ·have g3r:=g3
   have g3r:=of_ g3r
   refine sg_ g3 (fA 0 fi33_0) (sg_ g3 (fA 0 fi27_0) (rg_ g3 (ld_ 0 sc9) (sg_ g3 (x_len_s rfl underlying9) (sg_ g3 (x_gtr_i rfl rfl) ?_))))
   exact cr_
  refine z_ (n_ ?_)
  refine if_ (fun h4=>?_) (fun h4=>?_)
  ·have h4w:=h4
   simp only [Bool.and_eq_true,Bool.or_eq_true,Bool.and_eq_false_iff,Bool.or_eq_false_iff,Bool.not_eq_true',Bool.not_eq_false',decide_eq_true_eq,decide_eq_false_iff_not] at h4
   refine q_ (g_ (s_ av_ (z_ (n_ (rt_ (nr_ (kq_ (nr_ (rr_ (kq_ (nr_ ?_)))))))))))
   refine JX_rets [_] _ results9 (fun w h=>⟨rfl,trivial⟩) rfl _ (fun _ h=>h.keep [F_] rfl) ⟨(false),?_,?_,?_⟩
   ·have e_x0:(false:Bool)=(false):=by exact df_
    exact congrArg (fun (x0:Bool)=>vB x0) e_x0
   ·rfl
   ·exact c45b2_
  ·have h4w:=h4
   have ⟨h4,h5⟩:=bor_false h4
   have h4:=of_ h4
   have h5:=of_ h5
   refine sk_ (n_ (q_ (g_ (s_ (fA 0 fi33_0) (s_ (fA 33 fi27_13) (r_ (ld_ 0 sc25) (s_ (lnS underlying25) (s_ mv_ (z_ (xk_ [0,1,9,10,11,29,30,31] ?_))))))))))
   refine n_ (k_ ?_)
   refine J_loop (X:=Nat) (fun (j:Nat)=>(j≤(l.getD k default).Lines.length)∧(∀ i,i<j→((l.getD k default).Lines.getD i []).length≤60)) (fun (j:Nat)=>[(0,vL rowsA rows.length rowsC),(1,vL lA l.length lC),(9,vL lA l.length lC),(10,vN l.length),(11,vN k),(29,vL ((l.getD k default).LinesA) ((l.getD k default).Lines.length) ((l.getD k default).LinesC)),(30,vI (((l.getD k default).Lines.length:Nat):Int)),(31,vN j)]) (fun (j:Nat)=>[]) (fun (j:Nat)=>(l.getD k default).Lines.length-j) (0:Nat) ?_ se_ (fun _ h=>h.keep [F_] rfl) ?_
   ·try dsimp only
    refine ⟨?_,?_⟩
    ·exact df_
    ·intro i hi;omega
   intro j hI2
   obtain ⟨i2_0,i2_1⟩:=hI2
   try dsimp only at i2_0
   try dsimp only at i2_1
   try dsimp only
   refine q_ (g_ (s_ (x_lss_i rfl rfl) (z_ (n_ (q_ ?_)))))
   refine ifd (fun h6w h6=>?_) (fun h6w h6=>?_)
   ·refine sk_ (n_ (q_ (k_ (q_ (g_ (r_ (x_indexAddr_at (k:=j) (off:=j) (cells_ro (Kp.ro (lN.imp fun _ h=>(h k)))) underlying25 sz9 rfl rfl lt_ (by rw [List.length_map];first | omega | (simp only [List.length_append,List.length_cons,List.length_nil];omega) | (simp;omega) | (simp_all;omega) | (simp_all;done)) (Nat.mul_one _)) (r_ (ldM vS [] (cells_ro (Kp.ro (lN.imp fun _ h=>(h k)))) sc9) (s_ av_ (z_ (n_ (q_ (g_ (s_ mv_ (s_ (x_len_s rfl underlying9) (s_ (x_gtr_i rfl rfl) (z_ (n_ ?_)))))))))))))))))
    refine ifd (fun h7w h7=>?_) (fun h7w h7=>?_)
    ·refine q_ (g_ (s_ av_ (z_ (n_ (rt_ (kq_ (nr_ (rr_ (kq_ (kq_ (nr_ (rr_ (kq_ (nr_ ?_))))))))))))))
     refine JX_rets [_] _ results9 (fun w h=>⟨rfl,trivial⟩) rfl _ i_ ⟨(false),?_,?_,?_⟩
     ·have e_x0:(false:Bool)=(false):=by exact df_
      exact congrArg (fun (x0:Bool)=>vB x0) e_x0
     ·rfl
     ·exact c45b2_
    ·refine sk_ (kx_ (n_ (g_ (s_ (x_add_n (a:=j) (b:=1) rfl rfl om_) (s_ mv_ (z_ ?_))))))
     refine JX_round (j+1:Nat) ?_ ?_ se_ i_
     ·try dsimp only
      refine ⟨?_,?_⟩
      ·exact df_
      ·intro i hi
       by_cases hij:i=j
       ·subst hij;omega
       ·exact i2_1 i om_
     ·try dsimp only
      first | omega | (simp;omega) | (simp_all;omega)
   ·refine J_exit (ne_ (re_ (kh_ (kx_ (n_ ?_)))))
    refine g_ (s_ (x_add_n (a:=k) (b:=1) rfl rfl om_) (s_ mv_ (z_ ?_)))
    refine JX_round (k+1:Nat) ?_ ?_ se_ i_
    ·try dsimp only
     refine ⟨?_,?_⟩
     ·exact df_
     ·intro i hi
      by_cases hik:i=k
      ·subst hik;exact R45.few_b om_ om_ (fun j hj=>i2_1 j om_) om_
      ·exact i1_1 i om_
    ·try dsimp only
     first | omega | (simp;omega) | (simp_all;omega)
 ·refine J_exit (ne_ (re_ (kh_ (n_ (q_ ?_)))))
  refine g_ (s_ mv_ ?_)
  refine c1 (cl_ ca23) (fun w hS=>f23_ok rows _ _ 30 w (rno rowsR hS) hy_) ?_
  rintro _ _ ⟨z8,rfl,rfl,hf9⟩
  refine s_ mv_ ?_
  refine and_ 3 (decide (((l.length:Nat):Int)≤4)) (fun g10=>?_) ?_
  ·have g10r:=g10
   refine sg_ g10 mv_ (sg_ g10 (lnS underlying36) (sg_ g10 (x_leq_i rfl rfl) ?_))
   exact cr_
  refine s_ av_ (z_ (n_ (rt_ ?_)))
  refine JX_rets [_] _ results9 (fun w h=>⟨rfl,trivial⟩) rfl _ i_ ⟨(z8&&(decide (((l.length:Nat):Int)≤4))),?_,?_,?_⟩
  ·rfl
  ·rfl
  ·exact c45b2_
theorem f10_ok (rows:List SRow) (rowsA:OA_) (rowsC:Nat) (w:World) (rowsR:RO [] w rowsA (rows.flatMap SRow.enc)) (q0:rows.length≤1000000):Calls prog 10 #[vL rowsA rows.length rowsC] w (Gives [] w fun v L=>∃ out:List SRow,∃ outA:OA_,∃ outC:Nat,v=vL outA out.length outC∧L=[row (.slice outA out.length outC) 57 3 out.length (out.flatMap SRow.enc)]∧(R45.DistJ rows rows.length out)):=by
 refine calls_J [] 56 func10 rfl ntmps10 [(0,_)] rfl rfl (Give.nil w) ?_
 refine q_ (g_ (s_ av_ (z_ (n_ (q_ (g_ (o_ (O_buildSlice0 underlying22 sz57 fun b1=>?_))))))))
 refine s_ av_ (z_ (n_ (q_ (q_ (g_ (s_ av_ (z_ (n_ (k_ ?_)))))))))
 refine J_loop (X:=Nat × (List SRow) × (OA_) × Nat) (fun (⟨i,out,outA,outC⟩:Nat × (List SRow) × (OA_) × Nat)=>(i≤rows.length)∧(R45.DistJ rows i out)) (fun (⟨i,out,outA,outC⟩:Nat × (List SRow) × (OA_) × Nat)=>[(0,vL rowsA rows.length rowsC),(2,vL none 0 0),(3,vL outA out.length outC),(4,vN i)]) (fun (⟨i,out,outA,outC⟩:Nat × (List SRow) × (OA_) × Nat)=>[row (.slice outA out.length outC) 57 3 out.length (out.flatMap SRow.enc)]) (fun (⟨i,out,outA,outC⟩:Nat × (List SRow) × (OA_) × Nat)=>rows.length-i) ((0,([]:List SRow),(some ⟨b1,0,none⟩),0):Nat × (List SRow) × (OA_) × Nat) ?_ se_ (fun _ h=>(St.torow (cs:=[]) h 3 0 rfl dd_).keep [T_] rfl) ?_
 ·try dsimp only
  refine ⟨?_,?_⟩
  ·exact df_
  ·exact R45.DistJ.start
 rintro ⟨i,out,outA,outC⟩ hI1
 obtain ⟨i1_0,i1_1⟩:=hI1
 try dsimp only at i1_0
 try dsimp only at i1_1
 have hol:=i1_1.1
 try dsimp only
 refine q_ (q_ (g_ (s_ mv_ (s_ mv_ (s_ (lnS underlying22) (s_ (x_lss_i rfl rfl) (z_ (n_ ?_))))))))
 refine ifd (fun h2w h2=>?_) (fun h2w h2=>?_)
 ·refine sk_ (n_ (q_ (k_ (q_ (g_ (s_ av_ (z_ (n_ (q_ (q_ (g_ (s_ av_ (z_ (n_ (k_ ?_)))))))))))))))
  refine J_loop (X:=Nat × Bool) (fun (⟨k,again⟩:Nat × Bool)=>(k≤i)∧(R45.NewJ rows i k again)) (fun (⟨k,again⟩:Nat × Bool)=>[(0,vL rowsA rows.length rowsC),(2,vL none 0 0),(3,vL outA out.length outC),(4,vN i),(5,vB again),(6,vN k)]) (fun (⟨k,again⟩:Nat × Bool)=>[row (.slice outA out.length outC) 57 3 out.length (out.flatMap SRow.enc)]) (fun (⟨k,again⟩:Nat × Bool)=>i-k) ((0,false):Nat × Bool) ?_ se_ i_ ?_
  ·try dsimp only
   refine ⟨?_,?_⟩
   ·exact df_
   ·exact R45.NewJ.start
  rintro ⟨k,again⟩ hI2
  obtain ⟨i2_0,i2_1⟩:=hI2
  try dsimp only at i2_0
  try dsimp only at i2_1
  try dsimp only
  refine q_ (q_ (g_ (s_ mv_ (s_ mv_ (s_ (x_lss_i rfl rfl) (z_ (n_ ?_)))))))
  refine ifd (fun h3w h3=>?_) (fun h3w h3=>?_)
  ·refine sk_ (n_ (q_ (k_ ?_)))
   refine drB [] 28 mixed ?_
   refine jp_ 0 rfl mv_ (jp_ 1 rfl mv_ ?_)
   refine jb_ 20 (fun h4=>?_) (fun h4=>?_)
   ·refine js2_ 2 rfl (js2_ 3 rfl (js2_ 4 rfl (js2_ 5 rfl (js2_ 6 rfl (js2_ 7 rfl (js2_ 8 rfl (js2_ 9 rfl (js2_ 10 rfl (js2_ 11 rfl ?_)))))))))
    refine js2_ 12 rfl (js2_ 13 rfl (ju_ 14 rfl (ju_ 15 rfl (ju_ 16 rfl (ju_ 17 rfl (ju_ 18 rfl (ju_ 19 rfl (ju_ 20 rfl (ju_ 21 rfl ?_)))))))))
    refine ju_ 22 rfl (ju_ 23 rfl (ju_ 24 rfl (js2_ 25 rfl ?_)))
    refine jt_ 26 (vB true) rfl (fun _ _=>rfl) ?_
    refine jp_ 27 rfl av_ ?_
    refine JA_done kf_ gm_ ?_
    refine kx_ (n_ (g_ (s_ mv_ (s_ (x_add_n (a:=k) (b:=1) rfl rfl om_) (s_ av_ (z_ ?_))))))
    refine JX_round ((k+1,true):Nat × Bool) ?_ ?_ se_ i_
    ·try dsimp only
     refine ⟨?_,?_⟩
     ·exact df_
     ·exact c45b3_
    ·try dsimp only
     first | omega | (simp;omega) | (simp_all;omega)
   ·refine jp_ 2 rfl mv_ (jp_ 3 rfl mv_ (jq_ 4 rfl (ixF SRow.enc_len (cells_ro rowsR) underlying22 sz57) (jp_ 5 rfl (fB0 fi57_0) (jq_ 6 rfl (ldF0 SRow.enc_len (cells_ro rowsR) sc3) (jp_ 7 rfl mv_ (jp_ 8 rfl mv_ (jq_ 9 rfl (ixF SRow.enc_len (cells_ro rowsR) underlying22 sz57) (jp_ 10 rfl (fB0 fi57_0) (jq_ 11 rfl (ldF0 SRow.enc_len (cells_ro rowsR) sc3) ?_ (hw:=w_)) (hw:=w_)) (hw:=w_)) (hw:=w_)) (hw:=w_)) (hw:=w_)) (hw:=w_)) (hw:=w_)) (hw:=w_)) (hw:=w_)
    refine jp_ 12 rfl (x_eql_i rfl rfl) (jp_ 13 rfl mv_ ?_ (hw:=w_)) (hw:=w_)
    refine jb_ 32 (fun h5=>?_) (fun h5=>?_)
    ·have h5:=ot_ h5
     refine jp_ 14 rfl mv_ (jp_ 15 rfl mv_ (jq_ 16 rfl (ixF SRow.enc_len (cells_ro rowsR) underlying22 sz57) (jp_ 17 rfl (fB fi57_1) (jq_ 18 rfl (ldF 1 SRow.enc_len (cells_ro rowsR) sc9) (jp_ 19 rfl mv_ (jp_ 20 rfl mv_ (jq_ 21 rfl (ixF SRow.enc_len (cells_ro rowsR) underlying22 sz57) (jp_ 22 rfl (fB fi57_1) (jq_ 23 rfl (ldF 1 SRow.enc_len (cells_ro rowsR) sc9) ?_ (hw:=w_)) (hw:=w_)) (hw:=w_)) (hw:=w_)) (hw:=w_)) (hw:=w_)) (hw:=w_)) (hw:=w_)) (hw:=w_)) (hw:=w_)
     refine jp_ 24 rfl (x_eql_s rfl rfl) ?_ (hw:=w_)
     refine JA_take 25 (vB (decide ((rows.getD k default).Key=(rows.getD i default).Key))) rfl kf_ kf_ kf_ rfl (fun _ _ _ h=>h) rfl ⟨_,rfl,rfl⟩ (fun _ _=>rfl) ?_
     refine jt_ 26 (vB (decide ((rows.getD k default).Key=(rows.getD i default).Key))) rfl (fun _ _=>rfl) ?_
     refine jp_ 27 rfl av_ ?_
     refine JA_done kf_ gm_ ?_
     refine kx_ (n_ (g_ (s_ mv_ (s_ (x_add_n (a:=k) (b:=1) rfl rfl om_) (s_ av_ (z_ ?_))))))
     refine JX_round ((k+1,decide ((rows.getD k default).Key=(rows.getD i default).Key)):Nat × Bool) ?_ ?_ se_ i_
     ·try dsimp only
      refine ⟨?_,?_⟩
      ·exact df_
      ·exact c45b3_
     ·try dsimp only
      first | omega | (simp;omega) | (simp_all;omega)
    ·have h5:=of_ h5
     refine js2_ 14 rfl (js2_ 15 rfl (js2_ 16 rfl (js2_ 17 rfl (js2_ 18 rfl (js2_ 19 rfl (js2_ 20 rfl (js2_ 21 rfl (js2_ 22 rfl (js2_ 23 rfl ?_)))))))))
     refine js2_ 24 rfl ?_
     refine JA_take 25 (vB false) rfl kf_ kf_ kf_ rfl (fun _ _ _ h=>h) rfl ⟨_,rfl,rfl⟩ (fun _ _=>rfl) ?_
     refine jt_ 26 (vB false) rfl (fun _ _=>rfl) ?_
     refine jp_ 27 rfl av_ ?_
     refine JA_done kf_ gm_ ?_
     refine kx_ (n_ (g_ (s_ mv_ (s_ (x_add_n (a:=k) (b:=1) rfl rfl om_) (s_ av_ (z_ ?_))))))
     refine JX_round ((k+1,false):Nat × Bool) ?_ ?_ se_ i_
     ·try dsimp only
      refine ⟨?_,?_⟩
      ·exact df_
      ·exact c45b3_
     ·try dsimp only
      first | omega | (simp;omega) | (simp_all;omega)
  ·refine J_exit (ne_ (re_ (kh_ (n_ (q_ ?_)))))
   refine g_ (s_ mv_ (s_ (x_not rfl) (z_ (n_ ?_))))
   refine if_ (fun h6=>?_) (fun h6=>?_)
   ·have h6w:=h6
    have h6:(again)=false:=bnot_true h6
    refine g_ (s_ mv_ (s_ mv_ (s_ mv_ (r_ (ixF SRow.enc_len (cells_ro rowsR) underlying22 sz57) (r_ (ldFN SRow.enc_len (cells_ro rowsR) ag57 sz57) (o_ (O_buildSlice (cs:=[vI ((rows.getD i default).Id),vS ((rows.getD i default).Key),vS ((rows.getD i default).Record)]) underlying22 sz57 ze57 dd_ dd_ kf_ fun b7=>?_)))))))
    refine o_ (O_append_f 1 SRow.enc 3 out [(rows.getD i default)] underlying22 sz57 by57 ze57 rfl dd_ rfl rfl rfl rfl SRow.enc_len SRow.enc_one (cells_blk 0 (off:=0) (m:=3) rfl rfl) lt_ lt_ fun A8 c9=>?_)
    refine s_ av_ (z_ (kx_ (n_ (g_ (s_ mv_ (s_ (x_add_n (a:=i) (b:=1) rfl rfl om_) (s_ av_ (z_ ?_))))))))
    refine JX_round ((i+1,out++[(rows.getD i default)],A8,c9):Nat × (List SRow) × (OA_) × Nat) ?_ ?_ se_ (fun _ h=>h.keep [F_,T_] rfl)
    ·try dsimp only
     refine ⟨?_,?_⟩
     ·exact df_
     ·exact c45b7_
    ·try dsimp only
     first | omega | (simp;omega) | (simp_all;omega)
   ·have h6w:=h6
    have h6:(again)=true:=bnot_false h6
    refine sk_ (kx_ (n_ (g_ (s_ mv_ (s_ (x_add_n (a:=i) (b:=1) rfl rfl om_) (s_ av_ (z_ ?_)))))))
    refine JX_round ((i+1,out,outA,outC):Nat × (List SRow) × (OA_) × Nat) ?_ ?_ se_ i_
    ·try dsimp only
     refine ⟨?_,?_⟩
     ·exact df_
     ·exact c45b7_
    ·try dsimp only
     first | omega | (simp;omega) | (simp_all;omega)
 ·refine J_exit (ne_ (re_ (kh_ (n_ (q_ ?_)))))
  refine g_ (s_ mv_ (s_ av_ (z_ (n_ (rt_ ?_)))))
  refine JX_rets [_] _ results10 (fun w h=>⟨rfl,trivial⟩) rfl _ i_ ⟨out,outA,outC,?_,?_,?_⟩
  ·rfl
  ·rfl
  ·rw [show rows.length=i by omega];exact i1_1
theorem f12_ok (rows:List SRow) (rowsA:OA_) (rowsC:Nat) (w:World) (rowsR:RO [] w rowsA (rows.flatMap SRow.enc)):Calls prog 12 #[vL rowsA rows.length rowsC] w (Gives [] w fun v L=>∃ s:Nat,v=pB s 0∧L=[sH_ s rowsA rows.length rowsC 0]):=by
 refine calls_J [] 6 func12 rfl ntmps12 [(0,_)] rfl rfl (Give.nil w) ?_
 refine q_ (g_ (s_ av_ (z_ (n_ (q_ (g_ (s_ mv_ (js_ (vG [vL rowsA rows.length rowsC,vI 0,vI 0,vI 0]) (x_build kf_) (o_ (bxG fun b1=>?_))))))))))
 refine s_ av_ (z_ (n_ (rt_ ?_)))
 refine JX_rets [_] _ results12 (fun w h=>⟨rfl,trivial⟩) rfl _ i_ ⟨b1,?_,?_⟩
 ·rfl
 ·have e_y0:(0:Nat)=0:=by
   exact df_
  have e_all:=(congrArg (fun (y0:Nat)=>[sH_ b1 rowsA rows.length rowsC y0]) e_y0)
  exact e_all
theorem f17_ok (n:Bytes) (id:Int) (w:World):Calls prog 17 #[vS n,vI id] w (Gives [] w fun v L=>v=vG (Binding.enc (R45.freshB n id))∧L=[]):=by
 refine calls_J [] 10 func17 rfl ntmps17 [(0,_),(1,_)] rfl rfl (Give.nil w) ?_
 refine q_ (g_ (o_ (al_ ze33 fun b1=>?_)))
 refine z_ (n_ (q_ (g_ (s_ mv_ (js_ (vG [vS n,vS [],vB false,vI 0,vS [],vS [],vI 0,vI 0,vI 0,vI 0,vI 0,vI 0,vI 0,vI 0,vI 0,vI 0,vI 0,vI 0,vI 0,vI 0,vI 0,vI 0,vI 0,vB false,vI 0,vS [],vS [],vI 0,vI 0,vB false,vI 1,vI 0,vB false,vL none 0 0,vB false]) (x_build kf_) (s_ mv_ (js_ (vG [vI id,vI 0,vI 0,vI 0,vI 0,vI 0,vI 0,vI 0,vI 0,vI 0,vI 0,vI 0,vI 0,vI 0,vB false,vI 0,vS [],vS [],vI 0,vI 0,vB false]) (x_build kf_) ?_)))))))
 refine js_ (vG [vS n,vS [],vB false,vI 0,vS [],vS [],vI 0,vI 0,vI 0,vI 0,vI 0,vI 0,vI 0,vI 0,vI 0,vI 0,vI 0,vI 0,vI 0,vI 0,vI 0,vI 0,vI 0,vB false,vI 0,vS [],vS [],vI 0,vI 0,vB false,vI 1,vI 0,vB false,vL none 0 0,vB false,vS [],vI 0,vS [],vI 0,vI 0,vI 0,vI 0,vI 0,vI 0,vI 0,vI 0,vI 0,vI 0,vI 0,vI 0,vI 0,vI 0,vB false,vI 0,vS [],vS [],vI 0,vI 0,vB false,vL none 0 0,vI 0,vI 0,vI 0,vB false,vS [],vS [],vI 0,vI 0,vL none 0 0,vB true,vI id,vI 0,vI 0,vI 0,vI 0,vI 0,vI 0,vI 0,vI 0,vI 0,vI 0,vI 0,vI 0,vI 0,vB false,vI 0,vS [],vS [],vI 0,vI 0,vB false]) (x_build kf_) (o_ (stG 0 sz33 ?_))
 refine z_ (n_ (rt_ ?_))
 refine JX_rets [_] _ results17 (fun w h=>⟨⟨_,rfl,load_blkN 0 [vS n,vS [],vB false,vI 0,vS [],vS [],vI 0,vI 0,vI 0,vI 0,vI 0,vI 0,vI 0,vI 0,vI 0,vI 0,vI 0,vI 0,vI 0,vI 0,vI 0,vI 0,vI 0,vB false,vI 0,vS [],vS [],vI 0,vI 0,vB false,vI 1,vI 0,vB false,vL none 0 0,vB false,vS [],vI 0,vS [],vI 0,vI 0,vI 0,vI 0,vI 0,vI 0,vI 0,vI 0,vI 0,vI 0,vI 0,vI 0,vI 0,vI 0,vB false,vI 0,vS [],vS [],vI 0,vI 0,vB false,vL none 0 0,vI 0,vI 0,vI 0,vB false,vS [],vS [],vI 0,vI 0,vL none 0 0,vB true,vI id,vI 0,vI 0,vI 0,vI 0,vI 0,vI 0,vI 0,vI 0,vI 0,vI 0,vI 0,vI 0,vI 0,vB false,vI 0,vS [],vS [],vI 0,vI 0,vB false] h rfl ag33 sz33 rfl⟩,trivial⟩) rfl _ (fun _ h=>h.keep [F_] rfl) ⟨?_,?_⟩
 ·have e_x0:((Binding.mk n [] false 0 [] [] 0 0 0 (DataSet.mk 0 0 0 0 0 0 0 0 0 0 0 0 0 0 false 0 [] [] 0 0 false) 1 0 false ([]:LB_) none 0 false [] 0 [] (DataSet.mk 0 0 0 0 0 0 0 0 0 0 0 0 0 0 false 0 [] [] 0 0 false) none 0 0 0 0 0 false [] [] 0 0 none 0 0 true (DataSet.mk id 0 0 0 0 0 0 0 0 0 0 0 0 0 false 0 [] [] 0 0 false)):Binding)=(R45.freshB n id):=by rfl
  exact congrArg (fun (x0:Binding)=>vG (Binding.enc x0)) e_x0
 ·rfl
theorem f18_ok (n:Bytes) (l:LB_) (lA:OA_) (lC:Nat) (w:World) (lR:RO [] w lA (l.map vS)):Calls prog 18 #[vS n,vL lA l.length lC] w (Gives [] w fun v L=>v=vG (Binding.enc (R45.inlineB n l lA lC))∧L=[]):=by
 refine calls_J [] 9 func18 rfl ntmps18 [(0,_),(1,_)] rfl rfl (Give.nil w) ?_
 refine q_ (g_ (o_ (al_ ze33 fun b1=>?_)))
 refine z_ (n_ (q_ (g_ (s_ mv_ (s_ mv_ (js_ (vG [vS n,vS [],vB false,vI 0,vS [],vS [],vI 0,vI 0,vI 0,vI 0,vI 0,vI 0,vI 0,vI 0,vI 0,vI 0,vI 0,vI 0,vI 0,vI 0,vI 0,vI 0,vI 0,vB false,vI 0,vS [],vS [],vI 0,vI 0,vB false,vI 0,vI 0,vB true,vL lA l.length lC,vB false]) (x_build kf_) ?_))))))
 refine js_ (vG [vS n,vS [],vB false,vI 0,vS [],vS [],vI 0,vI 0,vI 0,vI 0,vI 0,vI 0,vI 0,vI 0,vI 0,vI 0,vI 0,vI 0,vI 0,vI 0,vI 0,vI 0,vI 0,vB false,vI 0,vS [],vS [],vI 0,vI 0,vB false,vI 0,vI 0,vB true,vL lA l.length lC,vB false,vS [],vI 0,vS [],vI 0,vI 0,vI 0,vI 0,vI 0,vI 0,vI 0,vI 0,vI 0,vI 0,vI 0,vI 0,vI 0,vI 0,vB false,vI 0,vS [],vS [],vI 0,vI 0,vB false,vL none 0 0,vI 0,vI 0,vI 0,vB false,vS [],vS [],vI 0,vI 0,vL none 0 0,vB false,vI 0,vI 0,vI 0,vI 0,vI 0,vI 0,vI 0,vI 0,vI 0,vI 0,vI 0,vI 0,vI 0,vI 0,vB false,vI 0,vS [],vS [],vI 0,vI 0,vB false]) (x_build kf_) (o_ (stG 0 sz33 ?_))
 refine z_ (n_ (rt_ ?_))
 refine JX_rets [_] _ results18 (fun w h=>⟨⟨_,rfl,load_blkN 0 [vS n,vS [],vB false,vI 0,vS [],vS [],vI 0,vI 0,vI 0,vI 0,vI 0,vI 0,vI 0,vI 0,vI 0,vI 0,vI 0,vI 0,vI 0,vI 0,vI 0,vI 0,vI 0,vB false,vI 0,vS [],vS [],vI 0,vI 0,vB false,vI 0,vI 0,vB true,vL lA l.length lC,vB false,vS [],vI 0,vS [],vI 0,vI 0,vI 0,vI 0,vI 0,vI 0,vI 0,vI 0,vI 0,vI 0,vI 0,vI 0,vI 0,vI 0,vB false,vI 0,vS [],vS [],vI 0,vI 0,vB false,vL none 0 0,vI 0,vI 0,vI 0,vB false,vS [],vS [],vI 0,vI 0,vL none 0 0,vB false,vI 0,vI 0,vI 0,vI 0,vI 0,vI 0,vI 0,vI 0,vI 0,vI 0,vI 0,vI 0,vI 0,vI 0,vB false,vI 0,vS [],vS [],vI 0,vI 0,vB false] h rfl ag33 sz33 rfl⟩,trivial⟩) rfl _ (fun _ h=>h.keep [F_] rfl) ⟨?_,?_⟩
 ·have e_x0:((Binding.mk n [] false 0 [] [] 0 0 0 (DataSet.mk 0 0 0 0 0 0 0 0 0 0 0 0 0 0 false 0 [] [] 0 0 false) 0 0 true l lA lC false [] 0 [] (DataSet.mk 0 0 0 0 0 0 0 0 0 0 0 0 0 0 false 0 [] [] 0 0 false) none 0 0 0 0 0 false [] [] 0 0 none 0 0 false (DataSet.mk 0 0 0 0 0 0 0 0 0 0 0 0 0 0 false 0 [] [] 0 0 false)):Binding)=(R45.inlineB n l lA lC):=by rfl
  exact congrArg (fun (x0:Binding)=>vG (Binding.enc x0)) e_x0
 ·rfl
end Go.Proofs.YtggobegaiijhhaaGreatDoor
