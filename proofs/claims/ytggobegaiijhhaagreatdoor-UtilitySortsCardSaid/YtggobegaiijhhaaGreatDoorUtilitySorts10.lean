/- C45a, Pl45b, C45b, Pl45d in one text. -/
import Derived.Test.YtggobegaiijhhaaGreatDoorUtilitySorts3
import Derived.Test.YtggobegaiijhhaaGreatDoorUtilitySorts9
import Derived.Test.YtggobegaiijhhaaGreatDoorUtilitySorts5
import Derived.Test.YtggobegaiijhhaaGreatDoorUtilitySorts6
import Derived.Test.YtggobegaiijhhaaGreatDoorUtilitySorts7
set_option linter.unusedVariables false
set_option linter.unusedSimpArgs false
namespace Go.Proofs.YtggobegaiijhhaaGreatDoor
open Go.GV
set_option linter.unusedVariables false
set_option linter.unusedSimpArgs false
theorem c45a0_ {p:Prop} (h:p:=by first | (left;omega) | (right;assumption)):p:=h
theorem c45a2_ {p:Prop} (h:p:=by first | exact R45.recV_in (by assumption) | exact R45.recV_no (by assumption) (by assumption) | exact R45.recV_rows (by assumption) (by assumption) (i1_0.done (by assumption) (by assumption))):p:=h
theorem c45a3_ {p:Prop} (h:p:=by first | exact i1_1.none (by omega) (by assumption) _ _ | exact i1_1.some (by omega) (by omega) (by assumption)):p:=h
set_option maxRecDepth 20000 in
theorem f240_ok (s:Nat) (rows:List SRow) (rowsA:Option Addr) (rowsC:Nat) (calls:Nat) (w:World) (rowsR:RO [s] w rowsA (rows.flatMap SRow.enc)) (q0:rows.length≤1000000) (q1:calls≤1000000) (hg:Give [s] w [Ent.blk s 52 [vL rowsA rows.length rowsC,vI 0,vI 0,vI ((calls:Nat):Int)]]):Calls Tryz.prog 240 #[pB s 0] w (Gives [s] w fun v L=>v=vB false∧L=[Ent.blk s 52 [vL rowsA rows.length rowsC,vI 0,vI 0,vI ((calls+1:Nat):Int)]]):=by
 refine calls_J [s] 19 Tryz.func240 rfl Tryz.ntmps240 [(0,_)] rfl rfl hg ?_
 refine q_ (g_ (s_ av_ (z_ (n_ (q_ (g_ (s_ mv_ (s_ (x_nilCheck rfl) (s_ (fA 3 Ty.fi52_3) (r_ (ld_ 0 Ty.sc3) (s_ (x_add_n (a:=calls) (b:=1) rfl rfl (by omega)) (s_ (x_nilCheck rfl) (s_ (fA 3 Ty.fi52_3) ?_)))))))))))))
 refine o_ (st1 0 Ty.sz3 ?_)
 refine z_ (n_ (q_ ?_))
 refine drB [] 10 Ty.mixed ?_
 refine jp_ 0 rfl mv_ (jp_ 1 rfl (x_nilCheck rfl) (jp_ 2 rfl (fA 3 Ty.fi52_3) (jq_ 3 rfl (ld_ 0 Ty.sc3) (jp_ 4 rfl mv_ (jp_ 5 rfl (x_nilCheck rfl) (jp_ 6 rfl (fA 1 Ty.fi52_1) (jq_ 7 rfl (ld_ 0 Ty.sc3) (jp_ 8 rfl (x_eql_i rfl rfl) (jp_ 9 rfl av_ ?_)))))))))
 refine JA_done (by kernel_rfl) gm_ ?_
 refine n_ (rt_ ?_)
 refine JX_rets [_] _ Tryz.results240 (fun w h=>⟨rfl,trivial⟩) rfl _ (fun _ h=>h) ⟨?_,?_⟩
 ·have e_x0:(decide (((calls+1:Nat):Int)=0):Bool)=false:=decide_eq_false (by omega)
  exact congrArg (fun (x0:Bool)=>vB x0) e_x0
 ·rfl
set_option maxRecDepth 20000 in
theorem f239_ok (s:Nat) (rows:List SRow) (rowsA:Option Addr) (rowsC:Nat) (calls:Nat) (id:Int) (key:Bytes) (w:World) (rowsR:RO [s] w rowsA (rows.flatMap SRow.enc)) (q0:rows.length≤1000000) (q1:calls≤1000000) (hg:Give [s] w [Ent.blk s 52 [vL rowsA rows.length rowsC,vI 0,vI 0,vI ((calls:Nat):Int)]]):Calls Tryz.prog 239 #[pB s 0,vI id,vS key] w (Gives [s] w fun v L=>∃ k:Bytes,∃ r:Bytes,∃ e:Int,v=Value.tuple #[vS k,vS r,vI e]∧L=[Ent.blk s 52 [vL rowsA rows.length rowsC,vI 0,vI 0,vI ((calls+1:Nat):Int)]]∧(R45.NextJ rows id key k r e)):=by
 refine calls_J [s] 90 Tryz.func239 rfl Tryz.ntmps239 [(0,_),(1,_),(2,_)] rfl rfl hg ?_
 refine q_ (g_ (s_ av_ (s_ av_ (s_ av_ (z_ (n_ (q_ (q_ (g_ (s_ mv_ ?_))))))))))
 refine JO_call [s] [Ent.blk s 52 [vL rowsA rows.length rowsC,vI 0,vI 0,vI ((calls:Nat):Int)]] [] rfl trivial (fun _=>x_call Ty.ca240 rfl) (fun _ h=>h) (own_mem rfl) (fun w hS=>f240_ok s rows rowsA rowsC calls w (rowsR.on hS (own_mem rfl)) hy_ hy_ (hS.give (own_in rfl))) ?_
 rintro _ _ ⟨rfl,rfl⟩
 refine z_ (n_ (iff_ (sk_ (n_ (q_ (g_ (s_ av_ (z_ (n_ (q_ (q_ (g_ (s_ av_ (z_ (n_ (k_ ?_))))))))))))))))
 refine J_loop (X:=Nat × Int) (fun (⟨i,a⟩:Nat × Int)=>(i≤rows.length)∧(R45.AtJ rows id key i a)) (fun (⟨i,a⟩:Nat × Int)=>[(0,pB s 0),(1,vI id),(2,vS key),(6,vS []),(7,vS []),(8,vI 0),(9,vI a),(10,vI ((i:Nat):Int))]) (fun (⟨i,a⟩:Nat × Int)=>[Ent.blk s 52 [vL rowsA rows.length rowsC,vI 0,vI 0,vI ((calls+1:Nat):Int)]]) (fun (⟨i,a⟩:Nat × Int)=>rows.length-i) ((0,(-1)):Nat × Int) ?_ ⟨rfl,rfl,rfl,rfl,rfl,rfl,rfl,rfl,trivial⟩ (fun _ h=>h) ?_
 ·try dsimp only
  refine ⟨?_,?_⟩
  ·first | rfl | omega | (simp_all;done) | (simp_all;omega)
  ·exact R45.AtJ.start
 rintro ⟨i,a⟩ hI1
 obtain ⟨i1_0,i1_1⟩:=hI1
 try dsimp only at i1_0
 try dsimp only at i1_1
 have hbd:=i1_1.bd
 try dsimp only
 refine q_ (q_ (g_ (s_ mv_ (s_ mv_ (s_ (x_nilCheck rfl) (s_ (fA 0 Ty.fi52_0) (r_ (ld_ 0 Ty.sc22) (s_ (lnS Tryz.underlying22) (s_ (x_lss_i rfl rfl) (z_ (n_ ?_)))))))))))
 refine ifd (fun h1w h1=>?_) (fun h1w h1=>?_)
 ·refine sk_ (n_ (q_ (k_ (q_ ?_))))
  refine drB [] 45 Ty.mixed ?_
  refine jp_ 0 rfl mv_ (jp_ 1 rfl (x_nilCheck rfl) (jp_ 2 rfl (fA 0 Ty.fi52_0) (jq_ 3 rfl (ld_ 0 Ty.sc22) (jp_ 4 rfl mv_ (jq_ 5 rfl (ixF SRow.enc_len (cells_ro rowsR) Tryz.underlying22 Ty.sz57) (jp_ 6 rfl (fB0 Ty.fi57_0) (jq_ 7 rfl (ldF0 SRow.enc_len (cells_ro rowsR) Ty.sc3) (jp_ 8 rfl mv_ (jp_ 9 rfl (x_eql_i rfl rfl) ?_)))))))))
  refine jp_ 10 rfl mv_ ?_
  refine jb_ 36 (fun h2=>?_) (fun h2=>?_)
  ·have h2:=of_decide_eq_true h2
   refine jp_ 11 rfl mv_ (jp_ 12 rfl (x_nilCheck rfl) (jp_ 13 rfl (fA 0 Ty.fi52_0) (jq_ 14 rfl (ld_ 0 Ty.sc22) (jp_ 15 rfl mv_ (jq_ 16 rfl (ixF SRow.enc_len (cells_ro rowsR) Tryz.underlying22 Ty.sz57) (jp_ 17 rfl (fB Ty.fi57_1) (jq_ 18 rfl (ldF 1 SRow.enc_len (cells_ro rowsR) Ty.sc9) (jp_ 19 rfl mv_ (jp_ 20 rfl (x_gtr_s rfl rfl) ?_ (hw:=⟨_,rfl,rfl⟩)) (hw:=⟨_,rfl,rfl⟩)) (hw:=⟨_,rfl,rfl⟩)) (hw:=⟨_,rfl,rfl⟩)) (hw:=⟨_,rfl,rfl⟩)) (hw:=⟨_,rfl,rfl⟩)) (hw:=⟨_,rfl,rfl⟩)) (hw:=⟨_,rfl,rfl⟩)) (hw:=⟨_,rfl,rfl⟩)) (hw:=⟨_,rfl,rfl⟩)
   refine jt_ 21 (vB (!((Op.bytesLess ((rows.getD i default).Key) key)||(decide ((rows.getD i default).Key=key))))) rfl (fun _ _=>rfl) ?_
   refine jp_ 22 rfl mv_ ?_
   refine jb_ 48 (fun h3=>?_) (fun h3=>?_)
   ·have h3:((Op.bytesLess ((rows.getD i default).Key) key)||(decide ((rows.getD i default).Key=key)))=false:=bnot_true h3
    have ⟨h3,h4⟩:=bor_false h3
    have h4:=of_decide_eq_false h4
    refine jp_ 23 rfl mv_ (jp_ 24 rfl (x_lss_i rfl rfl) (jp_ 25 rfl mv_ ?_ (hw:=⟨_,rfl,rfl⟩)) (hw:=⟨_,rfl,rfl⟩)) (hw:=⟨_,rfl,rfl⟩)
    refine jb_ 51 (fun h5=>?_) (fun h5=>?_)
    ·have h5:=of_decide_eq_true h5
     refine js2_ 26 rfl (js2_ 27 rfl (js2_ 28 rfl (js2_ 29 rfl (js2_ 30 rfl (js2_ 31 rfl (js2_ 32 rfl (js2_ 33 rfl (js2_ 34 rfl (js2_ 35 rfl ?_)))))))))
     refine js2_ 36 rfl (js2_ 37 rfl (js2_ 38 rfl (js2_ 39 rfl (js2_ 40 rfl (js2_ 41 rfl (js2_ 42 rfl ?_))))))
     refine JA_take 43 (vB true) rfl (by kernel_rfl) (by kernel_rfl) (by kernel_rfl) rfl (fun _ _ _ h=>h) rfl ⟨_,rfl,rfl⟩ (fun _ _=>rfl) ?_
     refine jt_ 44 (vB true) rfl (fun _ _=>rfl) ?_
     refine JA_done (by kernel_rfl) gm_ ?_
     refine n_ (ift (g_ (s_ mv_ (s_ av_ (z_ (kx_ (n_ (g_ (s_ mv_ (s_ (x_add_n (a:=i) (b:=1) rfl rfl (by omega)) (s_ av_ (z_ ?_))))))))))))
     refine JX_round ((i+1,((i:Nat):Int)):Nat × Int) ?_ ?_ ⟨rfl,rfl,rfl,rfl,rfl,rfl,rfl,rfl,trivial⟩ (fun _ h=>h)
     ·try dsimp only
      refine ⟨?_,?_⟩
      ·first | rfl | omega | (simp_all;done) | (simp_all;omega)
      ·first | exact i1_1.hit (by omega) (by assumption) (R45.gt_of (by assumption) (by assumption)) c45a0_ | exact i1_1.skip (by omega) (fun h1 h2=>by first | exact absurd h1 (by assumption) | exact absurd h2 (R45.ge_no (by assumption)) | exact ⟨by omega,by assumption⟩)
     ·try dsimp only
      first | omega | (simp;omega) | (simp_all;omega)
    ·have h5:=of_decide_eq_false h5
     refine jp_ 26 rfl mv_ (jp_ 27 rfl (x_nilCheck rfl) (jp_ 28 rfl (fA 0 Ty.fi52_0) (jq_ 29 rfl (ld_ 0 Ty.sc22) (jp_ 30 rfl mv_ (jq_ 31 rfl (ixF SRow.enc_len (cells_ro rowsR) Tryz.underlying22 Ty.sz57) (jp_ 32 rfl (fB Ty.fi57_1) (jq_ 33 rfl (ldF 1 SRow.enc_len (cells_ro rowsR) Ty.sc9) (jp_ 34 rfl mv_ (jp_ 35 rfl (x_nilCheck rfl) ?_ (hw:=⟨_,rfl,rfl⟩)) (hw:=⟨_,rfl,rfl⟩)) (hw:=⟨_,rfl,rfl⟩)) (hw:=⟨_,rfl,rfl⟩)) (hw:=⟨_,rfl,rfl⟩)) (hw:=⟨_,rfl,rfl⟩)) (hw:=⟨_,rfl,rfl⟩)) (hw:=⟨_,rfl,rfl⟩)) (hw:=⟨_,rfl,rfl⟩)) (hw:=⟨_,rfl,rfl⟩)
     refine jp_ 36 rfl (fA 0 Ty.fi52_0) (jq_ 37 rfl (ld_ 0 Ty.sc22) (jp_ 38 rfl mv_ (jq_ 39 rfl (ixF (k:=(a).toNat) (hy:=(ix_nat rfl (by omega))) SRow.enc_len (cells_ro rowsR) Tryz.underlying22 Ty.sz57) (jp_ 40 rfl (fB Ty.fi57_1) (jq_ 41 rfl (ldF 1 SRow.enc_len (cells_ro rowsR) Ty.sc9) (jp_ 42 rfl (x_lss_s rfl rfl) ?_ (hw:=⟨_,rfl,rfl⟩)) (hw:=⟨_,rfl,rfl⟩)) (hw:=⟨_,rfl,rfl⟩)) (hw:=⟨_,rfl,rfl⟩)) (hw:=⟨_,rfl,rfl⟩)) (hw:=⟨_,rfl,rfl⟩)) (hw:=⟨_,rfl,rfl⟩)
     refine JA_take 43 (vB (Op.bytesLess ((rows.getD i default).Key) ((rows.getD ((a).toNat) default).Key))) rfl (by kernel_rfl) (by kernel_rfl) (by kernel_rfl) rfl (fun _ _ _ h=>h) rfl ⟨_,rfl,rfl⟩ (fun _ _=>rfl) ?_
     refine jt_ 44 (vB (Op.bytesLess ((rows.getD i default).Key) ((rows.getD ((a).toNat) default).Key))) rfl (fun _ _=>rfl) ?_
     refine JA_done (by kernel_rfl) gm_ ?_
     refine n_ ?_
     refine if_ (fun h6=>?_) (fun h6=>?_)
     ·have h6w:=h6
      refine g_ (s_ mv_ (s_ av_ (z_ (kx_ (n_ (g_ (s_ mv_ (s_ (x_add_n (a:=i) (b:=1) rfl rfl (by omega)) (s_ av_ (z_ ?_))))))))))
      refine JX_round ((i+1,((i:Nat):Int)):Nat × Int) ?_ ?_ ⟨rfl,rfl,rfl,rfl,rfl,rfl,rfl,rfl,trivial⟩ (fun _ h=>h)
      ·try dsimp only
       refine ⟨?_,?_⟩
       ·first | rfl | omega | (simp_all;done) | (simp_all;omega)
       ·first | exact i1_1.hit (by omega) (by assumption) (R45.gt_of (by assumption) (by assumption)) c45a0_ | exact i1_1.skip (by omega) (fun h1 h2=>by first | exact absurd h1 (by assumption) | exact absurd h2 (R45.ge_no (by assumption)) | exact ⟨by omega,by assumption⟩)
      ·try dsimp only
       first | omega | (simp;omega) | (simp_all;omega)
     ·have h6w:=h6
      refine sk_ (kx_ (n_ (g_ (s_ mv_ (s_ (x_add_n (a:=i) (b:=1) rfl rfl (by omega)) (s_ av_ (z_ ?_)))))))
      refine JX_round ((i+1,a):Nat × Int) ?_ ?_ ⟨rfl,rfl,rfl,rfl,rfl,rfl,rfl,rfl,trivial⟩ (fun _ h=>h)
      ·try dsimp only
       refine ⟨?_,?_⟩
       ·first | rfl | omega | (simp_all;done) | (simp_all;omega)
       ·first | exact i1_1.hit (by omega) (by assumption) (R45.gt_of (by assumption) (by assumption)) c45a0_ | exact i1_1.skip (by omega) (fun h1 h2=>by first | exact absurd h1 (by assumption) | exact absurd h2 (R45.ge_no (by assumption)) | exact ⟨by omega,by assumption⟩)
      ·try dsimp only
       first | omega | (simp;omega) | (simp_all;omega)
   ·have h3:((Op.bytesLess ((rows.getD i default).Key) key)||(decide ((rows.getD i default).Key=key)))=true:=bnot_false h3
    simp only [Bool.and_eq_true,Bool.or_eq_true,Bool.and_eq_false_iff,Bool.or_eq_false_iff,Bool.not_eq_true',Bool.not_eq_false',decide_eq_true_eq,decide_eq_false_iff_not] at h3
    refine js2_ 23 rfl (js2_ 24 rfl (js2_ 25 rfl (ju_ 26 rfl (ju_ 27 rfl (ju_ 28 rfl (ju_ 29 rfl (ju_ 30 rfl (ju_ 31 rfl (ju_ 32 rfl ?_)))))))))
    refine ju_ 33 rfl (ju_ 34 rfl (ju_ 35 rfl (ju_ 36 rfl (ju_ 37 rfl (ju_ 38 rfl (ju_ 39 rfl (ju_ 40 rfl (ju_ 41 rfl (ju_ 42 rfl ?_)))))))))
    refine js2_ 43 rfl ?_
    refine jt_ 44 (vB false) rfl (fun _ _=>rfl) ?_
    refine JA_done (by kernel_rfl) gm_ ?_
    refine n_ (iff_ (sk_ (kx_ (n_ (g_ (s_ mv_ (s_ (x_add_n (a:=i) (b:=1) rfl rfl (by omega)) (s_ av_ (z_ ?_)))))))))
    refine JX_round ((i+1,a):Nat × Int) ?_ ?_ ⟨rfl,rfl,rfl,rfl,rfl,rfl,rfl,rfl,trivial⟩ (fun _ h=>h)
    ·try dsimp only
     refine ⟨?_,?_⟩
     ·first | rfl | omega | (simp_all;done) | (simp_all;omega)
     ·first | exact i1_1.hit (by omega) (by assumption) (R45.gt_of (by assumption) (by assumption)) c45a0_ | exact i1_1.skip (by omega) (fun h1 h2=>by first | exact absurd h1 (by assumption) | exact absurd h2 (R45.ge_no (by assumption)) | exact ⟨by omega,by assumption⟩)
    ·try dsimp only
     first | omega | (simp;omega) | (simp_all;omega)
  ·have h2:=of_decide_eq_false h2
   refine js2_ 11 rfl (js2_ 12 rfl (js2_ 13 rfl (js2_ 14 rfl (js2_ 15 rfl (js2_ 16 rfl (js2_ 17 rfl (js2_ 18 rfl (js2_ 19 rfl (js2_ 20 rfl ?_)))))))))
   refine jt_ 21 (vB false) rfl (fun _ _=>rfl) ?_
   refine jp_ 22 rfl mv_ (js2_ 23 rfl (js2_ 24 rfl (js2_ 25 rfl (ju_ 26 rfl (ju_ 27 rfl (ju_ 28 rfl (ju_ 29 rfl (ju_ 30 rfl (ju_ 31 rfl ?_)))))))))
   refine ju_ 32 rfl (ju_ 33 rfl (ju_ 34 rfl (ju_ 35 rfl (ju_ 36 rfl (ju_ 37 rfl (ju_ 38 rfl (ju_ 39 rfl (ju_ 40 rfl (ju_ 41 rfl ?_)))))))))
   refine ju_ 42 rfl (js2_ 43 rfl ?_)
   refine jt_ 44 (vB false) rfl (fun _ _=>rfl) ?_
   refine JA_done (by kernel_rfl) gm_ ?_
   refine n_ (iff_ (sk_ (kx_ (n_ (g_ (s_ mv_ (s_ (x_add_n (a:=i) (b:=1) rfl rfl (by omega)) (s_ av_ (z_ ?_)))))))))
   refine JX_round ((i+1,a):Nat × Int) ?_ ?_ ⟨rfl,rfl,rfl,rfl,rfl,rfl,rfl,rfl,trivial⟩ (fun _ h=>h)
   ·try dsimp only
    refine ⟨?_,?_⟩
    ·first | rfl | omega | (simp_all;done) | (simp_all;omega)
    ·first | exact i1_1.hit (by omega) (by assumption) (R45.gt_of (by assumption) (by assumption)) c45a0_ | exact i1_1.skip (by omega) (fun h1 h2=>by first | exact absurd h1 (by assumption) | exact absurd h2 (R45.ge_no (by assumption)) | exact ⟨by omega,by assumption⟩)
   ·try dsimp only
    first | omega | (simp;omega) | (simp_all;omega)
 ·refine J_exit (ne_ (re_ (kh_ (n_ (q_ ?_)))))
  refine q_ (g_ (s_ mv_ (s_ (x_lss_i rfl rfl) (z_ (n_ ?_)))))
  refine ifd (fun h7w h7=>?_) (fun h7w h7=>?_)
  ·refine q_ (g_ (s_ av_ (s_ av_ (s_ av_ (z_ (n_ (rt_ (nr_ ?_))))))))
   refine JX_rets [_,_,_] (Value.tuple #[_,_,_]) Tryz.results239 (fun w h=>⟨rfl,rfl,rfl,trivial⟩) rfl _ (fun _ h=>h) ⟨[],[],6,?_,?_,?_⟩
   ·rfl
   ·rfl
   ·exact c45a3_
  ·refine sk_ (n_ (q_ ?_))
   refine drB [] 19 Ty.mixed ?_
   refine jp_ 0 rfl mv_ (jp_ 1 rfl (x_nilCheck rfl) (jp_ 2 rfl (fA 0 Ty.fi52_0) (jq_ 3 rfl (ld_ 0 Ty.sc22) (jp_ 4 rfl mv_ (jq_ 5 rfl (ixF (k:=(a).toNat) (hy:=(ix_nat rfl (by omega))) SRow.enc_len (cells_ro rowsR) Tryz.underlying22 Ty.sz57) (jp_ 6 rfl (fB Ty.fi57_1) (jq_ 7 rfl (ldF 1 SRow.enc_len (cells_ro rowsR) Ty.sc9) (jp_ 8 rfl mv_ (jp_ 9 rfl (x_nilCheck rfl) ?_)))))))))
   refine jp_ 10 rfl (fA 0 Ty.fi52_0) (jq_ 11 rfl (ld_ 0 Ty.sc22) (jp_ 12 rfl mv_ (jq_ 13 rfl (ixF (k:=(a).toNat) (hy:=(ix_nat rfl (by omega))) SRow.enc_len (cells_ro rowsR) Tryz.underlying22 Ty.sz57) (jp_ 14 rfl (fB Ty.fi57_2) (jq_ 15 rfl (ldF 2 SRow.enc_len (cells_ro rowsR) Ty.sc9) (jp_ 16 rfl av_ (jp_ 17 rfl av_ (jp_ 18 rfl av_ ?_))))))))
   refine JA_done (by kernel_rfl) gm_ ?_
   refine n_ (rt_ ?_)
   refine JX_rets [_,_,_] (Value.tuple #[_,_,_]) Tryz.results239 (fun w h=>⟨rfl,rfl,rfl,trivial⟩) rfl _ (fun _ h=>h) ⟨(rows.getD ((a).toNat) default).Key,(rows.getD ((a).toNat) default).Record,0,?_,?_,?_⟩
   ·rfl
   ·rfl
   ·exact c45a3_
set_option maxRecDepth 20000 in
theorem f24_ok (rs:List Bytes) (rsA:Option Addr) (rsC:Nat) (w:World) (rsR:RO [] w rsA (rs.map vS)) (q0:rs.length≤1000000):Calls Tryz.prog 24 #[vL rsA rs.length rsC] w (Gives [] w fun v L=>∃ A2:Option Addr,∃ c2:Nat,v=vL A2 rs.length c2∧L=[Ent.row (.slice A2 rs.length c2) 9 1 rs.length (rs.map vS)]):=by
 refine calls_J [] 8 Tryz.func24 rfl Tryz.ntmps24 [(0,_)] rfl rfl (Give.nil w) ?_
 refine q_ (g_ (s_ av_ (z_ (n_ (q_ (q_ (g_ (s_ mv_ (s_ (x_eql_sl rfl rfl Tryz.underlying25) (z_ (n_ ?_)))))))))))
 refine if_ (fun h1=>?_) (fun h1=>?_)
 ·refine q_ (g_ (s_ av_ (z_ (n_ (rt_ (nr_ ?_))))))
  refine JX_rets [_] _ Tryz.results24 (fun w h=>⟨rfl,trivial⟩) rfl [Ent.row (.slice none ([]:List Bytes).length 0) 9 1 ([]:List Bytes).length (([]:List Bytes).map vS)] (fun _ h=>(h.nilrow 9 1).keep [true] rfl) ⟨none,0,?_,?_⟩
  ·have e_x0:(0:Nat)=rs.length:=by first | rfl | (rw [RO.empty rsR (by assumption)];rfl)
   exact congrArg (fun (x0:Nat)=>vL none x0 0) e_x0
  ·have e_y0:(([]:List Bytes):List Bytes)=rs:=by
    first | rfl | exact (RO.empty rsR (by assumption)).symm
   have e_all:=(congrArg (fun (y0:List Bytes)=>[Ent.row (.slice none y0.length 0) 9 1 y0.length (y0.map vS)]) e_y0)
   exact e_all
 ·refine sk_ (n_ (q_ (g_ (o_ (O_buildSlice0 Tryz.underlying25 Ty.sz9 fun b2=>?_)))))
  refine s_ mv_ ?_
  refine JO_weaken (E':=[(0,vL rsA rs.length rsC),(2,vL none 0 0),(3,vL rsA rs.length rsC),(4,vB rsA.isNone),(5,vL (some ⟨b2,0,none⟩) ((([]:List Bytes)).length) 0),(6,vL rsA rs.length rsC)]) (L':=[Ent.row (.slice (some ⟨b2,0,none⟩) ([]:List Bytes).length 0) 9 1 ([]:List Bytes).length (([]:List Bytes).map vS)]) ⟨rfl,rfl,rfl,rfl,rfl,rfl,trivial⟩ (fun _ h=>(St.torow (cs:=[]) h 1 0 rfl (by decide)).keep [true] rfl) ?_
  refine o_ (O_append_m 0 vS ([]:List Bytes) rs Tryz.underlying25 Ty.sz9 Ty.by9 Ty.ze9 rfl rfl rfl rfl rfl (fun _=>rfl) (cells_ro rsR) lt_ lt_ fun A3 c4=>?_)
  refine s_ av_ (z_ (n_ (rt_ ?_)))
  refine JX_rets [_] _ Tryz.results24 (fun w h=>⟨rfl,trivial⟩) rfl _ (fun _ h=>h) ⟨A3,c4,?_,?_⟩
  ·have e_x0:((([]:List Bytes)++rs).length:Nat)=rs.length:=by first | rfl | (rw [RO.empty rsR (by assumption)];rfl)
   exact congrArg (fun (x0:Nat)=>vL A3 x0 c4) e_x0
  ·have e_y0:(([]:List Bytes)++rs:List Bytes)=rs:=by
    first | rfl | exact (RO.empty rsR (by assumption)).symm
   have e_all:=(congrArg (fun (y0:List Bytes)=>[Ent.row (.slice A3 y0.length c4) 9 1 y0.length (y0.map vS)]) e_y0)
   exact e_all
set_option maxRecDepth 20000 in
theorem f11_ok (s:Nat) (rows:List SRow) (rowsA:Option Addr) (rowsC:Nat) (calls:Nat) (b:Binding) (w:World) (rowsR:RO [s] w rowsA (rows.flatMap SRow.enc)) (bN:Kp [s] w (Binding.ok b)) (q0:rows.length≤1000) (q1:calls≤900000) (q2:R45.Dist rows) (q3:b.Lines.length≤1000) (hg:Give [s] w [Ent.blk s 52 [vL rowsA rows.length rowsC,vI 0,vI 0,vI ((calls:Nat):Int)]]):Calls Tryz.prog 11 #[Value.iface 41 (pB s 0),vG (Binding.enc b)] w (Gives [s] w fun v L=>∃ out:List Bytes,∃ outA:Option Addr,∃ outC:Nat,∃ c2:Nat,v=Value.tuple #[vL outA out.length outC,vI 0]∧L=[Ent.blk s 52 [vL rowsA rows.length rowsC,vI 0,vI 0,vI ((c2:Nat):Int)],Ent.row (.slice outA out.length outC) 9 1 out.length (out.map vS)]∧(out=R45.recV rows b)∧(c2≤calls+rows.length+1)):=by
 refine calls_J [s] 55 Tryz.func11 rfl Tryz.ntmps11 [(0,_),(1,_)] rfl rfl hg ?_
 refine q_ (g_ (o_ (bxG fun b1=>?_)))
 refine s_ av_ (s_ av_ (z_ (n_ (q_ (g_ (s_ av_ (z_ (n_ (q_ (k_ (q_ (g_ (s_ (fA 0 Ty.fi33_0) (s_ (fA 32 Ty.fi27_12) (r_ (ld_ 0 Ty.sc4) (s_ av_ (z_ (n_ ?_))))))))))))))))))
 refine if_ (fun h2=>?_) (fun h2=>?_)
 ·have h2w:=h2
  refine g_ (s_ (fA 0 Ty.fi33_0) (s_ (fA 33 Ty.fi27_13) (r_ (ld_ 0 Ty.sc25) ?_)))
  refine c1 (cl_ Ty.ca24) (fun w hS=>f24_ok _ _ _ w ((Kp.ro (bN.imp fun _ h=>h)).on hS (fun _ h=>by cases h)) hy_) ?_
  rintro _ _ ⟨e3,e4,rfl,rfl⟩
  refine s_ av_ (z_ (kx_ (n_ (q_ (q_ (g_ (s_ mv_ (s_ (lnS Tryz.underlying25) (s_ (x_gtr_i rfl rfl) (z_ (n_ ?_)))))))))))
  refine ifd (fun h5w h5=>?_) (fun h5w h5=>?_)
  ·exfalso;(try simp only [List.length_append,List.length_singleton] at *);omega
  ·refine sk_ (n_ (q_ (g_ (s_ mv_ (s_ av_ (s_ av_ (z_ (n_ (rt_ ?_)))))))))
   refine JX_rets [_,_] (Value.tuple #[_,_]) Tryz.results11 (fun w h=>⟨rfl,rfl,trivial⟩) rfl [Ent.blk s 52 [vL rowsA rows.length rowsC,vI 0,vI 0,vI ((calls:Nat):Int)],Ent.row (.slice e3 b.Lines.length e4) 9 1 b.Lines.length (b.Lines.map vS)] (fun _ h=>(h.front 2 _ rfl).keep [true,true,false] rfl) ⟨b.Lines,e3,e4,calls,?_,?_,?_,?_⟩
   ·rfl
   ·rfl
   ·exact c45a2_
   ·omega
 ·have h2w:=h2
  refine q_ (g_ (s_ (fA 0 Ty.fi33_0) (s_ (fA 34 Ty.fi27_14) (r_ (ld_ 0 Ty.sc4) (s_ mv_ ?_)))))
  refine or_ 2 (b.Create) (fun g6=>?_) ?_
  ·have g6r:=g6
   refine sg_ g6 (fA 69 Ty.fi33_3) (rg_ g6 (ld_ 0 Ty.sc4) ?_)
   exact cr_
  refine s_ av_ (z_ (n_ ?_))
  refine if_ (fun h7=>?_) (fun h7=>?_)
  ·have h7w:=h7
   simp only [Bool.and_eq_true,Bool.or_eq_true,Bool.and_eq_false_iff,Bool.or_eq_false_iff,Bool.not_eq_true',Bool.not_eq_false',decide_eq_true_eq,decide_eq_false_iff_not] at h7
   refine sk_ (kx_ (n_ (q_ (q_ (g_ (s_ mv_ (s_ (lnS Tryz.underlying25) (jr_ (vB false) (z_ (n_ (iff_ (sk_ (n_ (q_ (g_ (s_ mv_ (s_ av_ (s_ av_ (z_ (n_ (rt_ ?_)))))))))))))))))))))
   refine JX_rets [_,_] (Value.tuple #[_,_]) Tryz.results11 (fun w h=>⟨rfl,rfl,trivial⟩) rfl [Ent.blk s 52 [vL rowsA rows.length rowsC,vI 0,vI 0,vI ((calls:Nat):Int)],Ent.row (.slice none ([]:List Bytes).length 0) 9 1 ([]:List Bytes).length (([]:List Bytes).map vS)] (fun _ h=>((h.nilrow 9 1).front 2 _ rfl).keep [true,true,false] rfl) ⟨([]:List Bytes),none,0,calls,?_,?_,?_,?_⟩
   ·have e_x0:(0:Nat)=(([]:List Bytes).length):=by first | rfl | omega | (simp_all;done) | (simp_all;omega)
    exact congrArg (fun (x0:Nat)=>Value.tuple #[vL none x0 0,vI 0]) e_x0
   ·rfl
   ·exact c45a2_
   ·omega
  ·have h7w:=h7
   have ⟨h7,h8⟩:=bor_false h7
   refine q_ (g_ (s_ av_ (z_ (n_ (k_ ?_)))))
   refine J_loop (X:=Bytes × (List Bytes) × (Option Addr) × Nat × Nat) (fun (⟨k,out,outA,outC,c2⟩:Bytes × (List Bytes) × (Option Addr) × Nat × Nat)=>(R45.RecJ rows b.EData.Id k out)∧(c2≤calls+out.length)) (fun (⟨k,out,outA,outC,c2⟩:Bytes × (List Bytes) × (Option Addr) × Nat × Nat)=>[(0,Value.iface 41 (pB s 0)),(3,pB b1 0),(6,vL outA out.length outC),(7,vS k)]) (fun (⟨k,out,outA,outC,c2⟩:Bytes × (List Bytes) × (Option Addr) × Nat × Nat)=>[Ent.blk b1 33 (Binding.enc b),Ent.blk s 52 [vL rowsA rows.length rowsC,vI 0,vI 0,vI ((c2:Nat):Int)],Ent.row (.slice outA out.length outC) 9 1 out.length (out.map vS)]) (fun (⟨k,out,outA,outC,c2⟩:Bytes × (List Bytes) × (Option Addr) × Nat × Nat)=>(R45.above rows b.EData.Id k).length) (([],([]:List Bytes),none,0,calls):Bytes × (List Bytes) × (Option Addr) × Nat × Nat) ?_ ⟨rfl,rfl,rfl,rfl,trivial⟩ (fun _ h=>(((h.nilrow 9 1).front 2 _ rfl).front 2 _ rfl).keep [true,true,true] rfl) ?_
   ·try dsimp only
    refine ⟨?_,?_⟩
    ·exact R45.RecJ.start
    ·exact Nat.le_refl _
   rintro ⟨k,out,outA,outC,c2⟩ hI1
   obtain ⟨i1_0,i1_1⟩:=hI1
   try dsimp only at i1_0
   try dsimp only at i1_1
   have hln:=i1_0.len
   try dsimp only
   refine k_ (q_ (g_ (s_ mv_ (s_ (fA 36 Ty.fi33_2) (s_ (fA 38 Ty.fi31_2) (s_ (fA 38 Ty.fi24_0) (r_ (ld_ 0 Ty.sc3) (s_ mv_ ?_))))))))
   refine JO_call [s] [Ent.blk s 52 [vL rowsA rows.length rowsC,vI 0,vI 0,vI ((c2:Nat):Int)]] [Ent.blk b1 33 (Binding.enc b),Ent.row (.slice outA out.length outC) 9 1 out.length (out.map vS)] rfl trivial (fun _=>x_invokeP rfl Ty.mt239 Ty.ca239 Ty.mtd rfl) (fun _ h=>(((h.front 2 _ rfl).front 1 _ rfl).front 2 _ rfl).keep [true,true,true] rfl) (own_mem rfl) (fun w hS=>f239_ok s rows rowsA rowsC c2 b.EData.Id k w (rowsR.on hS (own_mem rfl)) hy_ hy_ (hS.give (own_in rfl))) ?_
   rintro _ _ ⟨k9,r10,e11,rfl,rfl,hf12⟩
   have ha13:=R45.NextJ.e (by assumption)
   refine s_ mv_ (s_ (ex_ 0) (s_ (ex_ 1) (s_ (ex_ 2) (s_ av_ (s_ av_ (s_ av_ (z_ (n_ (q_ (q_ (g_ (s_ mv_ (s_ (x_eql_i rfl rfl) ?_)))))))))))))
   refine z_ (n_ ?_)
   refine ifd (fun h14w h14=>?_) (fun h14w h14=>?_)
   ·refine J_exit (ne_ ?_)
    refine JX_block_miss rfl ?_
    refine re_ (kh_ (kx_ (n_ (q_ (q_ (g_ (s_ mv_ (s_ (lnS Tryz.underlying25) (s_ (x_gtr_i rfl rfl) (z_ (xk_ [6,53] ?_)))))))))))
    refine n_ ?_
    refine ifd (fun h15w h15=>?_) (fun h15w h15=>?_)
    ·exfalso;(try simp only [List.length_append,List.length_singleton] at *);omega
    ·refine sk_ (n_ (q_ (g_ (s_ mv_ (s_ av_ (s_ av_ (z_ (n_ (rt_ ?_)))))))))
     refine JX_rets [_,_] (Value.tuple #[_,_]) Tryz.results11 (fun w h=>⟨rfl,rfl,trivial⟩) rfl _ (fun _ h=>h.keep [true,false,true] rfl) ⟨out,outA,outC,c2+1,?_,?_,?_,?_⟩
     ·rfl
     ·have e_y0:(c2+1:Nat)=(c2+1):=by
       first | rfl | omega | (simp_all;done) | (simp_all;omega)
      have e_all:=(congrArg (fun (y0:Nat)=>[Ent.blk s 52 [vL rowsA rows.length rowsC,vI 0,vI 0,vI ((y0:Nat):Int)],Ent.row (.slice outA out.length outC) 9 1 out.length (out.map vS)]) e_y0)
      exact e_all
     ·exact c45a2_
     ·omega
   ·refine sk_ (n_ (q_ (q_ (g_ (s_ mv_ (s_ (x_neq_i rfl rfl) (z_ (xk_ [0,3,6,7,8,9,10,25] ?_))))))))
    refine n_ ?_
    refine ifd (fun h16w h16=>?_) (fun h16w h16=>?_)
    ·exfalso;(try simp only [List.length_append,List.length_singleton] at *);omega
    ·refine sk_ (n_ (q_ (g_ (s_ mv_ (s_ mv_ (o_ (O_buildSlice (cs:=[vS r10]) Tryz.underlying25 Ty.sz9 Ty.ze9 (by decide) (by decide) (by kernel_rfl) fun b17=>?_)))))))
     refine o_ (O_append_m 3 vS out [r10] Tryz.underlying25 Ty.sz9 Ty.by9 Ty.ze9 rfl rfl rfl rfl rfl (fun _=>rfl) (cells_blk 0 (off:=0) (m:=1) rfl rfl) lt_ lt_ fun A18 c19=>?_)
     refine s_ mv_ (s_ av_ (s_ av_ (z_ (n_ (q_ (g_ (s_ mv_ (s_ (lnS Tryz.underlying25) (s_ (x_gtr_i rfl rfl) (z_ (n_ ?_)))))))))))
     refine ifd (fun h20w h20=>?_) (fun h20w h20=>?_)
     ·exfalso;(try simp only [List.length_append,List.length_singleton] at *);omega
     ·refine sk_ (kx_ ?_)
      refine JX_round ((k9,out++[r10],A18,c19,c2+1):Bytes × (List Bytes) × (Option Addr) × Nat × Nat) ?_ ?_ ⟨rfl,rfl,rfl,rfl,trivial⟩ (fun _ h=>(((h.front 3 _ rfl).front 2 _ rfl).front 3 _ rfl).keep [true,true,true,false] rfl)
      ·try dsimp only
       refine ⟨?_,?_⟩
       ·exact i1_0.step q2 (by assumption) (by assumption)
       ·rw [List.length_append,List.length_singleton];omega
      ·try dsimp only
       exact R45.RecJ.less q2 (by assumption) (by assumption)
end Go.Proofs.YtggobegaiijhhaaGreatDoor
namespace Go.Proofs.YtggobegaiijhhaaGreatDoor
open Go.GV
namespace R45
def FewR (rows:List SRow) (m:Int):Prop:=(rows.length:Int)≤m ∧ ∀ i,(rows.getD i default).Key.length≤60∧(rows.getD i default).Record.length≤300
def FewP (rows:List SRow) (l:List Binding):Prop:=FewR rows 30∧l.length≤4 ∧ ∀ i,(l.getD i default).Lines.length≤310∧(l.getD i default).Name.length≤60 ∧ ∀ j,((l.getD i default).Lines.getD j []).length≤60
theorem all_end {α:Type} {l:List α} [Inhabited α] {k:Nat} {p:α→Prop} (hd:p default) (h:∀ i,i<k→p (l.getD i default)) (hk:l.length≤k) (i:Nat):p (l.getD i default):=by
  by_cases hi:i<k
  · exact h i hi
  · rw [List.getD_eq_getElem?_getD,List.getElem?_eq_none (by omega)];exact hd
def FewB (b:Binding):Prop:=b.Lines.length≤310∧b.Name.length≤60 ∧ ∀ j,(b.Lines.getD j []).length≤60
def noSet:DataSet:=⟨0,0,0,0,0,0,0,0,0,0,0,0,0,0,false,0,[],[],0,0,false⟩
def freshB (n:Bytes) (id:Int):Binding:={ (default:Binding) with Name:=n,Tracks:=1,Create:=true,Set:={ noSet with Id:=id } }
def inlineB (n:Bytes) (l:List Bytes) (A:Option Addr) (c:Nat):Binding:={ (default:Binding) with Name:=n,Inline:=true,Lines:=l,LinesA:=A,LinesC:=c }
end R45
theorem kp_true {S:List Nat} {w:World} {b:Binding} (h:RO S w b.LinesA (b.Lines.map vS)):Kp S w (Binding.ok b):=h.kp
theorem fresh_kp {S:List Nat} {w:World} (n:Bytes) (id:Int):Kp S w (Binding.ok (R45.freshB n id)):=kp_true (b:=R45.freshB n id) RO.nil
theorem inline_kp {S:List Nat} {w:World} {n:Bytes} {l:List Bytes} {A:Option Addr} {c:Nat} (h:RO S w A (l.map vS)):Kp S w (Binding.ok (R45.inlineB n l A c)):=kp_true (b:=R45.inlineB n l A c) h
theorem Binding.ok_none {S:List Nat} {w:World} : Kp S w (okL Binding.ok ([]:List Binding)):=okL_nil (kp_true (b:=default) RO.nil)
theorem okL_cons {α:Type} [Inhabited α] {ok:α→World→Prop} {S:List Nat} {w:World} {a:α} {l:List α} (h:Kp S w (ok a)) (k:Kp S w (okL ok l)):Kp S w (okL ok (a::l)):=(h.and k).imp fun w hh i=>by
  cases i with
  | zero=>exact hh.1
  | succ i=>exact hh.2 i
end Go.Proofs.YtggobegaiijhhaaGreatDoor
namespace Go.Proofs.YtggobegaiijhhaaGreatDoor
open Go.GV
set_option linter.unusedVariables false
set_option linter.unusedSimpArgs false
set_option maxRecDepth 20000 in
theorem f12_ok (rows:List SRow) (rowsA:Option Addr) (rowsC:Nat) (w:World) (rowsR:RO [] w rowsA (rows.flatMap SRow.enc)):Calls Tryz.prog 12 #[vL rowsA rows.length rowsC] w (Gives [] w fun v L=>∃ s:Nat,v=pB s 0∧L=[Ent.blk s 52 [vL rowsA rows.length rowsC,vI 0,vI 0,vI ((0:Nat):Int)]]):=by
 refine calls_J [] 6 Tryz.func12 rfl Tryz.ntmps12 [(0,_)] rfl rfl (Give.nil w) ?_
 refine q_ (g_ (s_ av_ (z_ (n_ (q_ (g_ (s_ mv_ (js_ (vG [vL rowsA rows.length rowsC,vI 0,vI 0,vI 0]) (x_build (by kernel_rfl)) (o_ (bxG fun b1=>?_))))))))))
 refine s_ av_ (z_ (n_ (rt_ ?_)))
 refine JX_rets [_] _ Tryz.results12 (fun w h=>⟨rfl,trivial⟩) rfl _ (fun _ h=>h) ⟨b1,?_,?_⟩
 ·rfl
 ·have e_y0:(0:Nat)=0:=by
   first | rfl | omega | (simp_all;done) | (simp_all;omega)
  have e_all:=(congrArg (fun (y0:Nat)=>[Ent.blk b1 52 [vL rowsA rows.length rowsC,vI 0,vI 0,vI ((y0:Nat):Int)]]) e_y0)
  exact e_all
set_option maxRecDepth 20000 in
theorem f17_ok (n:Bytes) (id:Int) (w:World):Calls Tryz.prog 17 #[vS n,vI id] w (Gives [] w fun v L=>v=vG (Binding.enc (R45.freshB n id))∧L=[]):=by
 refine calls_J [] 10 Tryz.func17 rfl Tryz.ntmps17 [(0,_),(1,_)] rfl rfl (Give.nil w) ?_
 refine q_ (g_ (o_ (al_ Ty.ze33 fun b1=>?_)))
 refine z_ (n_ (q_ (g_ (s_ mv_ (js_ (vG [vS n,vS [],vB false,vI 0,vS [],vS [],vI 0,vI 0,vI 0,vI 0,vI 0,vI 0,vI 0,vI 0,vI 0,vI 0,vI 0,vI 0,vI 0,vI 0,vI 0,vI 0,vI 0,vB false,vI 0,vS [],vS [],vI 0,vI 0,vB false,vI 1,vI 0,vB false,vL none 0 0,vB false]) (x_build (by kernel_rfl)) (s_ mv_ (js_ (vG [vI id,vI 0,vI 0,vI 0,vI 0,vI 0,vI 0,vI 0,vI 0,vI 0,vI 0,vI 0,vI 0,vI 0,vB false,vI 0,vS [],vS [],vI 0,vI 0,vB false]) (x_build (by kernel_rfl)) ?_)))))))
 refine js_ (vG [vS n,vS [],vB false,vI 0,vS [],vS [],vI 0,vI 0,vI 0,vI 0,vI 0,vI 0,vI 0,vI 0,vI 0,vI 0,vI 0,vI 0,vI 0,vI 0,vI 0,vI 0,vI 0,vB false,vI 0,vS [],vS [],vI 0,vI 0,vB false,vI 1,vI 0,vB false,vL none 0 0,vB false,vS [],vI 0,vS [],vI 0,vI 0,vI 0,vI 0,vI 0,vI 0,vI 0,vI 0,vI 0,vI 0,vI 0,vI 0,vI 0,vI 0,vB false,vI 0,vS [],vS [],vI 0,vI 0,vB false,vL none 0 0,vI 0,vI 0,vI 0,vB false,vS [],vS [],vI 0,vI 0,vL none 0 0,vB true,vI id,vI 0,vI 0,vI 0,vI 0,vI 0,vI 0,vI 0,vI 0,vI 0,vI 0,vI 0,vI 0,vI 0,vB false,vI 0,vS [],vS [],vI 0,vI 0,vB false]) (x_build (by kernel_rfl)) (o_ (stG 0 Ty.sz33 ?_))
 refine z_ (n_ (rt_ ?_))
 refine JX_rets [_] _ Tryz.results17 (fun w h=>⟨⟨_,rfl,load_blkN 0 [vS n,vS [],vB false,vI 0,vS [],vS [],vI 0,vI 0,vI 0,vI 0,vI 0,vI 0,vI 0,vI 0,vI 0,vI 0,vI 0,vI 0,vI 0,vI 0,vI 0,vI 0,vI 0,vB false,vI 0,vS [],vS [],vI 0,vI 0,vB false,vI 1,vI 0,vB false,vL none 0 0,vB false,vS [],vI 0,vS [],vI 0,vI 0,vI 0,vI 0,vI 0,vI 0,vI 0,vI 0,vI 0,vI 0,vI 0,vI 0,vI 0,vI 0,vB false,vI 0,vS [],vS [],vI 0,vI 0,vB false,vL none 0 0,vI 0,vI 0,vI 0,vB false,vS [],vS [],vI 0,vI 0,vL none 0 0,vB true,vI id,vI 0,vI 0,vI 0,vI 0,vI 0,vI 0,vI 0,vI 0,vI 0,vI 0,vI 0,vI 0,vI 0,vB false,vI 0,vS [],vS [],vI 0,vI 0,vB false] h rfl Ty.ag33 Ty.sz33 rfl⟩,trivial⟩) rfl _ (fun _ h=>h.keep [false] rfl) ⟨?_,?_⟩
 ·have e_x0:((Binding.mk n [] false 0 [] [] 0 0 0 (DataSet.mk 0 0 0 0 0 0 0 0 0 0 0 0 0 0 false 0 [] [] 0 0 false) 1 0 false ([]:List Bytes) none 0 false [] 0 [] (DataSet.mk 0 0 0 0 0 0 0 0 0 0 0 0 0 0 false 0 [] [] 0 0 false) none 0 0 0 0 0 false [] [] 0 0 none 0 0 true (DataSet.mk id 0 0 0 0 0 0 0 0 0 0 0 0 0 false 0 [] [] 0 0 false)):Binding)=(R45.freshB n id):=by rfl
  exact congrArg (fun (x0:Binding)=>vG (Binding.enc x0)) e_x0
 ·rfl
set_option maxRecDepth 20000 in
theorem f18_ok (n:Bytes) (l:List Bytes) (lA:Option Addr) (lC:Nat) (w:World) (lR:RO [] w lA (l.map vS)):Calls Tryz.prog 18 #[vS n,vL lA l.length lC] w (Gives [] w fun v L=>v=vG (Binding.enc (R45.inlineB n l lA lC))∧L=[]):=by
 refine calls_J [] 9 Tryz.func18 rfl Tryz.ntmps18 [(0,_),(1,_)] rfl rfl (Give.nil w) ?_
 refine q_ (g_ (o_ (al_ Ty.ze33 fun b1=>?_)))
 refine z_ (n_ (q_ (g_ (s_ mv_ (s_ mv_ (js_ (vG [vS n,vS [],vB false,vI 0,vS [],vS [],vI 0,vI 0,vI 0,vI 0,vI 0,vI 0,vI 0,vI 0,vI 0,vI 0,vI 0,vI 0,vI 0,vI 0,vI 0,vI 0,vI 0,vB false,vI 0,vS [],vS [],vI 0,vI 0,vB false,vI 0,vI 0,vB true,vL lA l.length lC,vB false]) (x_build (by kernel_rfl)) ?_))))))
 refine js_ (vG [vS n,vS [],vB false,vI 0,vS [],vS [],vI 0,vI 0,vI 0,vI 0,vI 0,vI 0,vI 0,vI 0,vI 0,vI 0,vI 0,vI 0,vI 0,vI 0,vI 0,vI 0,vI 0,vB false,vI 0,vS [],vS [],vI 0,vI 0,vB false,vI 0,vI 0,vB true,vL lA l.length lC,vB false,vS [],vI 0,vS [],vI 0,vI 0,vI 0,vI 0,vI 0,vI 0,vI 0,vI 0,vI 0,vI 0,vI 0,vI 0,vI 0,vI 0,vB false,vI 0,vS [],vS [],vI 0,vI 0,vB false,vL none 0 0,vI 0,vI 0,vI 0,vB false,vS [],vS [],vI 0,vI 0,vL none 0 0,vB false,vI 0,vI 0,vI 0,vI 0,vI 0,vI 0,vI 0,vI 0,vI 0,vI 0,vI 0,vI 0,vI 0,vI 0,vB false,vI 0,vS [],vS [],vI 0,vI 0,vB false]) (x_build (by kernel_rfl)) (o_ (stG 0 Ty.sz33 ?_))
 refine z_ (n_ (rt_ ?_))
 refine JX_rets [_] _ Tryz.results18 (fun w h=>⟨⟨_,rfl,load_blkN 0 [vS n,vS [],vB false,vI 0,vS [],vS [],vI 0,vI 0,vI 0,vI 0,vI 0,vI 0,vI 0,vI 0,vI 0,vI 0,vI 0,vI 0,vI 0,vI 0,vI 0,vI 0,vI 0,vB false,vI 0,vS [],vS [],vI 0,vI 0,vB false,vI 0,vI 0,vB true,vL lA l.length lC,vB false,vS [],vI 0,vS [],vI 0,vI 0,vI 0,vI 0,vI 0,vI 0,vI 0,vI 0,vI 0,vI 0,vI 0,vI 0,vI 0,vI 0,vB false,vI 0,vS [],vS [],vI 0,vI 0,vB false,vL none 0 0,vI 0,vI 0,vI 0,vB false,vS [],vS [],vI 0,vI 0,vL none 0 0,vB false,vI 0,vI 0,vI 0,vI 0,vI 0,vI 0,vI 0,vI 0,vI 0,vI 0,vI 0,vI 0,vI 0,vI 0,vB false,vI 0,vS [],vS [],vI 0,vI 0,vB false] h rfl Ty.ag33 Ty.sz33 rfl⟩,trivial⟩) rfl _ (fun _ h=>h.keep [false] rfl) ⟨?_,?_⟩
 ·have e_x0:((Binding.mk n [] false 0 [] [] 0 0 0 (DataSet.mk 0 0 0 0 0 0 0 0 0 0 0 0 0 0 false 0 [] [] 0 0 false) 0 0 true l lA lC false [] 0 [] (DataSet.mk 0 0 0 0 0 0 0 0 0 0 0 0 0 0 false 0 [] [] 0 0 false) none 0 0 0 0 0 false [] [] 0 0 none 0 0 false (DataSet.mk 0 0 0 0 0 0 0 0 0 0 0 0 0 0 false 0 [] [] 0 0 false)):Binding)=(R45.inlineB n l lA lC):=by rfl
  exact congrArg (fun (x0:Binding)=>vG (Binding.enc x0)) e_x0
 ·rfl
end Go.Proofs.YtggobegaiijhhaaGreatDoor
namespace Go.Proofs.YtggobegaiijhhaaGreatDoor
open Go.GV
theorem ronN {S:List Nat} {w:World} : ∀ i:Nat,RO S w (([]:List Rw).getD i default).sA ((([]:List Rw).getD i default).s.map vS):=fun _=>RO.nil
theorem ronS {S:List Nat} {w:World} {l:List Rw} {s:List Bytes} {A:Option Addr} {c:Nat} (h:∀ i:Nat,RO S w (l.getD i default).sA ((l.getD i default).s.map vS)) (h2:RO S w A (s.map vS)):∀ i:Nat,RO S w ((l++[Rw.mk s A c]).getD i default).sA (((l++[Rw.mk s A c]).getD i default).s.map vS):=fun i=>by
  rcases Nat.lt_trichotomy i l.length with hi | hi | hi
  · rw [List.getD_eq_getElem?_getD,List.getElem?_append_left hi,← List.getD_eq_getElem?_getD];exact h i
  · subst hi;simpa [List.getD_eq_getElem?_getD] using h2
  · rw [List.getD_eq_getElem?_getD,List.getElem?_eq_none (by rw [List.length_append];simp;omega)];exact RO.nil
namespace R45
def setV (b:Binding):DataSet:=if b.Create=true then b.Set else b.EData
theorem set_t {b:Binding} (h:b.Create=true):b.Set=setV b:=by unfold setV;rw [if_pos h]
theorem set_f {b:Binding} (h:b.Create=false):b.EData=setV b:=by unfold setV;rw [if_neg (by rw [h];decide)]
def wrV (name:Bytes) (b:Binding):Bool:=!(b.Inline||(decide (b.Status=2) && !b.Dummy))&&(decide (name≠[101,114,97,115,101])||((!b.Dummy && !b.Create)&&decide (b.EData.Org=3)))
theorem wr_no {name:Bytes} {b:Binding} (h:b.Inline=true∨b.Status=2∧b.Dummy=false):false=wrV name b:=by
  unfold wrV
  rcases h with h | ⟨h,h2⟩
  · rw [h];rfl
  · rw [h,h2];simp
theorem wr_yes {name:Bytes} {b:Binding} (h:(b.Inline||(decide (b.Status=2) && !b.Dummy))=false):(decide (name≠[101,114,97,115,101])||((!b.Dummy && !b.Create)&&decide (b.EData.Org=3)))=wrV name b:=by unfold wrV;rw [h];rfl
def bindE (p:Bytes × Binding):Bytes × Value:=(p.1,vG (Binding.enc p.2))
def outB (dds:List (Bytes × Binding)):Binding:=(lookK dds [79,85,84]).getD default
theorem look_out (dds:List (Bytes × Binding)):lk (dds.map bindE) [79,85,84]=(lookK dds [79,85,84]).map (fun b=>vG (Binding.enc b)):=lk_map (fun b=>vG (Binding.enc b)) [79,85,84] dds
theorem look_val (dds:List (Bytes × Binding)):((lookK dds [79,85,84]).map (fun b=>vG (Binding.enc b))).getD (vG (Binding.enc default))=vG (Binding.enc (outB dds)):=by unfold outB;cases lookK dds [79,85,84] <;> rfl
def findI (dd:Bytes):List Binding→Int
  | []=>-1
  | b::l=>if b.Name=dd then 0 else if findI dd l<0 then -1 else findI dd l+1
theorem findI_bd (dd:Bytes):∀ l:List Binding,-1≤findI dd l∧findI dd l<l.length
  | []=>by simp [findI]
  | b::l=>by
    have:=findI_bd dd l
    rw [findI];split
    · simp
    · split <;> simp <;> omega
def FindJ (dd:Bytes) (l:List Binding) (k:Nat):Prop:=findI dd l=if findI dd (l.drop k)<0 then -1 else findI dd (l.drop k)+k
theorem FindJ.start {dd:Bytes} {l:List Binding} : FindJ dd l 0:=by
  unfold FindJ
  have:=findI_bd dd l
  rw [List.drop_zero];split <;> omega
theorem FindJ.step {dd:Bytes} {l:List Binding} {k:Nat} (h:FindJ dd l k) (hk:k<l.length) (hn:¬ (l.getD k default).Name=dd):FindJ dd l (k+1):=by
  unfold FindJ at *
  rw [h,drop_cons (d:=default) hk,findI,if_neg hn]
  have:=findI_bd dd (l.drop (k+1))
  split <;> split <;> (try split at *) <;> omega
theorem FindJ.hit {dd:Bytes} {l:List Binding} {k:Nat} (h:FindJ dd l k) (hk:k<l.length) (hn:(l.getD k default).Name=dd):(k:Int)=findI dd l:=by
  unfold FindJ at h
  rw [h,drop_cons (d:=default) hk,findI,if_pos hn];simp
theorem FindJ.done {dd:Bytes} {l:List Binding} {k:Nat} (h:FindJ dd l k) (hk:l.length≤k) : -1=findI dd l:=by
  unfold FindJ at h
  rw [h,List.drop_of_length_le hk];simp [findI]
def countS (n:Nat):Bytes:=Lib.decDigits n++[32,114,101,99,111,114,100,115]
def wrongS (n:Nat):Bytes:=[119,114,111,110,103,32,114,101,99,111,114,100,32]++Lib.decDigits (n+1)
def diffS (n:Nat):Bytes:=[100,105,102,102,101,114,101,110,116,32,97,116,32]++Lib.decDigits (n+1)
theorem count_len (n:Nat) (h:n≤1000000):(countS n).length≤40:=by have:=R44.dec_len19 (n:=n) (by omega);unfold countS;rw [List.length_append];simp;omega
theorem wrong_len (n:Nat) (h:n≤1000000):(wrongS n).length≤40:=by have:=R44.dec_len19 (n:=n+1) (by omega);unfold wrongS;rw [List.length_append];simp;omega
def fd:List Bytes→List Bytes→Nat
  | x::a,y::b=>if x=y then fd a b+1 else 0
  | _,_=>0
def FdJ (a b:List Bytes) (i:Nat):Prop:=fd a b=i+fd (a.drop i) (b.drop i)
theorem FdJ.start {a b:List Bytes} : FdJ a b 0:=by unfold FdJ;simp
theorem FdJ.step {a b:List Bytes} {i:Nat} (h:FdJ a b i) (ha:i<a.length) (hb:i<b.length) (he:a.getD i []=b.getD i []):FdJ a b (i+1):=by
  unfold FdJ at *
  rw [h,drop_cons (d:=[]) ha,drop_cons (d:=[]) hb,fd,if_pos he];omega
theorem FdJ.done {a b:List Bytes} {i:Nat} (h:FdJ a b i) (hs:a.length≤i∨b.length≤i∨a.getD i []≠b.getD i []):i=fd a b:=by
  unfold FdJ at h
  rw [h]
  by_cases ha:a.length≤i
  · rw [List.drop_of_length_le ha];simp [fd]
  · by_cases hb:b.length≤i
    · rw [List.drop_of_length_le hb];cases a.drop i <;> simp [fd]
    · rw [drop_cons (d:=[]) (l:=a) (by omega),drop_cons (d:=[]) (l:=b) (by omega),fd,if_neg];· rfl
      rcases hs with h | h | h
      · exact absurd h ha
      · exact absurd h hb
      · exact h
def cmpC (a b:List Bytes):Int:=if a=b then 0 else 4
def cmpL (a b:List Bytes):List Bytes:=if a=b then [[101,113,117,97,108]] else [diffS (fd a b)]
theorem cmp_eq {a b:List Bytes} (h:a=b):(0:Int)=cmpC a b∧[[101,113,117,97,108]]=cmpL a b:=by unfold cmpC cmpL;rw [if_pos h,if_pos h];exact ⟨rfl,rfl⟩
theorem cmp_ne {a b:List Bytes} (h:¬ a=b) {i:Nat} (hi:i=fd a b):(4:Int)=cmpC a b∧[diffS i]=cmpL a b:=by unfold cmpC cmpL;rw [if_neg h,if_neg h,hi];exact ⟨rfl,rfl⟩
theorem eq_len {a b:List Bytes} (h:a.length≠b.length):false=decide (a=b):=by
  symm;exact decide_eq_false fun e=>h (congrArg List.length e)
theorem eq_bad {a b:List Bytes} {i:Nat} (h:a.getD i []≠b.getD i []):false=decide (a=b):=by
  symm;exact decide_eq_false fun e=>h (by rw [e])
theorem eq_end {a b:List Bytes} (h:a.length=b.length) (k:∀ i,i<a.length→a.getD i []=b.getD i []):true=decide (a=b):=by
  symm;refine decide_eq_true (List.ext_getElem h fun i h1 h2=>?_)
  have:=k i h1
  rwa [List.getD_eq_getElem?_getD,List.getD_eq_getElem?_getD,List.getElem?_eq_getElem h1,List.getElem?_eq_getElem h2] at this
theorem dec_lenI (n:Int) (h:n≤9223372036854775807):(Lib.decDigits n.toNat).length≤19:=R44.dec_len19 (by omega)
def wrC (d:DataSet) (s:Bytes):Change:=⟨2,d.Id,[],s,[]⟩
def wr0 (b:Binding):List Change:=if b.Create=true then [] else if b.Status≠3 then [⟨3,(setV b).Id,[],[],[]⟩] else []
def wrS (b:Binding) (l:List Bytes):List Change:=if b.Dummy=true then [] else wr0 b++l.map (wrC (setV b))
theorem wr_dummy {b:Binding} {l:List Bytes} (h:b.Dummy=true):[]=wrS b l:=by unfold wrS;rw [if_pos h]
theorem wr_done {b:Binding} {l:List Bytes} {k:Nat} {ch:List Change} (h:b.Dummy=false) (hc:ch=wr0 b++(l.take k).map (wrC (setV b))) (hk:l.length≤k):ch=wrS b l:=by unfold wrS;rw [if_neg (by rw [h];decide),hc,List.take_of_length_le hk]
theorem wr_step {b:Binding} {l:List Bytes} {k:Nat} (hk:k<l.length):(wr0 b++(l.take k).map (wrC (setV b)))++[⟨2,(setV b).Id,[],l.getD k [],[]⟩]=wr0 b++(l.take (k+1)).map (wrC (setV b)):=by
  rw [take_snoc (d:=[]) hk,List.map_append,List.append_assoc];rfl
theorem wr0_c {b:Binding} (h:b.Create=true):[]=wr0 b:=by unfold wr0;rw [if_pos h]
theorem wr0_e {b:Binding} (h:b.Create=false) (h2:b.Status≠3):[⟨3,(setV b).Id,[],[],[]⟩]=wr0 b:=by unfold wr0;rw [if_neg (by rw [h];decide),if_pos h2]
theorem wr0_m {b:Binding} (h:b.Create=false) (h2:¬ b.Status≠3):[]=wr0 b:=by unfold wr0;rw [if_neg (by rw [h];decide),if_neg h2]
def NumJ (s:Bytes) (most:Int) (n:Int) (ok:Bool):Prop:=∃ er,R44.AtoiJ s n er∧ok=(((er&&decide (0≤n))&&decide (n≤most))&&decide (Lib.decDigits n.toNat=s))
theorem NumJ.bd {s:Bytes} {most n:Int} {ok:Bool} (h:NumJ s most n ok):(ok=true→0≤n∧n≤most) ∧ -9223372036854775808≤n∧n≤9223372036854775807:=by
  obtain ⟨er,h1,h2⟩:=h
  refine ⟨fun h=>?_,R44.atoi_bd h1⟩
  rw [h2] at h
  simp only [Bool.and_eq_true,decide_eq_true_eq] at h
  omega
def GenJ (parm:Bytes) (n:Int) (t:Bytes) (ok:Bool):Prop:=∃ a o is,((o=true→cutB 32 parm=some (a,t))∧(o=false→cutB 32 parm=none))∧NumJ a 300 n is∧ok=(((((o&&is)&&decide (t≠[]))&&decide ((t.length:Int)≤20))) && !decide ((32:UInt8)∈t))
def genS (t:Bytes) (i:Nat):Bytes:=t++(Lib.decDigits (10001+i)).drop 1
end R45
end Go.Proofs.YtggobegaiijhhaaGreatDoor
