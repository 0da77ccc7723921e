/- contracts C45n -/
import Derived.Test.YtggobegaiijhhaaGreatDoorUtilityOnly30
set_option linter.unusedVariables false
set_option linter.unusedSimpArgs false
set_option maxRecDepth 20000
namespace Go.Proofs.YtggobegaiijhhaaGreatDoor
open Go.GV Go.Proofs.Tryz Ty
open Go.GV.Ent (blk row mp)
theorem c45n0_ {p:Prop} (h:p:=by first | omega | (simp only [List.length_append,List.length_cons,List.length_nil];omega) | (simp;omega) | (simp_all;omega)):p:=h
theorem c45n1_ {p:Prop} (h:p:=by first | exact R45.srP_none as_ as_ as_ as_ | exact R45.srP_bad as_ as_ om_ as_ om_ | exact R45.srP_two as_ as_ om_ as_ om_ as_ as_):p:=h
theorem c45n2_ {p:Prop} (h:p:=by first | exact fun h=>absurd (⟨h.1,Nat.le_trans (R45.sort_len as_) h.2.1⟩:R45.SeqB (R45.outB dds)∧_≤290) as_ | exact fun h=>by have:=h.2.2 k;have:=of_ as_;omega | exact fun h=>by have:=h.2.2 k;simp_all | exact fun h=>by have:=h.2.2 k;omega):p:=h
theorem c45n3_ {p:Prop} (h:p:=by first | exact R45.mrg_few as_ | exact R45.mrg_adjz (k:=k) om_ as_ as_):p:=h
theorem f96_ok (x:Nat) (s:Nat) (parm:Bytes) (m:Nat) (rows:List SRow) (rowsA:OA_) (rowsC:Nat) (calls:Nat) (dds:List (Bytes × Binding)) (rc:List Rw) (rcA:OA_) (rcC:Nat) (tf:Nat) (fl:List SortField) (flA:OA_) (flC:Nat) (w:World) (rowsR:RO [x,m,s,tf] w rowsA (rows.flatMap SRow.enc)) (rcR:RO [x,m,s,tf] w rcA (rc.flatMap Rw.enc)) (rcN:∀ i:Nat,RO [x,m,s,tf] w (rc.getD i default).sA (((rc.getD i default).s).map vS)) (flR:RO [x,m,s,tf] w flA (fl.flatMap SortField.enc)) (hT:Tab [x,m,s,tf] w) (q0:rows.length≤1000) (q1:calls≤990000) (q2:R45.Dist rows) (q3:∀ x∈rows,x.Key.length≤1000000) (q4:rc.length=2) (q5:∀ i,(rc.getD i default).s.length≤500) (q6:∀ i j,((rc.getD i default).s.getD j []).length≤1000000) (q7:∀ i,(rc.getD i default).s.length≤(rc.getD i default).sC) (q8:fl.length≤1001) (hg:Give [x,m,s,tf] w [x0_ x s parm m,mp vS m (dds.map R45.bindE),sH_ s rowsA rows.length rowsC calls,blk tf 138 [vL flA fl.length flC]]):Calls prog 96 #[pB x 0,vL rcA rc.length rcC,pB tf 0] w (GivesE [x,m,s,tf] w (fun v L=>∃ ch:List Change,∃ chA:OA_,∃ chC:Nat,∃ ln:LB_,∃ lnA:OA_,∃ lnC:Nat,v=Value.tuple #[]∧L=[xE_ x s parm m [vI 0,vB false,vL chA ch.length chC,vL lnA ln.length lnC],mp vS m (dds.map R45.bindE),row (.slice chA ch.length chC) 60 5 ch.length (ch.flatMap Change.enc),row (.slice lnA ln.length lnC) 9 1 ln.length (ln.map vS)]∧(R45.WrJ (R45.outB dds) (R44.mergeV fl (rc.map Rw.s)) ch)∧(ln.length=1)) (fun c L=>∃ line:Bytes,c=R45.pan line∧L=[]∧(¬ R45.MgOk fl (R45.outB dds) (rc.map Rw.s)))):=by
 refine calls_JE [x,m,s,tf] 28 func96 rfl ntmps96 [(0,_),(1,_),(2,_)] rfl rfl hg ?_
 refine q_ (q_ (g_ (s_ mv_ (s_ (lnS underlying102) (s_ mv_ (z_ (n_ (k_ ?_))))))))
 refine J_loop (X:=Nat) (fun (k:Nat)=>(k≤rc.length)∧(∀ i,i<k→R45.Adj fl (rc.getD i default).s)) (fun (k:Nat)=>[(0,pB x 0),(1,vL rcA rc.length rcC),(2,pB tf 0),(7,vL rcA rc.length rcC),(8,vN rc.length),(9,vN k)]) (fun (k:Nat)=>[x0_ x s parm m,mp vS m (dds.map R45.bindE),sH_ s rowsA rows.length rowsC calls,blk tf 138 [vL flA fl.length flC]]) (fun (k:Nat)=>rc.length-k) (0:Nat) ?_ se_ i_ ?_
 ·try dsimp only
  refine ⟨?_,?_⟩
  ·exact df_
  ·intro i hi;omega
 intro k hI1
 obtain ⟨i1_0,i1_1⟩:=hI1
 try dsimp only at i1_0
 try dsimp only at i1_1
 have hqk:=q5 k
 have hqe:=q6 k
 try dsimp only
 refine q_ (g_ (s_ (x_lss_i rfl rfl) (z_ (n_ (q_ ?_)))))
 refine ifd (fun h1w h1=>?_) (fun h1w h1=>?_)
 ·refine sk_ (n_ (q_ (k_ (q_ (g_ (s_ mv_ (r_ (ixF Rw.enc_len (cells_ro rcR) underlying102 sz25) (r_ (ldF0 Rw.enc_len (cells_ro rcR) sc25) (s_ av_ (s_ av_ (z_ (n_ (g_ (s_ mv_ (js_ ((fC_ 98 tf)) (x_makeFunc rfl rfl) ?_)))))))))))))))
  refine JO_call [tf] [blk tf 138 [vL flA fl.length flC]] [x0_ x s parm m,mp vS m (dds.map R45.bindE),sH_ s rowsA rows.length rowsC calls] rfl trivial (fun _=>x_call ca97 rfl) (fun _ h=>((((h.front 2 _ rfl).front 2 _ rfl).front 2 _ rfl).front 3 _ rfl).keep [T_,T_,T_,T_] rfl) (own_mem rfl) (fun w hS=>f97_ok ((rc.getD k default).s) ((rc.getD k default).sA) ((rc.getD k default).sC) tf fl flA flC w ((rcN k).on hS (own_mem rfl)) (flR.on hS (own_mem rfl)) hy_ hy_ hy_ (hS.give (own_in rfl))) ?_
  rintro _ _ ⟨z2,rfl,rfl,hf3⟩
  refine s_ mv_ (s_ (x_add_n (a:=k) (b:=1) rfl rfl om_) (c0 (cl_ ca19) (fun w hS=>itoa_ok _ w (hT.on hS (fun _ h=>by cases h)) hy_ hy_) ?_))
  have ha4:=R45.dec_lenI ((k+1:Nat):Int) om_
  refine js_ (vS ([110,111,116,32,115,111,114,116,101,100,32,73,78]++(Lib.decDigits ((k+1:Nat):Int).toNat))) (x_cat_s rfl rfl c45n0_) ?_
  refine JO_callP [] [] [blk tf 138 [vL flA fl.length flC],x0_ x s parm m,mp vS m (dds.map R45.bindE),sH_ s rowsA rows.length rowsC calls] rfl trivial (fun _=>x_call ca33 rfl) i_ (fun _ h=>by cases h) (fun w hS=>f33_ok z2 ([110,111,116,32,115,111,114,116,101,100,32,73,78]++(Lib.decDigits ((k+1:Nat):Int).toNat)) w) ?_ ?_
  ·rintro _ _ ⟨rfl,rfl,hp5⟩
   refine JX_block_pan (JX_then_pan (JX_round_pan (JX_block_pan (JX_then_pan ?_))))
   refine JX_pan [] (fun _ h=>h.keep [F_,F_,F_,F_] rfl) (fun _ _ h=>h) ⟨([110,111,116,32,115,111,114,116,101,100,32,73,78]++(Lib.decDigits ((k+1:Nat):Int).toNat)),rfl,?_,?_⟩
   ·rfl
   ·exact c45n3_
  rintro _ _ ⟨rfl,rfl,hf6⟩
  refine z_ (kx_ (n_ (g_ (s_ (x_add_n (a:=k) (b:=1) rfl rfl om_) (s_ mv_ (z_ ?_))))))
  refine JX_round (k+1:Nat) ?_ ?_ se_ (fun _ h=>(((h.front 3 _ rfl).front 3 _ rfl).front 3 _ rfl).keep [T_,T_,T_,T_] rfl)
  ·try dsimp only
   refine ⟨?_,?_⟩
   ·exact df_
   ·intro i hi
    by_cases hik:i=k
    ·subst hik;exact R45.adj_t as_ as_
    ·exact i1_1 i om_
  ·try dsimp only
   first | omega | (simp;omega) | (simp_all;omega)
 ·refine J_exit (ne_ (re_ (kh_ (n_ (g_ ?_)))))
  refine s_ mv_ (s_ mv_ (r_ (ld_ 3 sc138) ?_))
  refine c1 (cl_ ca100) (fun w hS=>f100_ok rc rcA rcC fl flA flC w (rno rcR hS) (fun i=>(rcN i).on hS (fun _ h=>by cases h)) (rno flR hS) hy_ hy_ hy_ (by exact Nat.le_trans (R45.flat2 q4 q5) dd_) hy_) ?_
  rintro _ _ ⟨e7,e8,rfl,rfl⟩
  refine JO_callP [x,m,s] [x0_ x s parm m,mp vS m (dds.map R45.bindE),sH_ s rowsA rows.length rowsC calls] [row (.slice e7 (R44.mergeV fl (rc.map Rw.s)).length e8) 9 1 (R44.mergeV fl (rc.map Rw.s)).length ((R44.mergeV fl (rc.map Rw.s)).map vS),blk tf 138 [vL flA fl.length flC]] rfl trivial (fun _=>x_call ca56 rfl) (fun _ h=>(((((h.front 4 _ rfl).front 1 _ rfl).front 4 _ rfl).front 4 _ rfl).front 4 _ rfl).keep [T_,T_,T_,T_,T_] rfl) (own_mem rfl) (fun w hS=>f56_ok x s parm m rows rowsA rowsC calls dds (R44.mergeV fl (rc.map Rw.s)) e7 e8 [] w (rowsR.on hS (own_mem rfl)) (RO.of_rowS hS (own_mem rfl) 0 rfl) (hT.on hS (own_mem rfl)) hy_ hy_ hy_ hy_ (by exact Nat.le_trans (R45.merge2_len q4 q5) dd_) (by exact R45.merge2_each q6) hy_ (hS.give (own_in rfl))) ?_ ?_
  ·rintro _ _ ⟨line9,rfl,rfl,hp10⟩
   refine JX_pan [] (fun _ h=>h.keep [F_,F_] rfl) (fun _ _ h=>h) ⟨line9,rfl,?_,?_⟩
   ·rfl
   ·exact c45n3_
  rintro _ _ ⟨ch11,chA12,chC13,ln14,lnA15,lnC16,e17,rfl,rfl,hf18,hf19,hf20⟩
  refine z_ (JX_En ?_)
  refine JX_end0 results96 [xE_ x s parm m [vI 0,vB false,vL chA12 ch11.length chC13,vL lnA15 ln14.length lnC16],mp vS m (dds.map R45.bindE),row (.slice chA12 ch11.length chC13) 60 5 ch11.length (ch11.flatMap Change.enc),row (.slice lnA15 ln14.length lnC16) 9 1 ln14.length (ln14.map vS)] (fun _ h=>h.keep [T_,T_,F_,T_,T_,F_,F_] rfl) ⟨ch11,chA12,chC13,ln14,lnA15,lnC16,?_,?_,?_,?_⟩
  ·rfl
  ·rfl
  ·assumption
  ·exact R45.ln_one as_
theorem f70_ok (w:World):Calls prog 70 #[] w (Gives [] w fun v L=>∃ nb:Nat,∃ tf:Nat,∃ tp:Nat,v=vG [vL (some ⟨nb,0,none⟩) 2 2,Value.func (.func 104) #[] #[pB tf 0,pB tp 0],Value.func (.func 107) #[] #[pB tp 0,pB tf 0]]∧L=[blk nb 9 [vS [73,78],vS [79,85,84]],blk tf 138 [vL none 0 0],blk tp 145 [vI 16,vI 4]]):=by
 refine calls_J [] 8 func70 rfl ntmps70 [] rfl rfl (Give.nil w) ?_
 refine q_ (g_ (o_ (al_ ze97 fun b1=>?_)))
 refine z_ (n_ (q_ (g_ (o_ (al_ ze138 fun b2=>?_)))))
 refine z_ (n_ (q_ (g_ (js_ (vG [vI 16,vI 4]) (x_build kf_) (o_ (al_ ze145 fun b3=>?_))))))
 refine o_ (stG 0 sz145 ?_)
 refine z_ (n_ (q_ (g_ (o_ (O_buildSlice (cs:=[vS [73,78],vS [79,85,84]]) underlying25 sz9 ze9 dd_ dd_ kf_ fun b4=>?_)))))
 refine js_ (Value.func (.func 104) #[] #[pB b2 0,pB b3 0]) (x_makeFunc rfl rfl) (js_ (Value.func (.func 107) #[] #[pB b3 0,pB b2 0]) (x_makeFunc rfl rfl) (js_ (vG [vL (some ⟨b4,0,none⟩) 2 2,Value.func (.func 104) #[] #[pB b2 0,pB b3 0],Value.func (.func 107) #[] #[pB b3 0,pB b2 0]]) (x_build kf_) (o_ (stG 3 sz97 ?_))))
 refine z_ (n_ (rt_ ?_))
 refine JX_rets [_] _ results70 (fun w h=>⟨⟨_,rfl,load_blkN 3 [vL (some ⟨b4,0,none⟩) 2 2,Value.func (.func 104) #[] #[pB b2 0,pB b3 0],Value.func (.func 107) #[] #[pB b3 0,pB b2 0]] h rfl ag97 sz97 rfl⟩,trivial⟩) rfl [blk b4 9 [vS [73,78],vS [79,85,84]],blk b2 138 [vL none 0 0],blk b3 145 [vI 16,vI 4]] (fun _ h=>(((h.front 1 _ rfl).front 2 _ rfl).front 2 _ rfl).keep [T_,T_,T_,F_] rfl) ⟨b4,b2,b3,?_,?_⟩
 ·rfl
 ·rfl
theorem f104_ok (x:Nat) (s:Nat) (parm:Bytes) (m:Nat) (tf:Nat) (tp:Nat) (w:World) (hT:Tab [x,tf,tp] w) (q0:parm.length≤1000) (hg:Give [x,tf,tp] w [x0_ x s parm m,blk tf 138 [vL none 0 0],blk tp 145 [vI 16,vI 4]]):Calls prog 104 #[pB x 0,pB tf 0,pB tp 0] w (Gives [x,tf,tp] w fun v L=>∃ fl:List SortField,∃ flA:OA_,∃ flC:Nat,∃ ok:Bool,∃ mem:Int,∃ fan:Int,v=vB ok∧L=[x0_ x s parm m,blk tf 138 [vL flA fl.length flC],row (.slice flA fl.length flC) 179 4 fl.length (fl.flatMap SortField.enc),blk tp 145 [vI mem,vI fan]]∧(R45.SrP parm fl mem fan ok)):=by
 refine calls_J [x,tf,tp] 71 func104 rfl ntmps104 [(0,_),(1,_),(2,_)] rfl rfl hg ?_
 refine q_ (g_ (s_ av_ (z_ (n_ (q_ (g_ (s_ mv_ (s_ (x_nilCheck rfl) (s_ (fA 1 fi82_1) (r_ (ld_ 0 sc9) ?_))))))))))
 refine c1 (cl_ ca92) (fun w hS=>cut_ok2 47 parm w (hT.on hS (fun _ h=>by cases h)) hy_) ?_
 rintro _ _ ⟨a1,r2,o3,rfl,rfl,hf4,hf5,hf6,hf7⟩
 refine s_ mv_ (s_ (ex_ 0) (s_ (ex_ 1) (s_ (ex_ 2) (s_ av_ (s_ av_ (s_ av_ (z_ (n_ (q_ (g_ (s_ mv_ ?_)))))))))))
 refine c1 (cl_ ca95) (fun w hS=>f95_ok a1 w (hT.on hS (fun _ h=>by cases h)) hy_) ?_
 rintro _ _ ⟨out8,outA9,outC10,e11,rfl,rfl,hf12⟩
 refine s_ mv_ (s_ (ex_ 0) (s_ (ex_ 1) (s_ av_ (s_ av_ (z_ (xk_ [1,2,4,6,7,8,9] ?_))))))
 refine n_ (q_ (g_ (s_ mv_ (o_ (st1 2 sz138 ?_)))))
 refine z_ (n_ (q_ (q_ (g_ (s_ mv_ (z_ (n_ ?_)))))))
 refine if_ (fun h13=>?_) (fun h13=>?_)
 ·have h13w:=h13
  refine q_ (g_ (s_ mv_ ?_))
  refine c1 (cl_ ca105) (fun w hS=>fields_ok 106 ca106 (fun x w=>f106_ok x w) r2 w hy_) ?_
  rintro _ _ ⟨e14,e15,rfl,rfl⟩
  refine s_ av_ (z_ (n_ (q_ (q_ (g_ (s_ mv_ (s_ (lnS underlying25) (s_ (x_neq_i rfl rfl) (z_ (n_ ?_))))))))))
  refine ifd (fun h16w h16=>?_) (fun h16w h16=>?_)
  ·refine q_ (g_ (s_ av_ (z_ (n_ (rt_ (nr_ (nr_ ?_)))))))
   refine JX_rets [_] _ results104 (fun w h=>⟨rfl,trivial⟩) rfl [x0_ x s parm m,blk tf 138 [vL outA9 out8.length outC10],row (.slice outA9 out8.length outC10) 179 4 out8.length (out8.flatMap SortField.enc),blk tp 145 [vI 16,vI 4]] (fun _ h=>((((h.front 4 _ rfl).front 2 _ rfl).front 4 _ rfl).front 4 _ rfl).keep [T_,T_,T_,T_,F_] rfl) ⟨out8,outA9,outC10,(false),16,4,?_,?_,?_⟩
   ·have e_x0:(false:Bool)=(false):=by exact df_
    exact congrArg (fun (x0:Bool)=>vB x0) e_x0
   ·rfl
   ·exact c45n1_
  ·refine sk_ (n_ (q_ (g_ (s_ mv_ (r_ (ixM (k:=0) (cells_row 0 rfl) underlying25 sz9) (r_ (ldM vS [] (cells_row 0 rfl) sc9) ?_))))))
   refine c1 (cl_ ca49) (fun w hS=>f49_ok _ 1024 w (hT.on hS (fun _ h=>by cases h)) (by exact Nat.le_trans (R44.words_len _ _) om_)) ?_
   rintro _ _ ⟨n17,ok18,rfl,rfl,hf19⟩
   refine s_ mv_ (s_ (ex_ 0) (s_ (ex_ 1) (s_ av_ (s_ av_ (z_ (xk_ [2,4,9,10,11,12] ?_))))))
   refine n_ (q_ (g_ (s_ mv_ (r_ (ixM (k:=1) (cells_row 0 rfl) underlying25 sz9) (r_ (ldM vS [] (cells_row 0 rfl) sc9) ?_)))))
   refine c1 (cl_ ca49) (fun w hS=>f49_ok _ 16 w (hT.on hS (fun _ h=>by cases h)) (by exact Nat.le_trans (R44.words_len _ _) om_)) ?_
   rintro _ _ ⟨n20,ok21,rfl,rfl,hf22⟩
   refine s_ mv_ (s_ (ex_ 0) (s_ (ex_ 1) (s_ av_ (s_ av_ (z_ (n_ (q_ (g_ (s_ mv_ (s_ mv_ (js_ (vG [vI n17,vI n20]) (x_build kf_) (o_ (stG 4 sz145 ?_)))))))))))))
   refine z_ (n_ (q_ (g_ (s_ mv_ (s_ (x_eql_i rfl rfl) (s_ mv_ ?_))))))
   refine and_ 1 (ok18) (fun g23=>?_) ?_
   ·have g23r:=g23
    have g23r:=ot_ g23r
    refine sg_ g23 mv_ ?_
    exact cr_
   refine s_ mv_ ?_
   refine and_ 1 (ok21) (fun g24=>?_) ?_
   ·have g24r:=g24
    have ⟨g24r,h25⟩:=band_true g24r
    have g24r:=ot_ g24r
    refine sg_ g24 mv_ ?_
    exact cr_
   refine s_ mv_ ?_
   refine and_ 2 (decide ((1:Int)≤n17)) (fun g26=>?_) ?_
   ·have g26r:=g26
    have ⟨g26r,h27⟩:=band_true g26r
    have ⟨g26r,h28⟩:=band_true g26r
    have g26r:=ot_ g26r
    refine sg_ g26 mv_ (sg_ g26 (x_geq_i rfl rfl) ?_)
    exact cr_
   refine s_ mv_ ?_
   refine and_ 2 (decide ((2:Int)≤n20)) (fun g29=>?_) ?_
   ·have g29r:=g29
    have ⟨g29r,h30⟩:=band_true g29r
    have ⟨g29r,h31⟩:=band_true g29r
    have ⟨g29r,h32⟩:=band_true g29r
    have g29r:=ot_ g29r
    have h30:=ot_ h30
    refine sg_ g29 mv_ (sg_ g29 (x_geq_i rfl rfl) ?_)
    exact cr_
   refine s_ av_ (z_ (xk_ [4,9] ?_))
   refine n_ (rt_ (nr_ ?_))
   refine JX_rets [_] _ results104 (fun w h=>⟨rfl,trivial⟩) rfl [x0_ x s parm m,blk tf 138 [vL outA9 out8.length outC10],row (.slice outA9 out8.length outC10) 179 4 out8.length (out8.flatMap SortField.enc),blk tp 145 [vI n17,vI n20]] (fun _ h=>((((h.front 4 _ rfl).front 2 _ rfl).front 4 _ rfl).front 4 _ rfl).keep [T_,T_,T_,T_,F_] rfl) ⟨out8,outA9,outC10,(((((decide (e11=0))&&ok18)&&ok21)&&(decide ((1:Int)≤n17)))&&(decide ((2:Int)≤n20))),n17,n20,?_,?_,?_⟩
   ·rfl
   ·rfl
   ·exact c45n1_
 ·have h13w:=h13
  refine sk_ (n_ (q_ (g_ (s_ mv_ (s_ (x_eql_i rfl rfl) (s_ av_ (z_ (n_ (rt_ ?_)))))))))
  refine JX_rets [_] _ results104 (fun w h=>⟨rfl,trivial⟩) rfl [x0_ x s parm m,blk tf 138 [vL outA9 out8.length outC10],row (.slice outA9 out8.length outC10) 179 4 out8.length (out8.flatMap SortField.enc),blk tp 145 [vI 16,vI 4]] (fun _ h=>((((h.front 3 _ rfl).front 1 _ rfl).front 3 _ rfl).front 3 _ rfl).keep [T_,T_,T_,T_] rfl) ⟨out8,outA9,outC10,(decide (e11=0)),16,4,?_,?_,?_⟩
  ·rfl
  ·rfl
  ·exact c45n1_
theorem f107_ok (x:Nat) (s:Nat) (parm:Bytes) (m:Nat) (rows:List SRow) (rowsA:OA_) (rowsC:Nat) (calls:Nat) (dds:List (Bytes × Binding)) (rc:List Rw) (rcA:OA_) (rcC:Nat) (tp:Nat) (mem:Int) (fan:Int) (tf:Nat) (fl:List SortField) (flA:OA_) (flC:Nat) (w:World) (rowsR:RO [x,m,s,tp,tf] w rowsA (rows.flatMap SRow.enc)) (rcR:RO [x,m,s,tp,tf] w rcA (rc.flatMap Rw.enc)) (rcN:∀ i:Nat,RO [x,m,s,tp,tf] w (rc.getD i default).sA (((rc.getD i default).s).map vS)) (flR:RO [x,m,s,tp,tf] w flA (fl.flatMap SortField.enc)) (hT:Tab [x,m,s,tp,tf] w) (q0:rows.length≤1000) (q1:calls≤990000) (q2:R45.Dist rows) (q3:∀ x∈rows,x.Key.length≤1000000) (q4:rc.length=1) (q5:((rc.getD 0 default).s).length≤1000) (q6:∀ i,(((rc.getD 0 default).s).getD i []).length≤1000000) (q7:(rc.getD 0 default).s.length≤(rc.getD 0 default).sC) (q8:fl.length≤1001) (hg:Give [x,m,s,tp,tf] w [x0_ x s parm m,mp vS m (dds.map R45.bindE),sH_ s rowsA rows.length rowsC calls,blk tp 145 [vI mem,vI fan],blk tf 138 [vL flA fl.length flC]]):Calls prog 107 #[pB x 0,vL rcA rc.length rcC,pB tp 0,pB tf 0] w (GivesE [x,m,s,tp,tf] w (fun v L=>∃ ch:List Change,∃ chA:OA_,∃ chC:Nat,∃ ln:LB_,∃ lnA:OA_,∃ lnC:Nat,v=Value.tuple #[]∧L=[xE_ x s parm m [vI 0,vB false,vL chA ch.length chC,vL lnA ln.length lnC],mp vS m (dds.map R45.bindE),row (.slice chA ch.length chC) 60 5 ch.length (ch.flatMap Change.enc),row (.slice lnA ln.length lnC) 9 1 ln.length (ln.map vS)]∧(R45.WrJ (R45.outB dds) (R44.sortV fl mem fan R44.idF R44.noF ((rc.getD 0 default).s)).1 ch)∧(ln.length=1)) (fun c L=>∃ line:Bytes,c=R45.pan line∧L=[]∧(¬ (R45.SeqB (R45.outB dds)∧((rc.getD 0 default).s).length≤290 ∧ ∀ i,(((rc.getD 0 default).s).getD i []).length≤1000)))):=by
 refine calls_JE [x,m,s,tp,tf] 51 func107 rfl ntmps107 [(0,_),(1,_),(2,_),(3,_)] rfl rfl hg ?_
 refine q_ (q_ (g_ (s_ mv_ (r_ (ixF (k:=0) Rw.enc_len (cells_ro rcR) underlying102 sz25) (r_ (ldF (k:=0) 0 Rw.enc_len (cells_ro rcR) sc25) (s_ (lnS underlying25) (s_ mv_ (z_ (n_ (k_ ?_))))))))))
 refine J_loop (X:=Nat) (fun (k:Nat)=>(k≤((rc.getD 0 default).s).length)∧(∀ i,i<k→(((rc.getD 0 default).s).getD i []).length≤1000)) (fun (k:Nat)=>[(0,pB x 0),(1,vL rcA rc.length rcC),(2,pB tp 0),(3,pB tf 0),(13,vL ((rc.getD 0 default).sA) ((rc.getD 0 default).s.length) ((rc.getD 0 default).sC)),(14,vI (((rc.getD 0 default).s.length:Nat):Int)),(15,vN k)]) (fun (k:Nat)=>[x0_ x s parm m,mp vS m (dds.map R45.bindE),sH_ s rowsA rows.length rowsC calls,blk tp 145 [vI mem,vI fan],blk tf 138 [vL flA fl.length flC]]) (fun (k:Nat)=>((rc.getD 0 default).s).length-k) (0:Nat) ?_ se_ i_ ?_
 ·try dsimp only
  refine ⟨?_,?_⟩
  ·exact df_
  ·intro i hi;omega
 intro k hI1
 obtain ⟨i1_0,i1_1⟩:=hI1
 try dsimp only at i1_0
 try dsimp only at i1_1
 have hqk:=q6 k
 try dsimp only
 refine q_ (g_ (s_ (x_lss_i rfl rfl) (z_ (n_ (q_ ?_)))))
 refine ifd (fun h1w h1=>?_) (fun h1w h1=>?_)
 ·refine sk_ (n_ (q_ (k_ (q_ (g_ (s_ mv_ (r_ (x_indexAddr_at (k:=k) (off:=k) (cells_ro (rcN 0)) underlying25 sz9 rfl rfl lt_ (by rw [List.length_map];first | omega | (simp only [List.length_append,List.length_cons,List.length_nil];omega) | (simp;omega) | (simp_all;omega) | (simp_all;done)) (Nat.mul_one _)) (r_ (ldM vS [] (cells_ro (rcN 0)) sc9) (s_ av_ (s_ av_ (z_ (n_ (g_ (s_ mv_ (s_ (x_len_s rfl underlying9) (s_ (x_leq_i rfl rfl) ?_))))))))))))))))
  refine s_ mv_ (c0 (cl_ ca88) (fun w hS=>f88_ok k w (hT.on hS (fun _ h=>by cases h)) hy_) ?_)
  have ha2:=R45.wrong_len k om_
  refine JO_callP [] [] [x0_ x s parm m,mp vS m (dds.map R45.bindE),sH_ s rowsA rows.length rowsC calls,blk tp 145 [vI mem,vI fan],blk tf 138 [vL flA fl.length flC]] rfl trivial (fun _=>x_call ca33 rfl) i_ (fun _ h=>by cases h) (fun w hS=>f33_ok _ _ w) ?_ ?_
  ·rintro _ _ ⟨rfl,rfl,hp3⟩
   have hp3:=of_ hp3
   refine JX_block_pan (JX_then_pan (JX_round_pan (JX_block_pan (JX_then_pan ?_))))
   refine JX_pan [] (fun _ h=>h.keep [F_,F_,F_,F_,F_] rfl) (fun _ _ h=>h) ⟨(R45.wrongS k),rfl,?_,?_⟩
   ·rfl
   ·exact c45n2_
  rintro _ _ ⟨rfl,rfl,hf4⟩
  have hf4:=ot_ hf4
  refine z_ (kx_ (n_ (g_ (s_ (x_add_n (a:=k) (b:=1) rfl rfl om_) (s_ mv_ (z_ ?_))))))
  refine JX_round (k+1:Nat) ?_ ?_ se_ i_
  ·try dsimp only
   refine ⟨?_,?_⟩
   ·exact df_
   ·intro i hi
    by_cases hik:i=k
    ·subst hik;first | assumption | omega | (have:=ot_ as_;omega)
    ·exact i1_1 i om_
  ·try dsimp only
   first | omega | (simp;omega) | (simp_all;omega)
 ·refine J_exit (ne_ (re_ (kh_ (n_ (q_ ?_)))))
  refine drB [13] 15 mixed ?_
  refine jp_ 0 rfl mv_ (jq_ 1 rfl (ixF (k:=0) Rw.enc_len (cells_ro rcR) underlying102 sz25) (jq_ 2 rfl (ldF (k:=0) 0 Rw.enc_len (cells_ro rcR) sc25) (jq_ 3 rfl (ldN 3 [vI mem,vI fan] ag145 sz145) (jq_ 4 rfl (ld_ 4 sc138) ?_))))
  refine jt_ 5 (vG [Value.nilFunc,Value.nilFunc]) rfl (fun _ _=>x_build kf_) ?_
  refine JA_ready (rs:=[6,11]) kf_ dd_ gm_ (List.forall_mem_cons.2 ⟨?_,(List.forall_mem_cons.2 ⟨?_,all_nil⟩)⟩)
  ·refine JI_callB [] [] [x0_ x s parm m,mp vS m (dds.map R45.bindE),sH_ s rowsA rows.length rowsC calls,blk tp 145 [vI mem,vI fan],blk tf 138 [vL flA fl.length flC]] rfl rfl trivial (fun _=>x_call ca108 rfl) i_ (fun _ h=>by cases h) (fun w hS=>f108_ok ((rc.getD 0 default).s) ((rc.getD 0 default).sA) ((rc.getD 0 default).sC) mem fan fl flA flC w ((rcN 0).on hS (fun _ h=>by cases h)) (flR.on hS (fun _ h=>by cases h)) hy_ hy_ hy_ hy_) ?_
   rintro wc _ _ wbhB10 ⟨rout,routA,routC,e5,e6,e7,e8,rfl,rfl,routR,routL,hf9⟩ hc0 hB10
   have rowsR:=rowsR.again hB10
   have rcR:=rcR.again hB10
   have flR:=flR.again hB10
   have rcN:=fun i=>(rcN i).again hB10
   have hT:=hT.again hB10
   have routR:=routR.mono (lown_range hc0)
   have ha11:=R45.sort_work as_ q5
   have ha12:=R45.sort_len as_
   have ha13:=R45.sort_each as_ q6
   refine jp_ 7 rfl mv_ (jp_ 8 rfl (ex_ 0) (jp_ 9 rfl (ex_ 1) (jp_ 10 rfl (ex_ 2) (j1_ 11 (jio_ rfl (al_ ze149 fun b15=>?_)) gm_))))
   refine jp_ 12 rfl av_ (j1_ 13 (jio_ rfl (stG 0 sz149 ?_)) (fun _ h=>⟨h.keep [F_,T_,T_,T_,T_,T_] rfl,fun _=>h.keep [F_,T_,T_,T_,T_,T_] rfl⟩))
   refine jp_ 14 rfl av_ ?_
   refine JA_done kf_ (gl_ rfl (fun _ h=>h.keep [F_,T_,T_,T_,T_,T_] rfl)) ?_
   refine n_ ?_
   refine drU [] [12] 13 mixed ?_
   refine jp_ 0 rfl mv_ (jp_ 1 rfl mv_ (jp_ 2 rfl (fA 0 fi149_0) ?_))
   refine jE_ 3 (vI e5) rfl (x_load 0 rfl rfl sc3 rfl) ?_
   refine jp_ 7 rfl (fA 1 fi149_1) ?_
   refine jE_ 8 (vI e6) rfl (x_load 0 rfl rfl sc3 rfl) ?_
   refine j1_ 4 (jc0_ rfl (cl_ ca19) (fun w hS=>itoa_ok e5 w (hT.on hS (fun _ h=>by cases h)) hy_ hy_) ?_) (fun _ h=>⟨h.keep [F_,F_,F_,F_,F_,F_] rfl,fun _=>h⟩)
   have ha16:=R45.dec_lenI e5 om_
   refine jt_ 5 (vS ([44,32]++(Lib.decDigits e5.toNat))) rfl (fun _ _=>x_cat_s rfl rfl c45n0_) ?_
   refine jt_ 6 (vS (([44,32]++(Lib.decDigits e5.toNat))++[32,114,117,110,115,44,32])) rfl (fun _ _=>x_cat_s rfl rfl c45n0_) ?_
   refine j1_ 9 (jc0_ rfl (cl_ ca19) (fun w hS=>itoa_ok e6 w (hT.on hS (fun _ h=>by cases h)) hy_ hy_) ?_) (fun _ h=>⟨h.keep [F_,F_,F_,F_,F_,F_] rfl,fun _=>h⟩)
   have ha17:=R45.dec_lenI e6 om_
   refine jp_ 10 rfl (x_cat_s rfl rfl c45n0_) ?_
   refine jt_ 11 (vS (((([44,32]++(Lib.decDigits e5.toNat))++[32,114,117,110,115,44,32])++(Lib.decDigits e6.toNat))++[32,112,97,115,115,101,115])) rfl (fun _ _=>x_cat_s rfl rfl c45n0_) ?_
   refine j1_ 12 ?_ (fun _ h=>⟨h.keep [F_,F_,F_,F_,F_,F_] rfl,fun _=>h⟩)
   refine JI_callP [x,m,s] [x0_ x s parm m,mp vS m (dds.map R45.bindE),sH_ s rowsA rows.length rowsC calls] [blk b15 149 [vI e5,vI e6,vI e7],blk tp 145 [vI mem,vI fan],blk tf 138 [vL flA fl.length flC]] rfl rfl trivial (fun _=>x_call ca56 rfl) (fun _ h=>((((((h.front 5 _ rfl).front 5 _ rfl).front 2 _ rfl).front 5 _ rfl).front 5 _ rfl).front 5 _ rfl).keep [T_,T_,T_,T_,T_,T_] rfl) (own_mem rfl) (fun w hS=>f56_ok x s parm m rows rowsA rowsC calls dds rout routA routC (((([44,32]++(Lib.decDigits e5.toNat))++[32,114,117,110,115,44,32])++(Lib.decDigits e6.toNat))++[32,112,97,115,115,101,115]) w (rowsR.on hS (own_mem rfl)) (routR.on hS (own_mem rfl)) (hT.on hS (own_mem rfl)) hy_ hy_ hy_ hy_ hy_ as_ hy_ (hS.give (own_in rfl))) ?_ ?_
   ·rintro _ _ ⟨line18,rfl,rfl,hp19⟩
    refine JX_pan [] (fun _ h=>h.keep [F_,F_,F_] rfl) (fun _ _ h=>(hB10.back _ _ h)) ⟨line18,rfl,?_,?_⟩
    ·rfl
    ·exact c45n2_
   rintro _ _ ⟨ch20,chA21,chC22,ln23,lnA24,lnC25,e26,rfl,rfl,hf27,hf28,hf29⟩
   refine JA_done kf_ (gl_ rfl (fun _ h=>h.keep [F_,F_,F_,F_,F_,F_,F_,F_] rfl)) ?_
   refine JX_En ?_
   refine JX_end0C results107 [xE_ x s parm m [vI 0,vB false,vL chA21 ch20.length chC22,vL lnA24 ln23.length lnC25],mp vS m (dds.map R45.bindE),row (.slice chA21 ch20.length chC22) 60 5 ch20.length (ch20.flatMap Change.enc),row (.slice lnA24 ln23.length lnC25) 9 1 ln23.length (ln23.map vS)] (fun _ h=>h.keep [T_,T_,F_,T_,T_,F_,F_,F_] rfl) (fun _ _ h=>(hB10.back _ _ h)) ⟨ch20,chA21,chC22,ln23,lnA24,lnC25,?_,?_,?_,?_⟩
   ·rfl
   ·rfl
   ·exact R45.sort_wr as_ as_
   ·exact R45.ln_one as_
  ·refine jio_ rfl (al_ ze149 fun b30=>?_)
   refine j1_ 6 ?_ (fun _ h=>⟨h.keep [F_,T_,T_,T_,T_,T_] rfl,fun _=>h.keep [F_,T_,T_,T_,T_,T_] rfl⟩)
   refine JI_callB [] [] [blk b30 149 [vI 0,vI 0,vI 0],x0_ x s parm m,mp vS m (dds.map R45.bindE),sH_ s rowsA rows.length rowsC calls,blk tp 145 [vI mem,vI fan],blk tf 138 [vL flA fl.length flC]] rfl rfl trivial (fun _=>x_call ca108 rfl) i_ (fun _ h=>by cases h) (fun w hS=>f108_ok ((rc.getD 0 default).s) ((rc.getD 0 default).sA) ((rc.getD 0 default).sC) mem fan fl flA flC w ((rcN 0).on hS (fun _ h=>by cases h)) (flR.on hS (fun _ h=>by cases h)) hy_ hy_ hy_ hy_) ?_
   rintro wc _ _ wbhB37 ⟨rout31,rout31A,rout31C,e32,e33,e34,e35,rfl,rfl,rout31R,rout31L,hf36⟩ hc0 hB37
   have rowsR:=rowsR.again hB37
   have rcR:=rcR.again hB37
   have flR:=flR.again hB37
   have rcN:=fun i=>(rcN i).again hB37
   have hT:=hT.again hB37
   have rout31R:=rout31R.mono (lown_range hc0)
   have ha38:=R45.sort_work as_ q5
   have ha39:=R45.sort_len as_
   have ha40:=R45.sort_each as_ q6
   refine jp_ 7 rfl mv_ (jp_ 8 rfl (ex_ 0) (jp_ 9 rfl (ex_ 1) (jp_ 10 rfl (ex_ 2) (jp_ 12 rfl av_ (j1_ 13 (jio_ rfl (stG 0 sz149 ?_)) (fun _ h=>⟨h.keep [F_,T_,T_,T_,T_,T_] rfl,fun _=>h.keep [F_,T_,T_,T_,T_,T_] rfl⟩))))))
   refine jp_ 14 rfl av_ ?_
   refine JA_done kf_ (gl_ rfl (fun _ h=>h.keep [F_,T_,T_,T_,T_,T_] rfl)) ?_
   refine n_ ?_
   refine drU [] [12] 13 mixed ?_
   refine jp_ 0 rfl mv_ (jp_ 1 rfl mv_ (jp_ 2 rfl (fA 0 fi149_0) ?_))
   refine jE_ 3 (vI e32) rfl (x_load 0 rfl rfl sc3 rfl) ?_
   refine jp_ 7 rfl (fA 1 fi149_1) ?_
   refine jE_ 8 (vI e33) rfl (x_load 0 rfl rfl sc3 rfl) ?_
   refine j1_ 4 (jc0_ rfl (cl_ ca19) (fun w hS=>itoa_ok e32 w (hT.on hS (fun _ h=>by cases h)) hy_ hy_) ?_) (fun _ h=>⟨h.keep [F_,F_,F_,F_,F_,F_] rfl,fun _=>h⟩)
   have ha41:=R45.dec_lenI e32 om_
   refine jt_ 5 (vS ([44,32]++(Lib.decDigits e32.toNat))) rfl (fun _ _=>x_cat_s rfl rfl c45n0_) ?_
   refine jt_ 6 (vS (([44,32]++(Lib.decDigits e32.toNat))++[32,114,117,110,115,44,32])) rfl (fun _ _=>x_cat_s rfl rfl c45n0_) ?_
   refine j1_ 9 (jc0_ rfl (cl_ ca19) (fun w hS=>itoa_ok e33 w (hT.on hS (fun _ h=>by cases h)) hy_ hy_) ?_) (fun _ h=>⟨h.keep [F_,F_,F_,F_,F_,F_] rfl,fun _=>h⟩)
   have ha42:=R45.dec_lenI e33 om_
   refine jp_ 10 rfl (x_cat_s rfl rfl c45n0_) ?_
   refine jt_ 11 (vS (((([44,32]++(Lib.decDigits e32.toNat))++[32,114,117,110,115,44,32])++(Lib.decDigits e33.toNat))++[32,112,97,115,115,101,115])) rfl (fun _ _=>x_cat_s rfl rfl c45n0_) ?_
   refine j1_ 12 ?_ (fun _ h=>⟨h.keep [F_,F_,F_,F_,F_,F_] rfl,fun _=>h⟩)
   refine JI_callP [x,m,s] [x0_ x s parm m,mp vS m (dds.map R45.bindE),sH_ s rowsA rows.length rowsC calls] [blk b30 149 [vI e32,vI e33,vI e34],blk tp 145 [vI mem,vI fan],blk tf 138 [vL flA fl.length flC]] rfl rfl trivial (fun _=>x_call ca56 rfl) (fun _ h=>((((((h.front 5 _ rfl).front 5 _ rfl).front 2 _ rfl).front 5 _ rfl).front 5 _ rfl).front 5 _ rfl).keep [T_,T_,T_,T_,T_,T_] rfl) (own_mem rfl) (fun w hS=>f56_ok x s parm m rows rowsA rowsC calls dds rout31 rout31A rout31C (((([44,32]++(Lib.decDigits e32.toNat))++[32,114,117,110,115,44,32])++(Lib.decDigits e33.toNat))++[32,112,97,115,115,101,115]) w (rowsR.on hS (own_mem rfl)) (rout31R.on hS (own_mem rfl)) (hT.on hS (own_mem rfl)) hy_ hy_ hy_ hy_ hy_ as_ hy_ (hS.give (own_in rfl))) ?_ ?_
   ·rintro _ _ ⟨line43,rfl,rfl,hp44⟩
    refine JX_pan [] (fun _ h=>h.keep [F_,F_,F_] rfl) (fun _ _ h=>(hB37.back _ _ h)) ⟨line43,rfl,?_,?_⟩
    ·rfl
    ·exact c45n2_
   rintro _ _ ⟨ch45,chA46,chC47,ln48,lnA49,lnC50,e51,rfl,rfl,hf52,hf53,hf54⟩
   refine JA_done kf_ (gl_ rfl (fun _ h=>h.keep [F_,F_,F_,F_,F_,F_,F_,F_] rfl)) ?_
   refine JX_En ?_
   refine JX_end0C results107 [xE_ x s parm m [vI 0,vB false,vL chA46 ch45.length chC47,vL lnA49 ln48.length lnC50],mp vS m (dds.map R45.bindE),row (.slice chA46 ch45.length chC47) 60 5 ch45.length (ch45.flatMap Change.enc),row (.slice lnA49 ln48.length lnC50) 9 1 ln48.length (ln48.map vS)] (fun _ h=>h.keep [T_,T_,F_,T_,T_,F_,F_,F_] rfl) (fun _ _ h=>(hB37.back _ _ h)) ⟨ch45,chA46,chC47,ln48,lnA49,lnC50,?_,?_,?_,?_⟩
   ·rfl
   ·rfl
   ·exact R45.sort_wr as_ as_
   ·exact R45.ln_one as_
end Go.Proofs.YtggobegaiijhhaaGreatDoor
