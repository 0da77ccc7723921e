/- contracts C45p -/
import Derived.Test.YtggobegaiijhhaaGreatDoorUtilityOnly15
set_option linter.unusedVariables false
set_option linter.unusedSimpArgs false
set_option maxRecDepth 20000
namespace Go.Proofs.YtggobegaiijhhaaGreatDoor
open Go.GV Go.Proofs.Tryz Ty
open Go.GV.Ent (blk row mp)
abbrev bD_ (l:List Binding) (d:Bytes):List Value:=Binding.enc (l.getD ((R45.findI d l).toNat) default)
theorem c45p0_ {p:Prop} (h:p:=by first | omega | (simp only [List.length_append,List.length_cons,List.length_nil];omega) | (simp;omega) | (simp_all;omega)):p:=h
theorem c45p1_ {p:Prop} (h:p:=by first | exact fun h=>absurd h.1 as_ | exact fun h=>R45.ff h.2.1 as_ as_ | exact R45.gen_noP as_ as_ | exact R45.gen_noW as_ as_ as_):p:=h
theorem c45p2_ {p:Prop} (h:p:=by first | exact fun h=>absurd h.1 as_ | exact fun h=>absurd h.2.1 as_ | exact fun h=>R45.ff h.2.2.1 as_ as_ | exact R45.cpy_no as_ as_):p:=h
theorem c45p3_ {p:Prop} (h:p:=by refine R45.rec_lenB _ ?_ dd_;assumption):p:=h
theorem c45p4_ {p:Prop} (h:p:=by first | exact fun h=>absurd h.1 as_ | exact fun h=>absurd h.2 as_):p:=h
theorem f35_ok (b:Binding) (q:Nat) (dd:Bytes) (w:World) (q0:dd.length≤1000) (hg:Give [q] w [blk q 9 [vS dd]]):Calls prog 35 #[vG (Binding.enc b),pB q 0] w (Gives [q] w fun v L=>v=vB (decide (b.Name=dd))∧L=[blk q 9 [vS dd]]):=by
 refine calls_J [q] 9 func35 rfl ntmps35 [(0,_),(1,_)] rfl rfl hg ?_
 refine q_ (g_ (o_ (bxG fun b1=>?_)))
 refine s_ av_ (z_ (n_ (q_ (g_ (s_ (fA 0 fi33_0) (s_ (fA 0 fi27_0) (r_ (ld_ 0 sc9) (r_ (ld_ 1 sc9) (s_ (x_eql_s rfl rfl) (s_ av_ (z_ (n_ (rt_ ?_)))))))))))))
 refine JX_rets [_] _ results35 (fun w h=>⟨rfl,trivial⟩) rfl _ (fun _ h=>h.keep [F_,T_] rfl) ⟨?_,?_⟩
 ·rfl
 ·rfl
theorem f34_ok (l:List Binding) (lA:OA_) (lC:Nat) (q:Nat) (dd:Bytes) (w:World) (lR:RO [q] w lA (l.flatMap Binding.enc)) (q0:dd.length≤1000) (q1:l.length≤9223372036854775807) (hg:Give [q] w [blk q 9 [vS dd]]):Calls prog 34 #[vL lA l.length lC,(fC_ 35 q)] w (Gives [q] w fun v L=>v=vI (R45.findI dd l)∧L=[blk q 9 [vS dd]]):=by
 refine calls_J [q] 19 func34 rfl ntmps34 [(0,_),(1,_)] rfl rfl hg ?_
 refine q_ (g_ (s_ av_ (z_ (n_ (q_ (q_ (g_ (s_ mv_ (s_ (lnS underlying36) (s_ mv_ (z_ (n_ (k_ ?_)))))))))))))
 refine J_loop (X:=Nat) (fun (k:Nat)=>(k≤l.length)∧(R45.FindJ dd l k)) (fun (k:Nat)=>[(0,vL lA l.length lC),(1,(fC_ 35 q)),(7,vN l.length),(8,vN k)]) (fun (k:Nat)=>[blk q 9 [vS dd]]) (fun (k:Nat)=>l.length-k) (0:Nat) ?_ se_ i_ ?_
 ·try dsimp only
  refine ⟨?_,?_⟩
  ·exact df_
  ·exact R45.FindJ.start
 intro k hI1
 obtain ⟨i1_0,i1_1⟩:=hI1
 try dsimp only at i1_0
 try dsimp only at i1_1
 try dsimp only
 refine q_ (g_ (s_ (x_lss_i rfl rfl) (z_ (n_ (q_ ?_)))))
 refine ifd (fun h1w h1=>?_) (fun h1w h1=>?_)
 ·refine sk_ (n_ (q_ (k_ (q_ (g_ (s_ mv_ (s_ av_ (z_ (n_ (q_ (g_ (s_ mv_ (s_ mv_ (s_ mv_ (r_ (ixF Binding.enc_len (cells_ro lR) underlying36 sz33) (r_ (ldFN Binding.enc_len (cells_ro lR) ag33 sz33) ?_))))))))))))))))
  refine JO_call [q] [blk q 9 [vS dd]] [] rfl trivial (fun _=>x_callv (first:=[]) (caps:=[pB q 0]) rfl ca35 rfl) i_ (own_mem rfl) (fun w hS=>f35_ok (l.getD k default) q dd w hy_ (hS.give (own_in rfl))) ?_
  rintro _ _ ⟨rfl,rfl⟩
  refine z_ (n_ ?_)
  refine ifd (fun h2w h2=>?_) (fun h2w h2=>?_)
  ·refine q_ (g_ (s_ mv_ (s_ av_ (z_ (n_ (rt_ (kq_ (nr_ (rr_ (kq_ (nr_ ?_)))))))))))
   refine JX_rets [_] _ results34 (fun w h=>⟨rfl,trivial⟩) rfl _ i_ ⟨?_,?_⟩
   ·have e_x0:(((k:Nat):Int):Int)=(R45.findI dd l):=by first | exact i1_1.hit om_ as_ | exact i1_1.done om_
    exact congrArg (fun (x0:Int)=>vI x0) e_x0
   ·rfl
  ·refine sk_ (kx_ (n_ (g_ (s_ (x_add_n (a:=k) (b:=1) rfl rfl om_) (s_ mv_ (z_ ?_))))))
   refine JX_round (k+1:Nat) ?_ ?_ se_ i_
   ·try dsimp only
    refine ⟨?_,?_⟩
    ·exact df_
    ·exact i1_1.step om_ as_
   ·try dsimp only
    first | omega | (simp;omega) | (simp_all;omega)
 ·refine J_exit (ne_ (re_ (kh_ (n_ (q_ ?_)))))
  refine g_ (s_ av_ (z_ (n_ (rt_ ?_))))
  refine JX_rets [_] _ results34 (fun w h=>⟨rfl,trivial⟩) rfl _ i_ ⟨?_,?_⟩
  ·have e_x0:((-1):Int)=(R45.findI dd l):=by first | exact i1_1.hit om_ as_ | exact i1_1.done om_
   exact congrArg (fun (x0:Int)=>vI x0) e_x0
  ·rfl
theorem perf_generate (x:Nat) (s:Nat) (parm:Bytes) (m:Nat) (rows:List SRow) (rowsA:OA_) (rowsC:Nat) (calls:Nat) (l:List Binding) (lA:OA_) (lC:Nat) (w:World) (rowsR:RO [x,m,s] w rowsA (rows.flatMap SRow.enc)) (lR:RO [x,m,s] w lA (l.flatMap Binding.enc)) (lN:Kp [x,m,s] w (okL Binding.ok l)) (hT:Tab [x,m,s] w) (q0:rows.length≤1000) (q1:calls≤890000) (q2:R45.Dist rows) (q3:∀ x∈rows,x.Key.length≤1000000) (q4:∀ x∈rows,x.Record.length≤1000000) (q5:parm.length≤1000) (q6:l.length≤1000) (q7:∀ i,(l.getD i default).Lines.length≤1000) (q8:∀ i j,((l.getD i default).Lines.getD j []).length≤1000000) (hg:Give [x,m,s] w [x0_ x s parm m,mp vS m ([]:List (Bytes × Value)),sH_ s rowsA rows.length rowsC calls]):Calls prog 27 #[pB x 0,vS [103,101,110,101,114,97,116,101],vL lA l.length lC] w (GivesE [x,m,s] w (fun v L=>∃ cd:Int,∃ ch:List Change,∃ chA:OA_,∃ chC:Nat,∃ ln:LB_,∃ lnA:OA_,∃ lnC:Nat,v=Value.tuple #[]∧L=[xE_ x s parm m [vI cd,vB false,vL chA ch.length chC,vL lnA ln.length lnC],row (.slice chA ch.length chC) 60 5 ch.length (ch.flatMap Change.enc),row (.slice lnA ln.length lnC) 9 1 ln.length (ln.map vS)]∧(R45.GenR parm l cd ch ln)) (fun c L=>∃ line:Bytes,c=R45.pan line∧L=[]∧(¬ R45.GenOk parm l))):=by
 refine calls_JE [x,m,s] 110 func27 rfl ntmps27 [(0,_),(1,_),(2,_)] rfl rfl hg ?_
 refine q_ (g_ ?_)
 refine c1 (cl_ ca32) (fun w hS=>f32_ok w) ?_
 rintro _ _ ⟨pm1,tb2,rfl,rfl⟩
 refine s_ mv_ ?_
 refine JO_read (Value.tuple #[(fN_ 64),vB true]) rfl trivial (x_lookup_ok 0 (f:=vS) (k:=[103,101,110,101,114,97,116,101]) rfl rfl rfl underlying89 (mapK_s underlying9) ze90 (lk_ne dd_ (lk_ne dd_ (lk_ne dd_ (lk_ne dd_ (lk_ne dd_ (lk_ne dd_ (lk_hit dd_)))))))) ?_
 refine s_ mv_ (s_ (ex_ 0) (s_ (ex_ 1) (s_ av_ (s_ av_ (z_ (n_ (q_ ?_)))))))
 refine J_less (L':=[blk tb2 94 [(fN_ 43)],x0_ x s parm m,mp vS m ([]:List (Bytes × Value)),sH_ s rowsA rows.length rowsC calls]) (fun _ h=>h.keep [F_,T_,T_,T_,T_] rfl) ?_
 refine g_ (s_ mv_ ?_)
 refine JO_callP [] [] [blk tb2 94 [(fN_ 43)],x0_ x s parm m,mp vS m ([]:List (Bytes × Value)),sH_ s rowsA rows.length rowsC calls] rfl trivial (fun _=>x_call ca33 rfl) i_ (fun _ h=>by cases h) (fun w hS=>f33_ok true [110,111,32,112,114,111,103,114,97,109] w) ?_ ?_
 ·rintro _ _ ⟨rfl,rfl,hp3⟩
  exact absurd hp3 dd_
 rintro _ _ ⟨rfl,rfl,hf4⟩
 refine z_ (n_ (q_ (g_ (s_ mv_ ?_))))
 refine c1 (x_callv (first:=[]) (caps:=[]) rfl ca64 rfl) (fun w hS=>f64_ok w) ?_
 rintro _ _ ⟨nb5,bn6,bt7,rfl,rfl⟩
 refine o_ (al_ ze97 fun b8=>?_)
 refine o_ (stG 0 sz97 ?_)
 refine z_ (n_ (q_ (q_ (g_ (s_ (fA 0 fi97_0) (r_ (ld_ 0 sc25) (s_ (lnS underlying25) (s_ mv_ (z_ (n_ (k_ ?_)))))))))))
 refine J_unroll 2 ?_
 refine JR_one ?_
 refine q_ (g_ (jr_ (vB true) (z_ (n_ (q_ (ift (sk_ (n_ (q_ (k_ (q_ (g_ (s_ (x_indexAddr_sl (k:=0) underlying25 sz9 rfl rfl lt_ rfl) (r_ (ld_ 1 sc9) (o_ (al_ ze9 fun b9=>?_))))))))))))))))
 refine o_ (st1 0 sz9 ?_)
 refine z_ (n_ (q_ (g_ (s_ mv_ (js_ ((fC_ 35 b9)) (x_makeFunc rfl rfl) ?_)))))
 refine JO_call [b9] [blk b9 9 [vS [79,85,84]]] [blk b8 97 [vL (some ⟨nb5,0,none⟩) 1 1,Value.func (.func 91) #[] #[pB bn6 0,pB bt7 0],Value.func (.func 93) #[] #[pB bn6 0,pB bt7 0]],blk nb5 9 [vS [79,85,84]],blk bn6 3 [vI 0],blk bt7 9 [vS []],blk tb2 94 [(fN_ 43)],x0_ x s parm m,mp vS m ([]:List (Bytes × Value)),sH_ s rowsA rows.length rowsC calls] rfl trivial (fun _=>x_call ca34 rfl) i_ (own_mem rfl) (fun w hS=>f34_ok l lA lC b9 [79,85,84] w (lR.on hS (own_mem rfl)) hy_ hy_ (hS.give (own_in rfl))) ?_
 rintro _ _ ⟨rfl,rfl⟩
 have ha10:=R45.findI_bd [79,85,84] l
 try simp only [List.length_cons,List.length_nil,Nat.zero_add,Nat.reduceAdd,Nat.reduceMul] at ha10
 refine s_ av_ (z_ (n_ (q_ (g_ (s_ mv_ (s_ (x_geq_i rfl rfl) (r_ (ld_ 0 sc9) (js_ (vS ([110,111,32,100,100,32]++[79,85,84])) (x_cat_s rfl rfl c45p0_) ?_))))))))
 refine JO_callP [] [] [blk b9 9 [vS [79,85,84]],blk b8 97 [vL (some ⟨nb5,0,none⟩) 1 1,Value.func (.func 91) #[] #[pB bn6 0,pB bt7 0],Value.func (.func 93) #[] #[pB bn6 0,pB bt7 0]],blk nb5 9 [vS [79,85,84]],blk bn6 3 [vI 0],blk bt7 9 [vS []],blk tb2 94 [(fN_ 43)],x0_ x s parm m,mp vS m ([]:List (Bytes × Value)),sH_ s rowsA rows.length rowsC calls] rfl trivial (fun _=>x_call ca33 rfl) i_ (fun _ h=>by cases h) (fun w hS=>f33_ok _ ([110,111,32,100,100,32]++[79,85,84]) w) ?_ ?_
 ·rintro _ _ ⟨rfl,rfl,hp11⟩
  have hp11:=of_ hp11
  refine JX_then_pan (JX_block_pan (JX_then_pan (JX_then_pan (JX_block_pan (JX_then_pan ?_)))))
  refine JX_pan [] (fun _ h=>h.keep [F_,F_,F_,F_,F_,F_,F_,F_,F_] rfl) (fun _ _ h=>h) ⟨([110,111,32,100,100,32]++[79,85,84]),rfl,?_,?_⟩
  ·rfl
  ·exact c45p1_
 rintro _ _ ⟨rfl,rfl,hf12⟩
 have hf12:=ot_ hf12
 refine z_ (n_ ?_)
 refine drU [] [9] 10 mixed ?_
 refine jp_ 0 rfl mv_ (jp_ 1 rfl (x_nilCheck rfl) (jp_ 2 rfl (fA 2 fi82_2) ?_))
 refine je_ 3 (Value.map (some m)) rfl (x_load 6 rfl rfl sc80 rfl) ?_
 refine je_ 4 (vS [79,85,84]) rfl (x_load 0 rfl rfl sc9 rfl) ?_
 refine jp_ 5 rfl mv_ (jp_ 6 rfl mv_ (jq_ 7 rfl (ixF (k:=(R45.findI [79,85,84] l).toNat) (hy:=(ix_nat rfl om_)) Binding.enc_len (cells_ro lR) underlying36 sz33) (jq_ 8 rfl (ldFN Binding.enc_len (cells_ro lR) ag33 sz33) (j1_ 9 ?_ (fun _ h=>⟨h.keep [F_,F_,F_,F_,F_,F_,F_,F_,F_] rfl,fun _=>h⟩)))))
 refine jio_ rfl (O_mapUpdate 7 (f:=vS) (k:=[79,85,84]) [([79,85,84],vG (bD_ l [79,85,84]))] [blk b9 9 [vS [79,85,84]],blk b8 97 [vL (some ⟨nb5,0,none⟩) 1 1,Value.func (.func 91) #[] #[pB bn6 0,pB bt7 0],Value.func (.func 93) #[] #[pB bn6 0,pB bt7 0]],blk nb5 9 [vS [79,85,84]],blk bn6 3 [vI 0],blk bt7 9 [vS []],blk tb2 94 [(fN_ 43)],x0_ x s parm m,mp vS m [([79,85,84],vG (bD_ l [79,85,84]))],sH_ s rowsA rows.length rowsC calls] rfl rfl rfl rfl underlying80 (mapK_s underlying9) rfl rfl ?_)
 refine JA_done kf_ (gl_ rfl (fun _ h=>h.keep [F_,F_,F_,F_,F_,F_,F_,F_,F_] rfl)) ?_
 refine kx_ (n_ (g_ (jr_ (vI 1) (s_ mv_ (z_ (JX_again ?_))))))
 refine JR_one ?_
 refine q_ (g_ (jr_ (vB false) (z_ (n_ (q_ (iff_ (J_exit (ne_ (ne_ (kh_ (n_ (q_ (q_ ?_)))))))))))))
 refine J_less (L':=[blk b8 97 [vL (some ⟨nb5,0,none⟩) 1 1,Value.func (.func 91) #[] #[pB bn6 0,pB bt7 0],Value.func (.func 93) #[] #[pB bn6 0,pB bt7 0]],blk nb5 9 [vS [79,85,84]],blk bn6 3 [vI 0],blk bt7 9 [vS []],x0_ x s parm m,mp vS m [([79,85,84],vG (bD_ l [79,85,84]))],sH_ s rowsA rows.length rowsC calls]) (fun _ h=>h.keep [F_,T_,T_,T_,T_,F_,T_,T_,T_] rfl) ?_
 refine g_ (s_ mv_ (s_ (x_nilCheck rfl) (s_ (fA 2 fi82_2) (r_ (ld_ 4 sc80) ?_))))
 refine JO_read (Value.tuple #[vG (bD_ l [79,85,84]),vB true]) rfl trivial (x_lookup_ok 5 (f:=vS) (k:=[79,85,84]) rfl rfl rfl underlying80 (mapK_s underlying9) ze33 (lk_hit dd_)) ?_
 refine s_ mv_ (s_ (ex_ 0) (s_ (ex_ 1) (o_ (al_ ze33 fun b13=>?_))))
 refine o_ (stG 0 sz33 ?_)
 refine s_ av_ (z_ (xk_ [0,1,8,12,13] ?_))
 refine n_ (q_ (g_ (s_ mv_ (z_ (n_ (ift (g_ (s_ mv_ (r_ (ldN 0 (bD_ l [79,85,84]) ag33 sz33) ?_)))))))))
 refine c1 (cl_ ca36) (fun w hS=>f36_ok [103,101,110,101,114,97,116,101] _ w) ?_
 rintro _ _ ⟨z14,rfl,rfl,hf15⟩
 refine JO_callP [] [] [blk b13 33 (bD_ l [79,85,84]),blk b8 97 [vL (some ⟨nb5,0,none⟩) 1 1,Value.func (.func 91) #[] #[pB bn6 0,pB bt7 0],Value.func (.func 93) #[] #[pB bn6 0,pB bt7 0]],blk nb5 9 [vS [79,85,84]],blk bn6 3 [vI 0],blk bt7 9 [vS []],x0_ x s parm m,mp vS m [([79,85,84],vG (bD_ l [79,85,84]))],sH_ s rowsA rows.length rowsC calls] rfl trivial (fun _=>x_call ca33 rfl) i_ (fun _ h=>by cases h) (fun w hS=>f33_ok z14 [100,100,32,79,85,84,32,99,97,110,110,111,116,32,98,101,32,119,114,105,116,116,101,110] w) ?_ ?_
 ·rintro _ _ ⟨rfl,rfl,hp16⟩
  refine JX_then_pan ?_
  refine JX_pan [] (fun _ h=>h.keep [F_,F_,F_,F_,F_,F_,F_,F_] rfl) (fun _ _ h=>h) ⟨[100,100,32,79,85,84,32,99,97,110,110,111,116,32,98,101,32,119,114,105,116,116,101,110],rfl,?_,?_⟩
  ·rfl
  ·exact c45p1_
 rintro _ _ ⟨rfl,rfl,hf17⟩
 refine z_ (n_ (q_ ?_))
 refine J_less (L':=[blk b8 97 [vL (some ⟨nb5,0,none⟩) 1 1,Value.func (.func 91) #[] #[pB bn6 0,pB bt7 0],Value.func (.func 93) #[] #[pB bn6 0,pB bt7 0]],blk nb5 9 [vS [79,85,84]],blk bn6 3 [vI 0],blk bt7 9 [vS []],x0_ x s parm m,mp vS m [([79,85,84],vG (bD_ l [79,85,84]))],sH_ s rowsA rows.length rowsC calls]) (fun _ h=>h.keep [F_,T_,T_,T_,T_,T_,T_,T_] rfl) ?_
 refine g_ (s_ (fA 1 fi97_1) (r_ (ld_ 0 sc94) (s_ mv_ ?_)))
 refine JO_call [x,bn6,bt7] [x0_ x s parm m,blk bn6 3 [vI 0],blk bt7 9 [vS []]] [blk b8 97 [vL (some ⟨nb5,0,none⟩) 1 1,Value.func (.func 91) #[] #[pB bn6 0,pB bt7 0],Value.func (.func 93) #[] #[pB bn6 0,pB bt7 0]],blk nb5 9 [vS [79,85,84]],mp vS m [([79,85,84],vG (bD_ l [79,85,84]))],sH_ s rowsA rows.length rowsC calls] rfl trivial (fun _=>x_callv (first:=[]) (caps:=[pB bn6 0,pB bt7 0]) rfl ca91 rfl) (fun _ h=>(((((((h.front 6 _ rfl).front 6 _ rfl).front 3 _ rfl).front 3 _ rfl).front 5 _ rfl).front 5 _ rfl).front 6 _ rfl).keep [T_,T_,T_,T_,T_,T_,T_] rfl) (own_mem rfl) (fun w hS=>f91_ok x s parm m bn6 bt7 0 [] w (hT.on hS (own_mem rfl)) hy_ (hS.give (own_in rfl))) ?_
 rintro _ _ ⟨n18,t19,ok20,rfl,rfl,hf21⟩
 refine JO_callP [] [] [x0_ x s parm m,blk bn6 3 [vI n18],blk bt7 9 [vS t19],blk b8 97 [vL (some ⟨nb5,0,none⟩) 1 1,Value.func (.func 91) #[] #[pB bn6 0,pB bt7 0],Value.func (.func 93) #[] #[pB bn6 0,pB bt7 0]],blk nb5 9 [vS [79,85,84]],mp vS m [([79,85,84],vG (bD_ l [79,85,84]))],sH_ s rowsA rows.length rowsC calls] rfl trivial (fun _=>x_call ca33 rfl) i_ (fun _ h=>by cases h) (fun w hS=>f33_ok ok20 [119,114,111,110,103,32,112,97,114,97,109,101,116,101,114] w) ?_ ?_
 ·rintro _ _ ⟨rfl,rfl,hp22⟩
  refine JX_then_pan ?_
  refine JX_pan [] (fun _ h=>h.keep [F_,F_,F_,F_,F_,F_,F_] rfl) (fun _ _ h=>h) ⟨[119,114,111,110,103,32,112,97,114,97,109,101,116,101,114],rfl,?_,?_⟩
  ·rfl
  ·exact c45p1_
 rintro _ _ ⟨rfl,rfl,hf23⟩
 refine z_ (n_ (q_ (g_ (s_ av_ (z_ (n_ (q_ (q_ (g_ (s_ (fA 0 fi97_0) (r_ (ld_ 3 sc25) (s_ (lnS underlying25) (s_ mv_ (z_ (n_ (k_ ?_))))))))))))))))
 refine J_unroll 2 ?_
 refine JR_one ?_
 refine q_ (g_ (jr_ (vB true) (z_ (n_ (q_ (ift (sk_ (n_ (q_ (k_ (q_ (g_ (s_ (x_indexAddr_sl (k:=0) underlying25 sz9 rfl rfl lt_ rfl) (r_ (ld_ 4 sc9) (s_ av_ (z_ (n_ (q_ (q_ (g_ (s_ mv_ (js_ (vB true) (x_eql_s (a:=([79,85,84]:Bytes)) (b:=([79,85,84]:Bytes)) rfl rfl) ?_))))))))))))))))))))))
 refine z_ (n_ (ift (J_exit (ne_ (kh_ (n_ (g_ (jr_ (vI 1) (s_ mv_ (z_ (JX_again ?_)))))))))))
 refine JR_one ?_
 refine q_ (g_ (jr_ (vB false) (z_ (n_ (q_ (iff_ (J_exit (ne_ (ne_ (kh_ (n_ (g_ (s_ (fA 2 fi97_2) (r_ (ld_ 3 sc95) (s_ mv_ (s_ mv_ ?_))))))))))))))))
 refine JO_callP [x,m,s,bn6,bt7] [x0_ x s parm m,mp vS m ([([79,85,84],(l.getD ((R45.findI [79,85,84] l).toNat) default))].map R45.bindE),sH_ s rowsA rows.length rowsC calls,blk bn6 3 [vI n18],blk bt7 9 [vS t19]] [blk b8 97 [vL (some ⟨nb5,0,none⟩) 1 1,Value.func (.func 91) #[] #[pB bn6 0,pB bt7 0],Value.func (.func 93) #[] #[pB bn6 0,pB bt7 0]],blk nb5 9 [vS [79,85,84]]] rfl trivial (fun _=>x_callv (first:=[]) (caps:=[pB bn6 0,pB bt7 0]) rfl ca93 rfl) (fun _ h=>(((((((h.front 4 _ rfl).front 4 _ rfl).front 4 _ rfl).front 4 _ rfl).front 6 _ rfl).front 6 _ rfl).front 6 _ rfl).keep [T_,T_,T_,T_,T_,T_,T_] rfl) (own_mem rfl) (fun w hS=>f93_ok x s parm m rows rowsA rowsC calls [([79,85,84],(l.getD ((R45.findI [79,85,84] l).toNat) default))] bn6 bt7 n18 t19 w (rowsR.on hS (own_mem rfl)) (hT.on hS (own_mem rfl)) hy_ hy_ hy_ hy_ (by exact (R45.GenP.bd as_ as_).2.1) (by exact (R45.GenP.bd as_ as_).2.2) (by exact (R45.GenP.bd as_ as_).1) (hS.give (own_in rfl))) ?_ ?_
 ·rintro _ _ ⟨line24,rfl,rfl,hp25⟩
  refine JX_pan [] (fun _ h=>h.keep [F_,F_] rfl) (fun _ _ h=>h) ⟨line24,rfl,?_,?_⟩
  ·rfl
  ·exact c45p1_
 rintro _ _ ⟨ch26,chA27,chC28,ln29,lnA30,lnC31,e32,rfl,rfl,hf33,hf34,hf35⟩
 refine z_ (JX_En ?_)
 refine JX_end0 results27 [xE_ x s parm m [vI 0,vB false,vL chA27 ch26.length chC28,vL lnA30 ln29.length lnC31],row (.slice chA27 ch26.length chC28) 60 5 ch26.length (ch26.flatMap Change.enc),row (.slice lnA30 ln29.length lnC31) 9 1 ln29.length (ln29.map vS)] (fun _ h=>h.keep [T_,F_,F_,T_,T_,F_,F_] rfl) ⟨0,ch26,chA27,chC28,ln29,lnA30,lnC31,?_,?_,?_⟩
 ·rfl
 ·rfl
 ·exact R45.gen_yes as_ as_ as_ as_ as_
set_option maxHeartbeats 1000000 in
theorem perf_compare (x:Nat) (s:Nat) (parm:Bytes) (m:Nat) (rows:List SRow) (rowsA:OA_) (rowsC:Nat) (calls:Nat) (l:List Binding) (lA:OA_) (lC:Nat) (w:World) (rowsR:RO [x,m,s] w rowsA (rows.flatMap SRow.enc)) (lR:RO [x,m,s] w lA (l.flatMap Binding.enc)) (lN:Kp [x,m,s] w (okL Binding.ok l)) (hT:Tab [x,m,s] w) (q0:rows.length≤1000) (q1:calls≤890000) (q2:R45.Dist rows) (q3:∀ x∈rows,x.Key.length≤1000000) (q4:parm.length≤1000) (q5:l.length≤1000) (q6:∀ i,(l.getD i default).Lines.length≤1000) (hg:Give [x,m,s] w [x0_ x s parm m,mp vS m ([]:List (Bytes × Value)),sH_ s rowsA rows.length rowsC calls]):Calls prog 27 #[pB x 0,vS [99,111,109,112,97,114,101],vL lA l.length lC] w (GivesE [x,m,s] w (fun v L=>∃ cd:Int,∃ ch:List Change,∃ chA:OA_,∃ chC:Nat,∃ ln:LB_,∃ lnA:OA_,∃ lnC:Nat,v=Value.tuple #[]∧L=[xE_ x s parm m [vI cd,vB false,vL chA ch.length chC,vL lnA ln.length lnC],row (.slice chA ch.length chC) 60 5 ch.length (ch.flatMap Change.enc),row (.slice lnA ln.length lnC) 9 1 ln.length (ln.map vS)]∧(R45.CmpR rows l cd ch ln)) (fun c L=>∃ line:Bytes,c=R45.pan line∧L=[]∧(¬ R45.CmpOk l))):=by
 refine calls_JE [x,m,s] 110 func27 rfl ntmps27 [(0,_),(1,_),(2,_)] rfl rfl hg ?_
 refine q_ (g_ ?_)
 refine c1 (cl_ ca32) (fun w hS=>f32_ok w) ?_
 rintro _ _ ⟨pm1,tb2,rfl,rfl⟩
 refine s_ mv_ ?_
 refine JO_read (Value.tuple #[(fC_ 51 tb2),vB true]) rfl trivial (x_lookup_ok 0 (f:=vS) (k:=[99,111,109,112,97,114,101]) rfl rfl rfl underlying89 (mapK_s underlying9) ze90 (lk_ne dd_ (lk_ne dd_ (lk_hit dd_)))) ?_
 refine s_ mv_ (s_ (ex_ 0) (s_ (ex_ 1) (s_ av_ (s_ av_ (z_ (n_ (q_ ?_)))))))
 refine J_less (L':=[blk tb2 94 [(fN_ 43)],x0_ x s parm m,mp vS m ([]:List (Bytes × Value)),sH_ s rowsA rows.length rowsC calls]) (fun _ h=>h.keep [F_,T_,T_,T_,T_] rfl) ?_
 refine g_ (s_ mv_ ?_)
 refine JO_callP [] [] [blk tb2 94 [(fN_ 43)],x0_ x s parm m,mp vS m ([]:List (Bytes × Value)),sH_ s rowsA rows.length rowsC calls] rfl trivial (fun _=>x_call ca33 rfl) i_ (fun _ h=>by cases h) (fun w hS=>f33_ok true [110,111,32,112,114,111,103,114,97,109] w) ?_ ?_
 ·rintro _ _ ⟨rfl,rfl,hp3⟩
  exact absurd hp3 dd_
 rintro _ _ ⟨rfl,rfl,hf4⟩
 refine z_ (n_ (q_ (g_ (s_ mv_ ?_))))
 refine JO_call [tb2] [blk tb2 94 [(fN_ 43)]] [x0_ x s parm m,mp vS m ([]:List (Bytes × Value)),sH_ s rowsA rows.length rowsC calls] rfl trivial (fun _=>x_callv (first:=[]) (caps:=[pB tb2 0]) rfl ca51 rfl) i_ (own_mem rfl) (fun w hS=>f51_ok tb2 w  (hS.give (own_in rfl))) ?_
 rintro _ _ ⟨nb5,rfl,rfl⟩
 refine o_ (al_ ze97 fun b6=>?_)
 refine o_ (stG 0 sz97 ?_)
 refine z_ (n_ (q_ (q_ (g_ (s_ (fA 0 fi97_0) (r_ (ld_ 0 sc25) (s_ (lnS underlying25) (s_ mv_ (z_ (n_ (k_ ?_)))))))))))
 refine J_unroll 3 ?_
 refine JR_one ?_
 refine q_ (g_ (jr_ (vB true) (z_ (n_ (q_ (ift (sk_ (n_ (q_ (k_ (q_ (g_ (s_ (x_indexAddr_sl (k:=0) underlying25 sz9 rfl rfl lt_ rfl) (r_ (ld_ 1 sc9) (o_ (al_ ze9 fun b7=>?_))))))))))))))))
 refine o_ (st1 0 sz9 ?_)
 refine z_ (n_ (q_ (g_ (s_ mv_ (js_ ((fC_ 35 b7)) (x_makeFunc rfl rfl) ?_)))))
 refine JO_call [b7] [blk b7 9 [vS [73,78,49]]] [blk b6 97 [vL (some ⟨nb5,0,none⟩) 2 2,(fN_ 43),(fN_ 52)],blk nb5 9 [vS [73,78,49],vS [73,78,50]],blk tb2 94 [(fN_ 43)],x0_ x s parm m,mp vS m ([]:List (Bytes × Value)),sH_ s rowsA rows.length rowsC calls] rfl trivial (fun _=>x_call ca34 rfl) i_ (own_mem rfl) (fun w hS=>f34_ok l lA lC b7 [73,78,49] w (lR.on hS (own_mem rfl)) hy_ hy_ (hS.give (own_in rfl))) ?_
 rintro _ _ ⟨rfl,rfl⟩
 have ha8:=R45.findI_bd [73,78,49] l
 try simp only [List.length_cons,List.length_nil,Nat.zero_add,Nat.reduceAdd,Nat.reduceMul] at ha8
 refine s_ av_ (z_ (n_ (q_ (g_ (s_ mv_ (s_ (x_geq_i rfl rfl) (r_ (ld_ 0 sc9) (js_ (vS ([110,111,32,100,100,32]++[73,78,49])) (x_cat_s rfl rfl c45p0_) ?_))))))))
 refine JO_callP [] [] [blk b7 9 [vS [73,78,49]],blk b6 97 [vL (some ⟨nb5,0,none⟩) 2 2,(fN_ 43),(fN_ 52)],blk nb5 9 [vS [73,78,49],vS [73,78,50]],blk tb2 94 [(fN_ 43)],x0_ x s parm m,mp vS m ([]:List (Bytes × Value)),sH_ s rowsA rows.length rowsC calls] rfl trivial (fun _=>x_call ca33 rfl) i_ (fun _ h=>by cases h) (fun w hS=>f33_ok _ ([110,111,32,100,100,32]++[73,78,49]) w) ?_ ?_
 ·rintro _ _ ⟨rfl,rfl,hp9⟩
  have hp9:=of_ hp9
  refine JX_then_pan (JX_block_pan (JX_then_pan (JX_then_pan (JX_block_pan (JX_then_pan ?_)))))
  refine JX_pan [] (fun _ h=>h.keep [F_,F_,F_,F_,F_,F_,F_] rfl) (fun _ _ h=>h) ⟨([110,111,32,100,100,32]++[73,78,49]),rfl,?_,?_⟩
  ·rfl
  ·exact c45p4_
 rintro _ _ ⟨rfl,rfl,hf10⟩
 have hf10:=ot_ hf10
 refine z_ (n_ ?_)
 refine drU [] [9] 10 mixed ?_
 refine jp_ 0 rfl mv_ (jp_ 1 rfl (x_nilCheck rfl) (jp_ 2 rfl (fA 2 fi82_2) ?_))
 refine je_ 3 (Value.map (some m)) rfl (x_load 4 rfl rfl sc80 rfl) ?_
 refine je_ 4 (vS [73,78,49]) rfl (x_load 0 rfl rfl sc9 rfl) ?_
 refine jp_ 5 rfl mv_ (jp_ 6 rfl mv_ (jq_ 7 rfl (ixF (k:=(R45.findI [73,78,49] l).toNat) (hy:=(ix_nat rfl om_)) Binding.enc_len (cells_ro lR) underlying36 sz33) (jq_ 8 rfl (ldFN Binding.enc_len (cells_ro lR) ag33 sz33) (j1_ 9 ?_ (fun _ h=>⟨h.keep [F_,F_,F_,F_,F_,F_,F_] rfl,fun _=>h⟩)))))
 refine jio_ rfl (O_mapUpdate 5 (f:=vS) (k:=[73,78,49]) [([73,78,49],vG (bD_ l [73,78,49]))] [blk b7 9 [vS [73,78,49]],blk b6 97 [vL (some ⟨nb5,0,none⟩) 2 2,(fN_ 43),(fN_ 52)],blk nb5 9 [vS [73,78,49],vS [73,78,50]],blk tb2 94 [(fN_ 43)],x0_ x s parm m,mp vS m [([73,78,49],vG (bD_ l [73,78,49]))],sH_ s rowsA rows.length rowsC calls] rfl rfl rfl rfl underlying80 (mapK_s underlying9) rfl rfl ?_)
 refine JA_done kf_ (gl_ rfl (fun _ h=>h.keep [F_,F_,F_,F_,F_,F_,F_] rfl)) ?_
 refine kx_ (n_ (g_ (jr_ (vI 1) (s_ mv_ (z_ (JX_again ?_))))))
 refine JR_one ?_
 refine q_ (g_ (jr_ (vB true) (z_ (n_ (q_ (ift (sk_ (n_ (q_ (k_ (q_ (g_ (s_ (x_indexAddr_sl (k:=1) underlying25 sz9 rfl rfl lt_ rfl) (r_ (ld_ 2 sc9) (o_ (al_ ze9 fun b11=>?_))))))))))))))))
 refine o_ (st1 0 sz9 ?_)
 refine z_ (n_ (q_ (g_ (s_ mv_ (js_ ((fC_ 35 b11)) (x_makeFunc rfl rfl) ?_)))))
 refine JO_call [b11] [blk b11 9 [vS [73,78,50]]] [blk b7 9 [vS [73,78,49]],blk b6 97 [vL (some ⟨nb5,0,none⟩) 2 2,(fN_ 43),(fN_ 52)],blk nb5 9 [vS [73,78,49],vS [73,78,50]],blk tb2 94 [(fN_ 43)],x0_ x s parm m,mp vS m [([73,78,49],vG (bD_ l [73,78,49]))],sH_ s rowsA rows.length rowsC calls] rfl trivial (fun _=>x_call ca34 rfl) i_ (own_mem rfl) (fun w hS=>f34_ok l lA lC b11 [73,78,50] w (lR.on hS (own_mem rfl)) hy_ hy_ (hS.give (own_in rfl))) ?_
 rintro _ _ ⟨rfl,rfl⟩
 have ha12:=R45.findI_bd [73,78,50] l
 try simp only [List.length_cons,List.length_nil,Nat.zero_add,Nat.reduceAdd,Nat.reduceMul] at ha12
 refine s_ av_ (z_ (n_ (q_ (g_ (s_ mv_ (s_ (x_geq_i rfl rfl) (r_ (ld_ 0 sc9) (js_ (vS ([110,111,32,100,100,32]++[73,78,50])) (x_cat_s rfl rfl c45p0_) ?_))))))))
 refine JO_callP [] [] [blk b11 9 [vS [73,78,50]],blk b7 9 [vS [73,78,49]],blk b6 97 [vL (some ⟨nb5,0,none⟩) 2 2,(fN_ 43),(fN_ 52)],blk nb5 9 [vS [73,78,49],vS [73,78,50]],blk tb2 94 [(fN_ 43)],x0_ x s parm m,mp vS m [([73,78,49],vG (bD_ l [73,78,49]))],sH_ s rowsA rows.length rowsC calls] rfl trivial (fun _=>x_call ca33 rfl) i_ (fun _ h=>by cases h) (fun w hS=>f33_ok _ ([110,111,32,100,100,32]++[73,78,50]) w) ?_ ?_
 ·rintro _ _ ⟨rfl,rfl,hp13⟩
  have hp13:=of_ hp13
  refine JX_then_pan (JX_block_pan (JX_then_pan (JX_then_pan (JX_block_pan (JX_then_pan ?_)))))
  refine JX_pan [] (fun _ h=>h.keep [F_,F_,F_,F_,F_,F_,F_,F_] rfl) (fun _ _ h=>h) ⟨([110,111,32,100,100,32]++[73,78,50]),rfl,?_,?_⟩
  ·rfl
  ·exact c45p4_
 rintro _ _ ⟨rfl,rfl,hf14⟩
 have hf14:=ot_ hf14
 refine z_ (n_ ?_)
 refine drU [] [9] 10 mixed ?_
 refine jp_ 0 rfl mv_ (jp_ 1 rfl (x_nilCheck rfl) (jp_ 2 rfl (fA 2 fi82_2) ?_))
 refine je_ 3 (Value.map (some m)) rfl (x_load 5 rfl rfl sc80 rfl) ?_
 refine je_ 4 (vS [73,78,50]) rfl (x_load 0 rfl rfl sc9 rfl) ?_
 refine jp_ 5 rfl mv_ (jp_ 6 rfl mv_ (jq_ 7 rfl (ixF (k:=(R45.findI [73,78,50] l).toNat) (hy:=(ix_nat rfl om_)) Binding.enc_len (cells_ro lR) underlying36 sz33) (jq_ 8 rfl (ldFN Binding.enc_len (cells_ro lR) ag33 sz33) (j1_ 9 ?_ (fun _ h=>⟨h.keep [F_,F_,F_,F_,F_,F_,F_,F_] rfl,fun _=>h⟩)))))
 refine jio_ rfl (O_mapUpdate 6 (f:=vS) (k:=[73,78,50]) [([73,78,49],vG (bD_ l [73,78,49])),([73,78,50],vG (bD_ l [73,78,50]))] [blk b11 9 [vS [73,78,50]],blk b7 9 [vS [73,78,49]],blk b6 97 [vL (some ⟨nb5,0,none⟩) 2 2,(fN_ 43),(fN_ 52)],blk nb5 9 [vS [73,78,49],vS [73,78,50]],blk tb2 94 [(fN_ 43)],x0_ x s parm m,mp vS m [([73,78,49],vG (bD_ l [73,78,49])),([73,78,50],vG (bD_ l [73,78,50]))],sH_ s rowsA rows.length rowsC calls] rfl rfl rfl rfl underlying80 (mapK_s underlying9) rfl rfl ?_)
 refine JA_done kf_ (gl_ rfl (fun _ h=>h.keep [F_,F_,F_,F_,F_,F_,F_,F_] rfl)) ?_
 refine kx_ (n_ (g_ (jr_ (vI 2) (s_ mv_ (z_ (JX_again ?_))))))
 refine JR_one ?_
 refine q_ (g_ (jr_ (vB false) (z_ (n_ (q_ (iff_ (J_exit (ne_ (ne_ (kh_ (n_ (q_ (q_ ?_)))))))))))))
 refine J_less (L':=[blk b6 97 [vL (some ⟨nb5,0,none⟩) 2 2,(fN_ 43),(fN_ 52)],blk nb5 9 [vS [73,78,49],vS [73,78,50]],x0_ x s parm m,mp vS m [([73,78,49],vG (bD_ l [73,78,49])),([73,78,50],vG (bD_ l [73,78,50]))],sH_ s rowsA rows.length rowsC calls]) (fun _ h=>h.keep [F_,F_,T_,T_,F_,T_,T_,T_] rfl) ?_
 refine g_ (s_ mv_ (s_ (x_nilCheck rfl) (s_ (fA 2 fi82_2) (r_ (ld_ 2 sc80) ?_))))
 refine JO_read (Value.tuple #[vG (Binding.enc default),vB false]) rfl trivial (x_lookup_ok 3 (f:=vS) (k:=[79,85,84]) rfl rfl rfl underlying80 (mapK_s underlying9) ze33 (lk_ne dd_ (lk_ne dd_ lk_nil))) ?_
 refine s_ mv_ (s_ (ex_ 0) (s_ (ex_ 1) (o_ (al_ ze33 fun b15=>?_))))
 refine o_ (stG 0 sz33 ?_)
 refine s_ av_ (z_ (xk_ [0,1,8,12,13] ?_))
 refine n_ (q_ (g_ (s_ mv_ (z_ (n_ (iff_ (sk_ (n_ (q_ ?_)))))))))
 refine J_less (L':=[blk b6 97 [vL (some ⟨nb5,0,none⟩) 2 2,(fN_ 43),(fN_ 52)],blk nb5 9 [vS [73,78,49],vS [73,78,50]],x0_ x s parm m,mp vS m [([73,78,49],vG (bD_ l [73,78,49])),([73,78,50],vG (bD_ l [73,78,50]))],sH_ s rowsA rows.length rowsC calls]) (fun _ h=>h.keep [F_,T_,T_,T_,T_,T_] rfl) ?_
 refine g_ (s_ (fA 1 fi97_1) (r_ (ld_ 0 sc94) (s_ mv_ (c0 (x_callv (first:=[]) (caps:=[]) rfl ca43 rfl) (fun w hS=>f43_ok x w) ?_))))
 refine JO_callP [] [] [blk b6 97 [vL (some ⟨nb5,0,none⟩) 2 2,(fN_ 43),(fN_ 52)],blk nb5 9 [vS [73,78,49],vS [73,78,50]],x0_ x s parm m,mp vS m [([73,78,49],vG (bD_ l [73,78,49])),([73,78,50],vG (bD_ l [73,78,50]))],sH_ s rowsA rows.length rowsC calls] rfl trivial (fun _=>x_call ca33 rfl) i_ (fun _ h=>by cases h) (fun w hS=>f33_ok true [119,114,111,110,103,32,112,97,114,97,109,101,116,101,114] w) ?_ ?_
 ·rintro _ _ ⟨rfl,rfl,hp16⟩
  exact absurd hp16 dd_
 rintro _ _ ⟨rfl,rfl,hf17⟩
 refine z_ (n_ (q_ (g_ (s_ av_ (z_ (n_ (q_ (q_ (g_ (s_ (fA 0 fi97_0) (r_ (ld_ 0 sc25) (s_ (lnS underlying25) (s_ mv_ (z_ (n_ (k_ ?_))))))))))))))))
 refine J_unroll 3 ?_
 refine JR_one ?_
 refine q_ (g_ (jr_ (vB true) (z_ (n_ (q_ (ift (sk_ (n_ (q_ (k_ (q_ (g_ (s_ (x_indexAddr_sl (k:=0) underlying25 sz9 rfl rfl lt_ rfl) (r_ (ld_ 1 sc9) (s_ av_ (z_ (n_ (q_ (q_ (g_ (s_ mv_ (js_ (vB false) (x_eql_s (a:=([73,78,49]:Bytes)) (b:=([79,85,84]:Bytes)) rfl rfl) ?_))))))))))))))))))))))
 refine z_ (n_ (iff_ (sk_ (n_ (q_ ?_)))))
 refine drU [] [10] 16 mixed ?_
 refine jp_ 0 rfl mv_ (jp_ 1 rfl (x_nilCheck rfl) (jp_ 2 rfl (fA 0 fi82_0) ?_))
 refine je_ 3 (Value.iface 41 (pB s 0)) rfl (x_load 2 rfl rfl sc71 rfl) ?_
 refine jp_ 4 rfl mv_ (jp_ 5 rfl (x_nilCheck rfl) (jp_ 6 rfl (fA 2 fi82_2) ?_))
 refine jE_ 7 (Value.map (some m)) rfl (x_load 2 rfl rfl sc80 rfl) ?_
 refine jp_ 8 rfl mv_ ?_
 refine je_ 9 (vG (bD_ l [73,78,49])) rfl (x_lookup 3 (f:=vS) (k:=[73,78,49]) rfl rfl rfl underlying80 (mapK_s underlying9) ze33 (lk_hit dd_)) ?_
 refine j1_ 10 ?_ (fun _ h=>⟨h.keep [F_,F_,F_,F_,F_] rfl,fun _=>h⟩)
 refine JI_call [s] [sH_ s rowsA rows.length rowsC calls] [blk b6 97 [vL (some ⟨nb5,0,none⟩) 2 2,(fN_ 43),(fN_ 52)],blk nb5 9 [vS [73,78,49],vS [73,78,50]],x0_ x s parm m,mp vS m [([73,78,49],vG (bD_ l [73,78,49])),([73,78,50],vG (bD_ l [73,78,50]))]] rfl rfl trivial (fun _=>x_call ca11 rfl) (fun _ h=>(((((h.front 3 _ rfl).front 3 _ rfl).front 3 _ rfl).front 3 _ rfl).front 4 _ rfl).keep [T_,T_,T_,T_,T_] rfl) (own_mem rfl) (fun w hS=>f11_ok s rows rowsA rowsC calls (l.getD ((R45.findI [73,78,49] l).toNat) default) w (rowsR.on hS (own_mem rfl)) (okL_at (lN.on hS (own_mem rfl)) _) hy_ hy_ hy_ (by exact q6 _) (hS.give (own_in rfl))) ?_
 rintro _ _ ⟨out18,outA19,outC20,e21,rfl,rfl,hf22,hf23⟩
 have ha24:=R45.rec_len out18 as_ q0 (q6 _)
 refine jp_ 11 rfl mv_ (jp_ 12 rfl (ex_ 0) (jp_ 13 rfl (ex_ 1) (jp_ 14 rfl av_ (jp_ 15 rfl av_ ?_))))
 refine JA_done kf_ (gl_ rfl (fun _ h=>h.keep [F_,F_,F_,F_,F_,F_] rfl)) ?_
 refine n_ (q_ (g_ (s_ mv_ (jr_ (vB true) ?_))))
 refine JO_callP [] [] [sH_ s rowsA rows.length rowsC e21,row (.slice outA19 out18.length outC20) 9 1 out18.length (out18.map vS),blk b6 97 [vL (some ⟨nb5,0,none⟩) 2 2,(fN_ 43),(fN_ 52)],blk nb5 9 [vS [73,78,49],vS [73,78,50]],x0_ x s parm m,mp vS m [([73,78,49],vG (bD_ l [73,78,49])),([73,78,50],vG (bD_ l [73,78,50]))]] rfl trivial (fun _=>x_call ca33 rfl) i_ (fun _ h=>by cases h) (fun w hS=>f33_ok true [116,111,111,32,109,97,110,121,32,114,101,99,111,114,100,115] w) ?_ ?_
 ·rintro _ _ ⟨rfl,rfl,hp25⟩
  exact absurd hp25 dd_
 rintro _ _ ⟨rfl,rfl,hf26⟩
 refine z_ (n_ (q_ (g_ (s_ mv_ (c0 (cl_ ca37) (fun w hS=>f37_ok 0 w hy_) (z_ (n_ (g_ (s_ mv_ (s_ mv_ (o_ (O_buildSlice (cs:=[vL outA19 out18.length outC20]) underlying102 sz25 ze25 dd_ dd_ kf_ fun b27=>?_))))))))))))
 refine JO_weaken (E':=[(0,pB x 0),(8,pB b6 0),(14,vL none (([]:List Rw).length) 0),(73,vL (some ⟨nb5,0,none⟩) 2 2),(74,vI 2),(75,vI 0),(76,vB true),(77,pB nb5 0),(78,vS [73,78,49]),(16,vS [73,78,49]),(79,vS [73,78,49]),(80,vB false),(82,pB x 0),(83,pB x 0),(84,pB x 0),(85,Value.iface 41 (pB s 0)),(86,pB x 0),(87,pB x 0),(88,pB x 2),(89,Value.map (some m)),(90,vS [73,78,49]),(91,vG (bD_ l [73,78,49])),(92,Value.tuple #[vL outA19 out18.length outC20,vI 0]),(81,Value.tuple #[vL outA19 out18.length outC20,vI 0]),(93,vL outA19 out18.length outC20),(94,vI 0),(17,vL outA19 out18.length outC20),(18,vI 0),(95,vI 0),(96,vB true),(97,Value.tuple #[]),(98,vI 0),(99,Value.tuple #[]),(100,vL none (([]:List Rw).length) 0),(101,vL outA19 out18.length outC20),(102,vL (some ⟨b27,0,none⟩) 1 1)]) (L':=[row (.slice none ([]:List Rw).length 0) 25 1 ([]:List Rw).length (([]:List Rw).flatMap Rw.enc),blk b27 25 [vL outA19 out18.length outC20],sH_ s rowsA rows.length rowsC e21,row (.slice outA19 out18.length outC20) 9 1 out18.length (out18.map vS),blk b6 97 [vL (some ⟨nb5,0,none⟩) 2 2,(fN_ 43),(fN_ 52)],blk nb5 9 [vS [73,78,49],vS [73,78,50]],x0_ x s parm m,mp vS m [([73,78,49],vG (bD_ l [73,78,49])),([73,78,50],vG (bD_ l [73,78,50]))]]) se_ (fun _ h=>((((((((h.front 6 _ rfl).front 6 _ rfl).front 6 _ rfl).front 6 _ rfl).front 6 _ rfl).front 6 _ rfl).front 6 _ rfl).nilrow 25 1).keep [T_,T_,T_,T_,T_,T_,T_,T_] rfl) ?_
 refine o_ (O_append_f 0 Rw.enc 1 ([]:List Rw) [(Rw.mk out18 outA19 outC20)] underlying102 sz25 by25 ze25 rfl dd_ rfl rfl rfl rfl Rw.enc_len Rw.enc_one (cells_blk 1 (off:=0) (m:=1) rfl rfl) lt_ lt_ fun A28 c29=>?_)
 refine s_ av_ (z_ (kx_ (n_ (g_ (jr_ (vI 1) (s_ mv_ (z_ (JX_again ?_))))))))
 refine JR_one ?_
 refine q_ (g_ (jr_ (vB true) (z_ (n_ (q_ (ift (sk_ (n_ (q_ (k_ (q_ (g_ (s_ (x_indexAddr_sl (k:=1) underlying25 sz9 rfl rfl lt_ rfl) (r_ (ld_ 5 sc9) (s_ av_ (z_ (n_ (q_ (q_ (g_ (s_ mv_ (js_ (vB false) (x_eql_s (a:=([73,78,50]:Bytes)) (b:=([79,85,84]:Bytes)) rfl rfl) ?_))))))))))))))))))))))
 refine z_ (n_ (iff_ (sk_ (n_ (q_ ?_)))))
 refine drU [] [10] 16 mixed ?_
 refine jp_ 0 rfl mv_ (jp_ 1 rfl (x_nilCheck rfl) (jp_ 2 rfl (fA 0 fi82_0) ?_))
 refine je_ 3 (Value.iface 41 (pB s 0)) rfl (x_load 6 rfl rfl sc71 rfl) ?_
 refine jp_ 4 rfl mv_ (jp_ 5 rfl (x_nilCheck rfl) (jp_ 6 rfl (fA 2 fi82_2) ?_))
 refine jE_ 7 (Value.map (some m)) rfl (x_load 6 rfl rfl sc80 rfl) ?_
 refine jp_ 8 rfl mv_ ?_
 refine je_ 9 (vG (bD_ l [73,78,50])) rfl (x_lookup 7 (f:=vS) (k:=[73,78,50]) rfl rfl rfl underlying80 (mapK_s underlying9) ze33 (lk_ne dd_ (lk_hit dd_))) ?_
 refine j1_ 10 ?_ (fun _ h=>⟨h.keep [F_,F_,F_,F_,F_,F_,F_,F_] rfl,fun _=>h⟩)
 refine JI_call [s] [sH_ s rowsA rows.length rowsC e21] [row (.slice A28 (([]:List Rw)++[(Rw.mk out18 outA19 outC20)]).length c29) 25 1 (([]:List Rw)++[(Rw.mk out18 outA19 outC20)]).length ((([]:List Rw)++[(Rw.mk out18 outA19 outC20)]).flatMap Rw.enc),blk b27 25 [vL outA19 out18.length outC20],row (.slice outA19 out18.length outC20) 9 1 out18.length (out18.map vS),blk b6 97 [vL (some ⟨nb5,0,none⟩) 2 2,(fN_ 43),(fN_ 52)],blk nb5 9 [vS [73,78,49],vS [73,78,50]],x0_ x s parm m,mp vS m [([73,78,49],vG (bD_ l [73,78,49])),([73,78,50],vG (bD_ l [73,78,50]))]] rfl rfl trivial (fun _=>x_call ca11 rfl) (fun _ h=>((((((((h.front 7 _ rfl).front 7 _ rfl).front 7 _ rfl).front 7 _ rfl).front 7 _ rfl).front 6 _ rfl).front 6 _ rfl).front 7 _ rfl).keep [T_,T_,T_,T_,T_,T_,T_,T_] rfl) (own_mem rfl) (fun w hS=>f11_ok s rows rowsA rowsC e21 (l.getD ((R45.findI [73,78,50] l).toNat) default) w (rowsR.on hS (own_mem rfl)) (okL_at (lN.on hS (own_mem rfl)) _) hy_ hy_ hy_ (by exact q6 _) (hS.give (own_in rfl))) ?_
 rintro _ _ ⟨out30,outA31,outC32,e33,rfl,rfl,hf34,hf35⟩
 have ha36:=R45.rec_len out30 as_ q0 (q6 _)
 refine jp_ 11 rfl mv_ (jp_ 12 rfl (ex_ 0) (jp_ 13 rfl (ex_ 1) (jp_ 14 rfl av_ (jp_ 15 rfl av_ ?_))))
 refine JA_done kf_ (gl_ rfl (fun _ h=>h.keep [F_,F_,F_,F_,F_,F_,F_,F_,F_] rfl)) ?_
 refine n_ (q_ (g_ (s_ mv_ (jr_ (vB true) ?_))))
 refine JO_callP [] [] [sH_ s rowsA rows.length rowsC e33,row (.slice outA31 out30.length outC32) 9 1 out30.length (out30.map vS),row (.slice A28 (([]:List Rw)++[(Rw.mk out18 outA19 outC20)]).length c29) 25 1 (([]:List Rw)++[(Rw.mk out18 outA19 outC20)]).length ((([]:List Rw)++[(Rw.mk out18 outA19 outC20)]).flatMap Rw.enc),blk b27 25 [vL outA19 out18.length outC20],row (.slice outA19 out18.length outC20) 9 1 out18.length (out18.map vS),blk b6 97 [vL (some ⟨nb5,0,none⟩) 2 2,(fN_ 43),(fN_ 52)],blk nb5 9 [vS [73,78,49],vS [73,78,50]],x0_ x s parm m,mp vS m [([73,78,49],vG (bD_ l [73,78,49])),([73,78,50],vG (bD_ l [73,78,50]))]] rfl trivial (fun _=>x_call ca33 rfl) i_ (fun _ h=>by cases h) (fun w hS=>f33_ok true [116,111,111,32,109,97,110,121,32,114,101,99,111,114,100,115] w) ?_ ?_
 ·rintro _ _ ⟨rfl,rfl,hp37⟩
  exact absurd hp37 dd_
 rintro _ _ ⟨rfl,rfl,hf38⟩
 refine z_ (n_ (q_ (g_ (s_ mv_ (c0 (cl_ ca37) (fun w hS=>f37_ok 0 w hy_) (z_ (n_ (g_ (s_ mv_ (s_ mv_ (o_ (O_buildSlice (cs:=[vL outA31 out30.length outC32]) underlying102 sz25 ze25 dd_ dd_ kf_ fun b39=>?_))))))))))))
 refine o_ (O_append_f 3 Rw.enc 1 (([]:List Rw)++[(Rw.mk out18 outA19 outC20)]) [(Rw.mk out30 outA31 outC32)] underlying102 sz25 by25 ze25 rfl dd_ rfl rfl rfl rfl Rw.enc_len Rw.enc_one (cells_blk 0 (off:=0) (m:=1) rfl rfl) lt_ lt_ fun A40 c41=>?_)
 refine s_ av_ (z_ (kx_ (n_ (g_ (jr_ (vI 2) (s_ mv_ (z_ (JX_again ?_))))))))
 refine JR_one ?_
 refine q_ (g_ (jr_ (vB false) (z_ (n_ (q_ (iff_ (J_exit (ne_ (ne_ (kh_ (n_ (g_ (s_ (fA 2 fi97_2) (r_ (ld_ 6 sc95) (s_ mv_ (s_ mv_ ?_))))))))))))))))
 refine JO_call [x] [x0_ x s parm m] [blk b39 25 [vL outA31 out30.length outC32],sH_ s rowsA rows.length rowsC e33,row (.slice outA31 out30.length outC32) 9 1 out30.length (out30.map vS),row (.slice A40 ((([]:List Rw)++[(Rw.mk out18 outA19 outC20)])++[(Rw.mk out30 outA31 outC32)]).length c41) 25 1 ((([]:List Rw)++[(Rw.mk out18 outA19 outC20)])++[(Rw.mk out30 outA31 outC32)]).length (((([]:List Rw)++[(Rw.mk out18 outA19 outC20)])++[(Rw.mk out30 outA31 outC32)]).flatMap Rw.enc),blk b27 25 [vL outA19 out18.length outC20],row (.slice outA19 out18.length outC20) 9 1 out18.length (out18.map vS),blk b6 97 [vL (some ⟨nb5,0,none⟩) 2 2,(fN_ 43),(fN_ 52)],blk nb5 9 [vS [73,78,49],vS [73,78,50]],mp vS m [([73,78,49],vG (bD_ l [73,78,49])),([73,78,50],vG (bD_ l [73,78,50]))]] rfl trivial (fun _=>x_callv (first:=[]) (caps:=[]) rfl ca52 rfl) (fun _ h=>((((((((((h.front 9 _ rfl).front 8 _ rfl).front 8 _ rfl).front 8 _ rfl).front 8 _ rfl).front 8 _ rfl).front 8 _ rfl).front 8 _ rfl).front 8 _ rfl).front 9 _ rfl).keep [T_,T_,T_,T_,T_,T_,T_,T_,T_,T_] rfl) (own_mem rfl) (fun w hS=>f52_ok x s parm m ((([]:List Rw)++[(Rw.mk out18 outA19 outC20)])++[(Rw.mk out30 outA31 outC32)]) A40 c41 w (RO.of_rowS hS (own_mem rfl) 3 rfl) (ronS (ronS ronN (RO.of_rowS hS (own_mem rfl) 5 rfl)) (RO.of_rowS hS (own_mem rfl) 2 rfl)) (hT.on hS (own_mem rfl)) hy_ c45p3_ c45p3_ (hS.give (own_in rfl))) ?_
 rintro _ _ ⟨cd42,ln43,lnA44,lnC45,rfl,rfl,hf46,hf47⟩
 refine z_ (JX_En ?_)
 refine JX_end0 results27 [xE_ x s parm m [vI cd42,vB false,vL none 0 0,vL lnA44 ln43.length lnC45],row (.slice none ([]:List Change).length 0) 60 5 ([]:List Change).length (([]:List Change).flatMap Change.enc),row (.slice lnA44 ln43.length lnC45) 9 1 ln43.length (ln43.map vS)] (fun _ h=>(((h.front 1 _ rfl).nilrow 60 5).front 2 _ rfl).keep [T_,T_,T_,F_,F_,F_,F_,F_,F_,F_,F_,F_] rfl) ⟨cd42,([]:List Change),none,0,ln43,lnA44,lnC45,?_,?_,?_⟩
 ·rfl
 ·rfl
 ·exact R45.cmp_yes as_ as_ as_ as_ as_ as_
set_option maxHeartbeats 1000000 in
theorem perf_copy (x:Nat) (s:Nat) (parm:Bytes) (m:Nat) (rows:List SRow) (rowsA:OA_) (rowsC:Nat) (calls:Nat) (l:List Binding) (lA:OA_) (lC:Nat) (w:World) (rowsR:RO [x,m,s] w rowsA (rows.flatMap SRow.enc)) (lR:RO [x,m,s] w lA (l.flatMap Binding.enc)) (lN:Kp [x,m,s] w (okL Binding.ok l)) (hT:Tab [x,m,s] w) (q0:rows.length≤1000) (q1:calls≤890000) (q2:R45.Dist rows) (q3:∀ x∈rows,x.Key.length≤1000000) (q4:∀ x∈rows,x.Record.length≤1000000) (q5:parm.length≤1000) (q6:l.length≤1000) (q7:∀ i,(l.getD i default).Lines.length≤1000) (q8:∀ i j,((l.getD i default).Lines.getD j []).length≤1000000) (hg:Give [x,m,s] w [x0_ x s parm m,mp vS m ([]:List (Bytes × Value)),sH_ s rowsA rows.length rowsC calls]):Calls prog 27 #[pB x 0,vS [99,111,112,121],vL lA l.length lC] w (GivesE [x,m,s] w (fun v L=>∃ cd:Int,∃ ch:List Change,∃ chA:OA_,∃ chC:Nat,∃ ln:LB_,∃ lnA:OA_,∃ lnC:Nat,v=Value.tuple #[]∧L=[xE_ x s parm m [vI cd,vB false,vL chA ch.length chC,vL lnA ln.length lnC],row (.slice chA ch.length chC) 60 5 ch.length (ch.flatMap Change.enc),row (.slice lnA ln.length lnC) 9 1 ln.length (ln.map vS)]∧(R45.CpyR rows l cd ch ln)) (fun c L=>∃ line:Bytes,c=R45.pan line∧L=[]∧(¬ R45.CpyOk rows l))):=by
 refine calls_JE [x,m,s] 110 func27 rfl ntmps27 [(0,_),(1,_),(2,_)] rfl rfl hg ?_
 refine q_ (g_ ?_)
 refine c1 (cl_ ca32) (fun w hS=>f32_ok w) ?_
 rintro _ _ ⟨pm1,tb2,rfl,rfl⟩
 refine s_ mv_ ?_
 refine JO_read (Value.tuple #[(fC_ 54 tb2),vB true]) rfl trivial (x_lookup_ok 0 (f:=vS) (k:=[99,111,112,121]) rfl rfl rfl underlying89 (mapK_s underlying9) ze90 (lk_ne dd_ (lk_ne dd_ (lk_ne dd_ (lk_hit dd_))))) ?_
 refine s_ mv_ (s_ (ex_ 0) (s_ (ex_ 1) (s_ av_ (s_ av_ (z_ (n_ (q_ ?_)))))))
 refine J_less (L':=[blk tb2 94 [(fN_ 43)],x0_ x s parm m,mp vS m ([]:List (Bytes × Value)),sH_ s rowsA rows.length rowsC calls]) (fun _ h=>h.keep [F_,T_,T_,T_,T_] rfl) ?_
 refine g_ (s_ mv_ ?_)
 refine JO_callP [] [] [blk tb2 94 [(fN_ 43)],x0_ x s parm m,mp vS m ([]:List (Bytes × Value)),sH_ s rowsA rows.length rowsC calls] rfl trivial (fun _=>x_call ca33 rfl) i_ (fun _ h=>by cases h) (fun w hS=>f33_ok true [110,111,32,112,114,111,103,114,97,109] w) ?_ ?_
 ·rintro _ _ ⟨rfl,rfl,hp3⟩
  exact absurd hp3 dd_
 rintro _ _ ⟨rfl,rfl,hf4⟩
 refine z_ (n_ (q_ (g_ (s_ mv_ ?_))))
 refine JO_call [tb2] [blk tb2 94 [(fN_ 43)]] [x0_ x s parm m,mp vS m ([]:List (Bytes × Value)),sH_ s rowsA rows.length rowsC calls] rfl trivial (fun _=>x_callv (first:=[]) (caps:=[pB tb2 0]) rfl ca54 rfl) i_ (own_mem rfl) (fun w hS=>f54_ok tb2 w  (hS.give (own_in rfl))) ?_
 rintro _ _ ⟨nb5,rfl,rfl⟩
 refine o_ (al_ ze97 fun b6=>?_)
 refine o_ (stG 0 sz97 ?_)
 refine z_ (n_ (q_ (q_ (g_ (s_ (fA 0 fi97_0) (r_ (ld_ 0 sc25) (s_ (lnS underlying25) (s_ mv_ (z_ (n_ (k_ ?_)))))))))))
 refine J_unroll 3 ?_
 refine JR_one ?_
 refine q_ (g_ (jr_ (vB true) (z_ (n_ (q_ (ift (sk_ (n_ (q_ (k_ (q_ (g_ (s_ (x_indexAddr_sl (k:=0) underlying25 sz9 rfl rfl lt_ rfl) (r_ (ld_ 1 sc9) (o_ (al_ ze9 fun b7=>?_))))))))))))))))
 refine o_ (st1 0 sz9 ?_)
 refine z_ (n_ (q_ (g_ (s_ mv_ (js_ ((fC_ 35 b7)) (x_makeFunc rfl rfl) ?_)))))
 refine JO_call [b7] [blk b7 9 [vS [73,78]]] [blk b6 97 [vL (some ⟨nb5,0,none⟩) 2 2,(fN_ 43),(fN_ 55)],blk nb5 9 [vS [73,78],vS [79,85,84]],blk tb2 94 [(fN_ 43)],x0_ x s parm m,mp vS m ([]:List (Bytes × Value)),sH_ s rowsA rows.length rowsC calls] rfl trivial (fun _=>x_call ca34 rfl) i_ (own_mem rfl) (fun w hS=>f34_ok l lA lC b7 [73,78] w (lR.on hS (own_mem rfl)) hy_ hy_ (hS.give (own_in rfl))) ?_
 rintro _ _ ⟨rfl,rfl⟩
 have ha8:=R45.findI_bd [73,78] l
 try simp only [List.length_cons,List.length_nil,Nat.zero_add,Nat.reduceAdd,Nat.reduceMul] at ha8
 refine s_ av_ (z_ (n_ (q_ (g_ (s_ mv_ (s_ (x_geq_i rfl rfl) (r_ (ld_ 0 sc9) (js_ (vS ([110,111,32,100,100,32]++[73,78])) (x_cat_s rfl rfl c45p0_) ?_))))))))
 refine JO_callP [] [] [blk b7 9 [vS [73,78]],blk b6 97 [vL (some ⟨nb5,0,none⟩) 2 2,(fN_ 43),(fN_ 55)],blk nb5 9 [vS [73,78],vS [79,85,84]],blk tb2 94 [(fN_ 43)],x0_ x s parm m,mp vS m ([]:List (Bytes × Value)),sH_ s rowsA rows.length rowsC calls] rfl trivial (fun _=>x_call ca33 rfl) i_ (fun _ h=>by cases h) (fun w hS=>f33_ok _ ([110,111,32,100,100,32]++[73,78]) w) ?_ ?_
 ·rintro _ _ ⟨rfl,rfl,hp9⟩
  have hp9:=of_ hp9
  refine JX_then_pan (JX_block_pan (JX_then_pan (JX_then_pan (JX_block_pan (JX_then_pan ?_)))))
  refine JX_pan [] (fun _ h=>h.keep [F_,F_,F_,F_,F_,F_,F_] rfl) (fun _ _ h=>h) ⟨([110,111,32,100,100,32]++[73,78]),rfl,?_,?_⟩
  ·rfl
  ·exact c45p2_
 rintro _ _ ⟨rfl,rfl,hf10⟩
 have hf10:=ot_ hf10
 refine z_ (n_ ?_)
 refine drU [] [9] 10 mixed ?_
 refine jp_ 0 rfl mv_ (jp_ 1 rfl (x_nilCheck rfl) (jp_ 2 rfl (fA 2 fi82_2) ?_))
 refine je_ 3 (Value.map (some m)) rfl (x_load 4 rfl rfl sc80 rfl) ?_
 refine je_ 4 (vS [73,78]) rfl (x_load 0 rfl rfl sc9 rfl) ?_
 refine jp_ 5 rfl mv_ (jp_ 6 rfl mv_ (jq_ 7 rfl (ixF (k:=(R45.findI [73,78] l).toNat) (hy:=(ix_nat rfl om_)) Binding.enc_len (cells_ro lR) underlying36 sz33) (jq_ 8 rfl (ldFN Binding.enc_len (cells_ro lR) ag33 sz33) (j1_ 9 ?_ (fun _ h=>⟨h.keep [F_,F_,F_,F_,F_,F_,F_] rfl,fun _=>h⟩)))))
 refine jio_ rfl (O_mapUpdate 5 (f:=vS) (k:=[73,78]) [([73,78],vG (bD_ l [73,78]))] [blk b7 9 [vS [73,78]],blk b6 97 [vL (some ⟨nb5,0,none⟩) 2 2,(fN_ 43),(fN_ 55)],blk nb5 9 [vS [73,78],vS [79,85,84]],blk tb2 94 [(fN_ 43)],x0_ x s parm m,mp vS m [([73,78],vG (bD_ l [73,78]))],sH_ s rowsA rows.length rowsC calls] rfl rfl rfl rfl underlying80 (mapK_s underlying9) rfl rfl ?_)
 refine JA_done kf_ (gl_ rfl (fun _ h=>h.keep [F_,F_,F_,F_,F_,F_,F_] rfl)) ?_
 refine kx_ (n_ (g_ (jr_ (vI 1) (s_ mv_ (z_ (JX_again ?_))))))
 refine JR_one ?_
 refine q_ (g_ (jr_ (vB true) (z_ (n_ (q_ (ift (sk_ (n_ (q_ (k_ (q_ (g_ (s_ (x_indexAddr_sl (k:=1) underlying25 sz9 rfl rfl lt_ rfl) (r_ (ld_ 2 sc9) (o_ (al_ ze9 fun b11=>?_))))))))))))))))
 refine o_ (st1 0 sz9 ?_)
 refine z_ (n_ (q_ (g_ (s_ mv_ (js_ ((fC_ 35 b11)) (x_makeFunc rfl rfl) ?_)))))
 refine JO_call [b11] [blk b11 9 [vS [79,85,84]]] [blk b7 9 [vS [73,78]],blk b6 97 [vL (some ⟨nb5,0,none⟩) 2 2,(fN_ 43),(fN_ 55)],blk nb5 9 [vS [73,78],vS [79,85,84]],blk tb2 94 [(fN_ 43)],x0_ x s parm m,mp vS m [([73,78],vG (bD_ l [73,78]))],sH_ s rowsA rows.length rowsC calls] rfl trivial (fun _=>x_call ca34 rfl) i_ (own_mem rfl) (fun w hS=>f34_ok l lA lC b11 [79,85,84] w (lR.on hS (own_mem rfl)) hy_ hy_ (hS.give (own_in rfl))) ?_
 rintro _ _ ⟨rfl,rfl⟩
 have ha12:=R45.findI_bd [79,85,84] l
 try simp only [List.length_cons,List.length_nil,Nat.zero_add,Nat.reduceAdd,Nat.reduceMul] at ha12
 refine s_ av_ (z_ (n_ (q_ (g_ (s_ mv_ (s_ (x_geq_i rfl rfl) (r_ (ld_ 0 sc9) (js_ (vS ([110,111,32,100,100,32]++[79,85,84])) (x_cat_s rfl rfl c45p0_) ?_))))))))
 refine JO_callP [] [] [blk b11 9 [vS [79,85,84]],blk b7 9 [vS [73,78]],blk b6 97 [vL (some ⟨nb5,0,none⟩) 2 2,(fN_ 43),(fN_ 55)],blk nb5 9 [vS [73,78],vS [79,85,84]],blk tb2 94 [(fN_ 43)],x0_ x s parm m,mp vS m [([73,78],vG (bD_ l [73,78]))],sH_ s rowsA rows.length rowsC calls] rfl trivial (fun _=>x_call ca33 rfl) i_ (fun _ h=>by cases h) (fun w hS=>f33_ok _ ([110,111,32,100,100,32]++[79,85,84]) w) ?_ ?_
 ·rintro _ _ ⟨rfl,rfl,hp13⟩
  have hp13:=of_ hp13
  refine JX_then_pan (JX_block_pan (JX_then_pan (JX_then_pan (JX_block_pan (JX_then_pan ?_)))))
  refine JX_pan [] (fun _ h=>h.keep [F_,F_,F_,F_,F_,F_,F_,F_] rfl) (fun _ _ h=>h) ⟨([110,111,32,100,100,32]++[79,85,84]),rfl,?_,?_⟩
  ·rfl
  ·exact c45p2_
 rintro _ _ ⟨rfl,rfl,hf14⟩
 have hf14:=ot_ hf14
 refine z_ (n_ ?_)
 refine drU [] [9] 10 mixed ?_
 refine jp_ 0 rfl mv_ (jp_ 1 rfl (x_nilCheck rfl) (jp_ 2 rfl (fA 2 fi82_2) ?_))
 refine je_ 3 (Value.map (some m)) rfl (x_load 5 rfl rfl sc80 rfl) ?_
 refine je_ 4 (vS [79,85,84]) rfl (x_load 0 rfl rfl sc9 rfl) ?_
 refine jp_ 5 rfl mv_ (jp_ 6 rfl mv_ (jq_ 7 rfl (ixF (k:=(R45.findI [79,85,84] l).toNat) (hy:=(ix_nat rfl om_)) Binding.enc_len (cells_ro lR) underlying36 sz33) (jq_ 8 rfl (ldFN Binding.enc_len (cells_ro lR) ag33 sz33) (j1_ 9 ?_ (fun _ h=>⟨h.keep [F_,F_,F_,F_,F_,F_,F_,F_] rfl,fun _=>h⟩)))))
 refine jio_ rfl (O_mapUpdate 6 (f:=vS) (k:=[79,85,84]) [([73,78],vG (bD_ l [73,78])),([79,85,84],vG (bD_ l [79,85,84]))] [blk b11 9 [vS [79,85,84]],blk b7 9 [vS [73,78]],blk b6 97 [vL (some ⟨nb5,0,none⟩) 2 2,(fN_ 43),(fN_ 55)],blk nb5 9 [vS [73,78],vS [79,85,84]],blk tb2 94 [(fN_ 43)],x0_ x s parm m,mp vS m [([73,78],vG (bD_ l [73,78])),([79,85,84],vG (bD_ l [79,85,84]))],sH_ s rowsA rows.length rowsC calls] rfl rfl rfl rfl underlying80 (mapK_s underlying9) rfl rfl ?_)
 refine JA_done kf_ (gl_ rfl (fun _ h=>h.keep [F_,F_,F_,F_,F_,F_,F_,F_] rfl)) ?_
 refine kx_ (n_ (g_ (jr_ (vI 2) (s_ mv_ (z_ (JX_again ?_))))))
 refine JR_one ?_
 refine q_ (g_ (jr_ (vB false) (z_ (n_ (q_ (iff_ (J_exit (ne_ (ne_ (kh_ (n_ (q_ (q_ ?_)))))))))))))
 refine J_less (L':=[blk b6 97 [vL (some ⟨nb5,0,none⟩) 2 2,(fN_ 43),(fN_ 55)],blk nb5 9 [vS [73,78],vS [79,85,84]],x0_ x s parm m,mp vS m [([73,78],vG (bD_ l [73,78])),([79,85,84],vG (bD_ l [79,85,84]))],sH_ s rowsA rows.length rowsC calls]) (fun _ h=>h.keep [F_,F_,T_,T_,F_,T_,T_,T_] rfl) ?_
 refine g_ (s_ mv_ (s_ (x_nilCheck rfl) (s_ (fA 2 fi82_2) (r_ (ld_ 2 sc80) ?_))))
 refine JO_read (Value.tuple #[vG (bD_ l [79,85,84]),vB true]) rfl trivial (x_lookup_ok 3 (f:=vS) (k:=[79,85,84]) rfl rfl rfl underlying80 (mapK_s underlying9) ze33 (lk_ne dd_ (lk_hit dd_))) ?_
 refine s_ mv_ (s_ (ex_ 0) (s_ (ex_ 1) (o_ (al_ ze33 fun b15=>?_))))
 refine o_ (stG 0 sz33 ?_)
 refine s_ av_ (z_ (xk_ [0,1,8,12,13] ?_))
 refine n_ (q_ (g_ (s_ mv_ (z_ (n_ (ift (g_ (s_ mv_ (r_ (ldN 0 (bD_ l [79,85,84]) ag33 sz33) ?_)))))))))
 refine c1 (cl_ ca36) (fun w hS=>f36_ok [99,111,112,121] _ w) ?_
 rintro _ _ ⟨z16,rfl,rfl,hf17⟩
 refine JO_callP [] [] [blk b15 33 (bD_ l [79,85,84]),blk b6 97 [vL (some ⟨nb5,0,none⟩) 2 2,(fN_ 43),(fN_ 55)],blk nb5 9 [vS [73,78],vS [79,85,84]],x0_ x s parm m,mp vS m [([73,78],vG (bD_ l [73,78])),([79,85,84],vG (bD_ l [79,85,84]))],sH_ s rowsA rows.length rowsC calls] rfl trivial (fun _=>x_call ca33 rfl) i_ (fun _ h=>by cases h) (fun w hS=>f33_ok z16 [100,100,32,79,85,84,32,99,97,110,110,111,116,32,98,101,32,119,114,105,116,116,101,110] w) ?_ ?_
 ·rintro _ _ ⟨rfl,rfl,hp18⟩
  refine JX_then_pan ?_
  refine JX_pan [] (fun _ h=>h.keep [F_,F_,F_,F_,F_,F_] rfl) (fun _ _ h=>h) ⟨[100,100,32,79,85,84,32,99,97,110,110,111,116,32,98,101,32,119,114,105,116,116,101,110],rfl,?_,?_⟩
  ·rfl
  ·exact c45p2_
 rintro _ _ ⟨rfl,rfl,hf19⟩
 refine z_ (n_ (q_ ?_))
 refine J_less (L':=[blk b6 97 [vL (some ⟨nb5,0,none⟩) 2 2,(fN_ 43),(fN_ 55)],blk nb5 9 [vS [73,78],vS [79,85,84]],x0_ x s parm m,mp vS m [([73,78],vG (bD_ l [73,78])),([79,85,84],vG (bD_ l [79,85,84]))],sH_ s rowsA rows.length rowsC calls]) (fun _ h=>h.keep [F_,T_,T_,T_,T_,T_] rfl) ?_
 refine g_ (s_ (fA 1 fi97_1) (r_ (ld_ 0 sc94) (s_ mv_ (c0 (x_callv (first:=[]) (caps:=[]) rfl ca43 rfl) (fun w hS=>f43_ok x w) ?_))))
 refine JO_callP [] [] [blk b6 97 [vL (some ⟨nb5,0,none⟩) 2 2,(fN_ 43),(fN_ 55)],blk nb5 9 [vS [73,78],vS [79,85,84]],x0_ x s parm m,mp vS m [([73,78],vG (bD_ l [73,78])),([79,85,84],vG (bD_ l [79,85,84]))],sH_ s rowsA rows.length rowsC calls] rfl trivial (fun _=>x_call ca33 rfl) i_ (fun _ h=>by cases h) (fun w hS=>f33_ok true [119,114,111,110,103,32,112,97,114,97,109,101,116,101,114] w) ?_ ?_
 ·rintro _ _ ⟨rfl,rfl,hp20⟩
  exact absurd hp20 dd_
 rintro _ _ ⟨rfl,rfl,hf21⟩
 refine z_ (n_ (q_ (g_ (s_ av_ (z_ (n_ (q_ (q_ (g_ (s_ (fA 0 fi97_0) (r_ (ld_ 0 sc25) (s_ (lnS underlying25) (s_ mv_ (z_ (n_ (k_ ?_))))))))))))))))
 refine J_unroll 3 ?_
 refine JR_one ?_
 refine q_ (g_ (jr_ (vB true) (z_ (n_ (q_ (ift (sk_ (n_ (q_ (k_ (q_ (g_ (s_ (x_indexAddr_sl (k:=0) underlying25 sz9 rfl rfl lt_ rfl) (r_ (ld_ 1 sc9) (s_ av_ (z_ (n_ (q_ (q_ (g_ (s_ mv_ (js_ (vB false) (x_eql_s (a:=([73,78]:Bytes)) (b:=([79,85,84]:Bytes)) rfl rfl) ?_))))))))))))))))))))))
 refine z_ (n_ (iff_ (sk_ (n_ (q_ ?_)))))
 refine drU [] [10] 16 mixed ?_
 refine jp_ 0 rfl mv_ (jp_ 1 rfl (x_nilCheck rfl) (jp_ 2 rfl (fA 0 fi82_0) ?_))
 refine je_ 3 (Value.iface 41 (pB s 0)) rfl (x_load 2 rfl rfl sc71 rfl) ?_
 refine jp_ 4 rfl mv_ (jp_ 5 rfl (x_nilCheck rfl) (jp_ 6 rfl (fA 2 fi82_2) ?_))
 refine jE_ 7 (Value.map (some m)) rfl (x_load 2 rfl rfl sc80 rfl) ?_
 refine jp_ 8 rfl mv_ ?_
 refine je_ 9 (vG (bD_ l [73,78])) rfl (x_lookup 3 (f:=vS) (k:=[73,78]) rfl rfl rfl underlying80 (mapK_s underlying9) ze33 (lk_hit dd_)) ?_
 refine j1_ 10 ?_ (fun _ h=>⟨h.keep [F_,F_,F_,F_,F_] rfl,fun _=>h⟩)
 refine JI_call [s] [sH_ s rowsA rows.length rowsC calls] [blk b6 97 [vL (some ⟨nb5,0,none⟩) 2 2,(fN_ 43),(fN_ 55)],blk nb5 9 [vS [73,78],vS [79,85,84]],x0_ x s parm m,mp vS m [([73,78],vG (bD_ l [73,78])),([79,85,84],vG (bD_ l [79,85,84]))]] rfl rfl trivial (fun _=>x_call ca11 rfl) (fun _ h=>(((((h.front 3 _ rfl).front 3 _ rfl).front 3 _ rfl).front 3 _ rfl).front 4 _ rfl).keep [T_,T_,T_,T_,T_] rfl) (own_mem rfl) (fun w hS=>f11_ok s rows rowsA rowsC calls (l.getD ((R45.findI [73,78] l).toNat) default) w (rowsR.on hS (own_mem rfl)) (okL_at (lN.on hS (own_mem rfl)) _) hy_ hy_ hy_ (by exact q7 _) (hS.give (own_in rfl))) ?_
 rintro _ _ ⟨out22,outA23,outC24,e25,rfl,rfl,hf26,hf27⟩
 have ha28:=R45.rec_len out22 as_ q0 (q7 _)
 have ha29:=R45.rec_each out22 as_ q4 (q8 _)
 refine jp_ 11 rfl mv_ (jp_ 12 rfl (ex_ 0) (jp_ 13 rfl (ex_ 1) (jp_ 14 rfl av_ (jp_ 15 rfl av_ ?_))))
 refine JA_done kf_ (gl_ rfl (fun _ h=>h.keep [F_,F_,F_,F_,F_,F_] rfl)) ?_
 refine n_ (q_ (g_ (s_ mv_ (jr_ (vB true) ?_))))
 refine JO_callP [] [] [sH_ s rowsA rows.length rowsC e25,row (.slice outA23 out22.length outC24) 9 1 out22.length (out22.map vS),blk b6 97 [vL (some ⟨nb5,0,none⟩) 2 2,(fN_ 43),(fN_ 55)],blk nb5 9 [vS [73,78],vS [79,85,84]],x0_ x s parm m,mp vS m [([73,78],vG (bD_ l [73,78])),([79,85,84],vG (bD_ l [79,85,84]))]] rfl trivial (fun _=>x_call ca33 rfl) i_ (fun _ h=>by cases h) (fun w hS=>f33_ok true [116,111,111,32,109,97,110,121,32,114,101,99,111,114,100,115] w) ?_ ?_
 ·rintro _ _ ⟨rfl,rfl,hp30⟩
  exact absurd hp30 dd_
 rintro _ _ ⟨rfl,rfl,hf31⟩
 refine z_ (n_ (q_ (g_ (s_ mv_ (c0 (cl_ ca37) (fun w hS=>f37_ok 0 w hy_) (z_ (n_ (g_ (s_ mv_ (s_ mv_ (o_ (O_buildSlice (cs:=[vL outA23 out22.length outC24]) underlying102 sz25 ze25 dd_ dd_ kf_ fun b32=>?_))))))))))))
 refine JO_weaken (E':=[(0,pB x 0),(8,pB b6 0),(14,vL none (([]:List Rw).length) 0),(73,vL (some ⟨nb5,0,none⟩) 2 2),(74,vI 2),(75,vI 0),(76,vB true),(77,pB nb5 0),(78,vS [73,78]),(16,vS [73,78]),(79,vS [73,78]),(80,vB false),(82,pB x 0),(83,pB x 0),(84,pB x 0),(85,Value.iface 41 (pB s 0)),(86,pB x 0),(87,pB x 0),(88,pB x 2),(89,Value.map (some m)),(90,vS [73,78]),(91,vG (bD_ l [73,78])),(92,Value.tuple #[vL outA23 out22.length outC24,vI 0]),(81,Value.tuple #[vL outA23 out22.length outC24,vI 0]),(93,vL outA23 out22.length outC24),(94,vI 0),(17,vL outA23 out22.length outC24),(18,vI 0),(95,vI 0),(96,vB true),(97,Value.tuple #[]),(98,vI 0),(99,Value.tuple #[]),(100,vL none (([]:List Rw).length) 0),(101,vL outA23 out22.length outC24),(102,vL (some ⟨b32,0,none⟩) 1 1)]) (L':=[row (.slice none ([]:List Rw).length 0) 25 1 ([]:List Rw).length (([]:List Rw).flatMap Rw.enc),blk b32 25 [vL outA23 out22.length outC24],sH_ s rowsA rows.length rowsC e25,row (.slice outA23 out22.length outC24) 9 1 out22.length (out22.map vS),blk b6 97 [vL (some ⟨nb5,0,none⟩) 2 2,(fN_ 43),(fN_ 55)],blk nb5 9 [vS [73,78],vS [79,85,84]],x0_ x s parm m,mp vS m [([73,78],vG (bD_ l [73,78])),([79,85,84],vG (bD_ l [79,85,84]))]]) se_ (fun _ h=>((((((((h.front 6 _ rfl).front 6 _ rfl).front 6 _ rfl).front 6 _ rfl).front 6 _ rfl).front 6 _ rfl).front 6 _ rfl).nilrow 25 1).keep [T_,T_,T_,T_,T_,T_,T_,T_] rfl) ?_
 refine o_ (O_append_f 0 Rw.enc 1 ([]:List Rw) [(Rw.mk out22 outA23 outC24)] underlying102 sz25 by25 ze25 rfl dd_ rfl rfl rfl rfl Rw.enc_len Rw.enc_one (cells_blk 1 (off:=0) (m:=1) rfl rfl) lt_ lt_ fun A33 c34=>?_)
 refine s_ av_ (z_ (kx_ (n_ (g_ (jr_ (vI 1) (s_ mv_ (z_ (JX_again ?_))))))))
 refine JR_one ?_
 refine q_ (g_ (jr_ (vB true) (z_ (n_ (q_ (ift (sk_ (n_ (q_ (k_ (q_ (g_ (s_ (x_indexAddr_sl (k:=1) underlying25 sz9 rfl rfl lt_ rfl) (r_ (ld_ 5 sc9) (s_ av_ (z_ (n_ (q_ (q_ (g_ (s_ mv_ (js_ (vB true) (x_eql_s (a:=([79,85,84]:Bytes)) (b:=([79,85,84]:Bytes)) rfl rfl) ?_))))))))))))))))))))))
 refine z_ (n_ (ift (J_exit (ne_ (kh_ (n_ (g_ (jr_ (vI 2) (s_ mv_ (z_ (JX_again ?_)))))))))))
 refine JR_one ?_
 refine q_ (g_ (jr_ (vB false) (z_ (n_ (q_ (iff_ (J_exit (ne_ (ne_ (kh_ (n_ (g_ (s_ (fA 2 fi97_2) (r_ (ld_ 4 sc95) (s_ mv_ (s_ mv_ ?_))))))))))))))))
 refine JO_callP [x,m,s] [x0_ x s parm m,mp vS m ([([73,78],(l.getD ((R45.findI [73,78] l).toNat) default)),([79,85,84],(l.getD ((R45.findI [79,85,84] l).toNat) default))].map R45.bindE),sH_ s rowsA rows.length rowsC e25] [row (.slice A33 (([]:List Rw)++[(Rw.mk out22 outA23 outC24)]).length c34) 25 1 (([]:List Rw)++[(Rw.mk out22 outA23 outC24)]).length ((([]:List Rw)++[(Rw.mk out22 outA23 outC24)]).flatMap Rw.enc),blk b32 25 [vL outA23 out22.length outC24],row (.slice outA23 out22.length outC24) 9 1 out22.length (out22.map vS),blk b6 97 [vL (some ⟨nb5,0,none⟩) 2 2,(fN_ 43),(fN_ 55)],blk nb5 9 [vS [73,78],vS [79,85,84]]] rfl trivial (fun _=>x_callv (first:=[]) (caps:=[]) rfl ca55 rfl) (fun _ h=>((((((((h.front 5 _ rfl).front 5 _ rfl).front 5 _ rfl).front 4 _ rfl).front 4 _ rfl).front 5 _ rfl).front 7 _ rfl).front 7 _ rfl).keep [T_,T_,T_,T_,T_,T_,T_,T_] rfl) (own_mem rfl) (fun w hS=>f55_ok x s parm m rows rowsA rowsC e25 [([73,78],(l.getD ((R45.findI [73,78] l).toNat) default)),([79,85,84],(l.getD ((R45.findI [79,85,84] l).toNat) default))] (([]:List Rw)++[(Rw.mk out22 outA23 outC24)]) A33 c34 w (rowsR.on hS (own_mem rfl)) (RO.of_rowS hS (own_mem rfl) 0 rfl) (ronS ronN (RO.of_rowS hS (own_mem rfl) 2 rfl)) (hT.on hS (own_mem rfl)) hy_ hy_ hy_ hy_ hy_ c45p3_ as_ (hS.give (own_in rfl))) ?_ ?_
 ·rintro _ _ ⟨line35,rfl,rfl,hp36⟩
  refine JX_pan [] (fun _ h=>h.keep [F_,F_,F_,F_,F_] rfl) (fun _ _ h=>h) ⟨line35,rfl,?_,?_⟩
  ·rfl
  ·exact c45p2_
 rintro _ _ ⟨ch37,chA38,chC39,ln40,lnA41,lnC42,e43,rfl,rfl,hf44,hf45,hf46⟩
 refine z_ (JX_En ?_)
 refine JX_end0 results27 [xE_ x s parm m [vI 0,vB false,vL chA38 ch37.length chC39,vL lnA41 ln40.length lnC42],row (.slice chA38 ch37.length chC39) 60 5 ch37.length (ch37.flatMap Change.enc),row (.slice lnA41 ln40.length lnC42) 9 1 ln40.length (ln40.map vS)] (fun _ h=>h.keep [T_,F_,F_,T_,T_,F_,F_,F_,F_,F_] rfl) ⟨0,ch37,chA38,chC39,ln40,lnA41,lnC42,?_,?_,?_⟩
 ·rfl
 ·rfl
 ·exact R45.cpy_yes as_ as_ as_ as_ as_
end Go.Proofs.YtggobegaiijhhaaGreatDoor
