/- C45z, C45y2 in one text. -/
import Derived.Test.YtggobegaiijhhaaGreatDoorC45u
set_option linter.unusedVariables false
set_option linter.unusedSimpArgs false
set_option maxRecDepth 20000
namespace Go.Proofs.YtggobegaiijhhaaGreatDoor
open Go.GV Go.Proofs.Tryz Ty
open Go.GV.Ent (blk row mp)
theorem c45z0_ {p:Prop} (h:p:=by first | exact fun h=>absurd h.1 as_ | exact fun h=>absurd h.2.1 as_ | exact fun h=>R45.ff h.2.2.1 as_ as_ | exact R45.srt_noP as_ as_ | exact R45.srt_no as_ as_):p:=h
theorem c45z1_ {p:Prop} (h:p:=by first | omega | (simp only [List.length_append,List.length_cons,List.length_nil];omega) | (simp;omega) | (simp_all;omega)):p:=h
set_option maxHeartbeats 1000000 in
theorem perf_sort (x:Nat) (s:Nat) (parm:Bytes) (m:Nat) (rows:List SRow) (rowsA:OA_) (rowsC:Nat) (calls:Nat) (l:List Binding) (lA:OA_) (lC:Nat) (w:World) (rowsR:RO [x,m,s] w rowsA (rows.flatMap SRow.enc)) (lR:RO [x,m,s] w lA (l.flatMap Binding.enc)) (lN:Kp [x,m,s] w (okL Binding.ok l)) (hT:Tab [x,m,s] w) (q0:rows.length≤1000) (q1:calls≤890000) (q2:R45.Dist rows) (q3:∀ x∈rows,x.Key.length≤1000000) (q4:∀ x∈rows,x.Record.length≤1000000) (q5:parm.length≤1000) (q6:l.length≤1000) (q7:∀ i,(l.getD i default).Lines.length≤1000) (q8:∀ i j,((l.getD i default).Lines.getD j []).length≤1000000) (hg:Give [x,m,s] w [x0_ x s parm m,mp vS m ([]:List (Bytes × Value)),sH_ s rowsA rows.length rowsC calls]):Calls prog 27 #[pB x 0,vS [115,111,114,116],vL lA l.length lC] w (GivesE [x,m,s] w (fun v L=>∃ cd:Int,∃ ch:List Change,∃ chA:OA_,∃ chC:Nat,∃ ln:LB_,∃ lnA:OA_,∃ lnC:Nat,v=Value.tuple #[]∧L=[xE_ x s parm m [vI cd,vB false,vL chA ch.length chC,vL lnA ln.length lnC],row (.slice chA ch.length chC) 60 5 ch.length (ch.flatMap Change.enc),row (.slice lnA ln.length lnC) 9 1 ln.length (ln.map vS)]∧(R45.SrtR rows parm l cd ch)) (fun c L=>∃ line:Bytes,c=R45.pan line∧L=[]∧(¬ R45.SrtOk rows parm l))):=by
 refine calls_JE [x,m,s] 110 func27 rfl ntmps27 [(0,_),(1,_),(2,_)] rfl rfl hg ?_
 refine q_ (g_ ?_)
 refine c1 (cl_ ca32) (fun w hS=>f32_ok w) ?_
 rintro _ _ ⟨pm1,tb2,rfl,rfl⟩
 refine s_ mv_ ?_
 refine JO_read (Value.tuple #[(fN_ 70),vB true]) rfl trivial (x_lookup_ok 0 (f:=vS) (k:=[115,111,114,116]) rfl rfl rfl underlying89 (mapK_s underlying9) ze90 (lk_ne dd_ (lk_ne dd_ (lk_ne dd_ (lk_ne dd_ (lk_ne dd_ (lk_ne dd_ (lk_ne dd_ (lk_ne dd_ (lk_ne dd_ (lk_ne dd_ (lk_hit dd_)))))))))))) ?_
 refine s_ mv_ (s_ (ex_ 0) (s_ (ex_ 1) (s_ av_ (s_ av_ (z_ (n_ (q_ ?_)))))))
 refine J_less (L':=[blk tb2 94 [(fN_ 43)],x0_ x s parm m,mp vS m ([]:List (Bytes × Value)),sH_ s rowsA rows.length rowsC calls]) (fun _ h=>h.keep [F_,T_,T_,T_,T_] rfl) ?_
 refine g_ (s_ mv_ ?_)
 refine JO_callP [] [] [blk tb2 94 [(fN_ 43)],x0_ x s parm m,mp vS m ([]:List (Bytes × Value)),sH_ s rowsA rows.length rowsC calls] rfl trivial (fun _=>x_call ca33 rfl) i_ (fun _ h=>by cases h) (fun w hS=>f33_ok true [110,111,32,112,114,111,103,114,97,109] w) ?_ ?_
 ·rintro _ _ ⟨rfl,rfl,hp3⟩
  exact absurd hp3 dd_
 rintro _ _ ⟨rfl,rfl,hf4⟩
 refine z_ (n_ (q_ (g_ (s_ mv_ ?_))))
 refine c1 (x_callv (first:=[]) (caps:=[]) rfl ca70 rfl) (fun w hS=>f70_ok w) ?_
 rintro _ _ ⟨nb5,tf6,tp7,rfl,rfl⟩
 refine o_ (al_ ze97 fun b8=>?_)
 refine o_ (stG 0 sz97 ?_)
 refine z_ (n_ (q_ (q_ (g_ (s_ (fA 0 fi97_0) (r_ (ld_ 0 sc25) (s_ (lnS underlying25) (s_ mv_ (z_ (n_ (k_ ?_)))))))))))
 refine J_unroll 3 ?_
 refine JR_one ?_
 refine q_ (g_ (jr_ (vB true) (z_ (n_ (q_ (ift (sk_ (n_ (q_ (k_ (q_ (g_ (s_ (x_indexAddr_sl (k:=0) underlying25 sz9 rfl rfl lt_ rfl) (r_ (ld_ 1 sc9) (o_ (al_ ze9 fun b9=>?_))))))))))))))))
 refine o_ (st1 0 sz9 ?_)
 refine z_ (n_ (q_ (g_ (s_ mv_ (js_ ((fC_ 35 b9)) (x_makeFunc rfl rfl) ?_)))))
 refine JO_call [b9] [blk b9 9 [vS [73,78]]] [blk b8 97 [vL (some ⟨nb5,0,none⟩) 2 2,Value.func (.func 104) #[] #[pB tf6 0,pB tp7 0],Value.func (.func 107) #[] #[pB tp7 0,pB tf6 0]],blk nb5 9 [vS [73,78],vS [79,85,84]],blk tf6 138 [vL none 0 0],blk tp7 145 [vI 16,vI 4],blk tb2 94 [(fN_ 43)],x0_ x s parm m,mp vS m ([]:List (Bytes × Value)),sH_ s rowsA rows.length rowsC calls] rfl trivial (fun _=>x_call ca34 rfl) i_ (own_mem rfl) (fun w hS=>f34_ok l lA lC b9 [73,78] w (lR.on hS (own_mem rfl)) hy_ hy_ (hS.give (own_in rfl))) ?_
 rintro _ _ ⟨rfl,rfl⟩
 have ha10:=R45.findI_bd [73,78] l
 try simp only [List.length_cons,List.length_nil,Nat.zero_add,Nat.reduceAdd,Nat.reduceMul] at ha10
 refine s_ av_ (z_ (n_ (q_ (g_ (s_ mv_ (s_ (x_geq_i rfl rfl) (r_ (ld_ 0 sc9) (js_ (vS ([110,111,32,100,100,32]++[73,78])) (x_cat_s rfl rfl c45z1_) ?_))))))))
 refine JO_callP [] [] [blk b9 9 [vS [73,78]],blk b8 97 [vL (some ⟨nb5,0,none⟩) 2 2,Value.func (.func 104) #[] #[pB tf6 0,pB tp7 0],Value.func (.func 107) #[] #[pB tp7 0,pB tf6 0]],blk nb5 9 [vS [73,78],vS [79,85,84]],blk tf6 138 [vL none 0 0],blk tp7 145 [vI 16,vI 4],blk tb2 94 [(fN_ 43)],x0_ x s parm m,mp vS m ([]:List (Bytes × Value)),sH_ s rowsA rows.length rowsC calls] rfl trivial (fun _=>x_call ca33 rfl) i_ (fun _ h=>by cases h) (fun w hS=>f33_ok _ ([110,111,32,100,100,32]++[73,78]) w) ?_ ?_
 ·rintro _ _ ⟨rfl,rfl,hp11⟩
  have hp11:=of_ hp11
  refine JX_then_pan (JX_block_pan (JX_then_pan (JX_then_pan (JX_block_pan (JX_then_pan ?_)))))
  refine JX_pan [] (fun _ h=>h.keep [F_,F_,F_,F_,F_,F_,F_,F_,F_] rfl) (fun _ _ h=>h) ⟨([110,111,32,100,100,32]++[73,78]),rfl,?_,?_⟩
  ·rfl
  ·exact c45z0_
 rintro _ _ ⟨rfl,rfl,hf12⟩
 have hf12:=ot_ hf12
 refine z_ (n_ ?_)
 refine drU [] [9] 10 mixed ?_
 refine jp_ 0 rfl mv_ (jp_ 1 rfl (x_nilCheck rfl) (jp_ 2 rfl (fA 2 fi82_2) ?_))
 refine je_ 3 (Value.map (some m)) rfl (x_load 6 rfl rfl sc80 rfl) ?_
 refine je_ 4 (vS [73,78]) rfl (x_load 0 rfl rfl sc9 rfl) ?_
 refine jp_ 5 rfl mv_ (jp_ 6 rfl mv_ (jq_ 7 rfl (ixF (k:=(R45.findI [73,78] l).toNat) (hy:=(ix_nat rfl om_)) Binding.enc_len (cells_ro lR) underlying36 sz33) (jq_ 8 rfl (ldFN Binding.enc_len (cells_ro lR) ag33 sz33) (j1_ 9 ?_ (fun _ h=>⟨h.keep [F_,F_,F_,F_,F_,F_,F_,F_,F_] rfl,fun _=>h⟩)))))
 refine jio_ rfl (O_mapUpdate 7 (f:=vS) (k:=[73,78]) [([73,78],vG (bD_ l [73,78]))] [blk b9 9 [vS [73,78]],blk b8 97 [vL (some ⟨nb5,0,none⟩) 2 2,Value.func (.func 104) #[] #[pB tf6 0,pB tp7 0],Value.func (.func 107) #[] #[pB tp7 0,pB tf6 0]],blk nb5 9 [vS [73,78],vS [79,85,84]],blk tf6 138 [vL none 0 0],blk tp7 145 [vI 16,vI 4],blk tb2 94 [(fN_ 43)],x0_ x s parm m,mp vS m [([73,78],vG (bD_ l [73,78]))],sH_ s rowsA rows.length rowsC calls] rfl rfl rfl rfl underlying80 (mapK_s underlying9) rfl rfl ?_)
 refine JA_done kf_ (gl_ rfl (fun _ h=>h.keep [F_,F_,F_,F_,F_,F_,F_,F_,F_] rfl)) ?_
 refine kx_ (n_ (g_ (jr_ (vI 1) (s_ mv_ (z_ (JX_again ?_))))))
 refine JR_one ?_
 refine q_ (g_ (jr_ (vB true) (z_ (n_ (q_ (ift (sk_ (n_ (q_ (k_ (q_ (g_ (s_ (x_indexAddr_sl (k:=1) underlying25 sz9 rfl rfl lt_ rfl) (r_ (ld_ 2 sc9) (o_ (al_ ze9 fun b13=>?_))))))))))))))))
 refine o_ (st1 0 sz9 ?_)
 refine z_ (n_ (q_ (g_ (s_ mv_ (js_ ((fC_ 35 b13)) (x_makeFunc rfl rfl) ?_)))))
 refine JO_call [b13] [blk b13 9 [vS [79,85,84]]] [blk b9 9 [vS [73,78]],blk b8 97 [vL (some ⟨nb5,0,none⟩) 2 2,Value.func (.func 104) #[] #[pB tf6 0,pB tp7 0],Value.func (.func 107) #[] #[pB tp7 0,pB tf6 0]],blk nb5 9 [vS [73,78],vS [79,85,84]],blk tf6 138 [vL none 0 0],blk tp7 145 [vI 16,vI 4],blk tb2 94 [(fN_ 43)],x0_ x s parm m,mp vS m [([73,78],vG (bD_ l [73,78]))],sH_ s rowsA rows.length rowsC calls] rfl trivial (fun _=>x_call ca34 rfl) i_ (own_mem rfl) (fun w hS=>f34_ok l lA lC b13 [79,85,84] w (lR.on hS (own_mem rfl)) hy_ hy_ (hS.give (own_in rfl))) ?_
 rintro _ _ ⟨rfl,rfl⟩
 have ha14:=R45.findI_bd [79,85,84] l
 try simp only [List.length_cons,List.length_nil,Nat.zero_add,Nat.reduceAdd,Nat.reduceMul] at ha14
 refine s_ av_ (z_ (n_ (q_ (g_ (s_ mv_ (s_ (x_geq_i rfl rfl) (r_ (ld_ 0 sc9) (js_ (vS ([110,111,32,100,100,32]++[79,85,84])) (x_cat_s rfl rfl c45z1_) ?_))))))))
 refine JO_callP [] [] [blk b13 9 [vS [79,85,84]],blk b9 9 [vS [73,78]],blk b8 97 [vL (some ⟨nb5,0,none⟩) 2 2,Value.func (.func 104) #[] #[pB tf6 0,pB tp7 0],Value.func (.func 107) #[] #[pB tp7 0,pB tf6 0]],blk nb5 9 [vS [73,78],vS [79,85,84]],blk tf6 138 [vL none 0 0],blk tp7 145 [vI 16,vI 4],blk tb2 94 [(fN_ 43)],x0_ x s parm m,mp vS m [([73,78],vG (bD_ l [73,78]))],sH_ s rowsA rows.length rowsC calls] rfl trivial (fun _=>x_call ca33 rfl) i_ (fun _ h=>by cases h) (fun w hS=>f33_ok _ ([110,111,32,100,100,32]++[79,85,84]) w) ?_ ?_
 ·rintro _ _ ⟨rfl,rfl,hp15⟩
  have hp15:=of_ hp15
  refine JX_then_pan (JX_block_pan (JX_then_pan (JX_then_pan (JX_block_pan (JX_then_pan ?_)))))
  refine JX_pan [] (fun _ h=>h.keep [F_,F_,F_,F_,F_,F_,F_,F_,F_,F_] rfl) (fun _ _ h=>h) ⟨([110,111,32,100,100,32]++[79,85,84]),rfl,?_,?_⟩
  ·rfl
  ·exact c45z0_
 rintro _ _ ⟨rfl,rfl,hf16⟩
 have hf16:=ot_ hf16
 refine z_ (n_ ?_)
 refine drU [] [9] 10 mixed ?_
 refine jp_ 0 rfl mv_ (jp_ 1 rfl (x_nilCheck rfl) (jp_ 2 rfl (fA 2 fi82_2) ?_))
 refine je_ 3 (Value.map (some m)) rfl (x_load 7 rfl rfl sc80 rfl) ?_
 refine je_ 4 (vS [79,85,84]) rfl (x_load 0 rfl rfl sc9 rfl) ?_
 refine jp_ 5 rfl mv_ (jp_ 6 rfl mv_ (jq_ 7 rfl (ixF (k:=(R45.findI [79,85,84] l).toNat) (hy:=(ix_nat rfl om_)) Binding.enc_len (cells_ro lR) underlying36 sz33) (jq_ 8 rfl (ldFN Binding.enc_len (cells_ro lR) ag33 sz33) (j1_ 9 ?_ (fun _ h=>⟨h.keep [F_,F_,F_,F_,F_,F_,F_,F_,F_,F_] rfl,fun _=>h⟩)))))
 refine jio_ rfl (O_mapUpdate 8 (f:=vS) (k:=[79,85,84]) [([73,78],vG (bD_ l [73,78])),([79,85,84],vG (bD_ l [79,85,84]))] [blk b13 9 [vS [79,85,84]],blk b9 9 [vS [73,78]],blk b8 97 [vL (some ⟨nb5,0,none⟩) 2 2,Value.func (.func 104) #[] #[pB tf6 0,pB tp7 0],Value.func (.func 107) #[] #[pB tp7 0,pB tf6 0]],blk nb5 9 [vS [73,78],vS [79,85,84]],blk tf6 138 [vL none 0 0],blk tp7 145 [vI 16,vI 4],blk tb2 94 [(fN_ 43)],x0_ x s parm m,mp vS m [([73,78],vG (bD_ l [73,78])),([79,85,84],vG (bD_ l [79,85,84]))],sH_ s rowsA rows.length rowsC calls] rfl rfl rfl rfl underlying80 (mapK_s underlying9) rfl rfl ?_)
 refine JA_done kf_ (gl_ rfl (fun _ h=>h.keep [F_,F_,F_,F_,F_,F_,F_,F_,F_,F_] rfl)) ?_
 refine kx_ (n_ (g_ (jr_ (vI 2) (s_ mv_ (z_ (JX_again ?_))))))
 refine JR_one ?_
 refine q_ (g_ (jr_ (vB false) (z_ (n_ (q_ (iff_ (J_exit (ne_ (ne_ (kh_ (n_ (q_ (q_ ?_)))))))))))))
 refine J_less (L':=[blk b8 97 [vL (some ⟨nb5,0,none⟩) 2 2,Value.func (.func 104) #[] #[pB tf6 0,pB tp7 0],Value.func (.func 107) #[] #[pB tp7 0,pB tf6 0]],blk nb5 9 [vS [73,78],vS [79,85,84]],blk tf6 138 [vL none 0 0],blk tp7 145 [vI 16,vI 4],x0_ x s parm m,mp vS m [([73,78],vG (bD_ l [73,78])),([79,85,84],vG (bD_ l [79,85,84]))],sH_ s rowsA rows.length rowsC calls]) (fun _ h=>h.keep [F_,F_,T_,T_,T_,T_,F_,T_,T_,T_] rfl) ?_
 refine g_ (s_ mv_ (s_ (x_nilCheck rfl) (s_ (fA 2 fi82_2) (r_ (ld_ 4 sc80) ?_))))
 refine JO_read (Value.tuple #[vG (bD_ l [79,85,84]),vB true]) rfl trivial (x_lookup_ok 5 (f:=vS) (k:=[79,85,84]) rfl rfl rfl underlying80 (mapK_s underlying9) ze33 (lk_ne dd_ (lk_hit dd_))) ?_
 refine s_ mv_ (s_ (ex_ 0) (s_ (ex_ 1) (o_ (al_ ze33 fun b17=>?_))))
 refine o_ (stG 0 sz33 ?_)
 refine s_ av_ (z_ (xk_ [0,1,8,12,13] ?_))
 refine n_ (q_ (g_ (s_ mv_ (z_ (n_ (ift (g_ (s_ mv_ (r_ (ldN 0 (bD_ l [79,85,84]) ag33 sz33) ?_)))))))))
 refine c1 (cl_ ca36) (fun w hS=>f36_ok [115,111,114,116] _ w) ?_
 rintro _ _ ⟨z18,rfl,rfl,hf19⟩
 refine JO_callP [] [] [blk b17 33 (bD_ l [79,85,84]),blk b8 97 [vL (some ⟨nb5,0,none⟩) 2 2,Value.func (.func 104) #[] #[pB tf6 0,pB tp7 0],Value.func (.func 107) #[] #[pB tp7 0,pB tf6 0]],blk nb5 9 [vS [73,78],vS [79,85,84]],blk tf6 138 [vL none 0 0],blk tp7 145 [vI 16,vI 4],x0_ x s parm m,mp vS m [([73,78],vG (bD_ l [73,78])),([79,85,84],vG (bD_ l [79,85,84]))],sH_ s rowsA rows.length rowsC calls] rfl trivial (fun _=>x_call ca33 rfl) i_ (fun _ h=>by cases h) (fun w hS=>f33_ok z18 [100,100,32,79,85,84,32,99,97,110,110,111,116,32,98,101,32,119,114,105,116,116,101,110] w) ?_ ?_
 ·rintro _ _ ⟨rfl,rfl,hp20⟩
  refine JX_then_pan ?_
  refine JX_pan [] (fun _ h=>h.keep [F_,F_,F_,F_,F_,F_,F_,F_] rfl) (fun _ _ h=>h) ⟨[100,100,32,79,85,84,32,99,97,110,110,111,116,32,98,101,32,119,114,105,116,116,101,110],rfl,?_,?_⟩
  ·rfl
  ·exact c45z0_
 rintro _ _ ⟨rfl,rfl,hf21⟩
 refine z_ (n_ (q_ ?_))
 refine J_less (L':=[blk b8 97 [vL (some ⟨nb5,0,none⟩) 2 2,Value.func (.func 104) #[] #[pB tf6 0,pB tp7 0],Value.func (.func 107) #[] #[pB tp7 0,pB tf6 0]],blk nb5 9 [vS [73,78],vS [79,85,84]],blk tf6 138 [vL none 0 0],blk tp7 145 [vI 16,vI 4],x0_ x s parm m,mp vS m [([73,78],vG (bD_ l [73,78])),([79,85,84],vG (bD_ l [79,85,84]))],sH_ s rowsA rows.length rowsC calls]) (fun _ h=>h.keep [F_,T_,T_,T_,T_,T_,T_,T_] rfl) ?_
 refine g_ (s_ (fA 1 fi97_1) (r_ (ld_ 0 sc94) (s_ mv_ ?_)))
 refine JO_call [x,tf6,tp7] [x0_ x s parm m,blk tf6 138 [vL none 0 0],blk tp7 145 [vI 16,vI 4]] [blk b8 97 [vL (some ⟨nb5,0,none⟩) 2 2,Value.func (.func 104) #[] #[pB tf6 0,pB tp7 0],Value.func (.func 107) #[] #[pB tp7 0,pB tf6 0]],blk nb5 9 [vS [73,78],vS [79,85,84]],mp vS m [([73,78],vG (bD_ l [73,78])),([79,85,84],vG (bD_ l [79,85,84]))],sH_ s rowsA rows.length rowsC calls] rfl trivial (fun _=>x_callv (first:=[]) (caps:=[pB tf6 0,pB tp7 0]) rfl ca104 rfl) (fun _ h=>(((((((h.front 6 _ rfl).front 6 _ rfl).front 3 _ rfl).front 3 _ rfl).front 5 _ rfl).front 5 _ rfl).front 6 _ rfl).keep [T_,T_,T_,T_,T_,T_,T_] rfl) (own_mem rfl) (fun w hS=>f104_ok x s parm m tf6 tp7 w (hT.on hS (own_mem rfl)) hy_ (hS.give (own_in rfl))) ?_
 rintro _ _ ⟨fl22,flA23,flC24,ok25,mem26,fan27,rfl,rfl,hf28⟩
 refine JO_callP [] [] [x0_ x s parm m,blk tf6 138 [vL flA23 fl22.length flC24],row (.slice flA23 fl22.length flC24) 179 4 fl22.length (fl22.flatMap SortField.enc),blk tp7 145 [vI mem26,vI fan27],blk b8 97 [vL (some ⟨nb5,0,none⟩) 2 2,Value.func (.func 104) #[] #[pB tf6 0,pB tp7 0],Value.func (.func 107) #[] #[pB tp7 0,pB tf6 0]],blk nb5 9 [vS [73,78],vS [79,85,84]],mp vS m [([73,78],vG (bD_ l [73,78])),([79,85,84],vG (bD_ l [79,85,84]))],sH_ s rowsA rows.length rowsC calls] rfl trivial (fun _=>x_call ca33 rfl) i_ (fun _ h=>by cases h) (fun w hS=>f33_ok ok25 [119,114,111,110,103,32,112,97,114,97,109,101,116,101,114] w) ?_ ?_
 ·rintro _ _ ⟨rfl,rfl,hp29⟩
  refine JX_then_pan ?_
  refine JX_pan [] (fun _ h=>h.keep [F_,F_,F_,F_,F_,F_,F_,F_] rfl) (fun _ _ h=>h) ⟨[119,114,111,110,103,32,112,97,114,97,109,101,116,101,114],rfl,?_,?_⟩
  ·rfl
  ·exact c45z0_
 rintro _ _ ⟨rfl,rfl,hf30⟩
 refine z_ (n_ (q_ (g_ (s_ av_ (z_ (n_ (q_ (q_ (g_ (s_ (fA 0 fi97_0) (r_ (ld_ 4 sc25) (s_ (lnS underlying25) (s_ mv_ (z_ (n_ (k_ ?_))))))))))))))))
 refine J_unroll 3 ?_
 refine JR_one ?_
 refine q_ (g_ (jr_ (vB true) (z_ (n_ (q_ (ift (sk_ (n_ (q_ (k_ (q_ (g_ (s_ (x_indexAddr_sl (k:=0) underlying25 sz9 rfl rfl lt_ rfl) (r_ (ld_ 5 sc9) (s_ av_ (z_ (n_ (q_ (q_ (g_ (s_ mv_ (js_ (vB false) (x_eql_s (a:=([73,78]:Bytes)) (b:=([79,85,84]:Bytes)) rfl rfl) ?_))))))))))))))))))))))
 refine z_ (n_ (iff_ (sk_ (n_ (q_ ?_)))))
 refine drU [] [10] 16 mixed ?_
 refine jp_ 0 rfl mv_ (jp_ 1 rfl (x_nilCheck rfl) (jp_ 2 rfl (fA 0 fi82_0) ?_))
 refine je_ 3 (Value.iface 41 (pB s 0)) rfl (x_load 0 rfl rfl sc71 rfl) ?_
 refine jp_ 4 rfl mv_ (jp_ 5 rfl (x_nilCheck rfl) (jp_ 6 rfl (fA 2 fi82_2) ?_))
 refine jE_ 7 (Value.map (some m)) rfl (x_load 0 rfl rfl sc80 rfl) ?_
 refine jp_ 8 rfl mv_ ?_
 refine je_ 9 (vG (bD_ l [73,78])) rfl (x_lookup 6 (f:=vS) (k:=[73,78]) rfl rfl rfl underlying80 (mapK_s underlying9) ze33 (lk_hit dd_)) ?_
 refine j1_ 10 ?_ (fun _ h=>⟨h.keep [F_,F_,F_,F_,F_,F_,F_,F_] rfl,fun _=>h⟩)
 refine JI_call [s] [sH_ s rowsA rows.length rowsC calls] [x0_ x s parm m,blk tf6 138 [vL flA23 fl22.length flC24],row (.slice flA23 fl22.length flC24) 179 4 fl22.length (fl22.flatMap SortField.enc),blk tp7 145 [vI mem26,vI fan27],blk b8 97 [vL (some ⟨nb5,0,none⟩) 2 2,Value.func (.func 104) #[] #[pB tf6 0,pB tp7 0],Value.func (.func 107) #[] #[pB tp7 0,pB tf6 0]],blk nb5 9 [vS [73,78],vS [79,85,84]],mp vS m [([73,78],vG (bD_ l [73,78])),([79,85,84],vG (bD_ l [79,85,84]))]] rfl rfl trivial (fun _=>x_call ca11 rfl) (fun _ h=>((((((((h.front 6 _ rfl).front 6 _ rfl).front 6 _ rfl).front 6 _ rfl).front 6 _ rfl).front 6 _ rfl).front 6 _ rfl).front 7 _ rfl).keep [T_,T_,T_,T_,T_,T_,T_,T_] rfl) (own_mem rfl) (fun w hS=>f11_ok s rows rowsA rowsC calls (l.getD ((R45.findI [73,78] l).toNat) default) w (rowsR.on hS (own_mem rfl)) (okL_at (lN.on hS (own_mem rfl)) _) hy_ hy_ hy_ (by exact q7 _) (hS.give (own_in rfl))) ?_
 rintro _ _ ⟨out31,outA32,outC33,e34,rfl,rfl,hf35,hf36⟩
 have ha37:=R45.rec_len out31 as_ q0 (q7 _)
 have ha38:=R45.rec_each out31 as_ q4 (q8 _)
 refine jp_ 11 rfl mv_ (jp_ 12 rfl (ex_ 0) (jp_ 13 rfl (ex_ 1) (jp_ 14 rfl av_ (jp_ 15 rfl av_ ?_))))
 refine JA_done kf_ (gl_ rfl (fun _ h=>h.keep [F_,F_,F_,F_,F_,F_,F_,F_,F_] rfl)) ?_
 refine n_ (q_ (g_ (s_ mv_ (jr_ (vB true) ?_))))
 refine JO_callP [] [] [sH_ s rowsA rows.length rowsC e34,row (.slice outA32 out31.length outC33) 9 1 out31.length (out31.map vS),x0_ x s parm m,blk tf6 138 [vL flA23 fl22.length flC24],row (.slice flA23 fl22.length flC24) 179 4 fl22.length (fl22.flatMap SortField.enc),blk tp7 145 [vI mem26,vI fan27],blk b8 97 [vL (some ⟨nb5,0,none⟩) 2 2,Value.func (.func 104) #[] #[pB tf6 0,pB tp7 0],Value.func (.func 107) #[] #[pB tp7 0,pB tf6 0]],blk nb5 9 [vS [73,78],vS [79,85,84]],mp vS m [([73,78],vG (bD_ l [73,78])),([79,85,84],vG (bD_ l [79,85,84]))]] rfl trivial (fun _=>x_call ca33 rfl) i_ (fun _ h=>by cases h) (fun w hS=>f33_ok true [116,111,111,32,109,97,110,121,32,114,101,99,111,114,100,115] w) ?_ ?_
 ·rintro _ _ ⟨rfl,rfl,hp39⟩
  exact absurd hp39 dd_
 rintro _ _ ⟨rfl,rfl,hf40⟩
 refine z_ (n_ (q_ (g_ (s_ mv_ (c0 (cl_ ca37) (fun w hS=>f37_ok 0 w hy_) (z_ (n_ (g_ (s_ mv_ (s_ mv_ (o_ (O_buildSlice (cs:=[vL outA32 out31.length outC33]) underlying102 sz25 ze25 dd_ dd_ kf_ fun b41=>?_))))))))))))
 refine JO_weaken (E':=[(0,pB x 0),(8,pB b8 0),(14,vL none (([]:List Rw).length) 0),(73,vL (some ⟨nb5,0,none⟩) 2 2),(74,vI 2),(75,vI 0),(76,vB true),(77,pB nb5 0),(78,vS [73,78]),(16,vS [73,78]),(79,vS [73,78]),(80,vB false),(82,pB x 0),(83,pB x 0),(84,pB x 0),(85,Value.iface 41 (pB s 0)),(86,pB x 0),(87,pB x 0),(88,pB x 2),(89,Value.map (some m)),(90,vS [73,78]),(91,vG (bD_ l [73,78])),(92,Value.tuple #[vL outA32 out31.length outC33,vI 0]),(81,Value.tuple #[vL outA32 out31.length outC33,vI 0]),(93,vL outA32 out31.length outC33),(94,vI 0),(17,vL outA32 out31.length outC33),(18,vI 0),(95,vI 0),(96,vB true),(97,Value.tuple #[]),(98,vI 0),(99,Value.tuple #[]),(100,vL none (([]:List Rw).length) 0),(101,vL outA32 out31.length outC33),(102,vL (some ⟨b41,0,none⟩) 1 1)]) (L':=[row (.slice none ([]:List Rw).length 0) 25 1 ([]:List Rw).length (([]:List Rw).flatMap Rw.enc),blk b41 25 [vL outA32 out31.length outC33],sH_ s rowsA rows.length rowsC e34,row (.slice outA32 out31.length outC33) 9 1 out31.length (out31.map vS),x0_ x s parm m,blk tf6 138 [vL flA23 fl22.length flC24],row (.slice flA23 fl22.length flC24) 179 4 fl22.length (fl22.flatMap SortField.enc),blk tp7 145 [vI mem26,vI fan27],blk b8 97 [vL (some ⟨nb5,0,none⟩) 2 2,Value.func (.func 104) #[] #[pB tf6 0,pB tp7 0],Value.func (.func 107) #[] #[pB tp7 0,pB tf6 0]],blk nb5 9 [vS [73,78],vS [79,85,84]],mp vS m [([73,78],vG (bD_ l [73,78])),([79,85,84],vG (bD_ l [79,85,84]))]]) se_ (fun _ h=>(((((((((((h.front 9 _ rfl).front 9 _ rfl).front 9 _ rfl).front 9 _ rfl).front 9 _ rfl).front 9 _ rfl).front 9 _ rfl).front 9 _ rfl).front 9 _ rfl).front 9 _ rfl).nilrow 25 1).keep [T_,T_,T_,T_,T_,T_,T_,T_,T_,T_,T_] rfl) ?_
 refine o_ (O_append_f 0 Rw.enc 1 ([]:List Rw) [(Rw.mk out31 outA32 outC33)] underlying102 sz25 by25 ze25 rfl dd_ rfl rfl rfl rfl Rw.enc_len Rw.enc_one (cells_blk 1 (off:=0) (m:=1) rfl rfl) lt_ lt_ fun A42 c43=>?_)
 refine s_ av_ (z_ (kx_ (n_ (g_ (jr_ (vI 1) (s_ mv_ (z_ (JX_again ?_))))))))
 refine JR_one ?_
 refine q_ (g_ (jr_ (vB true) (z_ (n_ (q_ (ift (sk_ (n_ (q_ (k_ (q_ (g_ (s_ (x_indexAddr_sl (k:=1) underlying25 sz9 rfl rfl lt_ rfl) (r_ (ld_ 9 sc9) (s_ av_ (z_ (n_ (q_ (q_ (g_ (s_ mv_ (js_ (vB true) (x_eql_s (a:=([79,85,84]:Bytes)) (b:=([79,85,84]:Bytes)) rfl rfl) ?_))))))))))))))))))))))
 refine z_ (n_ (ift (J_exit (ne_ (kh_ (n_ (g_ (jr_ (vI 2) (s_ mv_ (z_ (JX_again ?_)))))))))))
 refine JR_one ?_
 refine q_ (g_ (jr_ (vB false) (z_ (n_ (q_ (iff_ (J_exit (ne_ (ne_ (kh_ (n_ (g_ (s_ (fA 2 fi97_2) (r_ (ld_ 8 sc95) (s_ mv_ (s_ mv_ ?_))))))))))))))))
 refine JO_callP [x,m,s,tp7,tf6] [x0_ x s parm m,mp vS m ([([73,78],(l.getD ((R45.findI [73,78] l).toNat) default)),([79,85,84],(l.getD ((R45.findI [79,85,84] l).toNat) default))].map R45.bindE),sH_ s rowsA rows.length rowsC e34,blk tp7 145 [vI mem26,vI fan27],blk tf6 138 [vL flA23 fl22.length flC24]] [row (.slice A42 (([]:List Rw)++[(Rw.mk out31 outA32 outC33)]).length c43) 25 1 (([]:List Rw)++[(Rw.mk out31 outA32 outC33)]).length ((([]:List Rw)++[(Rw.mk out31 outA32 outC33)]).flatMap Rw.enc),blk b41 25 [vL outA32 out31.length outC33],row (.slice outA32 out31.length outC33) 9 1 out31.length (out31.map vS),row (.slice flA23 fl22.length flC24) 179 4 fl22.length (fl22.flatMap SortField.enc),blk b8 97 [vL (some ⟨nb5,0,none⟩) 2 2,Value.func (.func 104) #[] #[pB tf6 0,pB tp7 0],Value.func (.func 107) #[] #[pB tp7 0,pB tf6 0]],blk nb5 9 [vS [73,78],vS [79,85,84]]] rfl trivial (fun _=>x_callv (first:=[]) (caps:=[pB tp7 0,pB tf6 0]) rfl ca107 rfl) (fun _ h=>(((((((((((h.front 9 _ rfl).front 9 _ rfl).front 8 _ rfl).front 6 _ rfl).front 5 _ rfl).front 5 _ rfl).front 8 _ rfl).front 9 _ rfl).front 8 _ rfl).front 10 _ rfl).front 10 _ rfl).keep [T_,T_,T_,T_,T_,T_,T_,T_,T_,T_,T_] rfl) (own_mem rfl) (fun w hS=>f107_ok x s parm m rows rowsA rowsC e34 [([73,78],(l.getD ((R45.findI [73,78] l).toNat) default)),([79,85,84],(l.getD ((R45.findI [79,85,84] l).toNat) default))] (([]:List Rw)++[(Rw.mk out31 outA32 outC33)]) A42 c43 tp7 mem26 fan27 tf6 fl22 flA23 flC24 w (rowsR.on hS (own_mem rfl)) (RO.of_rowS hS (own_mem rfl) 0 rfl) (ronS ronN (RO.of_rowS hS (own_mem rfl) 2 rfl)) (RO.of_rowS hS (own_mem rfl) 3 rfl) (hT.on hS (own_mem rfl)) hy_ hy_ hy_ hy_ hy_ (by refine R45.rec_lenB _ ?_ dd_;assumption) as_ (by first | exact row_le (hS.mem (j:=0) rfl) | exact row_le (hS.mem (j:=1) rfl) | exact row_le (hS.mem (j:=2) rfl) | exact row_le (hS.mem (j:=3) rfl) | exact row_le (hS.mem (j:=4) rfl) | exact row_le (hS.mem (j:=5) rfl) | exact row_le (hS.mem (j:=6) rfl) | exact row_le (hS.mem (j:=7) rfl) | exact row_le (hS.mem (j:=8) rfl) | exact row_le (hS.mem (j:=9) rfl) | exact row_le (hS.mem (j:=10) rfl) | exact row_le (hS.mem (j:=11) rfl) | exact row_le (hS.mem (j:=12) rfl) | exact row_le (hS.mem (j:=13) rfl)) (by have:=(by assumption:R45.SrP _ _ _ _ _).2.2;omega) (hS.give (own_in rfl))) ?_ ?_
 ·rintro _ _ ⟨line44,rfl,rfl,hp45⟩
  refine JX_pan [] (fun _ h=>h.keep [F_,F_,F_,F_,F_,F_] rfl) (fun _ _ h=>h) ⟨line44,rfl,?_,?_⟩
  ·rfl
  ·exact c45z0_
 rintro _ _ ⟨ch46,chA47,chC48,ln49,lnA50,lnC51,rfl,rfl,hf52,hf53⟩
 refine z_ (JX_En ?_)
 refine JX_end0 results27 [xE_ x s parm m [vI 0,vB false,vL chA47 ch46.length chC48,vL lnA50 ln49.length lnC51],row (.slice chA47 ch46.length chC48) 60 5 ch46.length (ch46.flatMap Change.enc),row (.slice lnA50 ln49.length lnC51) 9 1 ln49.length (ln49.map vS)] (fun _ h=>h.keep [T_,F_,T_,T_,F_,F_,F_,F_,F_,F_] rfl) ⟨0,ch46,chA47,chC48,ln49,lnA50,lnC51,?_,?_,?_⟩
 ·rfl
 ·rfl
 ·exact R45.srt_yes as_ as_ as_ as_ as_
theorem c45y20_ {p:Prop} (h:p:=by first | exact fun h=>absurd h.1 as_ | exact fun h=>absurd h.2.1 as_ | exact fun h=>absurd h.2.2.1 as_ | exact fun h=>R45.ff h.2.2.2.1 as_ as_ | exact R45.mrg_noP as_ as_ | exact R45.mrg_no as_ as_ as_ as_ as_):p:=h
theorem c45y21_ {p:Prop} (h:p:=by first | omega | (simp only [List.length_append,List.length_cons,List.length_nil];omega) | (simp;omega) | (simp_all;omega)):p:=h
theorem c45y22_ {p:Prop} (h:p:=by first | exact row_le (hS.mem (j:=0) rfl) | exact row_le (hS.mem (j:=1) rfl) | exact row_le (hS.mem (j:=2) rfl) | exact row_le (hS.mem (j:=3) rfl) | exact row_le (hS.mem (j:=4) rfl) | exact row_le (hS.mem (j:=5) rfl) | exact row_le (hS.mem (j:=6) rfl) | exact row_le (hS.mem (j:=7) rfl) | exact row_le (hS.mem (j:=8) rfl) | exact row_le (hS.mem (j:=9) rfl) | exact row_le (hS.mem (j:=10) rfl) | exact row_le (hS.mem (j:=11) rfl) | exact row_le (hS.mem (j:=12) rfl) | exact row_le (hS.mem (j:=13) rfl)):p:=h
set_option maxHeartbeats 6000000 in
theorem perf_merge (x:Nat) (s:Nat) (parm:Bytes) (m:Nat) (rows:List SRow) (rowsA:OA_) (rowsC:Nat) (calls:Nat) (l:List Binding) (lA:OA_) (lC:Nat) (w:World) (rowsR:RO [x,m,s] w rowsA (rows.flatMap SRow.enc)) (lR:RO [x,m,s] w lA (l.flatMap Binding.enc)) (lN:Kp [x,m,s] w (okL Binding.ok l)) (hT:Tab [x,m,s] w) (q0:rows.length≤500) (q1:calls≤890000) (q2:R45.Dist rows) (q3:∀ x∈rows,x.Key.length≤1000000) (q4:∀ x∈rows,x.Record.length≤1000000) (q5:parm.length≤1000) (q6:l.length≤1000) (q7:∀ i,(l.getD i default).Lines.length≤500) (q8:∀ i j,((l.getD i default).Lines.getD j []).length≤1000000) (hg:Give [x,m,s] w [x0_ x s parm m,mp vS m ([]:List (Bytes × Value)),sH_ s rowsA rows.length rowsC calls]):Calls prog 27 #[pB x 0,vS [109,101,114,103,101],vL lA l.length lC] w (GivesE [x,m,s] w (fun v L=>∃ cd:Int,∃ ch:List Change,∃ chA:OA_,∃ chC:Nat,∃ ln:LB_,∃ lnA:OA_,∃ lnC:Nat,v=Value.tuple #[]∧L=[xE_ x s parm m [vI cd,vB false,vL chA ch.length chC,vL lnA ln.length lnC],row (.slice chA ch.length chC) 60 5 ch.length (ch.flatMap Change.enc),row (.slice lnA ln.length lnC) 9 1 ln.length (ln.map vS)]∧(R45.MrgR rows parm l cd ch)) (fun c L=>∃ line:Bytes,c=R45.pan line∧L=[]∧(¬ R45.MrgOk rows parm l))):=by
 refine calls_JE [x,m,s] 110 func27 rfl ntmps27 [(0,_),(1,_),(2,_)] rfl rfl hg ?_
 refine q_ (g_ ?_)
 refine c1 (cl_ ca32) (fun w hS=>f32_ok w) ?_
 rintro _ _ ⟨pm1,tb2,rfl,rfl⟩
 refine s_ mv_ ?_
 refine JO_read (Value.tuple #[(fN_ 65),vB true]) rfl trivial (x_lookup_ok 0 (f:=vS) (k:=[109,101,114,103,101]) rfl rfl rfl underlying89 (mapK_s underlying9) ze90 (lk_ne dd_ (lk_ne dd_ (lk_ne dd_ (lk_ne dd_ (lk_ne dd_ (lk_ne dd_ (lk_ne dd_ (lk_hit dd_))))))))) ?_
 refine s_ mv_ (s_ (ex_ 0) (s_ (ex_ 1) (s_ av_ (s_ av_ (z_ (n_ (q_ ?_)))))))
 refine J_less (L':=[blk tb2 94 [(fN_ 43)],x0_ x s parm m,mp vS m ([]:List (Bytes × Value)),sH_ s rowsA rows.length rowsC calls]) (fun _ h=>h.keep [F_,T_,T_,T_,T_] rfl) ?_
 refine g_ (s_ mv_ ?_)
 refine JO_callP [] [] [blk tb2 94 [(fN_ 43)],x0_ x s parm m,mp vS m ([]:List (Bytes × Value)),sH_ s rowsA rows.length rowsC calls] rfl trivial (fun _=>x_call ca33 rfl) i_ (fun _ h=>by cases h) (fun w hS=>f33_ok true [110,111,32,112,114,111,103,114,97,109] w) ?_ ?_
 ·rintro _ _ ⟨rfl,rfl,hp3⟩
  exact absurd hp3 dd_
 rintro _ _ ⟨rfl,rfl,hf4⟩
 refine z_ (n_ (q_ (g_ (s_ mv_ ?_))))
 refine c1 (x_callv (first:=[]) (caps:=[]) rfl ca65 rfl) (fun w hS=>f65_ok w) ?_
 rintro _ _ ⟨nb5,tf6,rfl,rfl⟩
 refine o_ (al_ ze97 fun b7=>?_)
 refine o_ (stG 0 sz97 ?_)
 refine z_ (n_ (q_ (q_ (g_ (s_ (fA 0 fi97_0) (r_ (ld_ 0 sc25) (s_ (lnS underlying25) (s_ mv_ (z_ (n_ (k_ ?_)))))))))))
 refine J_unroll 4 ?_
 refine JR_one ?_
 refine q_ (g_ (jr_ (vB true) (z_ (n_ (q_ (ift (sk_ (n_ (q_ (k_ (q_ (g_ (s_ (x_indexAddr_sl (k:=0) underlying25 sz9 rfl rfl lt_ rfl) (r_ (ld_ 1 sc9) (o_ (al_ ze9 fun b8=>?_))))))))))))))))
 refine o_ (st1 0 sz9 ?_)
 refine z_ (n_ (q_ (g_ (s_ mv_ (js_ ((fC_ 35 b8)) (x_makeFunc rfl rfl) ?_)))))
 refine JO_call [b8] [blk b8 9 [vS [73,78,49]]] [blk b7 97 [vL (some ⟨nb5,0,none⟩) 3 3,(fC_ 94 tf6),(fC_ 96 tf6)],blk nb5 9 [vS [73,78,49],vS [73,78,50],vS [79,85,84]],blk tf6 138 [vL none 0 0],blk tb2 94 [(fN_ 43)],x0_ x s parm m,mp vS m ([]:List (Bytes × Value)),sH_ s rowsA rows.length rowsC calls] rfl trivial (fun _=>x_call ca34 rfl) i_ (own_mem rfl) (fun w hS=>f34_ok l lA lC b8 [73,78,49] w (lR.on hS (own_mem rfl)) hy_ hy_ (hS.give (own_in rfl))) ?_
 rintro _ _ ⟨rfl,rfl⟩
 have ha9:=R45.findI_bd [73,78,49] l
 try simp only [List.length_cons,List.length_nil,Nat.zero_add,Nat.reduceAdd,Nat.reduceMul] at ha9
 refine s_ av_ (z_ (n_ (q_ (g_ (s_ mv_ (s_ (x_geq_i rfl rfl) (r_ (ld_ 0 sc9) (js_ (vS ([110,111,32,100,100,32]++[73,78,49])) (x_cat_s rfl rfl c45y21_) ?_))))))))
 refine JO_callP [] [] [blk b8 9 [vS [73,78,49]],blk b7 97 [vL (some ⟨nb5,0,none⟩) 3 3,(fC_ 94 tf6),(fC_ 96 tf6)],blk nb5 9 [vS [73,78,49],vS [73,78,50],vS [79,85,84]],blk tf6 138 [vL none 0 0],blk tb2 94 [(fN_ 43)],x0_ x s parm m,mp vS m ([]:List (Bytes × Value)),sH_ s rowsA rows.length rowsC calls] rfl trivial (fun _=>x_call ca33 rfl) i_ (fun _ h=>by cases h) (fun w hS=>f33_ok _ ([110,111,32,100,100,32]++[73,78,49]) w) ?_ ?_
 ·rintro _ _ ⟨rfl,rfl,hp10⟩
  have hp10:=of_ hp10
  refine JX_then_pan (JX_block_pan (JX_then_pan (JX_then_pan (JX_block_pan (JX_then_pan ?_)))))
  refine JX_pan [] (fun _ h=>h.keep [F_,F_,F_,F_,F_,F_,F_,F_] rfl) (fun _ _ h=>h) ⟨([110,111,32,100,100,32]++[73,78,49]),rfl,?_,?_⟩
  ·rfl
  ·exact c45y20_
 rintro _ _ ⟨rfl,rfl,hf11⟩
 have hf11:=ot_ hf11
 refine z_ (n_ ?_)
 refine drU [] [9] 10 mixed ?_
 refine jp_ 0 rfl mv_ (jp_ 1 rfl (x_nilCheck rfl) (jp_ 2 rfl (fA 2 fi82_2) ?_))
 refine je_ 3 (Value.map (some m)) rfl (x_load 5 rfl rfl sc80 rfl) ?_
 refine je_ 4 (vS [73,78,49]) rfl (x_load 0 rfl rfl sc9 rfl) ?_
 refine jp_ 5 rfl mv_ (jp_ 6 rfl mv_ (jq_ 7 rfl (ixF (k:=(R45.findI [73,78,49] l).toNat) (hy:=(ix_nat rfl om_)) Binding.enc_len (cells_ro lR) underlying36 sz33) (jq_ 8 rfl (ldFN Binding.enc_len (cells_ro lR) ag33 sz33) (j1_ 9 ?_ (fun _ h=>⟨h.keep [F_,F_,F_,F_,F_,F_,F_,F_] rfl,fun _=>h⟩)))))
 refine jio_ rfl (O_mapUpdate 6 (f:=vS) (k:=[73,78,49]) [([73,78,49],vG (bD_ l [73,78,49]))] [blk b8 9 [vS [73,78,49]],blk b7 97 [vL (some ⟨nb5,0,none⟩) 3 3,(fC_ 94 tf6),(fC_ 96 tf6)],blk nb5 9 [vS [73,78,49],vS [73,78,50],vS [79,85,84]],blk tf6 138 [vL none 0 0],blk tb2 94 [(fN_ 43)],x0_ x s parm m,mp vS m [([73,78,49],vG (bD_ l [73,78,49]))],sH_ s rowsA rows.length rowsC calls] rfl rfl rfl rfl underlying80 (mapK_s underlying9) rfl rfl ?_)
 refine JA_done kf_ (gl_ rfl (fun _ h=>h.keep [F_,F_,F_,F_,F_,F_,F_,F_] rfl)) ?_
 refine kx_ (n_ (g_ (jr_ (vI 1) (s_ mv_ (z_ (JX_again ?_))))))
 refine JR_one ?_
 refine q_ (g_ (jr_ (vB true) (z_ (n_ (q_ (ift (sk_ (n_ (q_ (k_ (q_ (g_ (s_ (x_indexAddr_sl (k:=1) underlying25 sz9 rfl rfl lt_ rfl) (r_ (ld_ 2 sc9) (o_ (al_ ze9 fun b12=>?_))))))))))))))))
 refine o_ (st1 0 sz9 ?_)
 refine z_ (n_ (q_ (g_ (s_ mv_ (js_ ((fC_ 35 b12)) (x_makeFunc rfl rfl) ?_)))))
 refine JO_call [b12] [blk b12 9 [vS [73,78,50]]] [blk b8 9 [vS [73,78,49]],blk b7 97 [vL (some ⟨nb5,0,none⟩) 3 3,(fC_ 94 tf6),(fC_ 96 tf6)],blk nb5 9 [vS [73,78,49],vS [73,78,50],vS [79,85,84]],blk tf6 138 [vL none 0 0],blk tb2 94 [(fN_ 43)],x0_ x s parm m,mp vS m [([73,78,49],vG (bD_ l [73,78,49]))],sH_ s rowsA rows.length rowsC calls] rfl trivial (fun _=>x_call ca34 rfl) i_ (own_mem rfl) (fun w hS=>f34_ok l lA lC b12 [73,78,50] w (lR.on hS (own_mem rfl)) hy_ hy_ (hS.give (own_in rfl))) ?_
 rintro _ _ ⟨rfl,rfl⟩
 have ha13:=R45.findI_bd [73,78,50] l
 try simp only [List.length_cons,List.length_nil,Nat.zero_add,Nat.reduceAdd,Nat.reduceMul] at ha13
 refine s_ av_ (z_ (n_ (q_ (g_ (s_ mv_ (s_ (x_geq_i rfl rfl) (r_ (ld_ 0 sc9) (js_ (vS ([110,111,32,100,100,32]++[73,78,50])) (x_cat_s rfl rfl c45y21_) ?_))))))))
 refine JO_callP [] [] [blk b12 9 [vS [73,78,50]],blk b8 9 [vS [73,78,49]],blk b7 97 [vL (some ⟨nb5,0,none⟩) 3 3,(fC_ 94 tf6),(fC_ 96 tf6)],blk nb5 9 [vS [73,78,49],vS [73,78,50],vS [79,85,84]],blk tf6 138 [vL none 0 0],blk tb2 94 [(fN_ 43)],x0_ x s parm m,mp vS m [([73,78,49],vG (bD_ l [73,78,49]))],sH_ s rowsA rows.length rowsC calls] rfl trivial (fun _=>x_call ca33 rfl) i_ (fun _ h=>by cases h) (fun w hS=>f33_ok _ ([110,111,32,100,100,32]++[73,78,50]) w) ?_ ?_
 ·rintro _ _ ⟨rfl,rfl,hp14⟩
  have hp14:=of_ hp14
  refine JX_then_pan (JX_block_pan (JX_then_pan (JX_then_pan (JX_block_pan (JX_then_pan ?_)))))
  refine JX_pan [] (fun _ h=>h.keep [F_,F_,F_,F_,F_,F_,F_,F_,F_] rfl) (fun _ _ h=>h) ⟨([110,111,32,100,100,32]++[73,78,50]),rfl,?_,?_⟩
  ·rfl
  ·exact c45y20_
 rintro _ _ ⟨rfl,rfl,hf15⟩
 have hf15:=ot_ hf15
 refine z_ (n_ ?_)
 refine drU [] [9] 10 mixed ?_
 refine jp_ 0 rfl mv_ (jp_ 1 rfl (x_nilCheck rfl) (jp_ 2 rfl (fA 2 fi82_2) ?_))
 refine je_ 3 (Value.map (some m)) rfl (x_load 6 rfl rfl sc80 rfl) ?_
 refine je_ 4 (vS [73,78,50]) rfl (x_load 0 rfl rfl sc9 rfl) ?_
 refine jp_ 5 rfl mv_ (jp_ 6 rfl mv_ (jq_ 7 rfl (ixF (k:=(R45.findI [73,78,50] l).toNat) (hy:=(ix_nat rfl om_)) Binding.enc_len (cells_ro lR) underlying36 sz33) (jq_ 8 rfl (ldFN Binding.enc_len (cells_ro lR) ag33 sz33) (j1_ 9 ?_ (fun _ h=>⟨h.keep [F_,F_,F_,F_,F_,F_,F_,F_,F_] rfl,fun _=>h⟩)))))
 refine jio_ rfl (O_mapUpdate 7 (f:=vS) (k:=[73,78,50]) [([73,78,49],vG (bD_ l [73,78,49])),([73,78,50],vG (bD_ l [73,78,50]))] [blk b12 9 [vS [73,78,50]],blk b8 9 [vS [73,78,49]],blk b7 97 [vL (some ⟨nb5,0,none⟩) 3 3,(fC_ 94 tf6),(fC_ 96 tf6)],blk nb5 9 [vS [73,78,49],vS [73,78,50],vS [79,85,84]],blk tf6 138 [vL none 0 0],blk tb2 94 [(fN_ 43)],x0_ x s parm m,mp vS m [([73,78,49],vG (bD_ l [73,78,49])),([73,78,50],vG (bD_ l [73,78,50]))],sH_ s rowsA rows.length rowsC calls] rfl rfl rfl rfl underlying80 (mapK_s underlying9) rfl rfl ?_)
 refine JA_done kf_ (gl_ rfl (fun _ h=>h.keep [F_,F_,F_,F_,F_,F_,F_,F_,F_] rfl)) ?_
 refine kx_ (n_ (g_ (jr_ (vI 2) (s_ mv_ (z_ (JX_again ?_))))))
 refine JR_one ?_
 refine q_ (g_ (jr_ (vB true) (z_ (n_ (q_ (ift (sk_ (n_ (q_ (k_ (q_ (g_ (s_ (x_indexAddr_sl (k:=2) underlying25 sz9 rfl rfl lt_ rfl) (r_ (ld_ 3 sc9) (o_ (al_ ze9 fun b16=>?_))))))))))))))))
 refine o_ (st1 0 sz9 ?_)
 refine z_ (n_ (q_ (g_ (s_ mv_ (js_ ((fC_ 35 b16)) (x_makeFunc rfl rfl) ?_)))))
 refine JO_call [b16] [blk b16 9 [vS [79,85,84]]] [blk b12 9 [vS [73,78,50]],blk b8 9 [vS [73,78,49]],blk b7 97 [vL (some ⟨nb5,0,none⟩) 3 3,(fC_ 94 tf6),(fC_ 96 tf6)],blk nb5 9 [vS [73,78,49],vS [73,78,50],vS [79,85,84]],blk tf6 138 [vL none 0 0],blk tb2 94 [(fN_ 43)],x0_ x s parm m,mp vS m [([73,78,49],vG (bD_ l [73,78,49])),([73,78,50],vG (bD_ l [73,78,50]))],sH_ s rowsA rows.length rowsC calls] rfl trivial (fun _=>x_call ca34 rfl) i_ (own_mem rfl) (fun w hS=>f34_ok l lA lC b16 [79,85,84] w (lR.on hS (own_mem rfl)) hy_ hy_ (hS.give (own_in rfl))) ?_
 rintro _ _ ⟨rfl,rfl⟩
 have ha17:=R45.findI_bd [79,85,84] l
 try simp only [List.length_cons,List.length_nil,Nat.zero_add,Nat.reduceAdd,Nat.reduceMul] at ha17
 refine s_ av_ (z_ (n_ (q_ (g_ (s_ mv_ (s_ (x_geq_i rfl rfl) (r_ (ld_ 0 sc9) (js_ (vS ([110,111,32,100,100,32]++[79,85,84])) (x_cat_s rfl rfl c45y21_) ?_))))))))
 refine JO_callP [] [] [blk b16 9 [vS [79,85,84]],blk b12 9 [vS [73,78,50]],blk b8 9 [vS [73,78,49]],blk b7 97 [vL (some ⟨nb5,0,none⟩) 3 3,(fC_ 94 tf6),(fC_ 96 tf6)],blk nb5 9 [vS [73,78,49],vS [73,78,50],vS [79,85,84]],blk tf6 138 [vL none 0 0],blk tb2 94 [(fN_ 43)],x0_ x s parm m,mp vS m [([73,78,49],vG (bD_ l [73,78,49])),([73,78,50],vG (bD_ l [73,78,50]))],sH_ s rowsA rows.length rowsC calls] rfl trivial (fun _=>x_call ca33 rfl) i_ (fun _ h=>by cases h) (fun w hS=>f33_ok _ ([110,111,32,100,100,32]++[79,85,84]) w) ?_ ?_
 ·rintro _ _ ⟨rfl,rfl,hp18⟩
  have hp18:=of_ hp18
  refine JX_then_pan (JX_block_pan (JX_then_pan (JX_then_pan (JX_block_pan (JX_then_pan ?_)))))
  refine JX_pan [] (fun _ h=>h.keep [F_,F_,F_,F_,F_,F_,F_,F_,F_,F_] rfl) (fun _ _ h=>h) ⟨([110,111,32,100,100,32]++[79,85,84]),rfl,?_,?_⟩
  ·rfl
  ·exact c45y20_
 rintro _ _ ⟨rfl,rfl,hf19⟩
 have hf19:=ot_ hf19
 refine z_ (n_ ?_)
 refine drU [] [9] 10 mixed ?_
 refine jp_ 0 rfl mv_ (jp_ 1 rfl (x_nilCheck rfl) (jp_ 2 rfl (fA 2 fi82_2) ?_))
 refine je_ 3 (Value.map (some m)) rfl (x_load 7 rfl rfl sc80 rfl) ?_
 refine je_ 4 (vS [79,85,84]) rfl (x_load 0 rfl rfl sc9 rfl) ?_
 refine jp_ 5 rfl mv_ (jp_ 6 rfl mv_ (jq_ 7 rfl (ixF (k:=(R45.findI [79,85,84] l).toNat) (hy:=(ix_nat rfl om_)) Binding.enc_len (cells_ro lR) underlying36 sz33) (jq_ 8 rfl (ldFN Binding.enc_len (cells_ro lR) ag33 sz33) (j1_ 9 ?_ (fun _ h=>⟨h.keep [F_,F_,F_,F_,F_,F_,F_,F_,F_,F_] rfl,fun _=>h⟩)))))
 refine jio_ rfl (O_mapUpdate 8 (f:=vS) (k:=[79,85,84]) [([73,78,49],vG (bD_ l [73,78,49])),([73,78,50],vG (bD_ l [73,78,50])),([79,85,84],vG (bD_ l [79,85,84]))] [blk b16 9 [vS [79,85,84]],blk b12 9 [vS [73,78,50]],blk b8 9 [vS [73,78,49]],blk b7 97 [vL (some ⟨nb5,0,none⟩) 3 3,(fC_ 94 tf6),(fC_ 96 tf6)],blk nb5 9 [vS [73,78,49],vS [73,78,50],vS [79,85,84]],blk tf6 138 [vL none 0 0],blk tb2 94 [(fN_ 43)],x0_ x s parm m,mp vS m [([73,78,49],vG (bD_ l [73,78,49])),([73,78,50],vG (bD_ l [73,78,50])),([79,85,84],vG (bD_ l [79,85,84]))],sH_ s rowsA rows.length rowsC calls] rfl rfl rfl rfl underlying80 (mapK_s underlying9) rfl rfl ?_)
 refine JA_done kf_ (gl_ rfl (fun _ h=>h.keep [F_,F_,F_,F_,F_,F_,F_,F_,F_,F_] rfl)) ?_
 refine kx_ (n_ (g_ (jr_ (vI 3) (s_ mv_ (z_ (JX_again ?_))))))
 refine JR_one ?_
 refine q_ (g_ (jr_ (vB false) (z_ (n_ (q_ (iff_ (J_exit (ne_ (ne_ (kh_ (n_ (q_ (q_ ?_)))))))))))))
 refine J_less (L':=[blk b7 97 [vL (some ⟨nb5,0,none⟩) 3 3,(fC_ 94 tf6),(fC_ 96 tf6)],blk nb5 9 [vS [73,78,49],vS [73,78,50],vS [79,85,84]],blk tf6 138 [vL none 0 0],x0_ x s parm m,mp vS m [([73,78,49],vG (bD_ l [73,78,49])),([73,78,50],vG (bD_ l [73,78,50])),([79,85,84],vG (bD_ l [79,85,84]))],sH_ s rowsA rows.length rowsC calls]) (fun _ h=>h.keep [F_,F_,F_,T_,T_,T_,F_,T_,T_,T_] rfl) ?_
 refine g_ (s_ mv_ (s_ (x_nilCheck rfl) (s_ (fA 2 fi82_2) (r_ (ld_ 3 sc80) ?_))))
 refine JO_read (Value.tuple #[vG (bD_ l [79,85,84]),vB true]) rfl trivial (x_lookup_ok 4 (f:=vS) (k:=[79,85,84]) rfl rfl rfl underlying80 (mapK_s underlying9) ze33 (lk_ne dd_ (lk_ne dd_ (lk_hit dd_)))) ?_
 refine s_ mv_ (s_ (ex_ 0) (s_ (ex_ 1) (o_ (al_ ze33 fun b20=>?_))))
 refine o_ (stG 0 sz33 ?_)
 refine s_ av_ (z_ (xk_ [0,1,8,12,13] ?_))
 refine n_ (q_ (g_ (s_ mv_ (z_ (n_ (ift (g_ (s_ mv_ (r_ (ldN 0 (bD_ l [79,85,84]) ag33 sz33) ?_)))))))))
 refine c1 (cl_ ca36) (fun w hS=>f36_ok [109,101,114,103,101] _ w) ?_
 rintro _ _ ⟨z21,rfl,rfl,hf22⟩
 refine JO_callP [] [] [blk b20 33 (bD_ l [79,85,84]),blk b7 97 [vL (some ⟨nb5,0,none⟩) 3 3,(fC_ 94 tf6),(fC_ 96 tf6)],blk nb5 9 [vS [73,78,49],vS [73,78,50],vS [79,85,84]],blk tf6 138 [vL none 0 0],x0_ x s parm m,mp vS m [([73,78,49],vG (bD_ l [73,78,49])),([73,78,50],vG (bD_ l [73,78,50])),([79,85,84],vG (bD_ l [79,85,84]))],sH_ s rowsA rows.length rowsC calls] rfl trivial (fun _=>x_call ca33 rfl) i_ (fun _ h=>by cases h) (fun w hS=>f33_ok z21 [100,100,32,79,85,84,32,99,97,110,110,111,116,32,98,101,32,119,114,105,116,116,101,110] w) ?_ ?_
 ·rintro _ _ ⟨rfl,rfl,hp23⟩
  refine JX_then_pan ?_
  refine JX_pan [] (fun _ h=>h.keep [F_,F_,F_,F_,F_,F_,F_] rfl) (fun _ _ h=>h) ⟨[100,100,32,79,85,84,32,99,97,110,110,111,116,32,98,101,32,119,114,105,116,116,101,110],rfl,?_,?_⟩
  ·rfl
  ·exact c45y20_
 rintro _ _ ⟨rfl,rfl,hf24⟩
 refine z_ (n_ (q_ ?_))
 refine J_less (L':=[blk b7 97 [vL (some ⟨nb5,0,none⟩) 3 3,(fC_ 94 tf6),(fC_ 96 tf6)],blk nb5 9 [vS [73,78,49],vS [73,78,50],vS [79,85,84]],blk tf6 138 [vL none 0 0],x0_ x s parm m,mp vS m [([73,78,49],vG (bD_ l [73,78,49])),([73,78,50],vG (bD_ l [73,78,50])),([79,85,84],vG (bD_ l [79,85,84]))],sH_ s rowsA rows.length rowsC calls]) (fun _ h=>h.keep [F_,T_,T_,T_,T_,T_,T_] rfl) ?_
 refine g_ (s_ (fA 1 fi97_1) (r_ (ld_ 0 sc94) (s_ mv_ ?_)))
 refine JO_call [x,tf6] [x0_ x s parm m,blk tf6 138 [vL none 0 0]] [blk b7 97 [vL (some ⟨nb5,0,none⟩) 3 3,(fC_ 94 tf6),(fC_ 96 tf6)],blk nb5 9 [vS [73,78,49],vS [73,78,50],vS [79,85,84]],mp vS m [([73,78,49],vG (bD_ l [73,78,49])),([73,78,50],vG (bD_ l [73,78,50])),([79,85,84],vG (bD_ l [79,85,84]))],sH_ s rowsA rows.length rowsC calls] rfl trivial (fun _=>x_callv (first:=[]) (caps:=[pB tf6 0]) rfl ca94 rfl) (fun _ h=>((((((h.front 5 _ rfl).front 5 _ rfl).front 3 _ rfl).front 3 _ rfl).front 4 _ rfl).front 5 _ rfl).keep [T_,T_,T_,T_,T_,T_] rfl) (own_mem rfl) (fun w hS=>f94_ok x s parm m tf6 w (hT.on hS (own_mem rfl)) hy_ (hS.give (own_in rfl))) ?_
 rintro _ _ ⟨fl25,flA26,flC27,ok28,rfl,rfl,hf29⟩
 refine JO_callP [] [] [x0_ x s parm m,blk tf6 138 [vL flA26 fl25.length flC27],row (.slice flA26 fl25.length flC27) 179 4 fl25.length (fl25.flatMap SortField.enc),blk b7 97 [vL (some ⟨nb5,0,none⟩) 3 3,(fC_ 94 tf6),(fC_ 96 tf6)],blk nb5 9 [vS [73,78,49],vS [73,78,50],vS [79,85,84]],mp vS m [([73,78,49],vG (bD_ l [73,78,49])),([73,78,50],vG (bD_ l [73,78,50])),([79,85,84],vG (bD_ l [79,85,84]))],sH_ s rowsA rows.length rowsC calls] rfl trivial (fun _=>x_call ca33 rfl) i_ (fun _ h=>by cases h) (fun w hS=>f33_ok ok28 [119,114,111,110,103,32,112,97,114,97,109,101,116,101,114] w) ?_ ?_
 ·rintro _ _ ⟨rfl,rfl,hp30⟩
  refine JX_then_pan ?_
  refine JX_pan [] (fun _ h=>h.keep [F_,F_,F_,F_,F_,F_,F_] rfl) (fun _ _ h=>h) ⟨[119,114,111,110,103,32,112,97,114,97,109,101,116,101,114],rfl,?_,?_⟩
  ·rfl
  ·exact c45y20_
 rintro _ _ ⟨rfl,rfl,hf31⟩
 refine z_ (n_ (q_ (g_ (s_ av_ (z_ (n_ (q_ (q_ (g_ (s_ (fA 0 fi97_0) (r_ (ld_ 3 sc25) (s_ (lnS underlying25) (s_ mv_ (z_ (n_ (k_ ?_))))))))))))))))
 refine J_unroll 4 ?_
 refine JR_one ?_
 refine q_ (g_ (jr_ (vB true) (z_ (n_ (q_ (ift (sk_ (n_ (q_ (k_ (q_ (g_ (s_ (x_indexAddr_sl (k:=0) underlying25 sz9 rfl rfl lt_ rfl) (r_ (ld_ 4 sc9) (s_ av_ (z_ (n_ (q_ (q_ (g_ (s_ mv_ (js_ (vB false) (x_eql_s (a:=([73,78,49]:Bytes)) (b:=([79,85,84]:Bytes)) rfl rfl) ?_))))))))))))))))))))))
 refine z_ (n_ (iff_ (sk_ (n_ (q_ ?_)))))
 refine drU [] [10] 16 mixed ?_
 refine jp_ 0 rfl mv_ (jp_ 1 rfl (x_nilCheck rfl) (jp_ 2 rfl (fA 0 fi82_0) ?_))
 refine je_ 3 (Value.iface 41 (pB s 0)) rfl (x_load 0 rfl rfl sc71 rfl) ?_
 refine jp_ 4 rfl mv_ (jp_ 5 rfl (x_nilCheck rfl) (jp_ 6 rfl (fA 2 fi82_2) ?_))
 refine jE_ 7 (Value.map (some m)) rfl (x_load 0 rfl rfl sc80 rfl) ?_
 refine jp_ 8 rfl mv_ ?_
 refine je_ 9 (vG (bD_ l [73,78,49])) rfl (x_lookup 5 (f:=vS) (k:=[73,78,49]) rfl rfl rfl underlying80 (mapK_s underlying9) ze33 (lk_hit dd_)) ?_
 refine j1_ 10 ?_ (fun _ h=>⟨h.keep [F_,F_,F_,F_,F_,F_,F_] rfl,fun _=>h⟩)
 refine JI_call [s] [sH_ s rowsA rows.length rowsC calls] [x0_ x s parm m,blk tf6 138 [vL flA26 fl25.length flC27],row (.slice flA26 fl25.length flC27) 179 4 fl25.length (fl25.flatMap SortField.enc),blk b7 97 [vL (some ⟨nb5,0,none⟩) 3 3,(fC_ 94 tf6),(fC_ 96 tf6)],blk nb5 9 [vS [73,78,49],vS [73,78,50],vS [79,85,84]],mp vS m [([73,78,49],vG (bD_ l [73,78,49])),([73,78,50],vG (bD_ l [73,78,50])),([79,85,84],vG (bD_ l [79,85,84]))]] rfl rfl trivial (fun _=>x_call ca11 rfl) (fun _ h=>(((((((h.front 5 _ rfl).front 5 _ rfl).front 5 _ rfl).front 5 _ rfl).front 5 _ rfl).front 5 _ rfl).front 6 _ rfl).keep [T_,T_,T_,T_,T_,T_,T_] rfl) (own_mem rfl) (fun w hS=>f11_ok s rows rowsA rowsC calls (l.getD ((R45.findI [73,78,49] l).toNat) default) w (rowsR.on hS (own_mem rfl)) (okL_at (lN.on hS (own_mem rfl)) _) om_ hy_ hy_ (by exact Nat.le_trans (q7 _) dd_) (hS.give (own_in rfl))) ?_
 rintro _ _ ⟨out32,outA33,outC34,e35,rfl,rfl,hf36,hf37⟩
 have ha38:=R45.rec_len5 out32 as_ q0 (q7 _)
 have ha39:=R45.rec_each out32 as_ q4 (q8 _)
 refine jp_ 11 rfl mv_ (jp_ 12 rfl (ex_ 0) (jp_ 13 rfl (ex_ 1) (jp_ 14 rfl av_ (jp_ 15 rfl av_ ?_))))
 refine JA_done kf_ (gl_ rfl (fun _ h=>h.keep [F_,F_,F_,F_,F_,F_,F_,F_] rfl)) ?_
 refine n_ (q_ (g_ (s_ mv_ (jr_ (vB true) ?_))))
 refine JO_callP [] [] [sH_ s rowsA rows.length rowsC e35,row (.slice outA33 out32.length outC34) 9 1 out32.length (out32.map vS),x0_ x s parm m,blk tf6 138 [vL flA26 fl25.length flC27],row (.slice flA26 fl25.length flC27) 179 4 fl25.length (fl25.flatMap SortField.enc),blk b7 97 [vL (some ⟨nb5,0,none⟩) 3 3,(fC_ 94 tf6),(fC_ 96 tf6)],blk nb5 9 [vS [73,78,49],vS [73,78,50],vS [79,85,84]],mp vS m [([73,78,49],vG (bD_ l [73,78,49])),([73,78,50],vG (bD_ l [73,78,50])),([79,85,84],vG (bD_ l [79,85,84]))]] rfl trivial (fun _=>x_call ca33 rfl) i_ (fun _ h=>by cases h) (fun w hS=>f33_ok true [116,111,111,32,109,97,110,121,32,114,101,99,111,114,100,115] w) ?_ ?_
 ·rintro _ _ ⟨rfl,rfl,hp40⟩
  exact absurd hp40 dd_
 rintro _ _ ⟨rfl,rfl,hf41⟩
 refine z_ (n_ (q_ (g_ (s_ mv_ (c0 (cl_ ca37) (fun w hS=>f37_ok 0 w hy_) (z_ (n_ (g_ (s_ mv_ (s_ mv_ (o_ (O_buildSlice (cs:=[vL outA33 out32.length outC34]) underlying102 sz25 ze25 dd_ dd_ kf_ fun b42=>?_))))))))))))
 refine JO_weaken (E':=[(0,pB x 0),(8,pB b7 0),(14,vL none (([]:List Rw).length) 0),(73,vL (some ⟨nb5,0,none⟩) 3 3),(74,vI 3),(75,vI 0),(76,vB true),(77,pB nb5 0),(78,vS [73,78,49]),(16,vS [73,78,49]),(79,vS [73,78,49]),(80,vB false),(82,pB x 0),(83,pB x 0),(84,pB x 0),(85,Value.iface 41 (pB s 0)),(86,pB x 0),(87,pB x 0),(88,pB x 2),(89,Value.map (some m)),(90,vS [73,78,49]),(91,vG (bD_ l [73,78,49])),(92,Value.tuple #[vL outA33 out32.length outC34,vI 0]),(81,Value.tuple #[vL outA33 out32.length outC34,vI 0]),(93,vL outA33 out32.length outC34),(94,vI 0),(17,vL outA33 out32.length outC34),(18,vI 0),(95,vI 0),(96,vB true),(97,Value.tuple #[]),(98,vI 0),(99,Value.tuple #[]),(100,vL none (([]:List Rw).length) 0),(101,vL outA33 out32.length outC34),(102,vL (some ⟨b42,0,none⟩) 1 1)]) (L':=[row (.slice none ([]:List Rw).length 0) 25 1 ([]:List Rw).length (([]:List Rw).flatMap Rw.enc),blk b42 25 [vL outA33 out32.length outC34],sH_ s rowsA rows.length rowsC e35,row (.slice outA33 out32.length outC34) 9 1 out32.length (out32.map vS),x0_ x s parm m,blk tf6 138 [vL flA26 fl25.length flC27],row (.slice flA26 fl25.length flC27) 179 4 fl25.length (fl25.flatMap SortField.enc),blk b7 97 [vL (some ⟨nb5,0,none⟩) 3 3,(fC_ 94 tf6),(fC_ 96 tf6)],blk nb5 9 [vS [73,78,49],vS [73,78,50],vS [79,85,84]],mp vS m [([73,78,49],vG (bD_ l [73,78,49])),([73,78,50],vG (bD_ l [73,78,50])),([79,85,84],vG (bD_ l [79,85,84]))]]) se_ (fun _ h=>((((((((((h.front 8 _ rfl).front 8 _ rfl).front 8 _ rfl).front 8 _ rfl).front 8 _ rfl).front 8 _ rfl).front 8 _ rfl).front 8 _ rfl).front 8 _ rfl).nilrow 25 1).keep [T_,T_,T_,T_,T_,T_,T_,T_,T_,T_] rfl) ?_
 refine o_ (O_append_f 0 Rw.enc 1 ([]:List Rw) [(Rw.mk out32 outA33 outC34)] underlying102 sz25 by25 ze25 rfl dd_ rfl rfl rfl rfl Rw.enc_len Rw.enc_one (cells_blk 1 (off:=0) (m:=1) rfl rfl) lt_ lt_ fun A43 c44=>?_)
 refine s_ av_ (z_ (kx_ (n_ (g_ (jr_ (vI 1) (s_ mv_ (z_ (JX_again ?_))))))))
 refine JR_one ?_
 refine q_ (g_ (jr_ (vB true) (z_ (n_ (q_ (ift (sk_ (n_ (q_ (k_ (q_ (g_ (s_ (x_indexAddr_sl (k:=1) underlying25 sz9 rfl rfl lt_ rfl) (r_ (ld_ 8 sc9) (s_ av_ (z_ (n_ (q_ (q_ (g_ (s_ mv_ (js_ (vB false) (x_eql_s (a:=([73,78,50]:Bytes)) (b:=([79,85,84]:Bytes)) rfl rfl) ?_))))))))))))))))))))))
 refine z_ (n_ (iff_ (sk_ (n_ (q_ ?_)))))
 refine drU [] [10] 16 mixed ?_
 refine jp_ 0 rfl mv_ (jp_ 1 rfl (x_nilCheck rfl) (jp_ 2 rfl (fA 0 fi82_0) ?_))
 refine je_ 3 (Value.iface 41 (pB s 0)) rfl (x_load 4 rfl rfl sc71 rfl) ?_
 refine jp_ 4 rfl mv_ (jp_ 5 rfl (x_nilCheck rfl) (jp_ 6 rfl (fA 2 fi82_2) ?_))
 refine jE_ 7 (Value.map (some m)) rfl (x_load 4 rfl rfl sc80 rfl) ?_
 refine jp_ 8 rfl mv_ ?_
 refine je_ 9 (vG (bD_ l [73,78,50])) rfl (x_lookup 9 (f:=vS) (k:=[73,78,50]) rfl rfl rfl underlying80 (mapK_s underlying9) ze33 (lk_ne dd_ (lk_hit dd_))) ?_
 refine j1_ 10 ?_ (fun _ h=>⟨h.keep [F_,F_,F_,F_,F_,F_,F_,F_,F_,F_] rfl,fun _=>h⟩)
 refine JI_call [s] [sH_ s rowsA rows.length rowsC e35] [row (.slice A43 (([]:List Rw)++[(Rw.mk out32 outA33 outC34)]).length c44) 25 1 (([]:List Rw)++[(Rw.mk out32 outA33 outC34)]).length ((([]:List Rw)++[(Rw.mk out32 outA33 outC34)]).flatMap Rw.enc),blk b42 25 [vL outA33 out32.length outC34],row (.slice outA33 out32.length outC34) 9 1 out32.length (out32.map vS),x0_ x s parm m,blk tf6 138 [vL flA26 fl25.length flC27],row (.slice flA26 fl25.length flC27) 179 4 fl25.length (fl25.flatMap SortField.enc),blk b7 97 [vL (some ⟨nb5,0,none⟩) 3 3,(fC_ 94 tf6),(fC_ 96 tf6)],blk nb5 9 [vS [73,78,49],vS [73,78,50],vS [79,85,84]],mp vS m [([73,78,49],vG (bD_ l [73,78,49])),([73,78,50],vG (bD_ l [73,78,50])),([79,85,84],vG (bD_ l [79,85,84]))]] rfl rfl trivial (fun _=>x_call ca11 rfl) (fun _ h=>((((((((((h.front 9 _ rfl).front 9 _ rfl).front 9 _ rfl).front 9 _ rfl).front 9 _ rfl).front 9 _ rfl).front 9 _ rfl).front 8 _ rfl).front 8 _ rfl).front 9 _ rfl).keep [T_,T_,T_,T_,T_,T_,T_,T_,T_,T_] rfl) (own_mem rfl) (fun w hS=>f11_ok s rows rowsA rowsC e35 (l.getD ((R45.findI [73,78,50] l).toNat) default) w (rowsR.on hS (own_mem rfl)) (okL_at (lN.on hS (own_mem rfl)) _) om_ hy_ hy_ (by exact Nat.le_trans (q7 _) dd_) (hS.give (own_in rfl))) ?_
 rintro _ _ ⟨out45,outA46,outC47,e48,rfl,rfl,hf49,hf50⟩
 have ha51:=R45.rec_len5 out45 as_ q0 (q7 _)
 have ha52:=R45.rec_each out45 as_ q4 (q8 _)
 refine jp_ 11 rfl mv_ (jp_ 12 rfl (ex_ 0) (jp_ 13 rfl (ex_ 1) (jp_ 14 rfl av_ (jp_ 15 rfl av_ ?_))))
 refine JA_done kf_ (gl_ rfl (fun _ h=>h.keep [F_,F_,F_,F_,F_,F_,F_,F_,F_,F_,F_] rfl)) ?_
 refine n_ (q_ (g_ (s_ mv_ (jr_ (vB true) ?_))))
 refine JO_callP [] [] [sH_ s rowsA rows.length rowsC e48,row (.slice outA46 out45.length outC47) 9 1 out45.length (out45.map vS),row (.slice A43 (([]:List Rw)++[(Rw.mk out32 outA33 outC34)]).length c44) 25 1 (([]:List Rw)++[(Rw.mk out32 outA33 outC34)]).length ((([]:List Rw)++[(Rw.mk out32 outA33 outC34)]).flatMap Rw.enc),blk b42 25 [vL outA33 out32.length outC34],row (.slice outA33 out32.length outC34) 9 1 out32.length (out32.map vS),x0_ x s parm m,blk tf6 138 [vL flA26 fl25.length flC27],row (.slice flA26 fl25.length flC27) 179 4 fl25.length (fl25.flatMap SortField.enc),blk b7 97 [vL (some ⟨nb5,0,none⟩) 3 3,(fC_ 94 tf6),(fC_ 96 tf6)],blk nb5 9 [vS [73,78,49],vS [73,78,50],vS [79,85,84]],mp vS m [([73,78,49],vG (bD_ l [73,78,49])),([73,78,50],vG (bD_ l [73,78,50])),([79,85,84],vG (bD_ l [79,85,84]))]] rfl trivial (fun _=>x_call ca33 rfl) i_ (fun _ h=>by cases h) (fun w hS=>f33_ok true [116,111,111,32,109,97,110,121,32,114,101,99,111,114,100,115] w) ?_ ?_
 ·rintro _ _ ⟨rfl,rfl,hp53⟩
  exact absurd hp53 dd_
 rintro _ _ ⟨rfl,rfl,hf54⟩
 refine z_ (n_ (q_ (g_ (s_ mv_ (c0 (cl_ ca37) (fun w hS=>f37_ok 0 w hy_) (z_ (n_ (g_ (s_ mv_ (s_ mv_ (o_ (O_buildSlice (cs:=[vL outA46 out45.length outC47]) underlying102 sz25 ze25 dd_ dd_ kf_ fun b55=>?_))))))))))))
 refine o_ (O_append_f 3 Rw.enc 1 (([]:List Rw)++[(Rw.mk out32 outA33 outC34)]) [(Rw.mk out45 outA46 outC47)] underlying102 sz25 by25 ze25 rfl dd_ rfl rfl rfl rfl Rw.enc_len Rw.enc_one (cells_blk 0 (off:=0) (m:=1) rfl rfl) lt_ lt_ fun A56 c57=>?_)
 refine s_ av_ (z_ (kx_ (n_ (g_ (jr_ (vI 2) (s_ mv_ (z_ (JX_again ?_))))))))
 refine JR_one ?_
 refine q_ (g_ (jr_ (vB true) (z_ (n_ (q_ (ift (sk_ (n_ (q_ (k_ (q_ (g_ (s_ (x_indexAddr_sl (k:=2) underlying25 sz9 rfl rfl lt_ rfl) (r_ (ld_ 10 sc9) (s_ av_ (z_ (n_ (q_ (q_ (g_ (s_ mv_ (js_ (vB true) (x_eql_s (a:=([79,85,84]:Bytes)) (b:=([79,85,84]:Bytes)) rfl rfl) ?_))))))))))))))))))))))
 refine z_ (n_ (ift (J_exit (ne_ (kh_ (n_ (g_ (jr_ (vI 3) (s_ mv_ (z_ (JX_again ?_)))))))))))
 refine JR_one ?_
 refine q_ (g_ (jr_ (vB false) (z_ (n_ (q_ (iff_ (J_exit (ne_ (ne_ (kh_ (n_ (g_ (s_ (fA 2 fi97_2) (r_ (ld_ 9 sc95) (s_ mv_ (s_ mv_ ?_))))))))))))))))
 refine JO_callP [x,m,s,tf6] [x0_ x s parm m,mp vS m ([([73,78,49],(l.getD ((R45.findI [73,78,49] l).toNat) default)),([73,78,50],(l.getD ((R45.findI [73,78,50] l).toNat) default)),([79,85,84],(l.getD ((R45.findI [79,85,84] l).toNat) default))].map R45.bindE),sH_ s rowsA rows.length rowsC e48,blk tf6 138 [vL flA26 fl25.length flC27]] [blk b55 25 [vL outA46 out45.length outC47],row (.slice outA46 out45.length outC47) 9 1 out45.length (out45.map vS),row (.slice A56 ((([]:List Rw)++[(Rw.mk out32 outA33 outC34)])++[(Rw.mk out45 outA46 outC47)]).length c57) 25 1 ((([]:List Rw)++[(Rw.mk out32 outA33 outC34)])++[(Rw.mk out45 outA46 outC47)]).length (((([]:List Rw)++[(Rw.mk out32 outA33 outC34)])++[(Rw.mk out45 outA46 outC47)]).flatMap Rw.enc),blk b42 25 [vL outA33 out32.length outC34],row (.slice outA33 out32.length outC34) 9 1 out32.length (out32.map vS),row (.slice flA26 fl25.length flC27) 179 4 fl25.length (fl25.flatMap SortField.enc),blk b7 97 [vL (some ⟨nb5,0,none⟩) 3 3,(fC_ 94 tf6),(fC_ 96 tf6)],blk nb5 9 [vS [73,78,49],vS [73,78,50],vS [79,85,84]]] rfl trivial (fun _=>x_callv (first:=[]) (caps:=[pB tf6 0]) rfl ca96 rfl) (fun _ h=>((((((((((((h.front 10 _ rfl).front 10 _ rfl).front 10 _ rfl).front 8 _ rfl).front 8 _ rfl).front 8 _ rfl).front 8 _ rfl).front 7 _ rfl).front 10 _ rfl).front 9 _ rfl).front 11 _ rfl).front 11 _ rfl).keep [T_,T_,T_,T_,T_,T_,T_,T_,T_,T_,T_,T_] rfl) (own_mem rfl) (fun w hS=>f96_ok x s parm m rows rowsA rowsC e48 [([73,78,49],(l.getD ((R45.findI [73,78,49] l).toNat) default)),([73,78,50],(l.getD ((R45.findI [73,78,50] l).toNat) default)),([79,85,84],(l.getD ((R45.findI [79,85,84] l).toNat) default))] ((([]:List Rw)++[(Rw.mk out32 outA33 outC34)])++[(Rw.mk out45 outA46 outC47)]) A56 c57 tf6 fl25 flA26 flC27 w (rowsR.on hS (own_mem rfl)) (RO.of_rowS hS (own_mem rfl) 2 rfl) (ronS (ronS ronN (RO.of_rowS hS (own_mem rfl) 4 rfl)) (RO.of_rowS hS (own_mem rfl) 1 rfl)) (RO.of_rowS hS (own_mem rfl) 5 rfl) (hT.on hS (own_mem rfl)) hy_ hy_ hy_ hy_ hy_ (by exact R45.two_each (p:=fun r:Rw=>r.s.length≤500) as_ as_ (Nat.zero_le _)) (by exact R45.two_each (p:=fun r:Rw=>∀ j,(r.s.getD j []).length≤1000000) as_ as_ (fun _=>Nat.zero_le _)) (by exact R45.two_each (p:=fun r:Rw=>r.s.length≤r.sC) c45y22_ c45y22_ (Nat.le_refl _)) (by have:=(by assumption:R45.MrP _ _ _).2.2;omega) (hS.give (own_in rfl))) ?_ ?_
 ·rintro _ _ ⟨line58,rfl,rfl,hp59⟩
  refine JX_pan [] (fun _ h=>h.keep [F_,F_,F_,F_,F_,F_,F_,F_] rfl) (fun _ _ h=>h) ⟨line58,rfl,?_,?_⟩
  ·rfl
  ·exact c45y20_
 rintro _ _ ⟨ch60,chA61,chC62,ln63,lnA64,lnC65,rfl,rfl,hf66,hf67⟩
 refine z_ (JX_En ?_)
 refine JX_end0 results27 [xE_ x s parm m [vI 0,vB false,vL chA61 ch60.length chC62,vL lnA64 ln63.length lnC65],row (.slice chA61 ch60.length chC62) 60 5 ch60.length (ch60.flatMap Change.enc),row (.slice lnA64 ln63.length lnC65) 9 1 ln63.length (ln63.map vS)] (fun _ h=>h.keep [T_,F_,T_,T_,F_,F_,F_,F_,F_,F_,F_,F_] rfl) ⟨0,ch60,chA61,chC62,ln63,lnA64,lnC65,?_,?_,?_⟩
 ·rfl
 ·rfl
 ·exact R45.mrg_yes as_ as_ as_ as_ as_ as_
end Go.Proofs.YtggobegaiijhhaaGreatDoor
