/- contracts C45q -/
import Derived.Test.YtggobegaiijhhaaGreatDoorC45n
set_option linter.unusedVariables false
set_option linter.unusedSimpArgs false
set_option maxRecDepth 20000
namespace Go.Proofs.YtggobegaiijhhaaGreatDoor
open Go.GV Go.Proofs.Tryz Ty
open Go.GV.Ent (blk row mp)
theorem c45q0_ {p:Prop} (h:p:=by first | omega | (simp only [List.length_append,List.length_cons,List.length_nil];omega) | (simp;omega) | (simp_all;omega)):p:=h
set_option maxHeartbeats 1000000 in
theorem perf_abend (x:Nat) (s:Nat) (parm:Bytes) (m:Nat) (rows:List SRow) (rowsA:OA_) (rowsC:Nat) (calls:Nat) (l:List Binding) (lA:OA_) (lC:Nat) (w:World) (rowsR:RO [x,m,s] w rowsA (rows.flatMap SRow.enc)) (lR:RO [x,m,s] w lA (l.flatMap Binding.enc)) (lN:Kp [x,m,s] w (okL Binding.ok l)) (hT:Tab [x,m,s] w) (q0:rows.length≤1000) (q1:calls≤890000) (q2:R45.Dist rows) (q3:∀ x∈rows,x.Key.length≤1000000) (q4:∀ x∈rows,x.Record.length≤1000000) (q5:parm.length≤1000) (q6:l.length≤1000) (q7:∀ i,(l.getD i default).Lines.length≤1000) (q8:∀ i j,((l.getD i default).Lines.getD j []).length≤1000000) (hg:Give [x,m,s] w [x0_ x s parm m,mp vS m ([]:List (Bytes × Value)),sH_ s rowsA rows.length rowsC calls]):Calls prog 27 #[pB x 0,vS [97,98,101,110,100],vL lA l.length lC] w (GivesE [x,m,s] w (fun v L=>∃ cd:Int,∃ ch:List Change,∃ chA:OA_,∃ chC:Nat,∃ ln:LB_,∃ lnA:OA_,∃ lnC:Nat,v=Value.tuple #[]∧L=[xE_ x s parm m [vI cd,vB false,vL chA ch.length chC,vL lnA ln.length lnC],row (.slice chA ch.length chC) 60 5 ch.length (ch.flatMap Change.enc),row (.slice lnA ln.length lnC) 9 1 ln.length (ln.map vS)]∧(R45.OnlyF l cd ch)) (fun c L=>∃ line:Bytes,c=R45.pan line∧L=[]∧(True))):=by
 refine calls_JE [x,m,s] 110 func27 rfl ntmps27 [(0,_),(1,_),(2,_)] rfl rfl hg ?_
 refine q_ (g_ ?_)
 refine c1 (cl_ ca32) (fun w hS=>f32_ok w) ?_
 rintro _ _ ⟨pm1,tb2,rfl,rfl⟩
 refine s_ mv_ ?_
 refine JO_read (Value.tuple #[(fC_ 44 tb2),vB true]) rfl trivial (x_lookup_ok 0 (f:=vS) (k:=[97,98,101,110,100]) rfl rfl rfl underlying89 (mapK_s underlying9) ze90 (lk_hit dd_)) ?_
 refine s_ mv_ (s_ (ex_ 0) (s_ (ex_ 1) (s_ av_ (s_ av_ (z_ (n_ (q_ ?_)))))))
 refine J_less (L':=[blk tb2 94 [(fN_ 43)],x0_ x s parm m,mp vS m ([]:List (Bytes × Value)),sH_ s rowsA rows.length rowsC calls]) (fun _ h=>h.keep [F_,T_,T_,T_,T_] rfl) ?_
 refine g_ (s_ mv_ ?_)
 refine JO_callP [] [] [blk tb2 94 [(fN_ 43)],x0_ x s parm m,mp vS m ([]:List (Bytes × Value)),sH_ s rowsA rows.length rowsC calls] rfl trivial (fun _=>x_call ca33 rfl) i_ (fun _ h=>by cases h) (fun w hS=>f33_ok true [110,111,32,112,114,111,103,114,97,109] w) ?_ ?_
 ·rintro _ _ ⟨rfl,rfl,hp3⟩
  exact absurd hp3 dd_
 rintro _ _ ⟨rfl,rfl,hf4⟩
 refine z_ (n_ (q_ (g_ (s_ mv_ ?_))))
 refine JO_call [tb2] [blk tb2 94 [(fN_ 43)]] [x0_ x s parm m,mp vS m ([]:List (Bytes × Value)),sH_ s rowsA rows.length rowsC calls] rfl trivial (fun _=>x_callv (first:=[]) (caps:=[pB tb2 0]) rfl ca44 rfl) i_ (own_mem rfl) (fun w hS=>f44_ok tb2 w  (hS.give (own_in rfl))) ?_
 rintro _ _ ⟨rfl,rfl⟩
 refine o_ (al_ ze97 fun b5=>?_)
 refine o_ (stG 0 sz97 ?_)
 refine z_ (n_ (q_ (q_ (g_ (s_ (fA 0 fi97_0) (r_ (ld_ 0 sc25) (s_ (lnS underlying25) (s_ mv_ (z_ (n_ (k_ ?_)))))))))))
 refine J_unroll 1 ?_
 refine JR_one ?_
 refine q_ (g_ (jr_ (vB false) (z_ (n_ (q_ (iff_ (J_exit (ne_ (ne_ (kh_ (n_ (q_ (q_ ?_)))))))))))))
 refine J_less (L':=[blk b5 97 [vL none 0 0,(fN_ 43),(fN_ 45)],x0_ x s parm m,mp vS m ([]:List (Bytes × Value)),sH_ s rowsA rows.length rowsC calls]) (fun _ h=>h.keep [T_,F_,T_,T_,T_] rfl) ?_
 refine g_ (s_ mv_ (s_ (x_nilCheck rfl) (s_ (fA 2 fi82_2) (r_ (ld_ 1 sc80) ?_))))
 refine JO_read (Value.tuple #[vG (Binding.enc default),vB false]) rfl trivial (x_lookup_ok 2 (f:=vS) (k:=[79,85,84]) rfl rfl rfl underlying80 (mapK_s underlying9) ze33 lk_nil) ?_
 refine s_ mv_ (s_ (ex_ 0) (s_ (ex_ 1) (o_ (al_ ze33 fun b6=>?_))))
 refine o_ (stG 0 sz33 ?_)
 refine s_ av_ (z_ (n_ (q_ (g_ (s_ mv_ (z_ (n_ (iff_ (sk_ (n_ (q_ ?_)))))))))))
 refine J_less (L':=[blk b5 97 [vL none 0 0,(fN_ 43),(fN_ 45)],x0_ x s parm m,mp vS m ([]:List (Bytes × Value)),sH_ s rowsA rows.length rowsC calls]) (fun _ h=>h.keep [F_,T_,T_,T_,T_] rfl) ?_
 refine g_ (s_ (fA 1 fi97_1) (r_ (ld_ 0 sc94) (s_ mv_ (c0 (x_callv (first:=[]) (caps:=[]) rfl ca43 rfl) (fun w hS=>f43_ok x w) ?_))))
 refine JO_callP [] [] [blk b5 97 [vL none 0 0,(fN_ 43),(fN_ 45)],x0_ x s parm m,mp vS m ([]:List (Bytes × Value)),sH_ s rowsA rows.length rowsC calls] rfl trivial (fun _=>x_call ca33 rfl) i_ (fun _ h=>by cases h) (fun w hS=>f33_ok true [119,114,111,110,103,32,112,97,114,97,109,101,116,101,114] w) ?_ ?_
 ·rintro _ _ ⟨rfl,rfl,hp7⟩
  exact absurd hp7 dd_
 rintro _ _ ⟨rfl,rfl,hf8⟩
 refine z_ (xk_ [0,8] ?_)
 refine n_ (q_ (g_ (s_ av_ (z_ (n_ (q_ (q_ (g_ (s_ (fA 0 fi97_0) (r_ (ld_ 0 sc25) (s_ (lnS underlying25) (s_ mv_ (z_ (n_ (k_ ?_)))))))))))))))
 refine J_unroll 1 ?_
 refine JR_one ?_
 refine q_ (g_ (jr_ (vB false) (z_ (n_ (q_ (iff_ (J_exit (ne_ (ne_ (kh_ (n_ (g_ (s_ (fA 2 fi97_2) (r_ (ld_ 0 sc95) (s_ mv_ (s_ mv_ ?_))))))))))))))))
 refine JO_callP [] [] [blk b5 97 [vL none 0 0,(fN_ 43),(fN_ 45)],x0_ x s parm m,mp vS m ([]:List (Bytes × Value)),sH_ s rowsA rows.length rowsC calls] rfl trivial (fun _=>x_callv (first:=[]) (caps:=[]) rfl ca45 rfl) i_ (fun _ h=>by cases h) (fun w hS=>f45_ok x w) ?_ ?_
 ·rintro _ _ ⟨rfl,rfl⟩
  refine JX_pan [] (fun _ h=>h.keep [F_,F_,F_,F_] rfl) (fun _ _ h=>h) ⟨[97,98,101,110,100],rfl,?_,?_⟩
  ·rfl
  ·trivial
 rintro _ _ ⟨⟩
set_option maxHeartbeats 1000000 in
theorem perf_code (x:Nat) (s:Nat) (parm:Bytes) (m:Nat) (rows:List SRow) (rowsA:OA_) (rowsC:Nat) (calls:Nat) (l:List Binding) (lA:OA_) (lC:Nat) (w:World) (rowsR:RO [x,m,s] w rowsA (rows.flatMap SRow.enc)) (lR:RO [x,m,s] w lA (l.flatMap Binding.enc)) (lN:Kp [x,m,s] w (okL Binding.ok l)) (hT:Tab [x,m,s] w) (q0:rows.length≤1000) (q1:calls≤890000) (q2:R45.Dist rows) (q3:∀ x∈rows,x.Key.length≤1000000) (q4:∀ x∈rows,x.Record.length≤1000000) (q5:parm.length≤1000) (q6:l.length≤1000) (q7:∀ i,(l.getD i default).Lines.length≤1000) (q8:∀ i j,((l.getD i default).Lines.getD j []).length≤1000000) (hg:Give [x,m,s] w [x0_ x s parm m,mp vS m ([]:List (Bytes × Value)),sH_ s rowsA rows.length rowsC calls]):Calls prog 27 #[pB x 0,vS [99,111,100,101],vL lA l.length lC] w (GivesE [x,m,s] w (fun v L=>∃ cd:Int,∃ ch:List Change,∃ chA:OA_,∃ chC:Nat,∃ ln:LB_,∃ lnA:OA_,∃ lnC:Nat,v=Value.tuple #[]∧L=[xE_ x s parm m [vI cd,vB false,vL chA ch.length chC,vL lnA ln.length lnC],row (.slice chA ch.length chC) 60 5 ch.length (ch.flatMap Change.enc),row (.slice lnA ln.length lnC) 9 1 ln.length (ln.map vS)]∧(R45.OnlyF l cd ch)) (fun c L=>∃ line:Bytes,c=R45.pan line∧L=[]∧(True))):=by
 refine calls_JE [x,m,s] 110 func27 rfl ntmps27 [(0,_),(1,_),(2,_)] rfl rfl hg ?_
 refine q_ (g_ ?_)
 refine c1 (cl_ ca32) (fun w hS=>f32_ok w) ?_
 rintro _ _ ⟨pm1,tb2,rfl,rfl⟩
 refine s_ mv_ ?_
 refine JO_read (Value.tuple #[(fN_ 47),vB true]) rfl trivial (x_lookup_ok 0 (f:=vS) (k:=[99,111,100,101]) rfl rfl rfl underlying89 (mapK_s underlying9) ze90 (lk_ne dd_ (lk_hit dd_))) ?_
 refine s_ mv_ (s_ (ex_ 0) (s_ (ex_ 1) (s_ av_ (s_ av_ (z_ (n_ (q_ ?_)))))))
 refine J_less (L':=[blk tb2 94 [(fN_ 43)],x0_ x s parm m,mp vS m ([]:List (Bytes × Value)),sH_ s rowsA rows.length rowsC calls]) (fun _ h=>h.keep [F_,T_,T_,T_,T_] rfl) ?_
 refine g_ (s_ mv_ ?_)
 refine JO_callP [] [] [blk tb2 94 [(fN_ 43)],x0_ x s parm m,mp vS m ([]:List (Bytes × Value)),sH_ s rowsA rows.length rowsC calls] rfl trivial (fun _=>x_call ca33 rfl) i_ (fun _ h=>by cases h) (fun w hS=>f33_ok true [110,111,32,112,114,111,103,114,97,109] w) ?_ ?_
 ·rintro _ _ ⟨rfl,rfl,hp3⟩
  exact absurd hp3 dd_
 rintro _ _ ⟨rfl,rfl,hf4⟩
 refine z_ (n_ (q_ (g_ (s_ mv_ ?_))))
 refine c1 (x_callv (first:=[]) (caps:=[]) rfl ca47 rfl) (fun w hS=>f47_ok w) ?_
 rintro _ _ ⟨bn5,rfl,rfl⟩
 refine o_ (al_ ze97 fun b6=>?_)
 refine o_ (stG 0 sz97 ?_)
 refine z_ (n_ (q_ (q_ (g_ (s_ (fA 0 fi97_0) (r_ (ld_ 0 sc25) (s_ (lnS underlying25) (s_ mv_ (z_ (n_ (k_ ?_)))))))))))
 refine J_unroll 1 ?_
 refine JR_one ?_
 refine q_ (g_ (jr_ (vB false) (z_ (n_ (q_ (iff_ (J_exit (ne_ (ne_ (kh_ (n_ (q_ (q_ ?_)))))))))))))
 refine J_less (L':=[blk b6 97 [vL none 0 0,(fC_ 48 bn5),(fC_ 50 bn5)],blk bn5 3 [vI 0],x0_ x s parm m,mp vS m ([]:List (Bytes × Value)),sH_ s rowsA rows.length rowsC calls]) (fun _ h=>h.keep [T_,T_,F_,T_,T_,T_] rfl) ?_
 refine g_ (s_ mv_ (s_ (x_nilCheck rfl) (s_ (fA 2 fi82_2) (r_ (ld_ 2 sc80) ?_))))
 refine JO_read (Value.tuple #[vG (Binding.enc default),vB false]) rfl trivial (x_lookup_ok 3 (f:=vS) (k:=[79,85,84]) rfl rfl rfl underlying80 (mapK_s underlying9) ze33 lk_nil) ?_
 refine s_ mv_ (s_ (ex_ 0) (s_ (ex_ 1) (o_ (al_ ze33 fun b7=>?_))))
 refine o_ (stG 0 sz33 ?_)
 refine s_ av_ (z_ (n_ (q_ (g_ (s_ mv_ (z_ (n_ (iff_ (sk_ (n_ (q_ ?_)))))))))))
 refine J_less (L':=[blk b6 97 [vL none 0 0,(fC_ 48 bn5),(fC_ 50 bn5)],blk bn5 3 [vI 0],x0_ x s parm m,mp vS m ([]:List (Bytes × Value)),sH_ s rowsA rows.length rowsC calls]) (fun _ h=>h.keep [F_,T_,T_,T_,T_,T_] rfl) ?_
 refine g_ (s_ (fA 1 fi97_1) (r_ (ld_ 0 sc94) (s_ mv_ ?_)))
 refine JO_call [x,bn5] [x0_ x s parm m,blk bn5 3 [vI 0]] [blk b6 97 [vL none 0 0,(fC_ 48 bn5),(fC_ 50 bn5)],mp vS m ([]:List (Bytes × Value)),sH_ s rowsA rows.length rowsC calls] rfl trivial (fun _=>x_callv (first:=[]) (caps:=[pB bn5 0]) rfl ca48 rfl) (fun _ h=>(((((h.front 4 _ rfl).front 4 _ rfl).front 2 _ rfl).front 3 _ rfl).front 4 _ rfl).keep [T_,T_,T_,T_,T_] rfl) (own_mem rfl) (fun w hS=>f48_ok x s parm m bn5 0 w (hT.on hS (own_mem rfl)) hy_ (hS.give (own_in rfl))) ?_
 rintro _ _ ⟨n8,ok9,rfl,rfl,hf10⟩
 refine JO_callP [] [] [x0_ x s parm m,blk bn5 3 [vI n8],blk b6 97 [vL none 0 0,(fC_ 48 bn5),(fC_ 50 bn5)],mp vS m ([]:List (Bytes × Value)),sH_ s rowsA rows.length rowsC calls] rfl trivial (fun _=>x_call ca33 rfl) i_ (fun _ h=>by cases h) (fun w hS=>f33_ok ok9 [119,114,111,110,103,32,112,97,114,97,109,101,116,101,114] w) ?_ ?_
 ·rintro _ _ ⟨rfl,rfl,hp11⟩
  refine JX_then_pan ?_
  refine JX_pan [] (fun _ h=>h.keep [F_,F_,F_,F_,F_] rfl) (fun _ _ h=>h) ⟨[119,114,111,110,103,32,112,97,114,97,109,101,116,101,114],rfl,?_,?_⟩
  ·rfl
  ·trivial
 rintro _ _ ⟨rfl,rfl,hf12⟩
 refine z_ (xk_ [0,8] ?_)
 refine n_ (q_ (g_ (s_ av_ (z_ (n_ (q_ (q_ (g_ (s_ (fA 0 fi97_0) (r_ (ld_ 2 sc25) (s_ (lnS underlying25) (s_ mv_ (z_ (n_ (k_ ?_)))))))))))))))
 refine J_unroll 1 ?_
 refine JR_one ?_
 refine q_ (g_ (jr_ (vB false) (z_ (n_ (q_ (iff_ (J_exit (ne_ (ne_ (kh_ (n_ (g_ (s_ (fA 2 fi97_2) (r_ (ld_ 2 sc95) (s_ mv_ (s_ mv_ ?_))))))))))))))))
 refine JO_call [x,bn5] [x0_ x s parm m,blk bn5 3 [vI n8]] [blk b6 97 [vL none 0 0,(fC_ 48 bn5),(fC_ 50 bn5)],mp vS m ([]:List (Bytes × Value)),sH_ s rowsA rows.length rowsC calls] rfl trivial (fun _=>x_callv (first:=[]) (caps:=[pB bn5 0]) rfl ca50 rfl) i_ (own_mem rfl) (fun w hS=>f50_ok x s parm m bn5 n8 w  (hS.give (own_in rfl))) ?_
 rintro _ _ ⟨rfl,rfl⟩
 refine z_ (JX_En ?_)
 refine JX_end0 results27 [xE_ x s parm m [vI n8,vB false,vL none 0 0,vL none 0 0],row (.slice none ([]:List Change).length 0) 60 5 ([]:List Change).length (([]:List Change).flatMap Change.enc),row (.slice none ([]:LB_).length 0) 9 1 ([]:LB_).length (([]:LB_).map vS)] (fun _ h=>(((h.nilrow 9 1).nilrow 60 5).front 2 _ rfl).keep [T_,T_,T_,F_,F_,F_,F_] rfl) ⟨n8,([]:List Change),none,0,([]:LB_),none,0,?_,?_,?_⟩
 ·rfl
 ·rfl
 ·exact R45.only_nil (R45.NumJ.rg as_ as_).1 (R45.NumJ.rg as_ as_).2
set_option maxHeartbeats 1000000 in
theorem perf_count (x:Nat) (s:Nat) (parm:Bytes) (m:Nat) (rows:List SRow) (rowsA:OA_) (rowsC:Nat) (calls:Nat) (l:List Binding) (lA:OA_) (lC:Nat) (w:World) (rowsR:RO [x,m,s] w rowsA (rows.flatMap SRow.enc)) (lR:RO [x,m,s] w lA (l.flatMap Binding.enc)) (lN:Kp [x,m,s] w (okL Binding.ok l)) (hT:Tab [x,m,s] w) (q0:rows.length≤1000) (q1:calls≤890000) (q2:R45.Dist rows) (q3:∀ x∈rows,x.Key.length≤1000000) (q4:∀ x∈rows,x.Record.length≤1000000) (q5:parm.length≤1000) (q6:l.length≤1000) (q7:∀ i,(l.getD i default).Lines.length≤1000) (q8:∀ i j,((l.getD i default).Lines.getD j []).length≤1000000) (hg:Give [x,m,s] w [x0_ x s parm m,mp vS m ([]:List (Bytes × Value)),sH_ s rowsA rows.length rowsC calls]):Calls prog 27 #[pB x 0,vS [99,111,117,110,116],vL lA l.length lC] w (GivesE [x,m,s] w (fun v L=>∃ cd:Int,∃ ch:List Change,∃ chA:OA_,∃ chC:Nat,∃ ln:LB_,∃ lnA:OA_,∃ lnC:Nat,v=Value.tuple #[]∧L=[xE_ x s parm m [vI cd,vB false,vL chA ch.length chC,vL lnA ln.length lnC],row (.slice chA ch.length chC) 60 5 ch.length (ch.flatMap Change.enc),row (.slice lnA ln.length lnC) 9 1 ln.length (ln.map vS)]∧(R45.OnlyF l cd ch)) (fun c L=>∃ line:Bytes,c=R45.pan line∧L=[]∧(True))):=by
 refine calls_JE [x,m,s] 110 func27 rfl ntmps27 [(0,_),(1,_),(2,_)] rfl rfl hg ?_
 refine q_ (g_ ?_)
 refine c1 (cl_ ca32) (fun w hS=>f32_ok w) ?_
 rintro _ _ ⟨pm1,tb2,rfl,rfl⟩
 refine s_ mv_ ?_
 refine JO_read (Value.tuple #[(fC_ 57 tb2),vB true]) rfl trivial (x_lookup_ok 0 (f:=vS) (k:=[99,111,117,110,116]) rfl rfl rfl underlying89 (mapK_s underlying9) ze90 (lk_ne dd_ (lk_ne dd_ (lk_ne dd_ (lk_ne dd_ (lk_hit dd_)))))) ?_
 refine s_ mv_ (s_ (ex_ 0) (s_ (ex_ 1) (s_ av_ (s_ av_ (z_ (n_ (q_ ?_)))))))
 refine J_less (L':=[blk tb2 94 [(fN_ 43)],x0_ x s parm m,mp vS m ([]:List (Bytes × Value)),sH_ s rowsA rows.length rowsC calls]) (fun _ h=>h.keep [F_,T_,T_,T_,T_] rfl) ?_
 refine g_ (s_ mv_ ?_)
 refine JO_callP [] [] [blk tb2 94 [(fN_ 43)],x0_ x s parm m,mp vS m ([]:List (Bytes × Value)),sH_ s rowsA rows.length rowsC calls] rfl trivial (fun _=>x_call ca33 rfl) i_ (fun _ h=>by cases h) (fun w hS=>f33_ok true [110,111,32,112,114,111,103,114,97,109] w) ?_ ?_
 ·rintro _ _ ⟨rfl,rfl,hp3⟩
  exact absurd hp3 dd_
 rintro _ _ ⟨rfl,rfl,hf4⟩
 refine z_ (n_ (q_ (g_ (s_ mv_ ?_))))
 refine JO_call [tb2] [blk tb2 94 [(fN_ 43)]] [x0_ x s parm m,mp vS m ([]:List (Bytes × Value)),sH_ s rowsA rows.length rowsC calls] rfl trivial (fun _=>x_callv (first:=[]) (caps:=[pB tb2 0]) rfl ca57 rfl) i_ (own_mem rfl) (fun w hS=>f57_ok tb2 w  (hS.give (own_in rfl))) ?_
 rintro _ _ ⟨nb5,rfl,rfl⟩
 refine o_ (al_ ze97 fun b6=>?_)
 refine o_ (stG 0 sz97 ?_)
 refine z_ (n_ (q_ (q_ (g_ (s_ (fA 0 fi97_0) (r_ (ld_ 0 sc25) (s_ (lnS underlying25) (s_ mv_ (z_ (n_ (k_ ?_)))))))))))
 refine J_unroll 2 ?_
 refine JR_one ?_
 refine q_ (g_ (jr_ (vB true) (z_ (n_ (q_ (ift (sk_ (n_ (q_ (k_ (q_ (g_ (s_ (x_indexAddr_sl (k:=0) underlying25 sz9 rfl rfl lt_ rfl) (r_ (ld_ 1 sc9) (o_ (al_ ze9 fun b7=>?_))))))))))))))))
 refine o_ (st1 0 sz9 ?_)
 refine z_ (n_ (q_ (g_ (s_ mv_ (js_ ((fC_ 35 b7)) (x_makeFunc rfl rfl) ?_)))))
 refine JO_call [b7] [blk b7 9 [vS [73,78]]] [blk b6 97 [vL (some ⟨nb5,0,none⟩) 1 1,(fN_ 43),(fN_ 58)],blk nb5 9 [vS [73,78]],blk tb2 94 [(fN_ 43)],x0_ x s parm m,mp vS m ([]:List (Bytes × Value)),sH_ s rowsA rows.length rowsC calls] rfl trivial (fun _=>x_call ca34 rfl) i_ (own_mem rfl) (fun w hS=>f34_ok l lA lC b7 [73,78] w (lR.on hS (own_mem rfl)) hy_ hy_ (hS.give (own_in rfl))) ?_
 rintro _ _ ⟨rfl,rfl⟩
 have ha8:=R45.findI_bd [73,78] l
 try simp only [List.length_cons,List.length_nil,Nat.zero_add,Nat.reduceAdd,Nat.reduceMul] at ha8
 refine s_ av_ (z_ (n_ (q_ (g_ (s_ mv_ (s_ (x_geq_i rfl rfl) (r_ (ld_ 0 sc9) (js_ (vS ([110,111,32,100,100,32]++[73,78])) (x_cat_s rfl rfl c45q0_) ?_))))))))
 refine JO_callP [] [] [blk b7 9 [vS [73,78]],blk b6 97 [vL (some ⟨nb5,0,none⟩) 1 1,(fN_ 43),(fN_ 58)],blk nb5 9 [vS [73,78]],blk tb2 94 [(fN_ 43)],x0_ x s parm m,mp vS m ([]:List (Bytes × Value)),sH_ s rowsA rows.length rowsC calls] rfl trivial (fun _=>x_call ca33 rfl) i_ (fun _ h=>by cases h) (fun w hS=>f33_ok _ ([110,111,32,100,100,32]++[73,78]) w) ?_ ?_
 ·rintro _ _ ⟨rfl,rfl,hp9⟩
  have hp9:=of_ hp9
  refine JX_then_pan (JX_block_pan (JX_then_pan (JX_then_pan (JX_block_pan (JX_then_pan ?_)))))
  refine JX_pan [] (fun _ h=>h.keep [F_,F_,F_,F_,F_,F_,F_] rfl) (fun _ _ h=>h) ⟨([110,111,32,100,100,32]++[73,78]),rfl,?_,?_⟩
  ·rfl
  ·trivial
 rintro _ _ ⟨rfl,rfl,hf10⟩
 have hf10:=ot_ hf10
 refine z_ (n_ ?_)
 refine drU [] [9] 10 mixed ?_
 refine jp_ 0 rfl mv_ (jp_ 1 rfl (x_nilCheck rfl) (jp_ 2 rfl (fA 2 fi82_2) ?_))
 refine je_ 3 (Value.map (some m)) rfl (x_load 4 rfl rfl sc80 rfl) ?_
 refine je_ 4 (vS [73,78]) rfl (x_load 0 rfl rfl sc9 rfl) ?_
 refine jp_ 5 rfl mv_ (jp_ 6 rfl mv_ (jq_ 7 rfl (ixF (k:=(R45.findI [73,78] l).toNat) (hy:=(ix_nat rfl om_)) Binding.enc_len (cells_ro lR) underlying36 sz33) (jq_ 8 rfl (ldFN Binding.enc_len (cells_ro lR) ag33 sz33) (j1_ 9 ?_ (fun _ h=>⟨h.keep [F_,F_,F_,F_,F_,F_,F_] rfl,fun _=>h⟩)))))
 refine jio_ rfl (O_mapUpdate 5 (f:=vS) (k:=[73,78]) [([73,78],vG (bD_ l [73,78]))] [blk b7 9 [vS [73,78]],blk b6 97 [vL (some ⟨nb5,0,none⟩) 1 1,(fN_ 43),(fN_ 58)],blk nb5 9 [vS [73,78]],blk tb2 94 [(fN_ 43)],x0_ x s parm m,mp vS m [([73,78],vG (bD_ l [73,78]))],sH_ s rowsA rows.length rowsC calls] rfl rfl rfl rfl underlying80 (mapK_s underlying9) rfl rfl ?_)
 refine JA_done kf_ (gl_ rfl (fun _ h=>h.keep [F_,F_,F_,F_,F_,F_,F_] rfl)) ?_
 refine kx_ (n_ (g_ (jr_ (vI 1) (s_ mv_ (z_ (JX_again ?_))))))
 refine JR_one ?_
 refine q_ (g_ (jr_ (vB false) (z_ (n_ (q_ (iff_ (J_exit (ne_ (ne_ (kh_ (n_ (q_ (q_ ?_)))))))))))))
 refine J_less (L':=[blk b6 97 [vL (some ⟨nb5,0,none⟩) 1 1,(fN_ 43),(fN_ 58)],blk nb5 9 [vS [73,78]],x0_ x s parm m,mp vS m [([73,78],vG (bD_ l [73,78]))],sH_ s rowsA rows.length rowsC calls]) (fun _ h=>h.keep [F_,T_,T_,F_,T_,T_,T_] rfl) ?_
 refine g_ (s_ mv_ (s_ (x_nilCheck rfl) (s_ (fA 2 fi82_2) (r_ (ld_ 2 sc80) ?_))))
 refine JO_read (Value.tuple #[vG (Binding.enc default),vB false]) rfl trivial (x_lookup_ok 3 (f:=vS) (k:=[79,85,84]) rfl rfl rfl underlying80 (mapK_s underlying9) ze33 (lk_ne dd_ lk_nil)) ?_
 refine s_ mv_ (s_ (ex_ 0) (s_ (ex_ 1) (o_ (al_ ze33 fun b11=>?_))))
 refine o_ (stG 0 sz33 ?_)
 refine s_ av_ (z_ (xk_ [0,1,8,12,13] ?_))
 refine n_ (q_ (g_ (s_ mv_ (z_ (n_ (iff_ (sk_ (n_ (q_ ?_)))))))))
 refine J_less (L':=[blk b6 97 [vL (some ⟨nb5,0,none⟩) 1 1,(fN_ 43),(fN_ 58)],blk nb5 9 [vS [73,78]],x0_ x s parm m,mp vS m [([73,78],vG (bD_ l [73,78]))],sH_ s rowsA rows.length rowsC calls]) (fun _ h=>h.keep [F_,T_,T_,T_,T_,T_] rfl) ?_
 refine g_ (s_ (fA 1 fi97_1) (r_ (ld_ 0 sc94) (s_ mv_ (c0 (x_callv (first:=[]) (caps:=[]) rfl ca43 rfl) (fun w hS=>f43_ok x w) ?_))))
 refine JO_callP [] [] [blk b6 97 [vL (some ⟨nb5,0,none⟩) 1 1,(fN_ 43),(fN_ 58)],blk nb5 9 [vS [73,78]],x0_ x s parm m,mp vS m [([73,78],vG (bD_ l [73,78]))],sH_ s rowsA rows.length rowsC calls] rfl trivial (fun _=>x_call ca33 rfl) i_ (fun _ h=>by cases h) (fun w hS=>f33_ok true [119,114,111,110,103,32,112,97,114,97,109,101,116,101,114] w) ?_ ?_
 ·rintro _ _ ⟨rfl,rfl,hp12⟩
  exact absurd hp12 dd_
 rintro _ _ ⟨rfl,rfl,hf13⟩
 refine z_ (n_ (q_ (g_ (s_ av_ (z_ (n_ (q_ (q_ (g_ (s_ (fA 0 fi97_0) (r_ (ld_ 0 sc25) (s_ (lnS underlying25) (s_ mv_ (z_ (n_ (k_ ?_))))))))))))))))
 refine J_unroll 2 ?_
 refine JR_one ?_
 refine q_ (g_ (jr_ (vB true) (z_ (n_ (q_ (ift (sk_ (n_ (q_ (k_ (q_ (g_ (s_ (x_indexAddr_sl (k:=0) underlying25 sz9 rfl rfl lt_ rfl) (r_ (ld_ 1 sc9) (s_ av_ (z_ (n_ (q_ (q_ (g_ (s_ mv_ (js_ (vB false) (x_eql_s (a:=([73,78]:Bytes)) (b:=([79,85,84]:Bytes)) rfl rfl) ?_))))))))))))))))))))))
 refine z_ (n_ (iff_ (sk_ (n_ (q_ ?_)))))
 refine drU [] [10] 16 mixed ?_
 refine jp_ 0 rfl mv_ (jp_ 1 rfl (x_nilCheck rfl) (jp_ 2 rfl (fA 0 fi82_0) ?_))
 refine je_ 3 (Value.iface 41 (pB s 0)) rfl (x_load 2 rfl rfl sc71 rfl) ?_
 refine jp_ 4 rfl mv_ (jp_ 5 rfl (x_nilCheck rfl) (jp_ 6 rfl (fA 2 fi82_2) ?_))
 refine jE_ 7 (Value.map (some m)) rfl (x_load 2 rfl rfl sc80 rfl) ?_
 refine jp_ 8 rfl mv_ ?_
 refine je_ 9 (vG (bD_ l [73,78])) rfl (x_lookup 3 (f:=vS) (k:=[73,78]) rfl rfl rfl underlying80 (mapK_s underlying9) ze33 (lk_hit dd_)) ?_
 refine j1_ 10 ?_ (fun _ h=>⟨h.keep [F_,F_,F_,F_,F_] rfl,fun _=>h⟩)
 refine JI_call [s] [sH_ s rowsA rows.length rowsC calls] [blk b6 97 [vL (some ⟨nb5,0,none⟩) 1 1,(fN_ 43),(fN_ 58)],blk nb5 9 [vS [73,78]],x0_ x s parm m,mp vS m [([73,78],vG (bD_ l [73,78]))]] rfl rfl trivial (fun _=>x_call ca11 rfl) (fun _ h=>(((((h.front 3 _ rfl).front 3 _ rfl).front 3 _ rfl).front 3 _ rfl).front 4 _ rfl).keep [T_,T_,T_,T_,T_] rfl) (own_mem rfl) (fun w hS=>f11_ok s rows rowsA rowsC calls (l.getD ((R45.findI [73,78] l).toNat) default) w (rowsR.on hS (own_mem rfl)) (okL_at (lN.on hS (own_mem rfl)) _) hy_ hy_ hy_ (by exact q7 _) (hS.give (own_in rfl))) ?_
 rintro _ _ ⟨out14,outA15,outC16,e17,rfl,rfl,hf18,hf19⟩
 have ha20:=R45.rec_len out14 as_ q0 (q7 _)
 have ha21:=R45.rec_each out14 as_ q4 (q8 _)
 refine jp_ 11 rfl mv_ (jp_ 12 rfl (ex_ 0) (jp_ 13 rfl (ex_ 1) (jp_ 14 rfl av_ (jp_ 15 rfl av_ ?_))))
 refine JA_done kf_ (gl_ rfl (fun _ h=>h.keep [F_,F_,F_,F_,F_,F_] rfl)) ?_
 refine n_ (q_ (g_ (s_ mv_ (jr_ (vB true) ?_))))
 refine JO_callP [] [] [sH_ s rowsA rows.length rowsC e17,row (.slice outA15 out14.length outC16) 9 1 out14.length (out14.map vS),blk b6 97 [vL (some ⟨nb5,0,none⟩) 1 1,(fN_ 43),(fN_ 58)],blk nb5 9 [vS [73,78]],x0_ x s parm m,mp vS m [([73,78],vG (bD_ l [73,78]))]] rfl trivial (fun _=>x_call ca33 rfl) i_ (fun _ h=>by cases h) (fun w hS=>f33_ok true [116,111,111,32,109,97,110,121,32,114,101,99,111,114,100,115] w) ?_ ?_
 ·rintro _ _ ⟨rfl,rfl,hp22⟩
  exact absurd hp22 dd_
 rintro _ _ ⟨rfl,rfl,hf23⟩
 refine z_ (n_ (q_ (g_ (s_ mv_ (c0 (cl_ ca37) (fun w hS=>f37_ok 0 w hy_) (z_ (n_ (g_ (s_ mv_ (s_ mv_ (o_ (O_buildSlice (cs:=[vL outA15 out14.length outC16]) underlying102 sz25 ze25 dd_ dd_ kf_ fun b24=>?_))))))))))))
 refine JO_weaken (E':=[(0,pB x 0),(8,pB b6 0),(14,vL none (([]:List Rw).length) 0),(73,vL (some ⟨nb5,0,none⟩) 1 1),(74,vI 1),(75,vI 0),(76,vB true),(77,pB nb5 0),(78,vS [73,78]),(16,vS [73,78]),(79,vS [73,78]),(80,vB false),(82,pB x 0),(83,pB x 0),(84,pB x 0),(85,Value.iface 41 (pB s 0)),(86,pB x 0),(87,pB x 0),(88,pB x 2),(89,Value.map (some m)),(90,vS [73,78]),(91,vG (bD_ l [73,78])),(92,Value.tuple #[vL outA15 out14.length outC16,vI 0]),(81,Value.tuple #[vL outA15 out14.length outC16,vI 0]),(93,vL outA15 out14.length outC16),(94,vI 0),(17,vL outA15 out14.length outC16),(18,vI 0),(95,vI 0),(96,vB true),(97,Value.tuple #[]),(98,vI 0),(99,Value.tuple #[]),(100,vL none (([]:List Rw).length) 0),(101,vL outA15 out14.length outC16),(102,vL (some ⟨b24,0,none⟩) 1 1)]) (L':=[row (.slice none ([]:List Rw).length 0) 25 1 ([]:List Rw).length (([]:List Rw).flatMap Rw.enc),blk b24 25 [vL outA15 out14.length outC16],sH_ s rowsA rows.length rowsC e17,row (.slice outA15 out14.length outC16) 9 1 out14.length (out14.map vS),blk b6 97 [vL (some ⟨nb5,0,none⟩) 1 1,(fN_ 43),(fN_ 58)],blk nb5 9 [vS [73,78]],x0_ x s parm m,mp vS m [([73,78],vG (bD_ l [73,78]))]]) se_ (fun _ h=>((((((((h.front 6 _ rfl).front 6 _ rfl).front 6 _ rfl).front 6 _ rfl).front 6 _ rfl).front 6 _ rfl).front 6 _ rfl).nilrow 25 1).keep [T_,T_,T_,T_,T_,T_,T_,T_] rfl) ?_
 refine o_ (O_append_f 0 Rw.enc 1 ([]:List Rw) [(Rw.mk out14 outA15 outC16)] underlying102 sz25 by25 ze25 rfl dd_ rfl rfl rfl rfl Rw.enc_len Rw.enc_one (cells_blk 1 (off:=0) (m:=1) rfl rfl) lt_ lt_ fun A25 c26=>?_)
 refine s_ av_ (z_ (kx_ (n_ (g_ (jr_ (vI 1) (s_ mv_ (z_ (JX_again ?_))))))))
 refine JR_one ?_
 refine q_ (g_ (jr_ (vB false) (z_ (n_ (q_ (iff_ (J_exit (ne_ (ne_ (kh_ (n_ (g_ (s_ (fA 2 fi97_2) (r_ (ld_ 4 sc95) (s_ mv_ (s_ mv_ ?_))))))))))))))))
 refine JO_call [x] [x0_ x s parm m] [row (.slice A25 (([]:List Rw)++[(Rw.mk out14 outA15 outC16)]).length c26) 25 1 (([]:List Rw)++[(Rw.mk out14 outA15 outC16)]).length ((([]:List Rw)++[(Rw.mk out14 outA15 outC16)]).flatMap Rw.enc),blk b24 25 [vL outA15 out14.length outC16],sH_ s rowsA rows.length rowsC e17,row (.slice outA15 out14.length outC16) 9 1 out14.length (out14.map vS),blk b6 97 [vL (some ⟨nb5,0,none⟩) 1 1,(fN_ 43),(fN_ 58)],blk nb5 9 [vS [73,78]],mp vS m [([73,78],vG (bD_ l [73,78]))]] rfl trivial (fun _=>x_callv (first:=[]) (caps:=[]) rfl ca58 rfl) (fun _ h=>((((((((h.front 7 _ rfl).front 6 _ rfl).front 6 _ rfl).front 6 _ rfl).front 6 _ rfl).front 6 _ rfl).front 6 _ rfl).front 7 _ rfl).keep [T_,T_,T_,T_,T_,T_,T_,T_] rfl) (own_mem rfl) (fun w hS=>f58_ok x s parm m (([]:List Rw)++[(Rw.mk out14 outA15 outC16)]) A25 c26 w (RO.of_rowS hS (own_mem rfl) 0 rfl) (ronS ronN (RO.of_rowS hS (own_mem rfl) 3 rfl)) (hT.on hS (own_mem rfl)) hy_ (by refine R45.rec_lenB _ ?_ dd_;assumption) (hS.give (own_in rfl))) ?_
 rintro _ _ ⟨cd27,ln28,lnA29,lnC30,rfl,rfl,hf31⟩
 refine z_ (JX_En ?_)
 refine JX_end0 results27 [xE_ x s parm m [vI cd27,vB false,vL none 0 0,vL lnA29 ln28.length lnC30],row (.slice none ([]:List Change).length 0) 60 5 ([]:List Change).length (([]:List Change).flatMap Change.enc),row (.slice lnA29 ln28.length lnC30) 9 1 ln28.length (ln28.map vS)] (fun _ h=>(((h.front 1 _ rfl).nilrow 60 5).front 2 _ rfl).keep [T_,T_,T_,F_,F_,F_,F_,F_,F_,F_] rfl) ⟨cd27,([]:List Change),none,0,ln28,lnA29,lnC30,?_,?_,?_⟩
 ·rfl
 ·rfl
 ·exact R45.only_04 as_
set_option maxHeartbeats 1000000 in
theorem perf_print (x:Nat) (s:Nat) (parm:Bytes) (m:Nat) (rows:List SRow) (rowsA:OA_) (rowsC:Nat) (calls:Nat) (l:List Binding) (lA:OA_) (lC:Nat) (w:World) (rowsR:RO [x,m,s] w rowsA (rows.flatMap SRow.enc)) (lR:RO [x,m,s] w lA (l.flatMap Binding.enc)) (lN:Kp [x,m,s] w (okL Binding.ok l)) (hT:Tab [x,m,s] w) (q0:rows.length≤1000) (q1:calls≤890000) (q2:R45.Dist rows) (q3:∀ x∈rows,x.Key.length≤1000000) (q4:∀ x∈rows,x.Record.length≤1000000) (q5:parm.length≤1000) (q6:l.length≤1000) (q7:∀ i,(l.getD i default).Lines.length≤1000) (q8:∀ i j,((l.getD i default).Lines.getD j []).length≤1000000) (hg:Give [x,m,s] w [x0_ x s parm m,mp vS m ([]:List (Bytes × Value)),sH_ s rowsA rows.length rowsC calls]):Calls prog 27 #[pB x 0,vS [112,114,105,110,116],vL lA l.length lC] w (GivesE [x,m,s] w (fun v L=>∃ cd:Int,∃ ch:List Change,∃ chA:OA_,∃ chC:Nat,∃ ln:LB_,∃ lnA:OA_,∃ lnC:Nat,v=Value.tuple #[]∧L=[xE_ x s parm m [vI cd,vB false,vL chA ch.length chC,vL lnA ln.length lnC],row (.slice chA ch.length chC) 60 5 ch.length (ch.flatMap Change.enc),row (.slice lnA ln.length lnC) 9 1 ln.length (ln.map vS)]∧(R45.OnlyF l cd ch)) (fun c L=>∃ line:Bytes,c=R45.pan line∧L=[]∧(True))):=by
 refine calls_JE [x,m,s] 110 func27 rfl ntmps27 [(0,_),(1,_),(2,_)] rfl rfl hg ?_
 refine q_ (g_ ?_)
 refine c1 (cl_ ca32) (fun w hS=>f32_ok w) ?_
 rintro _ _ ⟨pm1,tb2,rfl,rfl⟩
 refine s_ mv_ ?_
 refine JO_read (Value.tuple #[(fC_ 66 tb2),vB true]) rfl trivial (x_lookup_ok 0 (f:=vS) (k:=[112,114,105,110,116]) rfl rfl rfl underlying89 (mapK_s underlying9) ze90 (lk_ne dd_ (lk_ne dd_ (lk_ne dd_ (lk_ne dd_ (lk_ne dd_ (lk_ne dd_ (lk_ne dd_ (lk_ne dd_ (lk_hit dd_)))))))))) ?_
 refine s_ mv_ (s_ (ex_ 0) (s_ (ex_ 1) (s_ av_ (s_ av_ (z_ (n_ (q_ ?_)))))))
 refine J_less (L':=[blk tb2 94 [(fN_ 43)],x0_ x s parm m,mp vS m ([]:List (Bytes × Value)),sH_ s rowsA rows.length rowsC calls]) (fun _ h=>h.keep [F_,T_,T_,T_,T_] rfl) ?_
 refine g_ (s_ mv_ ?_)
 refine JO_callP [] [] [blk tb2 94 [(fN_ 43)],x0_ x s parm m,mp vS m ([]:List (Bytes × Value)),sH_ s rowsA rows.length rowsC calls] rfl trivial (fun _=>x_call ca33 rfl) i_ (fun _ h=>by cases h) (fun w hS=>f33_ok true [110,111,32,112,114,111,103,114,97,109] w) ?_ ?_
 ·rintro _ _ ⟨rfl,rfl,hp3⟩
  exact absurd hp3 dd_
 rintro _ _ ⟨rfl,rfl,hf4⟩
 refine z_ (n_ (q_ (g_ (s_ mv_ ?_))))
 refine JO_call [tb2] [blk tb2 94 [(fN_ 43)]] [x0_ x s parm m,mp vS m ([]:List (Bytes × Value)),sH_ s rowsA rows.length rowsC calls] rfl trivial (fun _=>x_callv (first:=[]) (caps:=[pB tb2 0]) rfl ca66 rfl) i_ (own_mem rfl) (fun w hS=>f66_ok tb2 w  (hS.give (own_in rfl))) ?_
 rintro _ _ ⟨nb5,rfl,rfl⟩
 refine o_ (al_ ze97 fun b6=>?_)
 refine o_ (stG 0 sz97 ?_)
 refine z_ (n_ (q_ (q_ (g_ (s_ (fA 0 fi97_0) (r_ (ld_ 0 sc25) (s_ (lnS underlying25) (s_ mv_ (z_ (n_ (k_ ?_)))))))))))
 refine J_unroll 2 ?_
 refine JR_one ?_
 refine q_ (g_ (jr_ (vB true) (z_ (n_ (q_ (ift (sk_ (n_ (q_ (k_ (q_ (g_ (s_ (x_indexAddr_sl (k:=0) underlying25 sz9 rfl rfl lt_ rfl) (r_ (ld_ 1 sc9) (o_ (al_ ze9 fun b7=>?_))))))))))))))))
 refine o_ (st1 0 sz9 ?_)
 refine z_ (n_ (q_ (g_ (s_ mv_ (js_ ((fC_ 35 b7)) (x_makeFunc rfl rfl) ?_)))))
 refine JO_call [b7] [blk b7 9 [vS [73,78]]] [blk b6 97 [vL (some ⟨nb5,0,none⟩) 1 1,(fN_ 43),(fN_ 67)],blk nb5 9 [vS [73,78]],blk tb2 94 [(fN_ 43)],x0_ x s parm m,mp vS m ([]:List (Bytes × Value)),sH_ s rowsA rows.length rowsC calls] rfl trivial (fun _=>x_call ca34 rfl) i_ (own_mem rfl) (fun w hS=>f34_ok l lA lC b7 [73,78] w (lR.on hS (own_mem rfl)) hy_ hy_ (hS.give (own_in rfl))) ?_
 rintro _ _ ⟨rfl,rfl⟩
 have ha8:=R45.findI_bd [73,78] l
 try simp only [List.length_cons,List.length_nil,Nat.zero_add,Nat.reduceAdd,Nat.reduceMul] at ha8
 refine s_ av_ (z_ (n_ (q_ (g_ (s_ mv_ (s_ (x_geq_i rfl rfl) (r_ (ld_ 0 sc9) (js_ (vS ([110,111,32,100,100,32]++[73,78])) (x_cat_s rfl rfl c45q0_) ?_))))))))
 refine JO_callP [] [] [blk b7 9 [vS [73,78]],blk b6 97 [vL (some ⟨nb5,0,none⟩) 1 1,(fN_ 43),(fN_ 67)],blk nb5 9 [vS [73,78]],blk tb2 94 [(fN_ 43)],x0_ x s parm m,mp vS m ([]:List (Bytes × Value)),sH_ s rowsA rows.length rowsC calls] rfl trivial (fun _=>x_call ca33 rfl) i_ (fun _ h=>by cases h) (fun w hS=>f33_ok _ ([110,111,32,100,100,32]++[73,78]) w) ?_ ?_
 ·rintro _ _ ⟨rfl,rfl,hp9⟩
  have hp9:=of_ hp9
  refine JX_then_pan (JX_block_pan (JX_then_pan (JX_then_pan (JX_block_pan (JX_then_pan ?_)))))
  refine JX_pan [] (fun _ h=>h.keep [F_,F_,F_,F_,F_,F_,F_] rfl) (fun _ _ h=>h) ⟨([110,111,32,100,100,32]++[73,78]),rfl,?_,?_⟩
  ·rfl
  ·trivial
 rintro _ _ ⟨rfl,rfl,hf10⟩
 have hf10:=ot_ hf10
 refine z_ (n_ ?_)
 refine drU [] [9] 10 mixed ?_
 refine jp_ 0 rfl mv_ (jp_ 1 rfl (x_nilCheck rfl) (jp_ 2 rfl (fA 2 fi82_2) ?_))
 refine je_ 3 (Value.map (some m)) rfl (x_load 4 rfl rfl sc80 rfl) ?_
 refine je_ 4 (vS [73,78]) rfl (x_load 0 rfl rfl sc9 rfl) ?_
 refine jp_ 5 rfl mv_ (jp_ 6 rfl mv_ (jq_ 7 rfl (ixF (k:=(R45.findI [73,78] l).toNat) (hy:=(ix_nat rfl om_)) Binding.enc_len (cells_ro lR) underlying36 sz33) (jq_ 8 rfl (ldFN Binding.enc_len (cells_ro lR) ag33 sz33) (j1_ 9 ?_ (fun _ h=>⟨h.keep [F_,F_,F_,F_,F_,F_,F_] rfl,fun _=>h⟩)))))
 refine jio_ rfl (O_mapUpdate 5 (f:=vS) (k:=[73,78]) [([73,78],vG (bD_ l [73,78]))] [blk b7 9 [vS [73,78]],blk b6 97 [vL (some ⟨nb5,0,none⟩) 1 1,(fN_ 43),(fN_ 67)],blk nb5 9 [vS [73,78]],blk tb2 94 [(fN_ 43)],x0_ x s parm m,mp vS m [([73,78],vG (bD_ l [73,78]))],sH_ s rowsA rows.length rowsC calls] rfl rfl rfl rfl underlying80 (mapK_s underlying9) rfl rfl ?_)
 refine JA_done kf_ (gl_ rfl (fun _ h=>h.keep [F_,F_,F_,F_,F_,F_,F_] rfl)) ?_
 refine kx_ (n_ (g_ (jr_ (vI 1) (s_ mv_ (z_ (JX_again ?_))))))
 refine JR_one ?_
 refine q_ (g_ (jr_ (vB false) (z_ (n_ (q_ (iff_ (J_exit (ne_ (ne_ (kh_ (n_ (q_ (q_ ?_)))))))))))))
 refine J_less (L':=[blk b6 97 [vL (some ⟨nb5,0,none⟩) 1 1,(fN_ 43),(fN_ 67)],blk nb5 9 [vS [73,78]],x0_ x s parm m,mp vS m [([73,78],vG (bD_ l [73,78]))],sH_ s rowsA rows.length rowsC calls]) (fun _ h=>h.keep [F_,T_,T_,F_,T_,T_,T_] rfl) ?_
 refine g_ (s_ mv_ (s_ (x_nilCheck rfl) (s_ (fA 2 fi82_2) (r_ (ld_ 2 sc80) ?_))))
 refine JO_read (Value.tuple #[vG (Binding.enc default),vB false]) rfl trivial (x_lookup_ok 3 (f:=vS) (k:=[79,85,84]) rfl rfl rfl underlying80 (mapK_s underlying9) ze33 (lk_ne dd_ lk_nil)) ?_
 refine s_ mv_ (s_ (ex_ 0) (s_ (ex_ 1) (o_ (al_ ze33 fun b11=>?_))))
 refine o_ (stG 0 sz33 ?_)
 refine s_ av_ (z_ (xk_ [0,1,8,12,13] ?_))
 refine n_ (q_ (g_ (s_ mv_ (z_ (n_ (iff_ (sk_ (n_ (q_ ?_)))))))))
 refine J_less (L':=[blk b6 97 [vL (some ⟨nb5,0,none⟩) 1 1,(fN_ 43),(fN_ 67)],blk nb5 9 [vS [73,78]],x0_ x s parm m,mp vS m [([73,78],vG (bD_ l [73,78]))],sH_ s rowsA rows.length rowsC calls]) (fun _ h=>h.keep [F_,T_,T_,T_,T_,T_] rfl) ?_
 refine g_ (s_ (fA 1 fi97_1) (r_ (ld_ 0 sc94) (s_ mv_ (c0 (x_callv (first:=[]) (caps:=[]) rfl ca43 rfl) (fun w hS=>f43_ok x w) ?_))))
 refine JO_callP [] [] [blk b6 97 [vL (some ⟨nb5,0,none⟩) 1 1,(fN_ 43),(fN_ 67)],blk nb5 9 [vS [73,78]],x0_ x s parm m,mp vS m [([73,78],vG (bD_ l [73,78]))],sH_ s rowsA rows.length rowsC calls] rfl trivial (fun _=>x_call ca33 rfl) i_ (fun _ h=>by cases h) (fun w hS=>f33_ok true [119,114,111,110,103,32,112,97,114,97,109,101,116,101,114] w) ?_ ?_
 ·rintro _ _ ⟨rfl,rfl,hp12⟩
  exact absurd hp12 dd_
 rintro _ _ ⟨rfl,rfl,hf13⟩
 refine z_ (n_ (q_ (g_ (s_ av_ (z_ (n_ (q_ (q_ (g_ (s_ (fA 0 fi97_0) (r_ (ld_ 0 sc25) (s_ (lnS underlying25) (s_ mv_ (z_ (n_ (k_ ?_))))))))))))))))
 refine J_unroll 2 ?_
 refine JR_one ?_
 refine q_ (g_ (jr_ (vB true) (z_ (n_ (q_ (ift (sk_ (n_ (q_ (k_ (q_ (g_ (s_ (x_indexAddr_sl (k:=0) underlying25 sz9 rfl rfl lt_ rfl) (r_ (ld_ 1 sc9) (s_ av_ (z_ (n_ (q_ (q_ (g_ (s_ mv_ (js_ (vB false) (x_eql_s (a:=([73,78]:Bytes)) (b:=([79,85,84]:Bytes)) rfl rfl) ?_))))))))))))))))))))))
 refine z_ (n_ (iff_ (sk_ (n_ (q_ ?_)))))
 refine drU [] [10] 16 mixed ?_
 refine jp_ 0 rfl mv_ (jp_ 1 rfl (x_nilCheck rfl) (jp_ 2 rfl (fA 0 fi82_0) ?_))
 refine je_ 3 (Value.iface 41 (pB s 0)) rfl (x_load 2 rfl rfl sc71 rfl) ?_
 refine jp_ 4 rfl mv_ (jp_ 5 rfl (x_nilCheck rfl) (jp_ 6 rfl (fA 2 fi82_2) ?_))
 refine jE_ 7 (Value.map (some m)) rfl (x_load 2 rfl rfl sc80 rfl) ?_
 refine jp_ 8 rfl mv_ ?_
 refine je_ 9 (vG (bD_ l [73,78])) rfl (x_lookup 3 (f:=vS) (k:=[73,78]) rfl rfl rfl underlying80 (mapK_s underlying9) ze33 (lk_hit dd_)) ?_
 refine j1_ 10 ?_ (fun _ h=>⟨h.keep [F_,F_,F_,F_,F_] rfl,fun _=>h⟩)
 refine JI_call [s] [sH_ s rowsA rows.length rowsC calls] [blk b6 97 [vL (some ⟨nb5,0,none⟩) 1 1,(fN_ 43),(fN_ 67)],blk nb5 9 [vS [73,78]],x0_ x s parm m,mp vS m [([73,78],vG (bD_ l [73,78]))]] rfl rfl trivial (fun _=>x_call ca11 rfl) (fun _ h=>(((((h.front 3 _ rfl).front 3 _ rfl).front 3 _ rfl).front 3 _ rfl).front 4 _ rfl).keep [T_,T_,T_,T_,T_] rfl) (own_mem rfl) (fun w hS=>f11_ok s rows rowsA rowsC calls (l.getD ((R45.findI [73,78] l).toNat) default) w (rowsR.on hS (own_mem rfl)) (okL_at (lN.on hS (own_mem rfl)) _) hy_ hy_ hy_ (by exact q7 _) (hS.give (own_in rfl))) ?_
 rintro _ _ ⟨out14,outA15,outC16,e17,rfl,rfl,hf18,hf19⟩
 have ha20:=R45.rec_len out14 as_ q0 (q7 _)
 have ha21:=R45.rec_each out14 as_ q4 (q8 _)
 refine jp_ 11 rfl mv_ (jp_ 12 rfl (ex_ 0) (jp_ 13 rfl (ex_ 1) (jp_ 14 rfl av_ (jp_ 15 rfl av_ ?_))))
 refine JA_done kf_ (gl_ rfl (fun _ h=>h.keep [F_,F_,F_,F_,F_,F_] rfl)) ?_
 refine n_ (q_ (g_ (s_ mv_ (jr_ (vB true) ?_))))
 refine JO_callP [] [] [sH_ s rowsA rows.length rowsC e17,row (.slice outA15 out14.length outC16) 9 1 out14.length (out14.map vS),blk b6 97 [vL (some ⟨nb5,0,none⟩) 1 1,(fN_ 43),(fN_ 67)],blk nb5 9 [vS [73,78]],x0_ x s parm m,mp vS m [([73,78],vG (bD_ l [73,78]))]] rfl trivial (fun _=>x_call ca33 rfl) i_ (fun _ h=>by cases h) (fun w hS=>f33_ok true [116,111,111,32,109,97,110,121,32,114,101,99,111,114,100,115] w) ?_ ?_
 ·rintro _ _ ⟨rfl,rfl,hp22⟩
  exact absurd hp22 dd_
 rintro _ _ ⟨rfl,rfl,hf23⟩
 refine z_ (n_ (q_ (g_ (s_ mv_ (c0 (cl_ ca37) (fun w hS=>f37_ok 0 w hy_) (z_ (n_ (g_ (s_ mv_ (s_ mv_ (o_ (O_buildSlice (cs:=[vL outA15 out14.length outC16]) underlying102 sz25 ze25 dd_ dd_ kf_ fun b24=>?_))))))))))))
 refine JO_weaken (E':=[(0,pB x 0),(8,pB b6 0),(14,vL none (([]:List Rw).length) 0),(73,vL (some ⟨nb5,0,none⟩) 1 1),(74,vI 1),(75,vI 0),(76,vB true),(77,pB nb5 0),(78,vS [73,78]),(16,vS [73,78]),(79,vS [73,78]),(80,vB false),(82,pB x 0),(83,pB x 0),(84,pB x 0),(85,Value.iface 41 (pB s 0)),(86,pB x 0),(87,pB x 0),(88,pB x 2),(89,Value.map (some m)),(90,vS [73,78]),(91,vG (bD_ l [73,78])),(92,Value.tuple #[vL outA15 out14.length outC16,vI 0]),(81,Value.tuple #[vL outA15 out14.length outC16,vI 0]),(93,vL outA15 out14.length outC16),(94,vI 0),(17,vL outA15 out14.length outC16),(18,vI 0),(95,vI 0),(96,vB true),(97,Value.tuple #[]),(98,vI 0),(99,Value.tuple #[]),(100,vL none (([]:List Rw).length) 0),(101,vL outA15 out14.length outC16),(102,vL (some ⟨b24,0,none⟩) 1 1)]) (L':=[row (.slice none ([]:List Rw).length 0) 25 1 ([]:List Rw).length (([]:List Rw).flatMap Rw.enc),blk b24 25 [vL outA15 out14.length outC16],sH_ s rowsA rows.length rowsC e17,row (.slice outA15 out14.length outC16) 9 1 out14.length (out14.map vS),blk b6 97 [vL (some ⟨nb5,0,none⟩) 1 1,(fN_ 43),(fN_ 67)],blk nb5 9 [vS [73,78]],x0_ x s parm m,mp vS m [([73,78],vG (bD_ l [73,78]))]]) se_ (fun _ h=>((((((((h.front 6 _ rfl).front 6 _ rfl).front 6 _ rfl).front 6 _ rfl).front 6 _ rfl).front 6 _ rfl).front 6 _ rfl).nilrow 25 1).keep [T_,T_,T_,T_,T_,T_,T_,T_] rfl) ?_
 refine o_ (O_append_f 0 Rw.enc 1 ([]:List Rw) [(Rw.mk out14 outA15 outC16)] underlying102 sz25 by25 ze25 rfl dd_ rfl rfl rfl rfl Rw.enc_len Rw.enc_one (cells_blk 1 (off:=0) (m:=1) rfl rfl) lt_ lt_ fun A25 c26=>?_)
 refine s_ av_ (z_ (kx_ (n_ (g_ (jr_ (vI 1) (s_ mv_ (z_ (JX_again ?_))))))))
 refine JR_one ?_
 refine q_ (g_ (jr_ (vB false) (z_ (n_ (q_ (iff_ (J_exit (ne_ (ne_ (kh_ (n_ (g_ (s_ (fA 2 fi97_2) (r_ (ld_ 4 sc95) (s_ mv_ (s_ mv_ ?_))))))))))))))))
 refine JO_call [x] [x0_ x s parm m] [row (.slice A25 (([]:List Rw)++[(Rw.mk out14 outA15 outC16)]).length c26) 25 1 (([]:List Rw)++[(Rw.mk out14 outA15 outC16)]).length ((([]:List Rw)++[(Rw.mk out14 outA15 outC16)]).flatMap Rw.enc),blk b24 25 [vL outA15 out14.length outC16],sH_ s rowsA rows.length rowsC e17,row (.slice outA15 out14.length outC16) 9 1 out14.length (out14.map vS),blk b6 97 [vL (some ⟨nb5,0,none⟩) 1 1,(fN_ 43),(fN_ 67)],blk nb5 9 [vS [73,78]],mp vS m [([73,78],vG (bD_ l [73,78]))]] rfl trivial (fun _=>x_callv (first:=[]) (caps:=[]) rfl ca67 rfl) (fun _ h=>((((((((h.front 7 _ rfl).front 6 _ rfl).front 6 _ rfl).front 6 _ rfl).front 6 _ rfl).front 6 _ rfl).front 6 _ rfl).front 7 _ rfl).keep [T_,T_,T_,T_,T_,T_,T_,T_] rfl) (own_mem rfl) (fun w hS=>f67_ok x s parm m (([]:List Rw)++[(Rw.mk out14 outA15 outC16)]) A25 c26 w (RO.of_rowS hS (own_mem rfl) 0 rfl) (ronS ronN (RO.of_rowS hS (own_mem rfl) 3 rfl)) (hT.on hS (own_mem rfl)) hy_ (by refine R45.rec_lenB _ ?_ dd_;assumption) as_ (hS.give (own_in rfl))) ?_
 rintro _ _ ⟨ln27,lnA28,lnC29,rfl,rfl⟩
 refine z_ (JX_En ?_)
 refine JX_end0 results27 [xE_ x s parm m [vI 0,vB false,vL none 0 0,vL lnA28 ln27.length lnC29],row (.slice none ([]:List Change).length 0) 60 5 ([]:List Change).length (([]:List Change).flatMap Change.enc),row (.slice lnA28 ln27.length lnC29) 9 1 ln27.length (ln27.map vS)] (fun _ h=>(((h.front 1 _ rfl).nilrow 60 5).front 2 _ rfl).keep [T_,T_,T_,F_,F_,F_,F_,F_,F_,F_] rfl) ⟨0,([]:List Change),none,0,ln27,lnA28,lnC29,?_,?_,?_⟩
 ·rfl
 ·rfl
 ·exact R45.only_nil dd_ dd_
end Go.Proofs.YtggobegaiijhhaaGreatDoor
