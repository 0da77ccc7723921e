/- contracts C45z -/
import Derived.Test.YtggobegaiijhhaaGreatDoorUtilitySorts27
set_option linter.unusedVariables false
set_option linter.unusedSimpArgs false
namespace Go.Proofs.YtggobegaiijhhaaGreatDoor
open Go.GV
set_option linter.unusedVariables false
set_option linter.unusedSimpArgs false
theorem c45z0_ {p:Prop} (h:p:=by first | exact fun h=>absurd h.1 (by assumption) | exact fun h=>absurd h.2.1 (by assumption) | exact fun h=>R45.ff h.2.2.1 (by assumption) (by assumption) | exact R45.srt_noP (by assumption) (by assumption) | exact R45.srt_no (by assumption) (by assumption)):p:=h
theorem c45z1_ {p:Prop} (h:p:=by first | omega | (simp only [List.length_append,List.length_cons,List.length_nil];omega) | (simp;omega) | (simp_all;omega)):p:=h
set_option maxHeartbeats 1000000 in
set_option maxRecDepth 20000 in
theorem perf_sort (x:Nat) (s:Nat) (parm:Bytes) (m:Nat) (rows:List SRow) (rowsA:Option Addr) (rowsC:Nat) (calls:Nat) (l:List Binding) (lA:Option Addr) (lC:Nat) (w:World) (rowsR:RO [x,m,s] w rowsA (rows.flatMap SRow.enc)) (lR:RO [x,m,s] w lA (l.flatMap Binding.enc)) (lN:Kp [x,m,s] w (okL Binding.ok l)) (hT:Tab [x,m,s] w) (q0:rows.length≤1000) (q1:calls≤890000) (q2:R45.Dist rows) (q3:∀ x∈rows,x.Key.length≤1000000) (q4:∀ x∈rows,x.Record.length≤1000000) (q5:parm.length≤1000) (q6:l.length≤1000) (q7:∀ i,(l.getD i default).Lines.length≤1000) (q8:∀ i j,((l.getD i default).Lines.getD j []).length≤1000000) (hg:Give [x,m,s] w [Ent.blk x 82 [Value.iface 41 (pB s 0),vS parm,Value.map (some m),vI 0,vB false,vL none 0 0,vL none 0 0],Ent.mp vS m ([]:List (Bytes × Value)),Ent.blk s 52 [vL rowsA rows.length rowsC,vI 0,vI 0,vI ((calls:Nat):Int)]]):Calls Tryz.prog 27 #[pB x 0,vS [115,111,114,116],vL lA l.length lC] w (GivesE [x,m,s] w (fun v L=>∃ cd:Int,∃ ch:List Change,∃ chA:Option Addr,∃ chC:Nat,∃ ln:List Bytes,∃ lnA:Option Addr,∃ lnC:Nat,v=Value.tuple #[]∧L=[Ent.blk x 82 [Value.iface 41 (pB s 0),vS parm,Value.map (some m),vI cd,vB false,vL chA ch.length chC,vL lnA ln.length lnC],Ent.row (.slice chA ch.length chC) 60 5 ch.length (ch.flatMap Change.enc),Ent.row (.slice lnA ln.length lnC) 9 1 ln.length (ln.map vS)]∧(R45.SrtR rows parm l cd ch)) (fun c L=>∃ line:Bytes,c=R45.pan line∧L=[]∧(¬ R45.SrtOk rows parm l))):=by
 refine calls_JE [x,m,s] 110 Tryz.func27 rfl Tryz.ntmps27 [(0,_),(1,_),(2,_)] rfl rfl hg ?_
 refine q_ (g_ ?_)
 refine c1 (cl_ Ty.ca32) (fun w hS=>f32_ok w) ?_
 rintro _ _ ⟨pm1,tb2,rfl,rfl⟩
 refine s_ mv_ ?_
 refine JO_read (Value.tuple #[Value.func (.func 70) #[] #[],vB true]) rfl trivial (x_lookup_ok 0 (f:=vS) (k:=[115,111,114,116]) rfl rfl rfl Tryz.underlying89 (mapK_s Tryz.underlying9) Ty.ze90 (lk_ne (by decide) (lk_ne (by decide) (lk_ne (by decide) (lk_ne (by decide) (lk_ne (by decide) (lk_ne (by decide) (lk_ne (by decide) (lk_ne (by decide) (lk_ne (by decide) (lk_ne (by decide) (lk_hit (by decide))))))))))))) ?_
 refine s_ mv_ (s_ (ex_ 0) (s_ (ex_ 1) (s_ av_ (s_ av_ (z_ (n_ (q_ ?_)))))))
 refine J_less (L':=[Ent.blk tb2 94 [Value.func (.func 43) #[] #[]],Ent.blk x 82 [Value.iface 41 (pB s 0),vS parm,Value.map (some m),vI 0,vB false,vL none 0 0,vL none 0 0],Ent.mp vS m ([]:List (Bytes × Value)),Ent.blk s 52 [vL rowsA rows.length rowsC,vI 0,vI 0,vI ((calls:Nat):Int)]]) (fun _ h=>h.keep [false,true,true,true,true] rfl) ?_
 refine g_ (s_ mv_ ?_)
 refine JO_callP [] [] [Ent.blk tb2 94 [Value.func (.func 43) #[] #[]],Ent.blk x 82 [Value.iface 41 (pB s 0),vS parm,Value.map (some m),vI 0,vB false,vL none 0 0,vL none 0 0],Ent.mp vS m ([]:List (Bytes × Value)),Ent.blk s 52 [vL rowsA rows.length rowsC,vI 0,vI 0,vI ((calls:Nat):Int)]] rfl trivial (fun _=>x_call Ty.ca33 rfl) (fun _ h=>h) (fun _ h=>by cases h) (fun w hS=>f33_ok true [110,111,32,112,114,111,103,114,97,109] w) ?_ ?_
 ·rintro _ _ ⟨rfl,rfl,hp3⟩
  exact absurd hp3 (by decide)
 rintro _ _ ⟨rfl,rfl,hf4⟩
 refine z_ (n_ (q_ (g_ (s_ mv_ ?_))))
 refine c1 (x_callv (first:=[]) (caps:=[]) rfl Ty.ca70 rfl) (fun w hS=>f70_ok w) ?_
 rintro _ _ ⟨nb5,tf6,tp7,rfl,rfl⟩
 refine o_ (al_ Ty.ze97 fun b8=>?_)
 refine o_ (stG 0 Ty.sz97 ?_)
 refine z_ (n_ (q_ (q_ (g_ (s_ (fA 0 Ty.fi97_0) (r_ (ld_ 0 Ty.sc25) (s_ (lnS Tryz.underlying25) (s_ mv_ (z_ (n_ (k_ ?_)))))))))))
 refine J_unroll 3 ?_
 refine JR_one ?_
 refine q_ (g_ (jr_ (vB true) (z_ (n_ (q_ (ift (sk_ (n_ (q_ (k_ (q_ (g_ (s_ (x_indexAddr_sl (k:=0) Tryz.underlying25 Ty.sz9 rfl rfl lt_ rfl) (r_ (ld_ 1 Ty.sc9) (o_ (al_ Ty.ze9 fun b9=>?_))))))))))))))))
 refine o_ (st1 0 Ty.sz9 ?_)
 refine z_ (n_ (q_ (g_ (s_ mv_ (js_ (Value.func (.func 35) #[] #[pB b9 0]) (x_makeFunc rfl rfl) ?_)))))
 refine JO_call [b9] [Ent.blk b9 9 [vS [73,78]]] [Ent.blk b8 97 [vL (some ⟨nb5,0,none⟩) 2 2,Value.func (.func 104) #[] #[pB tf6 0,pB tp7 0],Value.func (.func 107) #[] #[pB tp7 0,pB tf6 0]],Ent.blk nb5 9 [vS [73,78],vS [79,85,84]],Ent.blk tf6 138 [vL none 0 0],Ent.blk tp7 145 [vI 16,vI 4],Ent.blk tb2 94 [Value.func (.func 43) #[] #[]],Ent.blk x 82 [Value.iface 41 (pB s 0),vS parm,Value.map (some m),vI 0,vB false,vL none 0 0,vL none 0 0],Ent.mp vS m ([]:List (Bytes × Value)),Ent.blk s 52 [vL rowsA rows.length rowsC,vI 0,vI 0,vI ((calls:Nat):Int)]] rfl trivial (fun _=>x_call Ty.ca34 rfl) (fun _ h=>h) (own_mem rfl) (fun w hS=>f34_ok l lA lC b9 [73,78] w (lR.on hS (own_mem rfl)) hy_ hy_ (hS.give (own_in rfl))) ?_
 rintro _ _ ⟨rfl,rfl⟩
 have ha10:=R45.findI_bd [73,78] l
 try simp only [List.length_cons,List.length_nil,Nat.zero_add,Nat.reduceAdd,Nat.reduceMul] at ha10
 refine s_ av_ (z_ (n_ (q_ (g_ (s_ mv_ (s_ (x_geq_i rfl rfl) (r_ (ld_ 0 Ty.sc9) (js_ (vS ([110,111,32,100,100,32]++[73,78])) (x_cat_s rfl rfl c45z1_) ?_))))))))
 refine JO_callP [] [] [Ent.blk b9 9 [vS [73,78]],Ent.blk b8 97 [vL (some ⟨nb5,0,none⟩) 2 2,Value.func (.func 104) #[] #[pB tf6 0,pB tp7 0],Value.func (.func 107) #[] #[pB tp7 0,pB tf6 0]],Ent.blk nb5 9 [vS [73,78],vS [79,85,84]],Ent.blk tf6 138 [vL none 0 0],Ent.blk tp7 145 [vI 16,vI 4],Ent.blk tb2 94 [Value.func (.func 43) #[] #[]],Ent.blk x 82 [Value.iface 41 (pB s 0),vS parm,Value.map (some m),vI 0,vB false,vL none 0 0,vL none 0 0],Ent.mp vS m ([]:List (Bytes × Value)),Ent.blk s 52 [vL rowsA rows.length rowsC,vI 0,vI 0,vI ((calls:Nat):Int)]] rfl trivial (fun _=>x_call Ty.ca33 rfl) (fun _ h=>h) (fun _ h=>by cases h) (fun w hS=>f33_ok _ ([110,111,32,100,100,32]++[73,78]) w) ?_ ?_
 ·rintro _ _ ⟨rfl,rfl,hp11⟩
  have hp11:=of_decide_eq_false hp11
  refine JX_then_pan (JX_block_pan (JX_then_pan (JX_then_pan (JX_block_pan (JX_then_pan ?_)))))
  refine JX_pan [] (fun _ h=>h.keep [false,false,false,false,false,false,false,false,false] rfl) (fun _ _ h=>h) ⟨([110,111,32,100,100,32]++[73,78]),rfl,?_,?_⟩
  ·rfl
  ·exact c45z0_
 rintro _ _ ⟨rfl,rfl,hf12⟩
 have hf12:=of_decide_eq_true hf12
 refine z_ (n_ ?_)
 refine drU [] [9] 10 Ty.mixed ?_
 refine jp_ 0 rfl mv_ (jp_ 1 rfl (x_nilCheck rfl) (jp_ 2 rfl (fA 2 Ty.fi82_2) ?_))
 refine JA_early 3 (Value.map (some m)) rfl (by kernel_rfl) (by kernel_rfl) (by kernel_rfl) rfl (by kernel_rfl) (fun _ _ _ h=>h) rfl trivial (x_load 6 rfl rfl Ty.sc80 rfl) ?_
 refine JA_early 4 (vS [73,78]) rfl (by kernel_rfl) (by kernel_rfl) (by kernel_rfl) rfl (by kernel_rfl) (fun _ _ _ h=>h) rfl trivial (x_load 0 rfl rfl Ty.sc9 rfl) ?_
 refine jp_ 5 rfl mv_ (jp_ 6 rfl mv_ (jq_ 7 rfl (ixF (k:=(R45.findI [73,78] l).toNat) (hy:=(ix_nat rfl (by omega))) Binding.enc_len (cells_ro lR) Tryz.underlying36 Ty.sz33) (jq_ 8 rfl (ldFN Binding.enc_len (cells_ro lR) Ty.ag33 Ty.sz33) (j1_ 9 ?_ (fun _ h=>⟨h.keep [false,false,false,false,false,false,false,false,false] rfl,fun _=>h⟩)))))
 refine jio_ rfl (O_mapUpdate 7 (f:=vS) (k:=[73,78]) [([73,78],vG (Binding.enc (l.getD ((R45.findI [73,78] l).toNat) default)))] [Ent.blk b9 9 [vS [73,78]],Ent.blk b8 97 [vL (some ⟨nb5,0,none⟩) 2 2,Value.func (.func 104) #[] #[pB tf6 0,pB tp7 0],Value.func (.func 107) #[] #[pB tp7 0,pB tf6 0]],Ent.blk nb5 9 [vS [73,78],vS [79,85,84]],Ent.blk tf6 138 [vL none 0 0],Ent.blk tp7 145 [vI 16,vI 4],Ent.blk tb2 94 [Value.func (.func 43) #[] #[]],Ent.blk x 82 [Value.iface 41 (pB s 0),vS parm,Value.map (some m),vI 0,vB false,vL none 0 0,vL none 0 0],Ent.mp vS m [([73,78],vG (Binding.enc (l.getD ((R45.findI [73,78] l).toNat) default)))],Ent.blk s 52 [vL rowsA rows.length rowsC,vI 0,vI 0,vI ((calls:Nat):Int)]] rfl rfl rfl rfl Tryz.underlying80 (mapK_s Tryz.underlying9) rfl rfl ?_)
 refine JA_done (by kernel_rfl) (gl_ rfl (fun _ h=>h.keep [false,false,false,false,false,false,false,false,false] rfl)) ?_
 refine kx_ (n_ (g_ (jr_ (vI 1) (s_ mv_ (z_ (JX_again ?_))))))
 refine JR_one ?_
 refine q_ (g_ (jr_ (vB true) (z_ (n_ (q_ (ift (sk_ (n_ (q_ (k_ (q_ (g_ (s_ (x_indexAddr_sl (k:=1) Tryz.underlying25 Ty.sz9 rfl rfl lt_ rfl) (r_ (ld_ 2 Ty.sc9) (o_ (al_ Ty.ze9 fun b13=>?_))))))))))))))))
 refine o_ (st1 0 Ty.sz9 ?_)
 refine z_ (n_ (q_ (g_ (s_ mv_ (js_ (Value.func (.func 35) #[] #[pB b13 0]) (x_makeFunc rfl rfl) ?_)))))
 refine JO_call [b13] [Ent.blk b13 9 [vS [79,85,84]]] [Ent.blk b9 9 [vS [73,78]],Ent.blk b8 97 [vL (some ⟨nb5,0,none⟩) 2 2,Value.func (.func 104) #[] #[pB tf6 0,pB tp7 0],Value.func (.func 107) #[] #[pB tp7 0,pB tf6 0]],Ent.blk nb5 9 [vS [73,78],vS [79,85,84]],Ent.blk tf6 138 [vL none 0 0],Ent.blk tp7 145 [vI 16,vI 4],Ent.blk tb2 94 [Value.func (.func 43) #[] #[]],Ent.blk x 82 [Value.iface 41 (pB s 0),vS parm,Value.map (some m),vI 0,vB false,vL none 0 0,vL none 0 0],Ent.mp vS m [([73,78],vG (Binding.enc (l.getD ((R45.findI [73,78] l).toNat) default)))],Ent.blk s 52 [vL rowsA rows.length rowsC,vI 0,vI 0,vI ((calls:Nat):Int)]] rfl trivial (fun _=>x_call Ty.ca34 rfl) (fun _ h=>h) (own_mem rfl) (fun w hS=>f34_ok l lA lC b13 [79,85,84] w (lR.on hS (own_mem rfl)) hy_ hy_ (hS.give (own_in rfl))) ?_
 rintro _ _ ⟨rfl,rfl⟩
 have ha14:=R45.findI_bd [79,85,84] l
 try simp only [List.length_cons,List.length_nil,Nat.zero_add,Nat.reduceAdd,Nat.reduceMul] at ha14
 refine s_ av_ (z_ (n_ (q_ (g_ (s_ mv_ (s_ (x_geq_i rfl rfl) (r_ (ld_ 0 Ty.sc9) (js_ (vS ([110,111,32,100,100,32]++[79,85,84])) (x_cat_s rfl rfl c45z1_) ?_))))))))
 refine JO_callP [] [] [Ent.blk b13 9 [vS [79,85,84]],Ent.blk b9 9 [vS [73,78]],Ent.blk b8 97 [vL (some ⟨nb5,0,none⟩) 2 2,Value.func (.func 104) #[] #[pB tf6 0,pB tp7 0],Value.func (.func 107) #[] #[pB tp7 0,pB tf6 0]],Ent.blk nb5 9 [vS [73,78],vS [79,85,84]],Ent.blk tf6 138 [vL none 0 0],Ent.blk tp7 145 [vI 16,vI 4],Ent.blk tb2 94 [Value.func (.func 43) #[] #[]],Ent.blk x 82 [Value.iface 41 (pB s 0),vS parm,Value.map (some m),vI 0,vB false,vL none 0 0,vL none 0 0],Ent.mp vS m [([73,78],vG (Binding.enc (l.getD ((R45.findI [73,78] l).toNat) default)))],Ent.blk s 52 [vL rowsA rows.length rowsC,vI 0,vI 0,vI ((calls:Nat):Int)]] rfl trivial (fun _=>x_call Ty.ca33 rfl) (fun _ h=>h) (fun _ h=>by cases h) (fun w hS=>f33_ok _ ([110,111,32,100,100,32]++[79,85,84]) w) ?_ ?_
 ·rintro _ _ ⟨rfl,rfl,hp15⟩
  have hp15:=of_decide_eq_false hp15
  refine JX_then_pan (JX_block_pan (JX_then_pan (JX_then_pan (JX_block_pan (JX_then_pan ?_)))))
  refine JX_pan [] (fun _ h=>h.keep [false,false,false,false,false,false,false,false,false,false] rfl) (fun _ _ h=>h) ⟨([110,111,32,100,100,32]++[79,85,84]),rfl,?_,?_⟩
  ·rfl
  ·exact c45z0_
 rintro _ _ ⟨rfl,rfl,hf16⟩
 have hf16:=of_decide_eq_true hf16
 refine z_ (n_ ?_)
 refine drU [] [9] 10 Ty.mixed ?_
 refine jp_ 0 rfl mv_ (jp_ 1 rfl (x_nilCheck rfl) (jp_ 2 rfl (fA 2 Ty.fi82_2) ?_))
 refine JA_early 3 (Value.map (some m)) rfl (by kernel_rfl) (by kernel_rfl) (by kernel_rfl) rfl (by kernel_rfl) (fun _ _ _ h=>h) rfl trivial (x_load 7 rfl rfl Ty.sc80 rfl) ?_
 refine JA_early 4 (vS [79,85,84]) rfl (by kernel_rfl) (by kernel_rfl) (by kernel_rfl) rfl (by kernel_rfl) (fun _ _ _ h=>h) rfl trivial (x_load 0 rfl rfl Ty.sc9 rfl) ?_
 refine jp_ 5 rfl mv_ (jp_ 6 rfl mv_ (jq_ 7 rfl (ixF (k:=(R45.findI [79,85,84] l).toNat) (hy:=(ix_nat rfl (by omega))) Binding.enc_len (cells_ro lR) Tryz.underlying36 Ty.sz33) (jq_ 8 rfl (ldFN Binding.enc_len (cells_ro lR) Ty.ag33 Ty.sz33) (j1_ 9 ?_ (fun _ h=>⟨h.keep [false,false,false,false,false,false,false,false,false,false] rfl,fun _=>h⟩)))))
 refine jio_ rfl (O_mapUpdate 8 (f:=vS) (k:=[79,85,84]) [([73,78],vG (Binding.enc (l.getD ((R45.findI [73,78] l).toNat) default))),([79,85,84],vG (Binding.enc (l.getD ((R45.findI [79,85,84] l).toNat) default)))] [Ent.blk b13 9 [vS [79,85,84]],Ent.blk b9 9 [vS [73,78]],Ent.blk b8 97 [vL (some ⟨nb5,0,none⟩) 2 2,Value.func (.func 104) #[] #[pB tf6 0,pB tp7 0],Value.func (.func 107) #[] #[pB tp7 0,pB tf6 0]],Ent.blk nb5 9 [vS [73,78],vS [79,85,84]],Ent.blk tf6 138 [vL none 0 0],Ent.blk tp7 145 [vI 16,vI 4],Ent.blk tb2 94 [Value.func (.func 43) #[] #[]],Ent.blk x 82 [Value.iface 41 (pB s 0),vS parm,Value.map (some m),vI 0,vB false,vL none 0 0,vL none 0 0],Ent.mp vS m [([73,78],vG (Binding.enc (l.getD ((R45.findI [73,78] l).toNat) default))),([79,85,84],vG (Binding.enc (l.getD ((R45.findI [79,85,84] l).toNat) default)))],Ent.blk s 52 [vL rowsA rows.length rowsC,vI 0,vI 0,vI ((calls:Nat):Int)]] rfl rfl rfl rfl Tryz.underlying80 (mapK_s Tryz.underlying9) rfl rfl ?_)
 refine JA_done (by kernel_rfl) (gl_ rfl (fun _ h=>h.keep [false,false,false,false,false,false,false,false,false,false] rfl)) ?_
 refine kx_ (n_ (g_ (jr_ (vI 2) (s_ mv_ (z_ (JX_again ?_))))))
 refine JR_one ?_
 refine q_ (g_ (jr_ (vB false) (z_ (n_ (q_ (iff_ (J_exit (ne_ (ne_ (kh_ (n_ (q_ (q_ ?_)))))))))))))
 refine J_less (L':=[Ent.blk b8 97 [vL (some ⟨nb5,0,none⟩) 2 2,Value.func (.func 104) #[] #[pB tf6 0,pB tp7 0],Value.func (.func 107) #[] #[pB tp7 0,pB tf6 0]],Ent.blk nb5 9 [vS [73,78],vS [79,85,84]],Ent.blk tf6 138 [vL none 0 0],Ent.blk tp7 145 [vI 16,vI 4],Ent.blk x 82 [Value.iface 41 (pB s 0),vS parm,Value.map (some m),vI 0,vB false,vL none 0 0,vL none 0 0],Ent.mp vS m [([73,78],vG (Binding.enc (l.getD ((R45.findI [73,78] l).toNat) default))),([79,85,84],vG (Binding.enc (l.getD ((R45.findI [79,85,84] l).toNat) default)))],Ent.blk s 52 [vL rowsA rows.length rowsC,vI 0,vI 0,vI ((calls:Nat):Int)]]) (fun _ h=>h.keep [false,false,true,true,true,true,false,true,true,true] rfl) ?_
 refine g_ (s_ mv_ (s_ (x_nilCheck rfl) (s_ (fA 2 Ty.fi82_2) (r_ (ld_ 4 Ty.sc80) ?_))))
 refine JO_read (Value.tuple #[vG (Binding.enc (l.getD ((R45.findI [79,85,84] l).toNat) default)),vB true]) rfl trivial (x_lookup_ok 5 (f:=vS) (k:=[79,85,84]) rfl rfl rfl Tryz.underlying80 (mapK_s Tryz.underlying9) Ty.ze33 (lk_ne (by decide) (lk_hit (by decide)))) ?_
 refine s_ mv_ (s_ (ex_ 0) (s_ (ex_ 1) (o_ (al_ Ty.ze33 fun b17=>?_))))
 refine o_ (stG 0 Ty.sz33 ?_)
 refine s_ av_ (z_ (xk_ [0,1,8,12,13] ?_))
 refine n_ (q_ (g_ (s_ mv_ (z_ (n_ (ift (g_ (s_ mv_ (r_ (ldN 0 (Binding.enc (l.getD ((R45.findI [79,85,84] l).toNat) default)) Ty.ag33 Ty.sz33) ?_)))))))))
 refine c1 (cl_ Ty.ca36) (fun w hS=>f36_ok [115,111,114,116] _ w) ?_
 rintro _ _ ⟨z18,rfl,rfl,hf19⟩
 refine JO_callP [] [] [Ent.blk b17 33 (Binding.enc (l.getD ((R45.findI [79,85,84] l).toNat) default)),Ent.blk b8 97 [vL (some ⟨nb5,0,none⟩) 2 2,Value.func (.func 104) #[] #[pB tf6 0,pB tp7 0],Value.func (.func 107) #[] #[pB tp7 0,pB tf6 0]],Ent.blk nb5 9 [vS [73,78],vS [79,85,84]],Ent.blk tf6 138 [vL none 0 0],Ent.blk tp7 145 [vI 16,vI 4],Ent.blk x 82 [Value.iface 41 (pB s 0),vS parm,Value.map (some m),vI 0,vB false,vL none 0 0,vL none 0 0],Ent.mp vS m [([73,78],vG (Binding.enc (l.getD ((R45.findI [73,78] l).toNat) default))),([79,85,84],vG (Binding.enc (l.getD ((R45.findI [79,85,84] l).toNat) default)))],Ent.blk s 52 [vL rowsA rows.length rowsC,vI 0,vI 0,vI ((calls:Nat):Int)]] rfl trivial (fun _=>x_call Ty.ca33 rfl) (fun _ h=>h) (fun _ h=>by cases h) (fun w hS=>f33_ok z18 [100,100,32,79,85,84,32,99,97,110,110,111,116,32,98,101,32,119,114,105,116,116,101,110] w) ?_ ?_
 ·rintro _ _ ⟨rfl,rfl,hp20⟩
  refine JX_then_pan ?_
  refine JX_pan [] (fun _ h=>h.keep [false,false,false,false,false,false,false,false] rfl) (fun _ _ h=>h) ⟨[100,100,32,79,85,84,32,99,97,110,110,111,116,32,98,101,32,119,114,105,116,116,101,110],rfl,?_,?_⟩
  ·rfl
  ·exact c45z0_
 rintro _ _ ⟨rfl,rfl,hf21⟩
 refine z_ (n_ (q_ ?_))
 refine J_less (L':=[Ent.blk b8 97 [vL (some ⟨nb5,0,none⟩) 2 2,Value.func (.func 104) #[] #[pB tf6 0,pB tp7 0],Value.func (.func 107) #[] #[pB tp7 0,pB tf6 0]],Ent.blk nb5 9 [vS [73,78],vS [79,85,84]],Ent.blk tf6 138 [vL none 0 0],Ent.blk tp7 145 [vI 16,vI 4],Ent.blk x 82 [Value.iface 41 (pB s 0),vS parm,Value.map (some m),vI 0,vB false,vL none 0 0,vL none 0 0],Ent.mp vS m [([73,78],vG (Binding.enc (l.getD ((R45.findI [73,78] l).toNat) default))),([79,85,84],vG (Binding.enc (l.getD ((R45.findI [79,85,84] l).toNat) default)))],Ent.blk s 52 [vL rowsA rows.length rowsC,vI 0,vI 0,vI ((calls:Nat):Int)]]) (fun _ h=>h.keep [false,true,true,true,true,true,true,true] rfl) ?_
 refine g_ (s_ (fA 1 Ty.fi97_1) (r_ (ld_ 0 Ty.sc94) (s_ mv_ ?_)))
 refine JO_call [x,tf6,tp7] [Ent.blk x 82 [Value.iface 41 (pB s 0),vS parm,Value.map (some m),vI 0,vB false,vL none 0 0,vL none 0 0],Ent.blk tf6 138 [vL none 0 0],Ent.blk tp7 145 [vI 16,vI 4]] [Ent.blk b8 97 [vL (some ⟨nb5,0,none⟩) 2 2,Value.func (.func 104) #[] #[pB tf6 0,pB tp7 0],Value.func (.func 107) #[] #[pB tp7 0,pB tf6 0]],Ent.blk nb5 9 [vS [73,78],vS [79,85,84]],Ent.mp vS m [([73,78],vG (Binding.enc (l.getD ((R45.findI [73,78] l).toNat) default))),([79,85,84],vG (Binding.enc (l.getD ((R45.findI [79,85,84] l).toNat) default)))],Ent.blk s 52 [vL rowsA rows.length rowsC,vI 0,vI 0,vI ((calls:Nat):Int)]] rfl trivial (fun _=>x_callv (first:=[]) (caps:=[pB tf6 0,pB tp7 0]) rfl Ty.ca104 rfl) (fun _ h=>(((((((h.front 6 _ rfl).front 6 _ rfl).front 3 _ rfl).front 3 _ rfl).front 5 _ rfl).front 5 _ rfl).front 6 _ rfl).keep [true,true,true,true,true,true,true] rfl) (own_mem rfl) (fun w hS=>f104_ok x s parm m tf6 tp7 w (hT.on hS (own_mem rfl)) hy_ (hS.give (own_in rfl))) ?_
 rintro _ _ ⟨fl22,flA23,flC24,ok25,mem26,fan27,rfl,rfl,hf28⟩
 refine JO_callP [] [] [Ent.blk x 82 [Value.iface 41 (pB s 0),vS parm,Value.map (some m),vI 0,vB false,vL none 0 0,vL none 0 0],Ent.blk tf6 138 [vL flA23 fl22.length flC24],Ent.row (.slice flA23 fl22.length flC24) 179 4 fl22.length (fl22.flatMap SortField.enc),Ent.blk tp7 145 [vI mem26,vI fan27],Ent.blk b8 97 [vL (some ⟨nb5,0,none⟩) 2 2,Value.func (.func 104) #[] #[pB tf6 0,pB tp7 0],Value.func (.func 107) #[] #[pB tp7 0,pB tf6 0]],Ent.blk nb5 9 [vS [73,78],vS [79,85,84]],Ent.mp vS m [([73,78],vG (Binding.enc (l.getD ((R45.findI [73,78] l).toNat) default))),([79,85,84],vG (Binding.enc (l.getD ((R45.findI [79,85,84] l).toNat) default)))],Ent.blk s 52 [vL rowsA rows.length rowsC,vI 0,vI 0,vI ((calls:Nat):Int)]] rfl trivial (fun _=>x_call Ty.ca33 rfl) (fun _ h=>h) (fun _ h=>by cases h) (fun w hS=>f33_ok ok25 [119,114,111,110,103,32,112,97,114,97,109,101,116,101,114] w) ?_ ?_
 ·rintro _ _ ⟨rfl,rfl,hp29⟩
  refine JX_then_pan ?_
  refine JX_pan [] (fun _ h=>h.keep [false,false,false,false,false,false,false,false] rfl) (fun _ _ h=>h) ⟨[119,114,111,110,103,32,112,97,114,97,109,101,116,101,114],rfl,?_,?_⟩
  ·rfl
  ·exact c45z0_
 rintro _ _ ⟨rfl,rfl,hf30⟩
 refine z_ (n_ (q_ (g_ (s_ av_ (z_ (n_ (q_ (q_ (g_ (s_ (fA 0 Ty.fi97_0) (r_ (ld_ 4 Ty.sc25) (s_ (lnS Tryz.underlying25) (s_ mv_ (z_ (n_ (k_ ?_))))))))))))))))
 refine J_unroll 3 ?_
 refine JR_one ?_
 refine q_ (g_ (jr_ (vB true) (z_ (n_ (q_ (ift (sk_ (n_ (q_ (k_ (q_ (g_ (s_ (x_indexAddr_sl (k:=0) Tryz.underlying25 Ty.sz9 rfl rfl lt_ rfl) (r_ (ld_ 5 Ty.sc9) (s_ av_ (z_ (n_ (q_ (q_ (g_ (s_ mv_ (js_ (vB false) (x_eql_s (a:=([73,78]:Bytes)) (b:=([79,85,84]:Bytes)) rfl rfl) ?_))))))))))))))))))))))
 refine z_ (n_ (iff_ (sk_ (n_ (q_ ?_)))))
 refine drU [] [10] 16 Ty.mixed ?_
 refine jp_ 0 rfl mv_ (jp_ 1 rfl (x_nilCheck rfl) (jp_ 2 rfl (fA 0 Ty.fi82_0) ?_))
 refine JA_early 3 (Value.iface 41 (pB s 0)) rfl (by kernel_rfl) (by kernel_rfl) (by kernel_rfl) rfl (by kernel_rfl) (fun _ _ _ h=>h) rfl trivial (x_load 0 rfl rfl Ty.sc71 rfl) ?_
 refine jp_ 4 rfl mv_ (jp_ 5 rfl (x_nilCheck rfl) (jp_ 6 rfl (fA 2 Ty.fi82_2) ?_))
 refine JA_earlyT 7 (Value.map (some m)) rfl (by kernel_rfl) (by kernel_rfl) (by kernel_rfl) rfl (by kernel_rfl) (fun _ _ _ h=>h) rfl trivial (x_load 0 rfl rfl Ty.sc80 rfl) ?_
 refine jp_ 8 rfl mv_ ?_
 refine JA_early 9 (vG (Binding.enc (l.getD ((R45.findI [73,78] l).toNat) default))) rfl (by kernel_rfl) (by kernel_rfl) (by kernel_rfl) rfl (by kernel_rfl) (fun _ _ _ h=>h) rfl trivial (x_lookup 6 (f:=vS) (k:=[73,78]) rfl rfl rfl Tryz.underlying80 (mapK_s Tryz.underlying9) Ty.ze33 (lk_hit (by decide))) ?_
 refine j1_ 10 ?_ (fun _ h=>⟨h.keep [false,false,false,false,false,false,false,false] rfl,fun _=>h⟩)
 refine JI_call [s] [Ent.blk s 52 [vL rowsA rows.length rowsC,vI 0,vI 0,vI ((calls:Nat):Int)]] [Ent.blk x 82 [Value.iface 41 (pB s 0),vS parm,Value.map (some m),vI 0,vB false,vL none 0 0,vL none 0 0],Ent.blk tf6 138 [vL flA23 fl22.length flC24],Ent.row (.slice flA23 fl22.length flC24) 179 4 fl22.length (fl22.flatMap SortField.enc),Ent.blk tp7 145 [vI mem26,vI fan27],Ent.blk b8 97 [vL (some ⟨nb5,0,none⟩) 2 2,Value.func (.func 104) #[] #[pB tf6 0,pB tp7 0],Value.func (.func 107) #[] #[pB tp7 0,pB tf6 0]],Ent.blk nb5 9 [vS [73,78],vS [79,85,84]],Ent.mp vS m [([73,78],vG (Binding.enc (l.getD ((R45.findI [73,78] l).toNat) default))),([79,85,84],vG (Binding.enc (l.getD ((R45.findI [79,85,84] l).toNat) default)))]] rfl rfl trivial (fun _=>x_call Ty.ca11 rfl) (fun _ h=>((((((((h.front 6 _ rfl).front 6 _ rfl).front 6 _ rfl).front 6 _ rfl).front 6 _ rfl).front 6 _ rfl).front 6 _ rfl).front 7 _ rfl).keep [true,true,true,true,true,true,true,true] rfl) (own_mem rfl) (fun w hS=>f11_ok s rows rowsA rowsC calls (l.getD ((R45.findI [73,78] l).toNat) default) w (rowsR.on hS (own_mem rfl)) (okL_at (lN.on hS (own_mem rfl)) _) hy_ hy_ hy_ (by exact q7 _) (hS.give (own_in rfl))) ?_
 rintro _ _ ⟨out31,outA32,outC33,e34,rfl,rfl,hf35,hf36⟩
 have ha37:=R45.rec_len out31 (by assumption) q0 (q7 _)
 have ha38:=R45.rec_each out31 (by assumption) q4 (q8 _)
 refine jp_ 11 rfl mv_ (jp_ 12 rfl (ex_ 0) (jp_ 13 rfl (ex_ 1) (jp_ 14 rfl av_ (jp_ 15 rfl av_ ?_))))
 refine JA_done (by kernel_rfl) (gl_ rfl (fun _ h=>h.keep [false,false,false,false,false,false,false,false,false] rfl)) ?_
 refine n_ (q_ (g_ (s_ mv_ (jr_ (vB true) ?_))))
 refine JO_callP [] [] [Ent.blk s 52 [vL rowsA rows.length rowsC,vI 0,vI 0,vI ((e34:Nat):Int)],Ent.row (.slice outA32 out31.length outC33) 9 1 out31.length (out31.map vS),Ent.blk x 82 [Value.iface 41 (pB s 0),vS parm,Value.map (some m),vI 0,vB false,vL none 0 0,vL none 0 0],Ent.blk tf6 138 [vL flA23 fl22.length flC24],Ent.row (.slice flA23 fl22.length flC24) 179 4 fl22.length (fl22.flatMap SortField.enc),Ent.blk tp7 145 [vI mem26,vI fan27],Ent.blk b8 97 [vL (some ⟨nb5,0,none⟩) 2 2,Value.func (.func 104) #[] #[pB tf6 0,pB tp7 0],Value.func (.func 107) #[] #[pB tp7 0,pB tf6 0]],Ent.blk nb5 9 [vS [73,78],vS [79,85,84]],Ent.mp vS m [([73,78],vG (Binding.enc (l.getD ((R45.findI [73,78] l).toNat) default))),([79,85,84],vG (Binding.enc (l.getD ((R45.findI [79,85,84] l).toNat) default)))]] rfl trivial (fun _=>x_call Ty.ca33 rfl) (fun _ h=>h) (fun _ h=>by cases h) (fun w hS=>f33_ok true [116,111,111,32,109,97,110,121,32,114,101,99,111,114,100,115] w) ?_ ?_
 ·rintro _ _ ⟨rfl,rfl,hp39⟩
  exact absurd hp39 (by decide)
 rintro _ _ ⟨rfl,rfl,hf40⟩
 refine z_ (n_ (q_ (g_ (s_ mv_ (c0 (cl_ Ty.ca37) (fun w hS=>f37_ok 0 w hy_) (z_ (n_ (g_ (s_ mv_ (s_ mv_ (o_ (O_buildSlice (cs:=[vL outA32 out31.length outC33]) Tryz.underlying102 Ty.sz25 Ty.ze25 (by decide) (by decide) (by kernel_rfl) fun b41=>?_))))))))))))
 refine JO_weaken (E':=[(0,pB x 0),(8,pB b8 0),(14,vL none (([]:List Rw).length) 0),(73,vL (some ⟨nb5,0,none⟩) 2 2),(74,vI 2),(75,vI 0),(76,vB true),(77,pB nb5 0),(78,vS [73,78]),(16,vS [73,78]),(79,vS [73,78]),(80,vB false),(82,pB x 0),(83,pB x 0),(84,pB x 0),(85,Value.iface 41 (pB s 0)),(86,pB x 0),(87,pB x 0),(88,pB x 2),(89,Value.map (some m)),(90,vS [73,78]),(91,vG (Binding.enc (l.getD ((R45.findI [73,78] l).toNat) default))),(92,Value.tuple #[vL outA32 out31.length outC33,vI 0]),(81,Value.tuple #[vL outA32 out31.length outC33,vI 0]),(93,vL outA32 out31.length outC33),(94,vI 0),(17,vL outA32 out31.length outC33),(18,vI 0),(95,vI 0),(96,vB true),(97,Value.tuple #[]),(98,vI 0),(99,Value.tuple #[]),(100,vL none (([]:List Rw).length) 0),(101,vL outA32 out31.length outC33),(102,vL (some ⟨b41,0,none⟩) 1 1)]) (L':=[Ent.row (.slice none ([]:List Rw).length 0) 25 1 ([]:List Rw).length (([]:List Rw).flatMap Rw.enc),Ent.blk b41 25 [vL outA32 out31.length outC33],Ent.blk s 52 [vL rowsA rows.length rowsC,vI 0,vI 0,vI ((e34:Nat):Int)],Ent.row (.slice outA32 out31.length outC33) 9 1 out31.length (out31.map vS),Ent.blk x 82 [Value.iface 41 (pB s 0),vS parm,Value.map (some m),vI 0,vB false,vL none 0 0,vL none 0 0],Ent.blk tf6 138 [vL flA23 fl22.length flC24],Ent.row (.slice flA23 fl22.length flC24) 179 4 fl22.length (fl22.flatMap SortField.enc),Ent.blk tp7 145 [vI mem26,vI fan27],Ent.blk b8 97 [vL (some ⟨nb5,0,none⟩) 2 2,Value.func (.func 104) #[] #[pB tf6 0,pB tp7 0],Value.func (.func 107) #[] #[pB tp7 0,pB tf6 0]],Ent.blk nb5 9 [vS [73,78],vS [79,85,84]],Ent.mp vS m [([73,78],vG (Binding.enc (l.getD ((R45.findI [73,78] l).toNat) default))),([79,85,84],vG (Binding.enc (l.getD ((R45.findI [79,85,84] l).toNat) default)))]]) ⟨rfl,rfl,rfl,rfl,rfl,rfl,rfl,rfl,rfl,rfl,rfl,rfl,rfl,rfl,rfl,rfl,rfl,rfl,rfl,rfl,rfl,rfl,rfl,rfl,rfl,rfl,rfl,rfl,rfl,rfl,rfl,rfl,rfl,rfl,rfl,rfl,trivial⟩ (fun _ h=>(((((((((((h.front 9 _ rfl).front 9 _ rfl).front 9 _ rfl).front 9 _ rfl).front 9 _ rfl).front 9 _ rfl).front 9 _ rfl).front 9 _ rfl).front 9 _ rfl).front 9 _ rfl).nilrow 25 1).keep [true,true,true,true,true,true,true,true,true,true,true] rfl) ?_
 refine o_ (O_append_f 0 Rw.enc 1 ([]:List Rw) [(Rw.mk out31 outA32 outC33)] Tryz.underlying102 Ty.sz25 Ty.by25 Ty.ze25 rfl (by decide) rfl rfl rfl rfl Rw.enc_len Rw.enc_one (cells_blk 1 (off:=0) (m:=1) rfl rfl) lt_ lt_ fun A42 c43=>?_)
 refine s_ av_ (z_ (kx_ (n_ (g_ (jr_ (vI 1) (s_ mv_ (z_ (JX_again ?_))))))))
 refine JR_one ?_
 refine q_ (g_ (jr_ (vB true) (z_ (n_ (q_ (ift (sk_ (n_ (q_ (k_ (q_ (g_ (s_ (x_indexAddr_sl (k:=1) Tryz.underlying25 Ty.sz9 rfl rfl lt_ rfl) (r_ (ld_ 9 Ty.sc9) (s_ av_ (z_ (n_ (q_ (q_ (g_ (s_ mv_ (js_ (vB true) (x_eql_s (a:=([79,85,84]:Bytes)) (b:=([79,85,84]:Bytes)) rfl rfl) ?_))))))))))))))))))))))
 refine z_ (n_ (ift (J_exit (ne_ (kh_ (n_ (g_ (jr_ (vI 2) (s_ mv_ (z_ (JX_again ?_)))))))))))
 refine JR_one ?_
 refine q_ (g_ (jr_ (vB false) (z_ (n_ (q_ (iff_ (J_exit (ne_ (ne_ (kh_ (n_ (g_ (s_ (fA 2 Ty.fi97_2) (r_ (ld_ 8 Ty.sc95) (s_ mv_ (s_ mv_ ?_))))))))))))))))
 refine JO_callP [x,m,s,tp7,tf6] [Ent.blk x 82 [Value.iface 41 (pB s 0),vS parm,Value.map (some m),vI 0,vB false,vL none 0 0,vL none 0 0],Ent.mp vS m ([([73,78],(l.getD ((R45.findI [73,78] l).toNat) default)),([79,85,84],(l.getD ((R45.findI [79,85,84] l).toNat) default))].map R45.bindE),Ent.blk s 52 [vL rowsA rows.length rowsC,vI 0,vI 0,vI ((e34:Nat):Int)],Ent.blk tp7 145 [vI mem26,vI fan27],Ent.blk tf6 138 [vL flA23 fl22.length flC24]] [Ent.row (.slice A42 (([]:List Rw)++[(Rw.mk out31 outA32 outC33)]).length c43) 25 1 (([]:List Rw)++[(Rw.mk out31 outA32 outC33)]).length ((([]:List Rw)++[(Rw.mk out31 outA32 outC33)]).flatMap Rw.enc),Ent.blk b41 25 [vL outA32 out31.length outC33],Ent.row (.slice outA32 out31.length outC33) 9 1 out31.length (out31.map vS),Ent.row (.slice flA23 fl22.length flC24) 179 4 fl22.length (fl22.flatMap SortField.enc),Ent.blk b8 97 [vL (some ⟨nb5,0,none⟩) 2 2,Value.func (.func 104) #[] #[pB tf6 0,pB tp7 0],Value.func (.func 107) #[] #[pB tp7 0,pB tf6 0]],Ent.blk nb5 9 [vS [73,78],vS [79,85,84]]] rfl trivial (fun _=>x_callv (first:=[]) (caps:=[pB tp7 0,pB tf6 0]) rfl Ty.ca107 rfl) (fun _ h=>(((((((((((h.front 9 _ rfl).front 9 _ rfl).front 8 _ rfl).front 6 _ rfl).front 5 _ rfl).front 5 _ rfl).front 8 _ rfl).front 9 _ rfl).front 8 _ rfl).front 10 _ rfl).front 10 _ rfl).keep [true,true,true,true,true,true,true,true,true,true,true] rfl) (own_mem rfl) (fun w hS=>f107_ok x s parm m rows rowsA rowsC e34 [([73,78],(l.getD ((R45.findI [73,78] l).toNat) default)),([79,85,84],(l.getD ((R45.findI [79,85,84] l).toNat) default))] (([]:List Rw)++[(Rw.mk out31 outA32 outC33)]) A42 c43 tp7 mem26 fan27 tf6 fl22 flA23 flC24 w (rowsR.on hS (own_mem rfl)) (RO.of_rowS hS (own_mem rfl) 0 rfl) (ronS ronN (RO.of_rowS hS (own_mem rfl) 2 rfl)) (RO.of_rowS hS (own_mem rfl) 3 rfl) (hT.on hS (own_mem rfl)) hy_ hy_ hy_ hy_ hy_ (by refine R45.rec_lenB _ ?_ (by decide);assumption) (by assumption) (by first | exact row_le (hS.mem (j:=0) rfl) | exact row_le (hS.mem (j:=1) rfl) | exact row_le (hS.mem (j:=2) rfl) | exact row_le (hS.mem (j:=3) rfl) | exact row_le (hS.mem (j:=4) rfl) | exact row_le (hS.mem (j:=5) rfl) | exact row_le (hS.mem (j:=6) rfl) | exact row_le (hS.mem (j:=7) rfl) | exact row_le (hS.mem (j:=8) rfl) | exact row_le (hS.mem (j:=9) rfl) | exact row_le (hS.mem (j:=10) rfl) | exact row_le (hS.mem (j:=11) rfl) | exact row_le (hS.mem (j:=12) rfl) | exact row_le (hS.mem (j:=13) rfl)) (by have:=(by assumption:R45.SrP _ _ _ _ _).2.2;omega) (hS.give (own_in rfl))) ?_ ?_
 ·rintro _ _ ⟨line44,rfl,rfl,hp45⟩
  refine JX_pan [] (fun _ h=>h.keep [false,false,false,false,false,false] rfl) (fun _ _ h=>h) ⟨line44,rfl,?_,?_⟩
  ·rfl
  ·exact c45z0_
 rintro _ _ ⟨ch46,chA47,chC48,ln49,lnA50,lnC51,rfl,rfl,hf52,hf53⟩
 refine z_ (JX_En ?_)
 refine JX_end0 Tryz.results27 [Ent.blk x 82 [Value.iface 41 (pB s 0),vS parm,Value.map (some m),vI 0,vB false,vL chA47 ch46.length chC48,vL lnA50 ln49.length lnC51],Ent.row (.slice chA47 ch46.length chC48) 60 5 ch46.length (ch46.flatMap Change.enc),Ent.row (.slice lnA50 ln49.length lnC51) 9 1 ln49.length (ln49.map vS)] (fun _ h=>h.keep [true,false,true,true,false,false,false,false,false,false] rfl) ⟨0,ch46,chA47,chC48,ln49,lnA50,lnC51,?_,?_,?_⟩
 ·rfl
 ·rfl
 ·exact R45.srt_yes (by assumption) (by assumption) (by assumption) (by assumption) (by assumption)
end Go.Proofs.YtggobegaiijhhaaGreatDoor
