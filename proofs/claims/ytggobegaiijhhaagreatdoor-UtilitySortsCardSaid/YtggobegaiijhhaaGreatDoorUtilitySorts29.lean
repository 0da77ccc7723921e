/- C45y2, GvTa, GvRc in one text. -/
import Derived.Test.YtggobegaiijhhaaGreatDoorUtilitySorts27
import Derived.Test.YtggobegaiijhhaaGreatDoorUtilitySorts4
import Derived.Test.YtggobegaiijhhaaGreatDoorUtilitySorts9
import Derived.RecoverIn
set_option linter.unusedVariables false
set_option linter.unusedSimpArgs false
namespace Go.Proofs.YtggobegaiijhhaaGreatDoor
open Go.GV
set_option linter.unusedVariables false
set_option linter.unusedSimpArgs false
theorem c45y20_ {p:Prop} (h:p:=by first | exact fun h=>absurd h.1 (by assumption) | exact fun h=>absurd h.2.1 (by assumption) | exact fun h=>absurd h.2.2.1 (by assumption) | exact fun h=>R45.ff h.2.2.2.1 (by assumption) (by assumption) | exact R45.mrg_noP (by assumption) (by assumption) | exact R45.mrg_no (by assumption) (by assumption) (by assumption) (by assumption) (by assumption)):p:=h
theorem c45y21_ {p:Prop} (h:p:=by first | omega | (simp only [List.length_append,List.length_cons,List.length_nil];omega) | (simp;omega) | (simp_all;omega)):p:=h
theorem c45y22_ {p:Prop} (h:p:=by first | exact row_le (hS.mem (j:=0) rfl) | exact row_le (hS.mem (j:=1) rfl) | exact row_le (hS.mem (j:=2) rfl) | exact row_le (hS.mem (j:=3) rfl) | exact row_le (hS.mem (j:=4) rfl) | exact row_le (hS.mem (j:=5) rfl) | exact row_le (hS.mem (j:=6) rfl) | exact row_le (hS.mem (j:=7) rfl) | exact row_le (hS.mem (j:=8) rfl) | exact row_le (hS.mem (j:=9) rfl) | exact row_le (hS.mem (j:=10) rfl) | exact row_le (hS.mem (j:=11) rfl) | exact row_le (hS.mem (j:=12) rfl) | exact row_le (hS.mem (j:=13) rfl)):p:=h
set_option maxHeartbeats 6000000 in
set_option maxRecDepth 20000 in
theorem perf_merge (x:Nat) (s:Nat) (parm:Bytes) (m:Nat) (rows:List SRow) (rowsA:Option Addr) (rowsC:Nat) (calls:Nat) (l:List Binding) (lA:Option Addr) (lC:Nat) (w:World) (rowsR:RO [x,m,s] w rowsA (rows.flatMap SRow.enc)) (lR:RO [x,m,s] w lA (l.flatMap Binding.enc)) (lN:Kp [x,m,s] w (okL Binding.ok l)) (hT:Tab [x,m,s] w) (q0:rows.length≤500) (q1:calls≤890000) (q2:R45.Dist rows) (q3:∀ x∈rows,x.Key.length≤1000000) (q4:∀ x∈rows,x.Record.length≤1000000) (q5:parm.length≤1000) (q6:l.length≤1000) (q7:∀ i,(l.getD i default).Lines.length≤500) (q8:∀ i j,((l.getD i default).Lines.getD j []).length≤1000000) (hg:Give [x,m,s] w [Ent.blk x 82 [Value.iface 41 (pB s 0),vS parm,Value.map (some m),vI 0,vB false,vL none 0 0,vL none 0 0],Ent.mp vS m ([]:List (Bytes × Value)),Ent.blk s 52 [vL rowsA rows.length rowsC,vI 0,vI 0,vI ((calls:Nat):Int)]]):Calls Tryz.prog 27 #[pB x 0,vS [109,101,114,103,101],vL lA l.length lC] w (GivesE [x,m,s] w (fun v L=>∃ cd:Int,∃ ch:List Change,∃ chA:Option Addr,∃ chC:Nat,∃ ln:List Bytes,∃ lnA:Option Addr,∃ lnC:Nat,v=Value.tuple #[]∧L=[Ent.blk x 82 [Value.iface 41 (pB s 0),vS parm,Value.map (some m),vI cd,vB false,vL chA ch.length chC,vL lnA ln.length lnC],Ent.row (.slice chA ch.length chC) 60 5 ch.length (ch.flatMap Change.enc),Ent.row (.slice lnA ln.length lnC) 9 1 ln.length (ln.map vS)]∧(R45.MrgR rows parm l cd ch)) (fun c L=>∃ line:Bytes,c=R45.pan line∧L=[]∧(¬ R45.MrgOk rows parm l))):=by
 refine calls_JE [x,m,s] 110 Tryz.func27 rfl Tryz.ntmps27 [(0,_),(1,_),(2,_)] rfl rfl hg ?_
 refine q_ (g_ ?_)
 refine c1 (cl_ Ty.ca32) (fun w hS=>f32_ok w) ?_
 rintro _ _ ⟨pm1,tb2,rfl,rfl⟩
 refine s_ mv_ ?_
 refine JO_read (Value.tuple #[Value.func (.func 65) #[] #[],vB true]) rfl trivial (x_lookup_ok 0 (f:=vS) (k:=[109,101,114,103,101]) rfl rfl rfl Tryz.underlying89 (mapK_s Tryz.underlying9) Ty.ze90 (lk_ne (by decide) (lk_ne (by decide) (lk_ne (by decide) (lk_ne (by decide) (lk_ne (by decide) (lk_ne (by decide) (lk_ne (by decide) (lk_hit (by decide)))))))))) ?_
 refine s_ mv_ (s_ (ex_ 0) (s_ (ex_ 1) (s_ av_ (s_ av_ (z_ (n_ (q_ ?_)))))))
 refine J_less (L':=[Ent.blk tb2 94 [Value.func (.func 43) #[] #[]],Ent.blk x 82 [Value.iface 41 (pB s 0),vS parm,Value.map (some m),vI 0,vB false,vL none 0 0,vL none 0 0],Ent.mp vS m ([]:List (Bytes × Value)),Ent.blk s 52 [vL rowsA rows.length rowsC,vI 0,vI 0,vI ((calls:Nat):Int)]]) (fun _ h=>h.keep [false,true,true,true,true] rfl) ?_
 refine g_ (s_ mv_ ?_)
 refine JO_callP [] [] [Ent.blk tb2 94 [Value.func (.func 43) #[] #[]],Ent.blk x 82 [Value.iface 41 (pB s 0),vS parm,Value.map (some m),vI 0,vB false,vL none 0 0,vL none 0 0],Ent.mp vS m ([]:List (Bytes × Value)),Ent.blk s 52 [vL rowsA rows.length rowsC,vI 0,vI 0,vI ((calls:Nat):Int)]] rfl trivial (fun _=>x_call Ty.ca33 rfl) (fun _ h=>h) (fun _ h=>by cases h) (fun w hS=>f33_ok true [110,111,32,112,114,111,103,114,97,109] w) ?_ ?_
 ·rintro _ _ ⟨rfl,rfl,hp3⟩
  exact absurd hp3 (by decide)
 rintro _ _ ⟨rfl,rfl,hf4⟩
 refine z_ (n_ (q_ (g_ (s_ mv_ ?_))))
 refine c1 (x_callv (first:=[]) (caps:=[]) rfl Ty.ca65 rfl) (fun w hS=>f65_ok w) ?_
 rintro _ _ ⟨nb5,tf6,rfl,rfl⟩
 refine o_ (al_ Ty.ze97 fun b7=>?_)
 refine o_ (stG 0 Ty.sz97 ?_)
 refine z_ (n_ (q_ (q_ (g_ (s_ (fA 0 Ty.fi97_0) (r_ (ld_ 0 Ty.sc25) (s_ (lnS Tryz.underlying25) (s_ mv_ (z_ (n_ (k_ ?_)))))))))))
 refine J_unroll 4 ?_
 refine JR_one ?_
 refine q_ (g_ (jr_ (vB true) (z_ (n_ (q_ (ift (sk_ (n_ (q_ (k_ (q_ (g_ (s_ (x_indexAddr_sl (k:=0) Tryz.underlying25 Ty.sz9 rfl rfl lt_ rfl) (r_ (ld_ 1 Ty.sc9) (o_ (al_ Ty.ze9 fun b8=>?_))))))))))))))))
 refine o_ (st1 0 Ty.sz9 ?_)
 refine z_ (n_ (q_ (g_ (s_ mv_ (js_ (Value.func (.func 35) #[] #[pB b8 0]) (x_makeFunc rfl rfl) ?_)))))
 refine JO_call [b8] [Ent.blk b8 9 [vS [73,78,49]]] [Ent.blk b7 97 [vL (some ⟨nb5,0,none⟩) 3 3,Value.func (.func 94) #[] #[pB tf6 0],Value.func (.func 96) #[] #[pB tf6 0]],Ent.blk nb5 9 [vS [73,78,49],vS [73,78,50],vS [79,85,84]],Ent.blk tf6 138 [vL none 0 0],Ent.blk tb2 94 [Value.func (.func 43) #[] #[]],Ent.blk x 82 [Value.iface 41 (pB s 0),vS parm,Value.map (some m),vI 0,vB false,vL none 0 0,vL none 0 0],Ent.mp vS m ([]:List (Bytes × Value)),Ent.blk s 52 [vL rowsA rows.length rowsC,vI 0,vI 0,vI ((calls:Nat):Int)]] rfl trivial (fun _=>x_call Ty.ca34 rfl) (fun _ h=>h) (own_mem rfl) (fun w hS=>f34_ok l lA lC b8 [73,78,49] w (lR.on hS (own_mem rfl)) hy_ hy_ (hS.give (own_in rfl))) ?_
 rintro _ _ ⟨rfl,rfl⟩
 have ha9:=R45.findI_bd [73,78,49] l
 try simp only [List.length_cons,List.length_nil,Nat.zero_add,Nat.reduceAdd,Nat.reduceMul] at ha9
 refine s_ av_ (z_ (n_ (q_ (g_ (s_ mv_ (s_ (x_geq_i rfl rfl) (r_ (ld_ 0 Ty.sc9) (js_ (vS ([110,111,32,100,100,32]++[73,78,49])) (x_cat_s rfl rfl c45y21_) ?_))))))))
 refine JO_callP [] [] [Ent.blk b8 9 [vS [73,78,49]],Ent.blk b7 97 [vL (some ⟨nb5,0,none⟩) 3 3,Value.func (.func 94) #[] #[pB tf6 0],Value.func (.func 96) #[] #[pB tf6 0]],Ent.blk nb5 9 [vS [73,78,49],vS [73,78,50],vS [79,85,84]],Ent.blk tf6 138 [vL none 0 0],Ent.blk tb2 94 [Value.func (.func 43) #[] #[]],Ent.blk x 82 [Value.iface 41 (pB s 0),vS parm,Value.map (some m),vI 0,vB false,vL none 0 0,vL none 0 0],Ent.mp vS m ([]:List (Bytes × Value)),Ent.blk s 52 [vL rowsA rows.length rowsC,vI 0,vI 0,vI ((calls:Nat):Int)]] rfl trivial (fun _=>x_call Ty.ca33 rfl) (fun _ h=>h) (fun _ h=>by cases h) (fun w hS=>f33_ok _ ([110,111,32,100,100,32]++[73,78,49]) w) ?_ ?_
 ·rintro _ _ ⟨rfl,rfl,hp10⟩
  have hp10:=of_decide_eq_false hp10
  refine JX_then_pan (JX_block_pan (JX_then_pan (JX_then_pan (JX_block_pan (JX_then_pan ?_)))))
  refine JX_pan [] (fun _ h=>h.keep [false,false,false,false,false,false,false,false] rfl) (fun _ _ h=>h) ⟨([110,111,32,100,100,32]++[73,78,49]),rfl,?_,?_⟩
  ·rfl
  ·exact c45y20_
 rintro _ _ ⟨rfl,rfl,hf11⟩
 have hf11:=of_decide_eq_true hf11
 refine z_ (n_ ?_)
 refine drU [] [9] 10 Ty.mixed ?_
 refine jp_ 0 rfl mv_ (jp_ 1 rfl (x_nilCheck rfl) (jp_ 2 rfl (fA 2 Ty.fi82_2) ?_))
 refine JA_early 3 (Value.map (some m)) rfl (by kernel_rfl) (by kernel_rfl) (by kernel_rfl) rfl (by kernel_rfl) (fun _ _ _ h=>h) rfl trivial (x_load 5 rfl rfl Ty.sc80 rfl) ?_
 refine JA_early 4 (vS [73,78,49]) rfl (by kernel_rfl) (by kernel_rfl) (by kernel_rfl) rfl (by kernel_rfl) (fun _ _ _ h=>h) rfl trivial (x_load 0 rfl rfl Ty.sc9 rfl) ?_
 refine jp_ 5 rfl mv_ (jp_ 6 rfl mv_ (jq_ 7 rfl (ixF (k:=(R45.findI [73,78,49] l).toNat) (hy:=(ix_nat rfl (by omega))) Binding.enc_len (cells_ro lR) Tryz.underlying36 Ty.sz33) (jq_ 8 rfl (ldFN Binding.enc_len (cells_ro lR) Ty.ag33 Ty.sz33) (j1_ 9 ?_ (fun _ h=>⟨h.keep [false,false,false,false,false,false,false,false] rfl,fun _=>h⟩)))))
 refine jio_ rfl (O_mapUpdate 6 (f:=vS) (k:=[73,78,49]) [([73,78,49],vG (Binding.enc (l.getD ((R45.findI [73,78,49] l).toNat) default)))] [Ent.blk b8 9 [vS [73,78,49]],Ent.blk b7 97 [vL (some ⟨nb5,0,none⟩) 3 3,Value.func (.func 94) #[] #[pB tf6 0],Value.func (.func 96) #[] #[pB tf6 0]],Ent.blk nb5 9 [vS [73,78,49],vS [73,78,50],vS [79,85,84]],Ent.blk tf6 138 [vL none 0 0],Ent.blk tb2 94 [Value.func (.func 43) #[] #[]],Ent.blk x 82 [Value.iface 41 (pB s 0),vS parm,Value.map (some m),vI 0,vB false,vL none 0 0,vL none 0 0],Ent.mp vS m [([73,78,49],vG (Binding.enc (l.getD ((R45.findI [73,78,49] l).toNat) default)))],Ent.blk s 52 [vL rowsA rows.length rowsC,vI 0,vI 0,vI ((calls:Nat):Int)]] rfl rfl rfl rfl Tryz.underlying80 (mapK_s Tryz.underlying9) rfl rfl ?_)
 refine JA_done (by kernel_rfl) (gl_ rfl (fun _ h=>h.keep [false,false,false,false,false,false,false,false] rfl)) ?_
 refine kx_ (n_ (g_ (jr_ (vI 1) (s_ mv_ (z_ (JX_again ?_))))))
 refine JR_one ?_
 refine q_ (g_ (jr_ (vB true) (z_ (n_ (q_ (ift (sk_ (n_ (q_ (k_ (q_ (g_ (s_ (x_indexAddr_sl (k:=1) Tryz.underlying25 Ty.sz9 rfl rfl lt_ rfl) (r_ (ld_ 2 Ty.sc9) (o_ (al_ Ty.ze9 fun b12=>?_))))))))))))))))
 refine o_ (st1 0 Ty.sz9 ?_)
 refine z_ (n_ (q_ (g_ (s_ mv_ (js_ (Value.func (.func 35) #[] #[pB b12 0]) (x_makeFunc rfl rfl) ?_)))))
 refine JO_call [b12] [Ent.blk b12 9 [vS [73,78,50]]] [Ent.blk b8 9 [vS [73,78,49]],Ent.blk b7 97 [vL (some ⟨nb5,0,none⟩) 3 3,Value.func (.func 94) #[] #[pB tf6 0],Value.func (.func 96) #[] #[pB tf6 0]],Ent.blk nb5 9 [vS [73,78,49],vS [73,78,50],vS [79,85,84]],Ent.blk tf6 138 [vL none 0 0],Ent.blk tb2 94 [Value.func (.func 43) #[] #[]],Ent.blk x 82 [Value.iface 41 (pB s 0),vS parm,Value.map (some m),vI 0,vB false,vL none 0 0,vL none 0 0],Ent.mp vS m [([73,78,49],vG (Binding.enc (l.getD ((R45.findI [73,78,49] l).toNat) default)))],Ent.blk s 52 [vL rowsA rows.length rowsC,vI 0,vI 0,vI ((calls:Nat):Int)]] rfl trivial (fun _=>x_call Ty.ca34 rfl) (fun _ h=>h) (own_mem rfl) (fun w hS=>f34_ok l lA lC b12 [73,78,50] w (lR.on hS (own_mem rfl)) hy_ hy_ (hS.give (own_in rfl))) ?_
 rintro _ _ ⟨rfl,rfl⟩
 have ha13:=R45.findI_bd [73,78,50] l
 try simp only [List.length_cons,List.length_nil,Nat.zero_add,Nat.reduceAdd,Nat.reduceMul] at ha13
 refine s_ av_ (z_ (n_ (q_ (g_ (s_ mv_ (s_ (x_geq_i rfl rfl) (r_ (ld_ 0 Ty.sc9) (js_ (vS ([110,111,32,100,100,32]++[73,78,50])) (x_cat_s rfl rfl c45y21_) ?_))))))))
 refine JO_callP [] [] [Ent.blk b12 9 [vS [73,78,50]],Ent.blk b8 9 [vS [73,78,49]],Ent.blk b7 97 [vL (some ⟨nb5,0,none⟩) 3 3,Value.func (.func 94) #[] #[pB tf6 0],Value.func (.func 96) #[] #[pB tf6 0]],Ent.blk nb5 9 [vS [73,78,49],vS [73,78,50],vS [79,85,84]],Ent.blk tf6 138 [vL none 0 0],Ent.blk tb2 94 [Value.func (.func 43) #[] #[]],Ent.blk x 82 [Value.iface 41 (pB s 0),vS parm,Value.map (some m),vI 0,vB false,vL none 0 0,vL none 0 0],Ent.mp vS m [([73,78,49],vG (Binding.enc (l.getD ((R45.findI [73,78,49] l).toNat) default)))],Ent.blk s 52 [vL rowsA rows.length rowsC,vI 0,vI 0,vI ((calls:Nat):Int)]] rfl trivial (fun _=>x_call Ty.ca33 rfl) (fun _ h=>h) (fun _ h=>by cases h) (fun w hS=>f33_ok _ ([110,111,32,100,100,32]++[73,78,50]) w) ?_ ?_
 ·rintro _ _ ⟨rfl,rfl,hp14⟩
  have hp14:=of_decide_eq_false hp14
  refine JX_then_pan (JX_block_pan (JX_then_pan (JX_then_pan (JX_block_pan (JX_then_pan ?_)))))
  refine JX_pan [] (fun _ h=>h.keep [false,false,false,false,false,false,false,false,false] rfl) (fun _ _ h=>h) ⟨([110,111,32,100,100,32]++[73,78,50]),rfl,?_,?_⟩
  ·rfl
  ·exact c45y20_
 rintro _ _ ⟨rfl,rfl,hf15⟩
 have hf15:=of_decide_eq_true hf15
 refine z_ (n_ ?_)
 refine drU [] [9] 10 Ty.mixed ?_
 refine jp_ 0 rfl mv_ (jp_ 1 rfl (x_nilCheck rfl) (jp_ 2 rfl (fA 2 Ty.fi82_2) ?_))
 refine JA_early 3 (Value.map (some m)) rfl (by kernel_rfl) (by kernel_rfl) (by kernel_rfl) rfl (by kernel_rfl) (fun _ _ _ h=>h) rfl trivial (x_load 6 rfl rfl Ty.sc80 rfl) ?_
 refine JA_early 4 (vS [73,78,50]) rfl (by kernel_rfl) (by kernel_rfl) (by kernel_rfl) rfl (by kernel_rfl) (fun _ _ _ h=>h) rfl trivial (x_load 0 rfl rfl Ty.sc9 rfl) ?_
 refine jp_ 5 rfl mv_ (jp_ 6 rfl mv_ (jq_ 7 rfl (ixF (k:=(R45.findI [73,78,50] l).toNat) (hy:=(ix_nat rfl (by omega))) Binding.enc_len (cells_ro lR) Tryz.underlying36 Ty.sz33) (jq_ 8 rfl (ldFN Binding.enc_len (cells_ro lR) Ty.ag33 Ty.sz33) (j1_ 9 ?_ (fun _ h=>⟨h.keep [false,false,false,false,false,false,false,false,false] rfl,fun _=>h⟩)))))
 refine jio_ rfl (O_mapUpdate 7 (f:=vS) (k:=[73,78,50]) [([73,78,49],vG (Binding.enc (l.getD ((R45.findI [73,78,49] l).toNat) default))),([73,78,50],vG (Binding.enc (l.getD ((R45.findI [73,78,50] l).toNat) default)))] [Ent.blk b12 9 [vS [73,78,50]],Ent.blk b8 9 [vS [73,78,49]],Ent.blk b7 97 [vL (some ⟨nb5,0,none⟩) 3 3,Value.func (.func 94) #[] #[pB tf6 0],Value.func (.func 96) #[] #[pB tf6 0]],Ent.blk nb5 9 [vS [73,78,49],vS [73,78,50],vS [79,85,84]],Ent.blk tf6 138 [vL none 0 0],Ent.blk tb2 94 [Value.func (.func 43) #[] #[]],Ent.blk x 82 [Value.iface 41 (pB s 0),vS parm,Value.map (some m),vI 0,vB false,vL none 0 0,vL none 0 0],Ent.mp vS m [([73,78,49],vG (Binding.enc (l.getD ((R45.findI [73,78,49] l).toNat) default))),([73,78,50],vG (Binding.enc (l.getD ((R45.findI [73,78,50] l).toNat) default)))],Ent.blk s 52 [vL rowsA rows.length rowsC,vI 0,vI 0,vI ((calls:Nat):Int)]] rfl rfl rfl rfl Tryz.underlying80 (mapK_s Tryz.underlying9) rfl rfl ?_)
 refine JA_done (by kernel_rfl) (gl_ rfl (fun _ h=>h.keep [false,false,false,false,false,false,false,false,false] rfl)) ?_
 refine kx_ (n_ (g_ (jr_ (vI 2) (s_ mv_ (z_ (JX_again ?_))))))
 refine JR_one ?_
 refine q_ (g_ (jr_ (vB true) (z_ (n_ (q_ (ift (sk_ (n_ (q_ (k_ (q_ (g_ (s_ (x_indexAddr_sl (k:=2) Tryz.underlying25 Ty.sz9 rfl rfl lt_ rfl) (r_ (ld_ 3 Ty.sc9) (o_ (al_ Ty.ze9 fun b16=>?_))))))))))))))))
 refine o_ (st1 0 Ty.sz9 ?_)
 refine z_ (n_ (q_ (g_ (s_ mv_ (js_ (Value.func (.func 35) #[] #[pB b16 0]) (x_makeFunc rfl rfl) ?_)))))
 refine JO_call [b16] [Ent.blk b16 9 [vS [79,85,84]]] [Ent.blk b12 9 [vS [73,78,50]],Ent.blk b8 9 [vS [73,78,49]],Ent.blk b7 97 [vL (some ⟨nb5,0,none⟩) 3 3,Value.func (.func 94) #[] #[pB tf6 0],Value.func (.func 96) #[] #[pB tf6 0]],Ent.blk nb5 9 [vS [73,78,49],vS [73,78,50],vS [79,85,84]],Ent.blk tf6 138 [vL none 0 0],Ent.blk tb2 94 [Value.func (.func 43) #[] #[]],Ent.blk x 82 [Value.iface 41 (pB s 0),vS parm,Value.map (some m),vI 0,vB false,vL none 0 0,vL none 0 0],Ent.mp vS m [([73,78,49],vG (Binding.enc (l.getD ((R45.findI [73,78,49] l).toNat) default))),([73,78,50],vG (Binding.enc (l.getD ((R45.findI [73,78,50] l).toNat) default)))],Ent.blk s 52 [vL rowsA rows.length rowsC,vI 0,vI 0,vI ((calls:Nat):Int)]] rfl trivial (fun _=>x_call Ty.ca34 rfl) (fun _ h=>h) (own_mem rfl) (fun w hS=>f34_ok l lA lC b16 [79,85,84] w (lR.on hS (own_mem rfl)) hy_ hy_ (hS.give (own_in rfl))) ?_
 rintro _ _ ⟨rfl,rfl⟩
 have ha17:=R45.findI_bd [79,85,84] l
 try simp only [List.length_cons,List.length_nil,Nat.zero_add,Nat.reduceAdd,Nat.reduceMul] at ha17
 refine s_ av_ (z_ (n_ (q_ (g_ (s_ mv_ (s_ (x_geq_i rfl rfl) (r_ (ld_ 0 Ty.sc9) (js_ (vS ([110,111,32,100,100,32]++[79,85,84])) (x_cat_s rfl rfl c45y21_) ?_))))))))
 refine JO_callP [] [] [Ent.blk b16 9 [vS [79,85,84]],Ent.blk b12 9 [vS [73,78,50]],Ent.blk b8 9 [vS [73,78,49]],Ent.blk b7 97 [vL (some ⟨nb5,0,none⟩) 3 3,Value.func (.func 94) #[] #[pB tf6 0],Value.func (.func 96) #[] #[pB tf6 0]],Ent.blk nb5 9 [vS [73,78,49],vS [73,78,50],vS [79,85,84]],Ent.blk tf6 138 [vL none 0 0],Ent.blk tb2 94 [Value.func (.func 43) #[] #[]],Ent.blk x 82 [Value.iface 41 (pB s 0),vS parm,Value.map (some m),vI 0,vB false,vL none 0 0,vL none 0 0],Ent.mp vS m [([73,78,49],vG (Binding.enc (l.getD ((R45.findI [73,78,49] l).toNat) default))),([73,78,50],vG (Binding.enc (l.getD ((R45.findI [73,78,50] l).toNat) default)))],Ent.blk s 52 [vL rowsA rows.length rowsC,vI 0,vI 0,vI ((calls:Nat):Int)]] rfl trivial (fun _=>x_call Ty.ca33 rfl) (fun _ h=>h) (fun _ h=>by cases h) (fun w hS=>f33_ok _ ([110,111,32,100,100,32]++[79,85,84]) w) ?_ ?_
 ·rintro _ _ ⟨rfl,rfl,hp18⟩
  have hp18:=of_decide_eq_false hp18
  refine JX_then_pan (JX_block_pan (JX_then_pan (JX_then_pan (JX_block_pan (JX_then_pan ?_)))))
  refine JX_pan [] (fun _ h=>h.keep [false,false,false,false,false,false,false,false,false,false] rfl) (fun _ _ h=>h) ⟨([110,111,32,100,100,32]++[79,85,84]),rfl,?_,?_⟩
  ·rfl
  ·exact c45y20_
 rintro _ _ ⟨rfl,rfl,hf19⟩
 have hf19:=of_decide_eq_true hf19
 refine z_ (n_ ?_)
 refine drU [] [9] 10 Ty.mixed ?_
 refine jp_ 0 rfl mv_ (jp_ 1 rfl (x_nilCheck rfl) (jp_ 2 rfl (fA 2 Ty.fi82_2) ?_))
 refine JA_early 3 (Value.map (some m)) rfl (by kernel_rfl) (by kernel_rfl) (by kernel_rfl) rfl (by kernel_rfl) (fun _ _ _ h=>h) rfl trivial (x_load 7 rfl rfl Ty.sc80 rfl) ?_
 refine JA_early 4 (vS [79,85,84]) rfl (by kernel_rfl) (by kernel_rfl) (by kernel_rfl) rfl (by kernel_rfl) (fun _ _ _ h=>h) rfl trivial (x_load 0 rfl rfl Ty.sc9 rfl) ?_
 refine jp_ 5 rfl mv_ (jp_ 6 rfl mv_ (jq_ 7 rfl (ixF (k:=(R45.findI [79,85,84] l).toNat) (hy:=(ix_nat rfl (by omega))) Binding.enc_len (cells_ro lR) Tryz.underlying36 Ty.sz33) (jq_ 8 rfl (ldFN Binding.enc_len (cells_ro lR) Ty.ag33 Ty.sz33) (j1_ 9 ?_ (fun _ h=>⟨h.keep [false,false,false,false,false,false,false,false,false,false] rfl,fun _=>h⟩)))))
 refine jio_ rfl (O_mapUpdate 8 (f:=vS) (k:=[79,85,84]) [([73,78,49],vG (Binding.enc (l.getD ((R45.findI [73,78,49] l).toNat) default))),([73,78,50],vG (Binding.enc (l.getD ((R45.findI [73,78,50] l).toNat) default))),([79,85,84],vG (Binding.enc (l.getD ((R45.findI [79,85,84] l).toNat) default)))] [Ent.blk b16 9 [vS [79,85,84]],Ent.blk b12 9 [vS [73,78,50]],Ent.blk b8 9 [vS [73,78,49]],Ent.blk b7 97 [vL (some ⟨nb5,0,none⟩) 3 3,Value.func (.func 94) #[] #[pB tf6 0],Value.func (.func 96) #[] #[pB tf6 0]],Ent.blk nb5 9 [vS [73,78,49],vS [73,78,50],vS [79,85,84]],Ent.blk tf6 138 [vL none 0 0],Ent.blk tb2 94 [Value.func (.func 43) #[] #[]],Ent.blk x 82 [Value.iface 41 (pB s 0),vS parm,Value.map (some m),vI 0,vB false,vL none 0 0,vL none 0 0],Ent.mp vS m [([73,78,49],vG (Binding.enc (l.getD ((R45.findI [73,78,49] l).toNat) default))),([73,78,50],vG (Binding.enc (l.getD ((R45.findI [73,78,50] l).toNat) default))),([79,85,84],vG (Binding.enc (l.getD ((R45.findI [79,85,84] l).toNat) default)))],Ent.blk s 52 [vL rowsA rows.length rowsC,vI 0,vI 0,vI ((calls:Nat):Int)]] rfl rfl rfl rfl Tryz.underlying80 (mapK_s Tryz.underlying9) rfl rfl ?_)
 refine JA_done (by kernel_rfl) (gl_ rfl (fun _ h=>h.keep [false,false,false,false,false,false,false,false,false,false] rfl)) ?_
 refine kx_ (n_ (g_ (jr_ (vI 3) (s_ mv_ (z_ (JX_again ?_))))))
 refine JR_one ?_
 refine q_ (g_ (jr_ (vB false) (z_ (n_ (q_ (iff_ (J_exit (ne_ (ne_ (kh_ (n_ (q_ (q_ ?_)))))))))))))
 refine J_less (L':=[Ent.blk b7 97 [vL (some ⟨nb5,0,none⟩) 3 3,Value.func (.func 94) #[] #[pB tf6 0],Value.func (.func 96) #[] #[pB tf6 0]],Ent.blk nb5 9 [vS [73,78,49],vS [73,78,50],vS [79,85,84]],Ent.blk tf6 138 [vL none 0 0],Ent.blk x 82 [Value.iface 41 (pB s 0),vS parm,Value.map (some m),vI 0,vB false,vL none 0 0,vL none 0 0],Ent.mp vS m [([73,78,49],vG (Binding.enc (l.getD ((R45.findI [73,78,49] l).toNat) default))),([73,78,50],vG (Binding.enc (l.getD ((R45.findI [73,78,50] l).toNat) default))),([79,85,84],vG (Binding.enc (l.getD ((R45.findI [79,85,84] l).toNat) default)))],Ent.blk s 52 [vL rowsA rows.length rowsC,vI 0,vI 0,vI ((calls:Nat):Int)]]) (fun _ h=>h.keep [false,false,false,true,true,true,false,true,true,true] rfl) ?_
 refine g_ (s_ mv_ (s_ (x_nilCheck rfl) (s_ (fA 2 Ty.fi82_2) (r_ (ld_ 3 Ty.sc80) ?_))))
 refine JO_read (Value.tuple #[vG (Binding.enc (l.getD ((R45.findI [79,85,84] l).toNat) default)),vB true]) rfl trivial (x_lookup_ok 4 (f:=vS) (k:=[79,85,84]) rfl rfl rfl Tryz.underlying80 (mapK_s Tryz.underlying9) Ty.ze33 (lk_ne (by decide) (lk_ne (by decide) (lk_hit (by decide))))) ?_
 refine s_ mv_ (s_ (ex_ 0) (s_ (ex_ 1) (o_ (al_ Ty.ze33 fun b20=>?_))))
 refine o_ (stG 0 Ty.sz33 ?_)
 refine s_ av_ (z_ (xk_ [0,1,8,12,13] ?_))
 refine n_ (q_ (g_ (s_ mv_ (z_ (n_ (ift (g_ (s_ mv_ (r_ (ldN 0 (Binding.enc (l.getD ((R45.findI [79,85,84] l).toNat) default)) Ty.ag33 Ty.sz33) ?_)))))))))
 refine c1 (cl_ Ty.ca36) (fun w hS=>f36_ok [109,101,114,103,101] _ w) ?_
 rintro _ _ ⟨z21,rfl,rfl,hf22⟩
 refine JO_callP [] [] [Ent.blk b20 33 (Binding.enc (l.getD ((R45.findI [79,85,84] l).toNat) default)),Ent.blk b7 97 [vL (some ⟨nb5,0,none⟩) 3 3,Value.func (.func 94) #[] #[pB tf6 0],Value.func (.func 96) #[] #[pB tf6 0]],Ent.blk nb5 9 [vS [73,78,49],vS [73,78,50],vS [79,85,84]],Ent.blk tf6 138 [vL none 0 0],Ent.blk x 82 [Value.iface 41 (pB s 0),vS parm,Value.map (some m),vI 0,vB false,vL none 0 0,vL none 0 0],Ent.mp vS m [([73,78,49],vG (Binding.enc (l.getD ((R45.findI [73,78,49] l).toNat) default))),([73,78,50],vG (Binding.enc (l.getD ((R45.findI [73,78,50] l).toNat) default))),([79,85,84],vG (Binding.enc (l.getD ((R45.findI [79,85,84] l).toNat) default)))],Ent.blk s 52 [vL rowsA rows.length rowsC,vI 0,vI 0,vI ((calls:Nat):Int)]] rfl trivial (fun _=>x_call Ty.ca33 rfl) (fun _ h=>h) (fun _ h=>by cases h) (fun w hS=>f33_ok z21 [100,100,32,79,85,84,32,99,97,110,110,111,116,32,98,101,32,119,114,105,116,116,101,110] w) ?_ ?_
 ·rintro _ _ ⟨rfl,rfl,hp23⟩
  refine JX_then_pan ?_
  refine JX_pan [] (fun _ h=>h.keep [false,false,false,false,false,false,false] rfl) (fun _ _ h=>h) ⟨[100,100,32,79,85,84,32,99,97,110,110,111,116,32,98,101,32,119,114,105,116,116,101,110],rfl,?_,?_⟩
  ·rfl
  ·exact c45y20_
 rintro _ _ ⟨rfl,rfl,hf24⟩
 refine z_ (n_ (q_ ?_))
 refine J_less (L':=[Ent.blk b7 97 [vL (some ⟨nb5,0,none⟩) 3 3,Value.func (.func 94) #[] #[pB tf6 0],Value.func (.func 96) #[] #[pB tf6 0]],Ent.blk nb5 9 [vS [73,78,49],vS [73,78,50],vS [79,85,84]],Ent.blk tf6 138 [vL none 0 0],Ent.blk x 82 [Value.iface 41 (pB s 0),vS parm,Value.map (some m),vI 0,vB false,vL none 0 0,vL none 0 0],Ent.mp vS m [([73,78,49],vG (Binding.enc (l.getD ((R45.findI [73,78,49] l).toNat) default))),([73,78,50],vG (Binding.enc (l.getD ((R45.findI [73,78,50] l).toNat) default))),([79,85,84],vG (Binding.enc (l.getD ((R45.findI [79,85,84] l).toNat) default)))],Ent.blk s 52 [vL rowsA rows.length rowsC,vI 0,vI 0,vI ((calls:Nat):Int)]]) (fun _ h=>h.keep [false,true,true,true,true,true,true] rfl) ?_
 refine g_ (s_ (fA 1 Ty.fi97_1) (r_ (ld_ 0 Ty.sc94) (s_ mv_ ?_)))
 refine JO_call [x,tf6] [Ent.blk x 82 [Value.iface 41 (pB s 0),vS parm,Value.map (some m),vI 0,vB false,vL none 0 0,vL none 0 0],Ent.blk tf6 138 [vL none 0 0]] [Ent.blk b7 97 [vL (some ⟨nb5,0,none⟩) 3 3,Value.func (.func 94) #[] #[pB tf6 0],Value.func (.func 96) #[] #[pB tf6 0]],Ent.blk nb5 9 [vS [73,78,49],vS [73,78,50],vS [79,85,84]],Ent.mp vS m [([73,78,49],vG (Binding.enc (l.getD ((R45.findI [73,78,49] l).toNat) default))),([73,78,50],vG (Binding.enc (l.getD ((R45.findI [73,78,50] l).toNat) default))),([79,85,84],vG (Binding.enc (l.getD ((R45.findI [79,85,84] l).toNat) default)))],Ent.blk s 52 [vL rowsA rows.length rowsC,vI 0,vI 0,vI ((calls:Nat):Int)]] rfl trivial (fun _=>x_callv (first:=[]) (caps:=[pB tf6 0]) rfl Ty.ca94 rfl) (fun _ h=>((((((h.front 5 _ rfl).front 5 _ rfl).front 3 _ rfl).front 3 _ rfl).front 4 _ rfl).front 5 _ rfl).keep [true,true,true,true,true,true] rfl) (own_mem rfl) (fun w hS=>f94_ok x s parm m tf6 w (hT.on hS (own_mem rfl)) hy_ (hS.give (own_in rfl))) ?_
 rintro _ _ ⟨fl25,flA26,flC27,ok28,rfl,rfl,hf29⟩
 refine JO_callP [] [] [Ent.blk x 82 [Value.iface 41 (pB s 0),vS parm,Value.map (some m),vI 0,vB false,vL none 0 0,vL none 0 0],Ent.blk tf6 138 [vL flA26 fl25.length flC27],Ent.row (.slice flA26 fl25.length flC27) 179 4 fl25.length (fl25.flatMap SortField.enc),Ent.blk b7 97 [vL (some ⟨nb5,0,none⟩) 3 3,Value.func (.func 94) #[] #[pB tf6 0],Value.func (.func 96) #[] #[pB tf6 0]],Ent.blk nb5 9 [vS [73,78,49],vS [73,78,50],vS [79,85,84]],Ent.mp vS m [([73,78,49],vG (Binding.enc (l.getD ((R45.findI [73,78,49] l).toNat) default))),([73,78,50],vG (Binding.enc (l.getD ((R45.findI [73,78,50] l).toNat) default))),([79,85,84],vG (Binding.enc (l.getD ((R45.findI [79,85,84] l).toNat) default)))],Ent.blk s 52 [vL rowsA rows.length rowsC,vI 0,vI 0,vI ((calls:Nat):Int)]] rfl trivial (fun _=>x_call Ty.ca33 rfl) (fun _ h=>h) (fun _ h=>by cases h) (fun w hS=>f33_ok ok28 [119,114,111,110,103,32,112,97,114,97,109,101,116,101,114] w) ?_ ?_
 ·rintro _ _ ⟨rfl,rfl,hp30⟩
  refine JX_then_pan ?_
  refine JX_pan [] (fun _ h=>h.keep [false,false,false,false,false,false,false] rfl) (fun _ _ h=>h) ⟨[119,114,111,110,103,32,112,97,114,97,109,101,116,101,114],rfl,?_,?_⟩
  ·rfl
  ·exact c45y20_
 rintro _ _ ⟨rfl,rfl,hf31⟩
 refine z_ (n_ (q_ (g_ (s_ av_ (z_ (n_ (q_ (q_ (g_ (s_ (fA 0 Ty.fi97_0) (r_ (ld_ 3 Ty.sc25) (s_ (lnS Tryz.underlying25) (s_ mv_ (z_ (n_ (k_ ?_))))))))))))))))
 refine J_unroll 4 ?_
 refine JR_one ?_
 refine q_ (g_ (jr_ (vB true) (z_ (n_ (q_ (ift (sk_ (n_ (q_ (k_ (q_ (g_ (s_ (x_indexAddr_sl (k:=0) Tryz.underlying25 Ty.sz9 rfl rfl lt_ rfl) (r_ (ld_ 4 Ty.sc9) (s_ av_ (z_ (n_ (q_ (q_ (g_ (s_ mv_ (js_ (vB false) (x_eql_s (a:=([73,78,49]:Bytes)) (b:=([79,85,84]:Bytes)) rfl rfl) ?_))))))))))))))))))))))
 refine z_ (n_ (iff_ (sk_ (n_ (q_ ?_)))))
 refine drU [] [10] 16 Ty.mixed ?_
 refine jp_ 0 rfl mv_ (jp_ 1 rfl (x_nilCheck rfl) (jp_ 2 rfl (fA 0 Ty.fi82_0) ?_))
 refine JA_early 3 (Value.iface 41 (pB s 0)) rfl (by kernel_rfl) (by kernel_rfl) (by kernel_rfl) rfl (by kernel_rfl) (fun _ _ _ h=>h) rfl trivial (x_load 0 rfl rfl Ty.sc71 rfl) ?_
 refine jp_ 4 rfl mv_ (jp_ 5 rfl (x_nilCheck rfl) (jp_ 6 rfl (fA 2 Ty.fi82_2) ?_))
 refine JA_earlyT 7 (Value.map (some m)) rfl (by kernel_rfl) (by kernel_rfl) (by kernel_rfl) rfl (by kernel_rfl) (fun _ _ _ h=>h) rfl trivial (x_load 0 rfl rfl Ty.sc80 rfl) ?_
 refine jp_ 8 rfl mv_ ?_
 refine JA_early 9 (vG (Binding.enc (l.getD ((R45.findI [73,78,49] l).toNat) default))) rfl (by kernel_rfl) (by kernel_rfl) (by kernel_rfl) rfl (by kernel_rfl) (fun _ _ _ h=>h) rfl trivial (x_lookup 5 (f:=vS) (k:=[73,78,49]) rfl rfl rfl Tryz.underlying80 (mapK_s Tryz.underlying9) Ty.ze33 (lk_hit (by decide))) ?_
 refine j1_ 10 ?_ (fun _ h=>⟨h.keep [false,false,false,false,false,false,false] rfl,fun _=>h⟩)
 refine JI_call [s] [Ent.blk s 52 [vL rowsA rows.length rowsC,vI 0,vI 0,vI ((calls:Nat):Int)]] [Ent.blk x 82 [Value.iface 41 (pB s 0),vS parm,Value.map (some m),vI 0,vB false,vL none 0 0,vL none 0 0],Ent.blk tf6 138 [vL flA26 fl25.length flC27],Ent.row (.slice flA26 fl25.length flC27) 179 4 fl25.length (fl25.flatMap SortField.enc),Ent.blk b7 97 [vL (some ⟨nb5,0,none⟩) 3 3,Value.func (.func 94) #[] #[pB tf6 0],Value.func (.func 96) #[] #[pB tf6 0]],Ent.blk nb5 9 [vS [73,78,49],vS [73,78,50],vS [79,85,84]],Ent.mp vS m [([73,78,49],vG (Binding.enc (l.getD ((R45.findI [73,78,49] l).toNat) default))),([73,78,50],vG (Binding.enc (l.getD ((R45.findI [73,78,50] l).toNat) default))),([79,85,84],vG (Binding.enc (l.getD ((R45.findI [79,85,84] l).toNat) default)))]] rfl rfl trivial (fun _=>x_call Ty.ca11 rfl) (fun _ h=>(((((((h.front 5 _ rfl).front 5 _ rfl).front 5 _ rfl).front 5 _ rfl).front 5 _ rfl).front 5 _ rfl).front 6 _ rfl).keep [true,true,true,true,true,true,true] rfl) (own_mem rfl) (fun w hS=>f11_ok s rows rowsA rowsC calls (l.getD ((R45.findI [73,78,49] l).toNat) default) w (rowsR.on hS (own_mem rfl)) (okL_at (lN.on hS (own_mem rfl)) _) (by omega) hy_ hy_ (by exact Nat.le_trans (q7 _) (by decide)) (hS.give (own_in rfl))) ?_
 rintro _ _ ⟨out32,outA33,outC34,e35,rfl,rfl,hf36,hf37⟩
 have ha38:=R45.rec_len5 out32 (by assumption) q0 (q7 _)
 have ha39:=R45.rec_each out32 (by assumption) q4 (q8 _)
 refine jp_ 11 rfl mv_ (jp_ 12 rfl (ex_ 0) (jp_ 13 rfl (ex_ 1) (jp_ 14 rfl av_ (jp_ 15 rfl av_ ?_))))
 refine JA_done (by kernel_rfl) (gl_ rfl (fun _ h=>h.keep [false,false,false,false,false,false,false,false] rfl)) ?_
 refine n_ (q_ (g_ (s_ mv_ (jr_ (vB true) ?_))))
 refine JO_callP [] [] [Ent.blk s 52 [vL rowsA rows.length rowsC,vI 0,vI 0,vI ((e35:Nat):Int)],Ent.row (.slice outA33 out32.length outC34) 9 1 out32.length (out32.map vS),Ent.blk x 82 [Value.iface 41 (pB s 0),vS parm,Value.map (some m),vI 0,vB false,vL none 0 0,vL none 0 0],Ent.blk tf6 138 [vL flA26 fl25.length flC27],Ent.row (.slice flA26 fl25.length flC27) 179 4 fl25.length (fl25.flatMap SortField.enc),Ent.blk b7 97 [vL (some ⟨nb5,0,none⟩) 3 3,Value.func (.func 94) #[] #[pB tf6 0],Value.func (.func 96) #[] #[pB tf6 0]],Ent.blk nb5 9 [vS [73,78,49],vS [73,78,50],vS [79,85,84]],Ent.mp vS m [([73,78,49],vG (Binding.enc (l.getD ((R45.findI [73,78,49] l).toNat) default))),([73,78,50],vG (Binding.enc (l.getD ((R45.findI [73,78,50] l).toNat) default))),([79,85,84],vG (Binding.enc (l.getD ((R45.findI [79,85,84] l).toNat) default)))]] rfl trivial (fun _=>x_call Ty.ca33 rfl) (fun _ h=>h) (fun _ h=>by cases h) (fun w hS=>f33_ok true [116,111,111,32,109,97,110,121,32,114,101,99,111,114,100,115] w) ?_ ?_
 ·rintro _ _ ⟨rfl,rfl,hp40⟩
  exact absurd hp40 (by decide)
 rintro _ _ ⟨rfl,rfl,hf41⟩
 refine z_ (n_ (q_ (g_ (s_ mv_ (c0 (cl_ Ty.ca37) (fun w hS=>f37_ok 0 w hy_) (z_ (n_ (g_ (s_ mv_ (s_ mv_ (o_ (O_buildSlice (cs:=[vL outA33 out32.length outC34]) Tryz.underlying102 Ty.sz25 Ty.ze25 (by decide) (by decide) (by kernel_rfl) fun b42=>?_))))))))))))
 refine JO_weaken (E':=[(0,pB x 0),(8,pB b7 0),(14,vL none (([]:List Rw).length) 0),(73,vL (some ⟨nb5,0,none⟩) 3 3),(74,vI 3),(75,vI 0),(76,vB true),(77,pB nb5 0),(78,vS [73,78,49]),(16,vS [73,78,49]),(79,vS [73,78,49]),(80,vB false),(82,pB x 0),(83,pB x 0),(84,pB x 0),(85,Value.iface 41 (pB s 0)),(86,pB x 0),(87,pB x 0),(88,pB x 2),(89,Value.map (some m)),(90,vS [73,78,49]),(91,vG (Binding.enc (l.getD ((R45.findI [73,78,49] l).toNat) default))),(92,Value.tuple #[vL outA33 out32.length outC34,vI 0]),(81,Value.tuple #[vL outA33 out32.length outC34,vI 0]),(93,vL outA33 out32.length outC34),(94,vI 0),(17,vL outA33 out32.length outC34),(18,vI 0),(95,vI 0),(96,vB true),(97,Value.tuple #[]),(98,vI 0),(99,Value.tuple #[]),(100,vL none (([]:List Rw).length) 0),(101,vL outA33 out32.length outC34),(102,vL (some ⟨b42,0,none⟩) 1 1)]) (L':=[Ent.row (.slice none ([]:List Rw).length 0) 25 1 ([]:List Rw).length (([]:List Rw).flatMap Rw.enc),Ent.blk b42 25 [vL outA33 out32.length outC34],Ent.blk s 52 [vL rowsA rows.length rowsC,vI 0,vI 0,vI ((e35:Nat):Int)],Ent.row (.slice outA33 out32.length outC34) 9 1 out32.length (out32.map vS),Ent.blk x 82 [Value.iface 41 (pB s 0),vS parm,Value.map (some m),vI 0,vB false,vL none 0 0,vL none 0 0],Ent.blk tf6 138 [vL flA26 fl25.length flC27],Ent.row (.slice flA26 fl25.length flC27) 179 4 fl25.length (fl25.flatMap SortField.enc),Ent.blk b7 97 [vL (some ⟨nb5,0,none⟩) 3 3,Value.func (.func 94) #[] #[pB tf6 0],Value.func (.func 96) #[] #[pB tf6 0]],Ent.blk nb5 9 [vS [73,78,49],vS [73,78,50],vS [79,85,84]],Ent.mp vS m [([73,78,49],vG (Binding.enc (l.getD ((R45.findI [73,78,49] l).toNat) default))),([73,78,50],vG (Binding.enc (l.getD ((R45.findI [73,78,50] l).toNat) default))),([79,85,84],vG (Binding.enc (l.getD ((R45.findI [79,85,84] l).toNat) default)))]]) ⟨rfl,rfl,rfl,rfl,rfl,rfl,rfl,rfl,rfl,rfl,rfl,rfl,rfl,rfl,rfl,rfl,rfl,rfl,rfl,rfl,rfl,rfl,rfl,rfl,rfl,rfl,rfl,rfl,rfl,rfl,rfl,rfl,rfl,rfl,rfl,rfl,trivial⟩ (fun _ h=>((((((((((h.front 8 _ rfl).front 8 _ rfl).front 8 _ rfl).front 8 _ rfl).front 8 _ rfl).front 8 _ rfl).front 8 _ rfl).front 8 _ rfl).front 8 _ rfl).nilrow 25 1).keep [true,true,true,true,true,true,true,true,true,true] rfl) ?_
 refine o_ (O_append_f 0 Rw.enc 1 ([]:List Rw) [(Rw.mk out32 outA33 outC34)] Tryz.underlying102 Ty.sz25 Ty.by25 Ty.ze25 rfl (by decide) rfl rfl rfl rfl Rw.enc_len Rw.enc_one (cells_blk 1 (off:=0) (m:=1) rfl rfl) lt_ lt_ fun A43 c44=>?_)
 refine s_ av_ (z_ (kx_ (n_ (g_ (jr_ (vI 1) (s_ mv_ (z_ (JX_again ?_))))))))
 refine JR_one ?_
 refine q_ (g_ (jr_ (vB true) (z_ (n_ (q_ (ift (sk_ (n_ (q_ (k_ (q_ (g_ (s_ (x_indexAddr_sl (k:=1) Tryz.underlying25 Ty.sz9 rfl rfl lt_ rfl) (r_ (ld_ 8 Ty.sc9) (s_ av_ (z_ (n_ (q_ (q_ (g_ (s_ mv_ (js_ (vB false) (x_eql_s (a:=([73,78,50]:Bytes)) (b:=([79,85,84]:Bytes)) rfl rfl) ?_))))))))))))))))))))))
 refine z_ (n_ (iff_ (sk_ (n_ (q_ ?_)))))
 refine drU [] [10] 16 Ty.mixed ?_
 refine jp_ 0 rfl mv_ (jp_ 1 rfl (x_nilCheck rfl) (jp_ 2 rfl (fA 0 Ty.fi82_0) ?_))
 refine JA_early 3 (Value.iface 41 (pB s 0)) rfl (by kernel_rfl) (by kernel_rfl) (by kernel_rfl) rfl (by kernel_rfl) (fun _ _ _ h=>h) rfl trivial (x_load 4 rfl rfl Ty.sc71 rfl) ?_
 refine jp_ 4 rfl mv_ (jp_ 5 rfl (x_nilCheck rfl) (jp_ 6 rfl (fA 2 Ty.fi82_2) ?_))
 refine JA_earlyT 7 (Value.map (some m)) rfl (by kernel_rfl) (by kernel_rfl) (by kernel_rfl) rfl (by kernel_rfl) (fun _ _ _ h=>h) rfl trivial (x_load 4 rfl rfl Ty.sc80 rfl) ?_
 refine jp_ 8 rfl mv_ ?_
 refine JA_early 9 (vG (Binding.enc (l.getD ((R45.findI [73,78,50] l).toNat) default))) rfl (by kernel_rfl) (by kernel_rfl) (by kernel_rfl) rfl (by kernel_rfl) (fun _ _ _ h=>h) rfl trivial (x_lookup 9 (f:=vS) (k:=[73,78,50]) rfl rfl rfl Tryz.underlying80 (mapK_s Tryz.underlying9) Ty.ze33 (lk_ne (by decide) (lk_hit (by decide)))) ?_
 refine j1_ 10 ?_ (fun _ h=>⟨h.keep [false,false,false,false,false,false,false,false,false,false] rfl,fun _=>h⟩)
 refine JI_call [s] [Ent.blk s 52 [vL rowsA rows.length rowsC,vI 0,vI 0,vI ((e35:Nat):Int)]] [Ent.row (.slice A43 (([]:List Rw)++[(Rw.mk out32 outA33 outC34)]).length c44) 25 1 (([]:List Rw)++[(Rw.mk out32 outA33 outC34)]).length ((([]:List Rw)++[(Rw.mk out32 outA33 outC34)]).flatMap Rw.enc),Ent.blk b42 25 [vL outA33 out32.length outC34],Ent.row (.slice outA33 out32.length outC34) 9 1 out32.length (out32.map vS),Ent.blk x 82 [Value.iface 41 (pB s 0),vS parm,Value.map (some m),vI 0,vB false,vL none 0 0,vL none 0 0],Ent.blk tf6 138 [vL flA26 fl25.length flC27],Ent.row (.slice flA26 fl25.length flC27) 179 4 fl25.length (fl25.flatMap SortField.enc),Ent.blk b7 97 [vL (some ⟨nb5,0,none⟩) 3 3,Value.func (.func 94) #[] #[pB tf6 0],Value.func (.func 96) #[] #[pB tf6 0]],Ent.blk nb5 9 [vS [73,78,49],vS [73,78,50],vS [79,85,84]],Ent.mp vS m [([73,78,49],vG (Binding.enc (l.getD ((R45.findI [73,78,49] l).toNat) default))),([73,78,50],vG (Binding.enc (l.getD ((R45.findI [73,78,50] l).toNat) default))),([79,85,84],vG (Binding.enc (l.getD ((R45.findI [79,85,84] l).toNat) default)))]] rfl rfl trivial (fun _=>x_call Ty.ca11 rfl) (fun _ h=>((((((((((h.front 9 _ rfl).front 9 _ rfl).front 9 _ rfl).front 9 _ rfl).front 9 _ rfl).front 9 _ rfl).front 9 _ rfl).front 8 _ rfl).front 8 _ rfl).front 9 _ rfl).keep [true,true,true,true,true,true,true,true,true,true] rfl) (own_mem rfl) (fun w hS=>f11_ok s rows rowsA rowsC e35 (l.getD ((R45.findI [73,78,50] l).toNat) default) w (rowsR.on hS (own_mem rfl)) (okL_at (lN.on hS (own_mem rfl)) _) (by omega) hy_ hy_ (by exact Nat.le_trans (q7 _) (by decide)) (hS.give (own_in rfl))) ?_
 rintro _ _ ⟨out45,outA46,outC47,e48,rfl,rfl,hf49,hf50⟩
 have ha51:=R45.rec_len5 out45 (by assumption) q0 (q7 _)
 have ha52:=R45.rec_each out45 (by assumption) q4 (q8 _)
 refine jp_ 11 rfl mv_ (jp_ 12 rfl (ex_ 0) (jp_ 13 rfl (ex_ 1) (jp_ 14 rfl av_ (jp_ 15 rfl av_ ?_))))
 refine JA_done (by kernel_rfl) (gl_ rfl (fun _ h=>h.keep [false,false,false,false,false,false,false,false,false,false,false] rfl)) ?_
 refine n_ (q_ (g_ (s_ mv_ (jr_ (vB true) ?_))))
 refine JO_callP [] [] [Ent.blk s 52 [vL rowsA rows.length rowsC,vI 0,vI 0,vI ((e48:Nat):Int)],Ent.row (.slice outA46 out45.length outC47) 9 1 out45.length (out45.map vS),Ent.row (.slice A43 (([]:List Rw)++[(Rw.mk out32 outA33 outC34)]).length c44) 25 1 (([]:List Rw)++[(Rw.mk out32 outA33 outC34)]).length ((([]:List Rw)++[(Rw.mk out32 outA33 outC34)]).flatMap Rw.enc),Ent.blk b42 25 [vL outA33 out32.length outC34],Ent.row (.slice outA33 out32.length outC34) 9 1 out32.length (out32.map vS),Ent.blk x 82 [Value.iface 41 (pB s 0),vS parm,Value.map (some m),vI 0,vB false,vL none 0 0,vL none 0 0],Ent.blk tf6 138 [vL flA26 fl25.length flC27],Ent.row (.slice flA26 fl25.length flC27) 179 4 fl25.length (fl25.flatMap SortField.enc),Ent.blk b7 97 [vL (some ⟨nb5,0,none⟩) 3 3,Value.func (.func 94) #[] #[pB tf6 0],Value.func (.func 96) #[] #[pB tf6 0]],Ent.blk nb5 9 [vS [73,78,49],vS [73,78,50],vS [79,85,84]],Ent.mp vS m [([73,78,49],vG (Binding.enc (l.getD ((R45.findI [73,78,49] l).toNat) default))),([73,78,50],vG (Binding.enc (l.getD ((R45.findI [73,78,50] l).toNat) default))),([79,85,84],vG (Binding.enc (l.getD ((R45.findI [79,85,84] l).toNat) default)))]] rfl trivial (fun _=>x_call Ty.ca33 rfl) (fun _ h=>h) (fun _ h=>by cases h) (fun w hS=>f33_ok true [116,111,111,32,109,97,110,121,32,114,101,99,111,114,100,115] w) ?_ ?_
 ·rintro _ _ ⟨rfl,rfl,hp53⟩
  exact absurd hp53 (by decide)
 rintro _ _ ⟨rfl,rfl,hf54⟩
 refine z_ (n_ (q_ (g_ (s_ mv_ (c0 (cl_ Ty.ca37) (fun w hS=>f37_ok 0 w hy_) (z_ (n_ (g_ (s_ mv_ (s_ mv_ (o_ (O_buildSlice (cs:=[vL outA46 out45.length outC47]) Tryz.underlying102 Ty.sz25 Ty.ze25 (by decide) (by decide) (by kernel_rfl) fun b55=>?_))))))))))))
 refine o_ (O_append_f 3 Rw.enc 1 (([]:List Rw)++[(Rw.mk out32 outA33 outC34)]) [(Rw.mk out45 outA46 outC47)] Tryz.underlying102 Ty.sz25 Ty.by25 Ty.ze25 rfl (by decide) rfl rfl rfl rfl Rw.enc_len Rw.enc_one (cells_blk 0 (off:=0) (m:=1) rfl rfl) lt_ lt_ fun A56 c57=>?_)
 refine s_ av_ (z_ (kx_ (n_ (g_ (jr_ (vI 2) (s_ mv_ (z_ (JX_again ?_))))))))
 refine JR_one ?_
 refine q_ (g_ (jr_ (vB true) (z_ (n_ (q_ (ift (sk_ (n_ (q_ (k_ (q_ (g_ (s_ (x_indexAddr_sl (k:=2) Tryz.underlying25 Ty.sz9 rfl rfl lt_ rfl) (r_ (ld_ 10 Ty.sc9) (s_ av_ (z_ (n_ (q_ (q_ (g_ (s_ mv_ (js_ (vB true) (x_eql_s (a:=([79,85,84]:Bytes)) (b:=([79,85,84]:Bytes)) rfl rfl) ?_))))))))))))))))))))))
 refine z_ (n_ (ift (J_exit (ne_ (kh_ (n_ (g_ (jr_ (vI 3) (s_ mv_ (z_ (JX_again ?_)))))))))))
 refine JR_one ?_
 refine q_ (g_ (jr_ (vB false) (z_ (n_ (q_ (iff_ (J_exit (ne_ (ne_ (kh_ (n_ (g_ (s_ (fA 2 Ty.fi97_2) (r_ (ld_ 9 Ty.sc95) (s_ mv_ (s_ mv_ ?_))))))))))))))))
 refine JO_callP [x,m,s,tf6] [Ent.blk x 82 [Value.iface 41 (pB s 0),vS parm,Value.map (some m),vI 0,vB false,vL none 0 0,vL none 0 0],Ent.mp vS m ([([73,78,49],(l.getD ((R45.findI [73,78,49] l).toNat) default)),([73,78,50],(l.getD ((R45.findI [73,78,50] l).toNat) default)),([79,85,84],(l.getD ((R45.findI [79,85,84] l).toNat) default))].map R45.bindE),Ent.blk s 52 [vL rowsA rows.length rowsC,vI 0,vI 0,vI ((e48:Nat):Int)],Ent.blk tf6 138 [vL flA26 fl25.length flC27]] [Ent.blk b55 25 [vL outA46 out45.length outC47],Ent.row (.slice outA46 out45.length outC47) 9 1 out45.length (out45.map vS),Ent.row (.slice A56 ((([]:List Rw)++[(Rw.mk out32 outA33 outC34)])++[(Rw.mk out45 outA46 outC47)]).length c57) 25 1 ((([]:List Rw)++[(Rw.mk out32 outA33 outC34)])++[(Rw.mk out45 outA46 outC47)]).length (((([]:List Rw)++[(Rw.mk out32 outA33 outC34)])++[(Rw.mk out45 outA46 outC47)]).flatMap Rw.enc),Ent.blk b42 25 [vL outA33 out32.length outC34],Ent.row (.slice outA33 out32.length outC34) 9 1 out32.length (out32.map vS),Ent.row (.slice flA26 fl25.length flC27) 179 4 fl25.length (fl25.flatMap SortField.enc),Ent.blk b7 97 [vL (some ⟨nb5,0,none⟩) 3 3,Value.func (.func 94) #[] #[pB tf6 0],Value.func (.func 96) #[] #[pB tf6 0]],Ent.blk nb5 9 [vS [73,78,49],vS [73,78,50],vS [79,85,84]]] rfl trivial (fun _=>x_callv (first:=[]) (caps:=[pB tf6 0]) rfl Ty.ca96 rfl) (fun _ h=>((((((((((((h.front 10 _ rfl).front 10 _ rfl).front 10 _ rfl).front 8 _ rfl).front 8 _ rfl).front 8 _ rfl).front 8 _ rfl).front 7 _ rfl).front 10 _ rfl).front 9 _ rfl).front 11 _ rfl).front 11 _ rfl).keep [true,true,true,true,true,true,true,true,true,true,true,true] rfl) (own_mem rfl) (fun w hS=>f96_ok x s parm m rows rowsA rowsC e48 [([73,78,49],(l.getD ((R45.findI [73,78,49] l).toNat) default)),([73,78,50],(l.getD ((R45.findI [73,78,50] l).toNat) default)),([79,85,84],(l.getD ((R45.findI [79,85,84] l).toNat) default))] ((([]:List Rw)++[(Rw.mk out32 outA33 outC34)])++[(Rw.mk out45 outA46 outC47)]) A56 c57 tf6 fl25 flA26 flC27 w (rowsR.on hS (own_mem rfl)) (RO.of_rowS hS (own_mem rfl) 2 rfl) (ronS (ronS ronN (RO.of_rowS hS (own_mem rfl) 4 rfl)) (RO.of_rowS hS (own_mem rfl) 1 rfl)) (RO.of_rowS hS (own_mem rfl) 5 rfl) (hT.on hS (own_mem rfl)) hy_ hy_ hy_ hy_ hy_ (by exact R45.two_each (p:=fun r:Rw=>r.s.length≤500) (by assumption) (by assumption) (Nat.zero_le _)) (by exact R45.two_each (p:=fun r:Rw=>∀ j,(r.s.getD j []).length≤1000000) (by assumption) (by assumption) (fun _=>Nat.zero_le _)) (by exact R45.two_each (p:=fun r:Rw=>r.s.length≤r.sC) c45y22_ c45y22_ (Nat.le_refl _)) (by have:=(by assumption:R45.MrP _ _ _).2.2;omega) (hS.give (own_in rfl))) ?_ ?_
 ·rintro _ _ ⟨line58,rfl,rfl,hp59⟩
  refine JX_pan [] (fun _ h=>h.keep [false,false,false,false,false,false,false,false] rfl) (fun _ _ h=>h) ⟨line58,rfl,?_,?_⟩
  ·rfl
  ·exact c45y20_
 rintro _ _ ⟨ch60,chA61,chC62,ln63,lnA64,lnC65,rfl,rfl,hf66,hf67⟩
 refine z_ (JX_En ?_)
 refine JX_end0 Tryz.results27 [Ent.blk x 82 [Value.iface 41 (pB s 0),vS parm,Value.map (some m),vI 0,vB false,vL chA61 ch60.length chC62,vL lnA64 ln63.length lnC65],Ent.row (.slice chA61 ch60.length chC62) 60 5 ch60.length (ch60.flatMap Change.enc),Ent.row (.slice lnA64 ln63.length lnC65) 9 1 ln63.length (ln63.map vS)] (fun _ h=>h.keep [true,false,true,true,false,false,false,false,false,false,false,false] rfl) ⟨0,ch60,chA61,chC62,ln63,lnA64,lnC65,?_,?_,?_⟩
 ·rfl
 ·rfl
 ·exact R45.mrg_yes (by assumption) (by assumption) (by assumption) (by assumption) (by assumption) (by assumption)
end Go.Proofs.YtggobegaiijhhaaGreatDoor
namespace Go.GV
open Go.RowKit
section
variable {E:Env} {P:Program} {w:World} {x:Operand} {dst:Option Nat} {t a xt ty:TypeId} {pos:String} {af:Array Edge} {g:Option (Nat × Bool)}
theorem x_assert_hit {fs:Array Field} {v:Value} (hx:ev E x = .iface t v) (ht:P.underlying t=some (.struct fs)):(execOp (ev E) ⟨dst,.typeAssert x xt t true,ty,pos,af,g⟩).run P w = .ok (.value (.tuple #[v,vB true])) w:=by
  have h:(Instr.typeAssert (.iface t v) xt t true).run P w = .ok (.tuple #[v,vB true]) w:=by
    unfold Instr.typeAssert
    simp only [Sem.run_bind,run_underlying ht,Result.andThen_ok,if_true,Sem.run_pure]
  simp only [execOp,hx]
  show Sem.run P (do let v ← Instr.typeAssert (.iface t v) xt t true;pure (Next.value v)) w=_
  rw [Sem.run_bind,h];rfl
end
end Go.GV
namespace Go.GV
open Go.RowKit
section
variable {P:Program} {n:Dim} {S:List Nat} {w0 w:World} {Q:Post} {E:Env} {L:List Ent}
theorem rep_start {fn:Func} {args:Array Value} (E:Env) (hE:E=envOf 0 args.toList) (hn:Nat.ble args.size fn.ntmps=true):Rep { sz:=fn.ntmps } E { tmps:=args++Array.replicate (fn.ntmps-args.size) undef,defers:=[] }:=by
  have hn:=Nat.le_of_ble_eq_true hn
  refine ⟨rfl,?_,?_⟩
  · simp;omega
  · intro t v hv
    rw [hE] at hv
    have h1:args[t]? = some v:=by have:=(get_envOf _ _ _ _ hv).2;simpa using this
    obtain ⟨hlt,h2⟩:=Array.getElem?_eq_some_iff.1 h1
    simp only [Array.getD_eq_getD_getElem?]
    rw [Array.getElem?_append_left hlt,h1]
    rfl
theorem calls_JD {f:FuncId} {fn:Func} {c:Code} {args:Array Value} {w:World} {R:Ending→World→Prop} {L0:List Ent} (S:List Nat) (n:Nat)
    (hf:P.funcs[f]? = some fn) (hb:fn.body=some c) (hm:fn.ntmps=n) (E:Env) (hE:E=envOf 0 args.toList) (hn:Nat.ble args.size n=true)
    (hg:Give S w L0) (h:J P { sz:=n } S w c (bodyPostDIn Fence.wide 0 P fn R) E L0):Calls P f args w R:=by
  subst hm
  exact (callsIn_wide (n:=0)).1 (callsIn_of_wp_defers (F:=Fence.wide) hf hb trivial (h _ w (rep_start E hE hn) hg.start) rfl)
theorem JO_defer {ops:Array Oper} {rest:List Oper} {x:Operand} {ts:Array TypeId} {ty:TypeId} {pos:String} {af:Array Edge} {g:Option (Nat × Bool)} {f:FuncId} {caps:Array Value} (hk:known E x=true) (hx:ev E x = .func (.func f) #[] caps) (hw:wants ops E ⟨none,.defer ⟨.value x,#[],ts⟩,ty,pos,af,g⟩)
    (h:JO P { n with ds:=⟨.fn (.func f) caps,#[]⟩::n.ds } S w0 ops rest Q E L) (hro:n.ro=none:=by rfl):JO P n S w0 ops (⟨none,.defer ⟨.value x,#[],ts⟩,ty,pos,af,g⟩::rest) Q E L:=by
  intro a w hR hSt
  unfold wpListIn
  rw [if_pos (wants_wanted hR hw)]
  refine ⟨fun _ _=>trivial,?_⟩
  have hr:(execOp a.eval ⟨none,.defer ⟨.value x,#[],ts⟩,ty,pos,af,g⟩).run P w = .ok (.defer ⟨.fn (.func f) caps,#[]⟩) w:=by
    simp [execOp,resolve,hR.eval hk,hx,Deferred.ofValue,Sem.run_pure]
  rw [show (Wd n.ro).round=none from hro,Oper.semAt_none,hr]
  have h2:Rep { n with ds:=⟨.fn (.func f) caps,#[]⟩::n.ds } E { a with defers:=⟨.fn (.func f) caps,#[]⟩::a.defers }:=⟨congrArg (_ :: ·) hR.defers,hR.size,hR.val⟩
  exact h _ w h2 hSt
def Door (e:Exit) (u:FrameMode):Prop:=((e = .ret∨e = .normal)∧u = .returning) ∨ ∃ c,e = .panic c∧u = .panicking c
theorem JX_door {fn:Func} {e:Exit} {u:FrameMode} {f:FuncId} {caps:Array Value} {φ:Value→List Ent→Prop} {S1 Sc:List Nat} {w1:World} {rs:List ResultVar} {Lc Lr:List Ent} {ψ:Value→List Ent→Prop}
    (hd:n.ds=[⟨.fn (.func f) caps,#[]⟩]) (hu:Door e u) (hc:Callable P f) (hL:∀ w,St S w0 w L→St S w0 w (Lc++Lr)) (hSc:∀ b∈Sc,∃ e∈Lc,e.own=some b)
    (hcl:∀ w,St S w0 w (Lc++Lr)→CallsDIn Fence.wide 0 P f caps u w (fun e u' w'=>settle u' = .returning∧Gives Sc w ψ e w'))
    (hr:fn.results=rs.toArray) (hB:∀ w L,St S w0 w L→St S1 w1 w L)
    (hv:∀ v' L',ψ v' L' → ∃ (vs:List Value) (v:Value),v=(if h:vs.length=1 then vs[0] else .tuple vs.toArray)∧(∀ w,St S w0 w (L'++Lr)→resAll P E w rs vs) ∧ ∃ L2,(∀ w,St S w0 w (L'++Lr)→St S w0 w L2)∧φ v L2) :
    JX n S w0 (bodyPostDIn Fence.wide 0 P fn (Gives S1 w1 φ)) e E L:=by
  intro a w hR hS
  have hS2:=hL w hS
  have hend:∀ w',(∃ v' L',ψ v' L'∧St Sc w w' L')→LeavesIn Fence.wide 0 P fn a.tmps (Gives S1 w1 φ) [] .returning w':=by
    rintro w' ⟨v',L',hψ,hS'⟩
    have hS3:=hS2.after hSc hS'
    obtain ⟨vs,v,hvv,h1,L2,h4,h2⟩:=hv v' L' hψ
    refine ⟨v,?_,v,L2,rfl,h2,hB _ _ (h4 _ hS3)⟩
    unfold results
    rw [hr,List.mapM_toArray]
    simp only [Sem.run_bind,map_eq_pure_bind]
    rw [mapM_runs _ (fun r u h=>?_) rs vs (h1 _ hS3)]
    rotate_left
    · cases r with
      | tmp t=>show Sem.run P (pure _) w'=_;rw [Sem.run_pure];exact congrArg (fun x=>Result.ok x w') (hR.val t u h)
      | cell b t =>
        obtain ⟨p,hp,hl⟩:=h
        show Sem.run P (do let q ← asAddr (a.tmps.getD b undef);loadVar t q) w'=_
        rw [hR.val b _ hp];exact hl
    simp only [Result.andThen_ok,Sem.run_pure]
    rw [hvv]
    simp
  have hl:LeavesIn Fence.wide 0 P fn a.tmps (Gives S1 w1 φ) [⟨.fn (.func f) caps,#[]⟩] u w:=by
    refine leavesIn_cons (f:=f) (args:=caps) ?_ (fun h=>by cases h) ?_ (fun _ _=>trivial) ((hcl w hS2).mono ?_)
    · rcases hu with ⟨_,h⟩ | ⟨c,_,h⟩ <;> rw [h] <;> exact fun h=>by cases h
    · have:=run_callFunc_enter (P:=P) (w:=w) (args:=caps) hc
      simp only [invoke,Array.empty_append];exact this
    · rintro e' u' w' ⟨h1,v',L',rfl,h2,h3⟩
      show LeavesIn Fence.wide 0 P fn a.tmps (Gives S1 w1 φ) [] (settle u') w'
      rw [h1];exact hend w' ⟨v',L',h2,h3⟩
  have hda:a.defers=[⟨.fn (.func f) caps,#[]⟩]:=hR.defers.trans hd
  rcases hu with ⟨h | h,h2⟩ | ⟨c,h,h2⟩ <;> subst h <;> subst h2
  · show LeavesIn _ _ _ _ _ _ a.defers _ _;rw [hda];exact hl
  · show LeavesIn _ _ _ _ _ _ a.defers _ _;rw [hda];exact hl
  · show LeavesIn _ _ _ _ _ _ a.defers _ _;rw [hda];exact hl
def Rec (u:FrameMode) (v:Value) (u2:FrameMode):Prop:=(u = .returning∧v = .nilIface∧u2 = .returning) ∨ ∃ older,u = .panicking ({ v:=v,recovered:=false } :: older)∧u2 = .panicking ({ v:=v,recovered:=true } :: older)
theorem calls_RC {f:FuncId} {fn:Func} {id:Nat} {c:Code} {args:Array Value} {w:World} {φ:Value→List Ent→Prop} {L0:List Ent} {u u2:FrameMode} {v:Value} {o1 o2:Oper} {a b:Nat} {ts:Array TypeId} {ty1 ty2:TypeId} {p1 p2:String} {e1 e2:Array Edge} (S:List Nat) (n:Nat)
    (hf:P.funcs[f]? = some fn) (hb:fn.body=some (.seq (.region id #[o1,o2] false) c)) (hm:fn.ntmps=n) (hu:Rec u v u2)
    (ho1:o1=⟨some a,.call ⟨.builtin .recover,#[],ts⟩,ty1,p1,e1,none⟩) (ho2:o2=⟨some b,.assign (.tmp a),ty2,p2,e2,none⟩)
    (E:Env) (hE:E=envOf 0 args.toList) (hn:Nat.ble args.size n=true) (ha:a<n) (hbn:b<n) (hea:get E a=none)
    (hg:Give S w L0) (h:J P { sz:=n } S w c (bodyPost P fn (Gives S w φ)) ((b,v)::E) L0):CallsDIn Fence.wide 0 P f args u w (fun e u' w'=>u'=u2∧Gives S w φ e w'):=by
  subst hm
  refine callsDIn_of_wpSIn hf hb trivial fun c₀ cs hc0=>?_
  apply wpSIn_seq
  apply wpSIn_region
  have hR:=rep_start (fn:=fn) E hE hn
  generalize hact:({ tmps:=args++Array.replicate (fn.ntmps-args.size) undef,defers:=[] } : Act)=act at hR ⊢
  have hR1:=Rep.put hR (dst:=some a) (fun d hd=>by cases hd;exact ha) v
  have hR2:=Rep.put hR1 (dst:=some b) (fun d hd=>by cases hd;exact hbn) v
  have hev:(act.put (some a) v).eval (.tmp a)=v:=hR1.val a v (by simp [GV.put,get])
  have hbody:Code.wpSIn Fence.wide 0 P c (bodyPostS P fn c₀ cs (fun e u' w'=>u'=u2∧Gives S w φ e w')) ((act.put (some a) v).put (some b) v) ({ c₀ with mode:=u2 } :: cs) w:=by
    have hR3:Rep { sz:=fn.ntmps } ((b,v)::E) ((act.put (some a) v).put (some b) v):=by
      refine ⟨hR2.defers,hR2.size,fun t z hz=>?_⟩
      by_cases hbt:b=t
      · subst hbt;exact hR2.val b z (by simpa [GV.put,get] using hz)
      · have hb':Nat.beq b t=false:=by
          cases hq:Nat.beq b t with
          | false=>rfl
          | true=>exact absurd (Nat.eq_of_beq_eq_true hq) hbt
        simp only [get,hb',cond_false] at hz
        by_cases hat:a=t
        · subst hat
          rw [hea] at hz;cases hz
        · have ha':Nat.beq a t=false:=by
            cases hq:Nat.beq a t with
            | false=>rfl
            | true=>exact absurd (Nat.eq_of_beq_eq_true hq) hat
          exact hR2.val t z (by simpa [GV.put,get,hb',ha'] using hz)
    refine wpSIn_of_wpIn rfl (wpIn_mono (h _ w hR3 hg.start) fun e a' w' hq=>?_)
    cases e with
    | normal=>obtain ⟨h1,v',h2,h3⟩:=hq;exact ⟨h1,u2,rfl,v',h2,rfl,h3⟩
    | ret=>obtain ⟨h1,v',h2,h3⟩:=hq;exact ⟨h1,u2,rfl,v',h2,rfl,h3⟩
    | panic c=>obtain ⟨h1,h3⟩:=hq;exact ⟨h1,u2,rfl,rfl,h3⟩
    | outgrown=>obtain ⟨_,_,h,_⟩:=hq;cases h
    | exit id=>exact hq.elim
    | goto l=>exact hq.elim
  subst ho1 ho2
  rcases hu with ⟨h1,h2,h3⟩ | ⟨older,h1,h3⟩
  · subst h1 h2 h3
    have hcs : { c₀ with mode:=FrameMode.returning } = c₀:=by cases c₀;simp_all
    rw [hcs] at hbody
    simp [wpOpsSIn,go_sem,recoverD,hc0,Exit.thenS,Region.wanted,List.range,List.range.loop]
    rw [if_pos (show a<act.tmps.size by rw [hR.size];exact ha)]
    exact hbody
  · subst h1 h3
    simp [wpOpsSIn,go_sem,recoverD,hc0,Exit.thenS,Region.wanted,List.range,List.range.loop]
    rw [if_pos (show a<act.tmps.size by rw [hR.size];exact ha)]
    exact hbody
end
section
variable {P:Program} {E:Env} {w:World} {x:Operand} {dst:Option Nat} {t a xt t' ty:TypeId} {pos:String} {af:Array Edge} {g:Option (Nat × Bool)}
theorem eq_nil_nil {m:Array (String × TypeId)} (ht:P.underlying t=some (.interface m)):(Op.equal t .nilIface .nilIface).run P w = .ok true w:=by
  show Sem.run P (Op.equalIn Op.maxDepth t .nilIface .nilIface) w=_
  have hd:Op.maxDepth=(Op.maxDepth-1)+1:=by decide
  rw [hd]
  unfold Op.equalIn
  rw [Sem.run_bind,run_underlying ht];rfl
theorem eq_if_nil {m:Array (String × TypeId)} {b:TypeId} {v:Value} (ht:P.underlying t=some (.interface m)):(Op.equal t (.iface b v) .nilIface).run P w = .ok false w:=by
  show Sem.run P (Op.equalIn Op.maxDepth t (.iface b v) .nilIface) w=_
  have hd:Op.maxDepth=(Op.maxDepth-1)+1:=by decide
  rw [hd]
  unfold Op.equalIn
  rw [Sem.run_bind,run_underlying ht];rfl
theorem x_neq_nn {m:Array (String × TypeId)} (hx:ev E x = .nilIface) (ht:P.underlying t=some (.interface m)):(execOp (ev E) ⟨dst,.binOp .neq t x (.const .nilIface) t',ty,pos,af,g⟩).run P w = .ok (.value (vB false)) w:=by
  have hb:(binOp .neq t .nilIface .nilIface).run P w = .ok (vB false) w:=by
    show Sem.run P (do pure (Value.bool (!(← Op.equal t .nilIface .nilIface)))) w=_
    rw [Sem.run_bind,eq_nil_nil ht];rfl
  have hg:eqGuard .neq t x (.const .nilIface) .nilIface .nilIface=pure ():=by cases x <;> rfl
  simp only [execOp,hx]
  show Sem.run P (do let v ← (do eqGuard .neq t x (.const .nilIface) .nilIface .nilIface;binOp .neq t .nilIface .nilIface);pure (Next.value v)) w=_
  rw [hg]
  show Sem.run P (do let v ← binOp .neq t .nilIface .nilIface;pure (Next.value v)) w=_
  rw [Sem.run_bind,hb];rfl
theorem x_neq_in {m:Array (String × TypeId)} {b:TypeId} {v:Value} (hx:ev E x = .iface b v) (ht:P.underlying t=some (.interface m)):(execOp (ev E) ⟨dst,.binOp .neq t x (.const .nilIface) t',ty,pos,af,g⟩).run P w = .ok (.value (vB true)) w:=by
  have hb:(binOp .neq t (.iface b v) .nilIface).run P w = .ok (vB true) w:=by
    show Sem.run P (do pure (Value.bool (!(← Op.equal t (.iface b v) .nilIface)))) w=_
    rw [Sem.run_bind,eq_if_nil ht];rfl
  have hg:eqGuard .neq t x (.const .nilIface) (.iface b v) .nilIface=pure ():=by cases x <;> rfl
  simp only [execOp,hx]
  show Sem.run P (do let v' ← (do eqGuard .neq t x (.const .nilIface) (.iface b v) .nilIface;binOp .neq t (.iface b v) .nilIface);pure (Next.value v')) w=_
  rw [hg]
  show Sem.run P (do let v' ← binOp .neq t (.iface b v) .nilIface;pure (Next.value v')) w=_
  rw [Sem.run_bind,hb];rfl
theorem x_assert_nil {fs:Array Field} {zv:Value} (hx:ev E x = .nilIface) (ht:P.underlying a=some (.struct fs)) (hz:zeroIs P a=some zv):(execOp (ev E) ⟨dst,.typeAssert x xt a true,ty,pos,af,g⟩).run P w = .ok (.value (.tuple #[zv,vB false])) w:=by
  have h:(Instr.typeAssert .nilIface xt a true).run P w = .ok (.tuple #[zv,vB false]) w:=by
    unfold Instr.typeAssert
    simp only [Sem.run_bind,run_underlying ht,Result.andThen_ok,if_true,run_zeroValue_is hz,Sem.run_pure]
  simp only [execOp,hx]
  show Sem.run P (do let v ← Instr.typeAssert .nilIface xt a true;pure (Next.value v)) w=_
  rw [Sem.run_bind,h];rfl
end
end Go.GV
