/- C45p, C45q, C45u in one text. -/
import Derived.Test.YtggobegaiijhhaaGreatDoorUtilitySorts14
import Derived.Test.YtggobegaiijhhaaGreatDoorC45n
import Derived.Test.YtggobegaiijhhaaGreatDoorUtilitySorts25
set_option linter.unusedVariables false
set_option linter.unusedSimpArgs false
namespace Go.Proofs.YtggobegaiijhhaaGreatDoor
open Go.GV
set_option linter.unusedVariables false
set_option linter.unusedSimpArgs false
theorem c45p0_ {p:Prop} (h:p:=by first | omega | (simp only [List.length_append,List.length_cons,List.length_nil];omega) | (simp;omega) | (simp_all;omega)):p:=h
theorem c45p1_ {p:Prop} (h:p:=by first | exact fun h=>absurd h.1 (by assumption) | exact fun h=>R45.ff h.2.1 (by assumption) (by assumption) | exact R45.gen_noP (by assumption) (by assumption) | exact R45.gen_noW (by assumption) (by assumption) (by assumption)):p:=h
theorem c45p3_ {p:Prop} (h:p:=by refine R45.rec_lenB _ ?_ (by decide);assumption):p:=h
theorem c45p4_ {p:Prop} (h:p:=by first | exact fun h=>absurd h.1 (by assumption) | exact fun h=>absurd h.2 (by assumption)):p:=h
set_option maxRecDepth 20000 in
theorem f35_ok (b:Binding) (q:Nat) (dd:Bytes) (w:World) (q0:dd.length≤1000) (hg:Give [q] w [Ent.blk q 9 [vS dd]]):Calls Tryz.prog 35 #[vG (Binding.enc b),pB q 0] w (Gives [q] w fun v L=>v=vB (decide (b.Name=dd))∧L=[Ent.blk q 9 [vS dd]]):=by
 refine calls_J [q] 9 Tryz.func35 rfl Tryz.ntmps35 [(0,_),(1,_)] rfl rfl hg ?_
 refine q_ (g_ (o_ (bxG fun b1=>?_)))
 refine s_ av_ (z_ (n_ (q_ (g_ (s_ (fA 0 Ty.fi33_0) (s_ (fA 0 Ty.fi27_0) (r_ (ld_ 0 Ty.sc9) (r_ (ld_ 1 Ty.sc9) (s_ (x_eql_s rfl rfl) (s_ av_ (z_ (n_ (rt_ ?_)))))))))))))
 refine JX_rets [_] _ Tryz.results35 (fun w h=>⟨rfl,trivial⟩) rfl _ (fun _ h=>h.keep [false,true] rfl) ⟨?_,?_⟩
 ·rfl
 ·rfl
set_option maxRecDepth 20000 in
theorem f34_ok (l:List Binding) (lA:Option Addr) (lC:Nat) (q:Nat) (dd:Bytes) (w:World) (lR:RO [q] w lA (l.flatMap Binding.enc)) (q0:dd.length≤1000) (q1:l.length≤9223372036854775807) (hg:Give [q] w [Ent.blk q 9 [vS dd]]):Calls Tryz.prog 34 #[vL lA l.length lC,Value.func (.func 35) #[] #[pB q 0]] w (Gives [q] w fun v L=>v=vI (R45.findI dd l)∧L=[Ent.blk q 9 [vS dd]]):=by
 refine calls_J [q] 19 Tryz.func34 rfl Tryz.ntmps34 [(0,_),(1,_)] rfl rfl hg ?_
 refine q_ (g_ (s_ av_ (z_ (n_ (q_ (q_ (g_ (s_ mv_ (s_ (lnS Tryz.underlying36) (s_ mv_ (z_ (n_ (k_ ?_)))))))))))))
 refine J_loop (X:=Nat) (fun (k:Nat)=>(k≤l.length)∧(R45.FindJ dd l k)) (fun (k:Nat)=>[(0,vL lA l.length lC),(1,Value.func (.func 35) #[] #[pB q 0]),(7,vI ((l.length:Nat):Int)),(8,vI ((k:Nat):Int))]) (fun (k:Nat)=>[Ent.blk q 9 [vS dd]]) (fun (k:Nat)=>l.length-k) (0:Nat) ?_ ⟨rfl,rfl,rfl,rfl,trivial⟩ (fun _ h=>h) ?_
 ·try dsimp only
  refine ⟨?_,?_⟩
  ·first | rfl | omega | (simp_all;done) | (simp_all;omega)
  ·exact R45.FindJ.start
 intro k hI1
 obtain ⟨i1_0,i1_1⟩:=hI1
 try dsimp only at i1_0
 try dsimp only at i1_1
 try dsimp only
 refine q_ (g_ (s_ (x_lss_i rfl rfl) (z_ (n_ (q_ ?_)))))
 refine ifd (fun h1w h1=>?_) (fun h1w h1=>?_)
 ·refine sk_ (n_ (q_ (k_ (q_ (g_ (s_ mv_ (s_ av_ (z_ (n_ (q_ (g_ (s_ mv_ (s_ mv_ (s_ mv_ (r_ (ixF Binding.enc_len (cells_ro lR) Tryz.underlying36 Ty.sz33) (r_ (ldFN Binding.enc_len (cells_ro lR) Ty.ag33 Ty.sz33) ?_))))))))))))))))
  refine JO_call [q] [Ent.blk q 9 [vS dd]] [] rfl trivial (fun _=>x_callv (first:=[]) (caps:=[pB q 0]) rfl Ty.ca35 rfl) (fun _ h=>h) (own_mem rfl) (fun w hS=>f35_ok (l.getD k default) q dd w hy_ (hS.give (own_in rfl))) ?_
  rintro _ _ ⟨rfl,rfl⟩
  refine z_ (n_ ?_)
  refine ifd (fun h2w h2=>?_) (fun h2w h2=>?_)
  ·refine q_ (g_ (s_ mv_ (s_ av_ (z_ (n_ (rt_ (kq_ (nr_ (rr_ (kq_ (nr_ ?_)))))))))))
   refine JX_rets [_] _ Tryz.results34 (fun w h=>⟨rfl,trivial⟩) rfl _ (fun _ h=>h) ⟨?_,?_⟩
   ·have e_x0:(((k:Nat):Int):Int)=(R45.findI dd l):=by first | exact i1_1.hit (by omega) (by assumption) | exact i1_1.done (by omega)
    exact congrArg (fun (x0:Int)=>vI x0) e_x0
   ·rfl
  ·refine sk_ (kx_ (n_ (g_ (s_ (x_add_n (a:=k) (b:=1) rfl rfl (by omega)) (s_ mv_ (z_ ?_))))))
   refine JX_round (k+1:Nat) ?_ ?_ ⟨rfl,rfl,rfl,rfl,trivial⟩ (fun _ h=>h)
   ·try dsimp only
    refine ⟨?_,?_⟩
    ·first | rfl | omega | (simp_all;done) | (simp_all;omega)
    ·exact i1_1.step (by omega) (by assumption)
   ·try dsimp only
    first | omega | (simp;omega) | (simp_all;omega)
 ·refine J_exit (ne_ (re_ (kh_ (n_ (q_ ?_)))))
  refine g_ (s_ av_ (z_ (n_ (rt_ ?_))))
  refine JX_rets [_] _ Tryz.results34 (fun w h=>⟨rfl,trivial⟩) rfl _ (fun _ h=>h) ⟨?_,?_⟩
  ·have e_x0:((-1):Int)=(R45.findI dd l):=by first | exact i1_1.hit (by omega) (by assumption) | exact i1_1.done (by omega)
   exact congrArg (fun (x0:Int)=>vI x0) e_x0
  ·rfl
set_option maxRecDepth 20000 in
theorem perf_generate (x:Nat) (s:Nat) (parm:Bytes) (m:Nat) (rows:List SRow) (rowsA:Option Addr) (rowsC:Nat) (calls:Nat) (l:List Binding) (lA:Option Addr) (lC:Nat) (w:World) (rowsR:RO [x,m,s] w rowsA (rows.flatMap SRow.enc)) (lR:RO [x,m,s] w lA (l.flatMap Binding.enc)) (lN:Kp [x,m,s] w (okL Binding.ok l)) (hT:Tab [x,m,s] w) (q0:rows.length≤1000) (q1:calls≤890000) (q2:R45.Dist rows) (q3:∀ x∈rows,x.Key.length≤1000000) (q4:∀ x∈rows,x.Record.length≤1000000) (q5:parm.length≤1000) (q6:l.length≤1000) (q7:∀ i,(l.getD i default).Lines.length≤1000) (q8:∀ i j,((l.getD i default).Lines.getD j []).length≤1000000) (hg:Give [x,m,s] w [Ent.blk x 82 [Value.iface 41 (pB s 0),vS parm,Value.map (some m),vI 0,vB false,vL none 0 0,vL none 0 0],Ent.mp vS m ([]:List (Bytes × Value)),Ent.blk s 52 [vL rowsA rows.length rowsC,vI 0,vI 0,vI ((calls:Nat):Int)]]):Calls Tryz.prog 27 #[pB x 0,vS [103,101,110,101,114,97,116,101],vL lA l.length lC] w (GivesE [x,m,s] w (fun v L=>∃ cd:Int,∃ ch:List Change,∃ chA:Option Addr,∃ chC:Nat,∃ ln:List Bytes,∃ lnA:Option Addr,∃ lnC:Nat,v=Value.tuple #[]∧L=[Ent.blk x 82 [Value.iface 41 (pB s 0),vS parm,Value.map (some m),vI cd,vB false,vL chA ch.length chC,vL lnA ln.length lnC],Ent.row (.slice chA ch.length chC) 60 5 ch.length (ch.flatMap Change.enc),Ent.row (.slice lnA ln.length lnC) 9 1 ln.length (ln.map vS)]∧(R45.GenR parm l cd ch ln)) (fun c L=>∃ line:Bytes,c=R45.pan line∧L=[]∧(¬ R45.GenOk parm l))):=by
 refine calls_JE [x,m,s] 110 Tryz.func27 rfl Tryz.ntmps27 [(0,_),(1,_),(2,_)] rfl rfl hg ?_
 refine q_ (g_ ?_)
 refine c1 (cl_ Ty.ca32) (fun w hS=>f32_ok w) ?_
 rintro _ _ ⟨pm1,tb2,rfl,rfl⟩
 refine s_ mv_ ?_
 refine JO_read (Value.tuple #[Value.func (.func 64) #[] #[],vB true]) rfl trivial (x_lookup_ok 0 (f:=vS) (k:=[103,101,110,101,114,97,116,101]) rfl rfl rfl Tryz.underlying89 (mapK_s Tryz.underlying9) Ty.ze90 (lk_ne (by decide) (lk_ne (by decide) (lk_ne (by decide) (lk_ne (by decide) (lk_ne (by decide) (lk_ne (by decide) (lk_hit (by decide))))))))) ?_
 refine s_ mv_ (s_ (ex_ 0) (s_ (ex_ 1) (s_ av_ (s_ av_ (z_ (n_ (q_ ?_)))))))
 refine J_less (L':=[Ent.blk tb2 94 [Value.func (.func 43) #[] #[]],Ent.blk x 82 [Value.iface 41 (pB s 0),vS parm,Value.map (some m),vI 0,vB false,vL none 0 0,vL none 0 0],Ent.mp vS m ([]:List (Bytes × Value)),Ent.blk s 52 [vL rowsA rows.length rowsC,vI 0,vI 0,vI ((calls:Nat):Int)]]) (fun _ h=>h.keep [false,true,true,true,true] rfl) ?_
 refine g_ (s_ mv_ ?_)
 refine JO_callP [] [] [Ent.blk tb2 94 [Value.func (.func 43) #[] #[]],Ent.blk x 82 [Value.iface 41 (pB s 0),vS parm,Value.map (some m),vI 0,vB false,vL none 0 0,vL none 0 0],Ent.mp vS m ([]:List (Bytes × Value)),Ent.blk s 52 [vL rowsA rows.length rowsC,vI 0,vI 0,vI ((calls:Nat):Int)]] rfl trivial (fun _=>x_call Ty.ca33 rfl) (fun _ h=>h) (fun _ h=>by cases h) (fun w hS=>f33_ok true [110,111,32,112,114,111,103,114,97,109] w) ?_ ?_
 ·rintro _ _ ⟨rfl,rfl,hp3⟩
  exact absurd hp3 (by decide)
 rintro _ _ ⟨rfl,rfl,hf4⟩
 refine z_ (n_ (q_ (g_ (s_ mv_ ?_))))
 refine c1 (x_callv (first:=[]) (caps:=[]) rfl Ty.ca64 rfl) (fun w hS=>f64_ok w) ?_
 rintro _ _ ⟨nb5,bn6,bt7,rfl,rfl⟩
 refine o_ (al_ Ty.ze97 fun b8=>?_)
 refine o_ (stG 0 Ty.sz97 ?_)
 refine z_ (n_ (q_ (q_ (g_ (s_ (fA 0 Ty.fi97_0) (r_ (ld_ 0 Ty.sc25) (s_ (lnS Tryz.underlying25) (s_ mv_ (z_ (n_ (k_ ?_)))))))))))
 refine J_unroll 2 ?_
 refine JR_one ?_
 refine q_ (g_ (jr_ (vB true) (z_ (n_ (q_ (ift (sk_ (n_ (q_ (k_ (q_ (g_ (s_ (x_indexAddr_sl (k:=0) Tryz.underlying25 Ty.sz9 rfl rfl lt_ rfl) (r_ (ld_ 1 Ty.sc9) (o_ (al_ Ty.ze9 fun b9=>?_))))))))))))))))
 refine o_ (st1 0 Ty.sz9 ?_)
 refine z_ (n_ (q_ (g_ (s_ mv_ (js_ (Value.func (.func 35) #[] #[pB b9 0]) (x_makeFunc rfl rfl) ?_)))))
 refine JO_call [b9] [Ent.blk b9 9 [vS [79,85,84]]] [Ent.blk b8 97 [vL (some ⟨nb5,0,none⟩) 1 1,Value.func (.func 91) #[] #[pB bn6 0,pB bt7 0],Value.func (.func 93) #[] #[pB bn6 0,pB bt7 0]],Ent.blk nb5 9 [vS [79,85,84]],Ent.blk bn6 3 [vI 0],Ent.blk bt7 9 [vS []],Ent.blk tb2 94 [Value.func (.func 43) #[] #[]],Ent.blk x 82 [Value.iface 41 (pB s 0),vS parm,Value.map (some m),vI 0,vB false,vL none 0 0,vL none 0 0],Ent.mp vS m ([]:List (Bytes × Value)),Ent.blk s 52 [vL rowsA rows.length rowsC,vI 0,vI 0,vI ((calls:Nat):Int)]] rfl trivial (fun _=>x_call Ty.ca34 rfl) (fun _ h=>h) (own_mem rfl) (fun w hS=>f34_ok l lA lC b9 [79,85,84] w (lR.on hS (own_mem rfl)) hy_ hy_ (hS.give (own_in rfl))) ?_
 rintro _ _ ⟨rfl,rfl⟩
 have ha10:=R45.findI_bd [79,85,84] l
 try simp only [List.length_cons,List.length_nil,Nat.zero_add,Nat.reduceAdd,Nat.reduceMul] at ha10
 refine s_ av_ (z_ (n_ (q_ (g_ (s_ mv_ (s_ (x_geq_i rfl rfl) (r_ (ld_ 0 Ty.sc9) (js_ (vS ([110,111,32,100,100,32]++[79,85,84])) (x_cat_s rfl rfl c45p0_) ?_))))))))
 refine JO_callP [] [] [Ent.blk b9 9 [vS [79,85,84]],Ent.blk b8 97 [vL (some ⟨nb5,0,none⟩) 1 1,Value.func (.func 91) #[] #[pB bn6 0,pB bt7 0],Value.func (.func 93) #[] #[pB bn6 0,pB bt7 0]],Ent.blk nb5 9 [vS [79,85,84]],Ent.blk bn6 3 [vI 0],Ent.blk bt7 9 [vS []],Ent.blk tb2 94 [Value.func (.func 43) #[] #[]],Ent.blk x 82 [Value.iface 41 (pB s 0),vS parm,Value.map (some m),vI 0,vB false,vL none 0 0,vL none 0 0],Ent.mp vS m ([]:List (Bytes × Value)),Ent.blk s 52 [vL rowsA rows.length rowsC,vI 0,vI 0,vI ((calls:Nat):Int)]] rfl trivial (fun _=>x_call Ty.ca33 rfl) (fun _ h=>h) (fun _ h=>by cases h) (fun w hS=>f33_ok _ ([110,111,32,100,100,32]++[79,85,84]) w) ?_ ?_
 ·rintro _ _ ⟨rfl,rfl,hp11⟩
  have hp11:=of_decide_eq_false hp11
  refine JX_then_pan (JX_block_pan (JX_then_pan (JX_then_pan (JX_block_pan (JX_then_pan ?_)))))
  refine JX_pan [] (fun _ h=>h.keep [false,false,false,false,false,false,false,false,false] rfl) (fun _ _ h=>h) ⟨([110,111,32,100,100,32]++[79,85,84]),rfl,?_,?_⟩
  ·rfl
  ·exact c45p1_
 rintro _ _ ⟨rfl,rfl,hf12⟩
 have hf12:=of_decide_eq_true hf12
 refine z_ (n_ ?_)
 refine drU [] [9] 10 Ty.mixed ?_
 refine jp_ 0 rfl mv_ (jp_ 1 rfl (x_nilCheck rfl) (jp_ 2 rfl (fA 2 Ty.fi82_2) ?_))
 refine JA_early 3 (Value.map (some m)) rfl (by kernel_rfl) (by kernel_rfl) (by kernel_rfl) rfl (by kernel_rfl) (fun _ _ _ h=>h) rfl trivial (x_load 6 rfl rfl Ty.sc80 rfl) ?_
 refine JA_early 4 (vS [79,85,84]) rfl (by kernel_rfl) (by kernel_rfl) (by kernel_rfl) rfl (by kernel_rfl) (fun _ _ _ h=>h) rfl trivial (x_load 0 rfl rfl Ty.sc9 rfl) ?_
 refine jp_ 5 rfl mv_ (jp_ 6 rfl mv_ (jq_ 7 rfl (ixF (k:=(R45.findI [79,85,84] l).toNat) (hy:=(ix_nat rfl (by omega))) Binding.enc_len (cells_ro lR) Tryz.underlying36 Ty.sz33) (jq_ 8 rfl (ldFN Binding.enc_len (cells_ro lR) Ty.ag33 Ty.sz33) (j1_ 9 ?_ (fun _ h=>⟨h.keep [false,false,false,false,false,false,false,false,false] rfl,fun _=>h⟩)))))
 refine jio_ rfl (O_mapUpdate 7 (f:=vS) (k:=[79,85,84]) [([79,85,84],vG (Binding.enc (l.getD ((R45.findI [79,85,84] l).toNat) default)))] [Ent.blk b9 9 [vS [79,85,84]],Ent.blk b8 97 [vL (some ⟨nb5,0,none⟩) 1 1,Value.func (.func 91) #[] #[pB bn6 0,pB bt7 0],Value.func (.func 93) #[] #[pB bn6 0,pB bt7 0]],Ent.blk nb5 9 [vS [79,85,84]],Ent.blk bn6 3 [vI 0],Ent.blk bt7 9 [vS []],Ent.blk tb2 94 [Value.func (.func 43) #[] #[]],Ent.blk x 82 [Value.iface 41 (pB s 0),vS parm,Value.map (some m),vI 0,vB false,vL none 0 0,vL none 0 0],Ent.mp vS m [([79,85,84],vG (Binding.enc (l.getD ((R45.findI [79,85,84] l).toNat) default)))],Ent.blk s 52 [vL rowsA rows.length rowsC,vI 0,vI 0,vI ((calls:Nat):Int)]] rfl rfl rfl rfl Tryz.underlying80 (mapK_s Tryz.underlying9) rfl rfl ?_)
 refine JA_done (by kernel_rfl) (gl_ rfl (fun _ h=>h.keep [false,false,false,false,false,false,false,false,false] rfl)) ?_
 refine kx_ (n_ (g_ (jr_ (vI 1) (s_ mv_ (z_ (JX_again ?_))))))
 refine JR_one ?_
 refine q_ (g_ (jr_ (vB false) (z_ (n_ (q_ (iff_ (J_exit (ne_ (ne_ (kh_ (n_ (q_ (q_ ?_)))))))))))))
 refine J_less (L':=[Ent.blk b8 97 [vL (some ⟨nb5,0,none⟩) 1 1,Value.func (.func 91) #[] #[pB bn6 0,pB bt7 0],Value.func (.func 93) #[] #[pB bn6 0,pB bt7 0]],Ent.blk nb5 9 [vS [79,85,84]],Ent.blk bn6 3 [vI 0],Ent.blk bt7 9 [vS []],Ent.blk x 82 [Value.iface 41 (pB s 0),vS parm,Value.map (some m),vI 0,vB false,vL none 0 0,vL none 0 0],Ent.mp vS m [([79,85,84],vG (Binding.enc (l.getD ((R45.findI [79,85,84] l).toNat) default)))],Ent.blk s 52 [vL rowsA rows.length rowsC,vI 0,vI 0,vI ((calls:Nat):Int)]]) (fun _ h=>h.keep [false,true,true,true,true,false,true,true,true] rfl) ?_
 refine g_ (s_ mv_ (s_ (x_nilCheck rfl) (s_ (fA 2 Ty.fi82_2) (r_ (ld_ 4 Ty.sc80) ?_))))
 refine JO_read (Value.tuple #[vG (Binding.enc (l.getD ((R45.findI [79,85,84] l).toNat) default)),vB true]) rfl trivial (x_lookup_ok 5 (f:=vS) (k:=[79,85,84]) rfl rfl rfl Tryz.underlying80 (mapK_s Tryz.underlying9) Ty.ze33 (lk_hit (by decide))) ?_
 refine s_ mv_ (s_ (ex_ 0) (s_ (ex_ 1) (o_ (al_ Ty.ze33 fun b13=>?_))))
 refine o_ (stG 0 Ty.sz33 ?_)
 refine s_ av_ (z_ (xk_ [0,1,8,12,13] ?_))
 refine n_ (q_ (g_ (s_ mv_ (z_ (n_ (ift (g_ (s_ mv_ (r_ (ldN 0 (Binding.enc (l.getD ((R45.findI [79,85,84] l).toNat) default)) Ty.ag33 Ty.sz33) ?_)))))))))
 refine c1 (cl_ Ty.ca36) (fun w hS=>f36_ok [103,101,110,101,114,97,116,101] _ w) ?_
 rintro _ _ ⟨z14,rfl,rfl,hf15⟩
 refine JO_callP [] [] [Ent.blk b13 33 (Binding.enc (l.getD ((R45.findI [79,85,84] l).toNat) default)),Ent.blk b8 97 [vL (some ⟨nb5,0,none⟩) 1 1,Value.func (.func 91) #[] #[pB bn6 0,pB bt7 0],Value.func (.func 93) #[] #[pB bn6 0,pB bt7 0]],Ent.blk nb5 9 [vS [79,85,84]],Ent.blk bn6 3 [vI 0],Ent.blk bt7 9 [vS []],Ent.blk x 82 [Value.iface 41 (pB s 0),vS parm,Value.map (some m),vI 0,vB false,vL none 0 0,vL none 0 0],Ent.mp vS m [([79,85,84],vG (Binding.enc (l.getD ((R45.findI [79,85,84] l).toNat) default)))],Ent.blk s 52 [vL rowsA rows.length rowsC,vI 0,vI 0,vI ((calls:Nat):Int)]] rfl trivial (fun _=>x_call Ty.ca33 rfl) (fun _ h=>h) (fun _ h=>by cases h) (fun w hS=>f33_ok z14 [100,100,32,79,85,84,32,99,97,110,110,111,116,32,98,101,32,119,114,105,116,116,101,110] w) ?_ ?_
 ·rintro _ _ ⟨rfl,rfl,hp16⟩
  refine JX_then_pan ?_
  refine JX_pan [] (fun _ h=>h.keep [false,false,false,false,false,false,false,false] rfl) (fun _ _ h=>h) ⟨[100,100,32,79,85,84,32,99,97,110,110,111,116,32,98,101,32,119,114,105,116,116,101,110],rfl,?_,?_⟩
  ·rfl
  ·exact c45p1_
 rintro _ _ ⟨rfl,rfl,hf17⟩
 refine z_ (n_ (q_ ?_))
 refine J_less (L':=[Ent.blk b8 97 [vL (some ⟨nb5,0,none⟩) 1 1,Value.func (.func 91) #[] #[pB bn6 0,pB bt7 0],Value.func (.func 93) #[] #[pB bn6 0,pB bt7 0]],Ent.blk nb5 9 [vS [79,85,84]],Ent.blk bn6 3 [vI 0],Ent.blk bt7 9 [vS []],Ent.blk x 82 [Value.iface 41 (pB s 0),vS parm,Value.map (some m),vI 0,vB false,vL none 0 0,vL none 0 0],Ent.mp vS m [([79,85,84],vG (Binding.enc (l.getD ((R45.findI [79,85,84] l).toNat) default)))],Ent.blk s 52 [vL rowsA rows.length rowsC,vI 0,vI 0,vI ((calls:Nat):Int)]]) (fun _ h=>h.keep [false,true,true,true,true,true,true,true] rfl) ?_
 refine g_ (s_ (fA 1 Ty.fi97_1) (r_ (ld_ 0 Ty.sc94) (s_ mv_ ?_)))
 refine JO_call [x,bn6,bt7] [Ent.blk x 82 [Value.iface 41 (pB s 0),vS parm,Value.map (some m),vI 0,vB false,vL none 0 0,vL none 0 0],Ent.blk bn6 3 [vI 0],Ent.blk bt7 9 [vS []]] [Ent.blk b8 97 [vL (some ⟨nb5,0,none⟩) 1 1,Value.func (.func 91) #[] #[pB bn6 0,pB bt7 0],Value.func (.func 93) #[] #[pB bn6 0,pB bt7 0]],Ent.blk nb5 9 [vS [79,85,84]],Ent.mp vS m [([79,85,84],vG (Binding.enc (l.getD ((R45.findI [79,85,84] l).toNat) default)))],Ent.blk s 52 [vL rowsA rows.length rowsC,vI 0,vI 0,vI ((calls:Nat):Int)]] rfl trivial (fun _=>x_callv (first:=[]) (caps:=[pB bn6 0,pB bt7 0]) rfl Ty.ca91 rfl) (fun _ h=>(((((((h.front 6 _ rfl).front 6 _ rfl).front 3 _ rfl).front 3 _ rfl).front 5 _ rfl).front 5 _ rfl).front 6 _ rfl).keep [true,true,true,true,true,true,true] rfl) (own_mem rfl) (fun w hS=>f91_ok x s parm m bn6 bt7 0 [] w (hT.on hS (own_mem rfl)) hy_ (hS.give (own_in rfl))) ?_
 rintro _ _ ⟨n18,t19,ok20,rfl,rfl,hf21⟩
 refine JO_callP [] [] [Ent.blk x 82 [Value.iface 41 (pB s 0),vS parm,Value.map (some m),vI 0,vB false,vL none 0 0,vL none 0 0],Ent.blk bn6 3 [vI n18],Ent.blk bt7 9 [vS t19],Ent.blk b8 97 [vL (some ⟨nb5,0,none⟩) 1 1,Value.func (.func 91) #[] #[pB bn6 0,pB bt7 0],Value.func (.func 93) #[] #[pB bn6 0,pB bt7 0]],Ent.blk nb5 9 [vS [79,85,84]],Ent.mp vS m [([79,85,84],vG (Binding.enc (l.getD ((R45.findI [79,85,84] l).toNat) default)))],Ent.blk s 52 [vL rowsA rows.length rowsC,vI 0,vI 0,vI ((calls:Nat):Int)]] rfl trivial (fun _=>x_call Ty.ca33 rfl) (fun _ h=>h) (fun _ h=>by cases h) (fun w hS=>f33_ok ok20 [119,114,111,110,103,32,112,97,114,97,109,101,116,101,114] w) ?_ ?_
 ·rintro _ _ ⟨rfl,rfl,hp22⟩
  refine JX_then_pan ?_
  refine JX_pan [] (fun _ h=>h.keep [false,false,false,false,false,false,false] rfl) (fun _ _ h=>h) ⟨[119,114,111,110,103,32,112,97,114,97,109,101,116,101,114],rfl,?_,?_⟩
  ·rfl
  ·exact c45p1_
 rintro _ _ ⟨rfl,rfl,hf23⟩
 refine z_ (n_ (q_ (g_ (s_ av_ (z_ (n_ (q_ (q_ (g_ (s_ (fA 0 Ty.fi97_0) (r_ (ld_ 3 Ty.sc25) (s_ (lnS Tryz.underlying25) (s_ mv_ (z_ (n_ (k_ ?_))))))))))))))))
 refine J_unroll 2 ?_
 refine JR_one ?_
 refine q_ (g_ (jr_ (vB true) (z_ (n_ (q_ (ift (sk_ (n_ (q_ (k_ (q_ (g_ (s_ (x_indexAddr_sl (k:=0) Tryz.underlying25 Ty.sz9 rfl rfl lt_ rfl) (r_ (ld_ 4 Ty.sc9) (s_ av_ (z_ (n_ (q_ (q_ (g_ (s_ mv_ (js_ (vB true) (x_eql_s (a:=([79,85,84]:Bytes)) (b:=([79,85,84]:Bytes)) rfl rfl) ?_))))))))))))))))))))))
 refine z_ (n_ (ift (J_exit (ne_ (kh_ (n_ (g_ (jr_ (vI 1) (s_ mv_ (z_ (JX_again ?_)))))))))))
 refine JR_one ?_
 refine q_ (g_ (jr_ (vB false) (z_ (n_ (q_ (iff_ (J_exit (ne_ (ne_ (kh_ (n_ (g_ (s_ (fA 2 Ty.fi97_2) (r_ (ld_ 3 Ty.sc95) (s_ mv_ (s_ mv_ ?_))))))))))))))))
 refine JO_callP [x,m,s,bn6,bt7] [Ent.blk x 82 [Value.iface 41 (pB s 0),vS parm,Value.map (some m),vI 0,vB false,vL none 0 0,vL none 0 0],Ent.mp vS m ([([79,85,84],(l.getD ((R45.findI [79,85,84] l).toNat) default))].map R45.bindE),Ent.blk s 52 [vL rowsA rows.length rowsC,vI 0,vI 0,vI ((calls:Nat):Int)],Ent.blk bn6 3 [vI n18],Ent.blk bt7 9 [vS t19]] [Ent.blk b8 97 [vL (some ⟨nb5,0,none⟩) 1 1,Value.func (.func 91) #[] #[pB bn6 0,pB bt7 0],Value.func (.func 93) #[] #[pB bn6 0,pB bt7 0]],Ent.blk nb5 9 [vS [79,85,84]]] rfl trivial (fun _=>x_callv (first:=[]) (caps:=[pB bn6 0,pB bt7 0]) rfl Ty.ca93 rfl) (fun _ h=>(((((((h.front 4 _ rfl).front 4 _ rfl).front 4 _ rfl).front 4 _ rfl).front 6 _ rfl).front 6 _ rfl).front 6 _ rfl).keep [true,true,true,true,true,true,true] rfl) (own_mem rfl) (fun w hS=>f93_ok x s parm m rows rowsA rowsC calls [([79,85,84],(l.getD ((R45.findI [79,85,84] l).toNat) default))] bn6 bt7 n18 t19 w (rowsR.on hS (own_mem rfl)) (hT.on hS (own_mem rfl)) hy_ hy_ hy_ hy_ (by exact (R45.GenP.bd (by assumption) (by assumption)).2.1) (by exact (R45.GenP.bd (by assumption) (by assumption)).2.2) (by exact (R45.GenP.bd (by assumption) (by assumption)).1) (hS.give (own_in rfl))) ?_ ?_
 ·rintro _ _ ⟨line24,rfl,rfl,hp25⟩
  refine JX_pan [] (fun _ h=>h.keep [false,false] rfl) (fun _ _ h=>h) ⟨line24,rfl,?_,?_⟩
  ·rfl
  ·exact c45p1_
 rintro _ _ ⟨ch26,chA27,chC28,ln29,lnA30,lnC31,e32,rfl,rfl,hf33,hf34,hf35⟩
 refine z_ (JX_En ?_)
 refine JX_end0 Tryz.results27 [Ent.blk x 82 [Value.iface 41 (pB s 0),vS parm,Value.map (some m),vI 0,vB false,vL chA27 ch26.length chC28,vL lnA30 ln29.length lnC31],Ent.row (.slice chA27 ch26.length chC28) 60 5 ch26.length (ch26.flatMap Change.enc),Ent.row (.slice lnA30 ln29.length lnC31) 9 1 ln29.length (ln29.map vS)] (fun _ h=>h.keep [true,false,false,true,true,false,false] rfl) ⟨0,ch26,chA27,chC28,ln29,lnA30,lnC31,?_,?_,?_⟩
 ·rfl
 ·rfl
 ·exact R45.gen_yes (by assumption) (by assumption) (by assumption) (by assumption) (by assumption)
set_option maxHeartbeats 1000000 in
set_option maxRecDepth 20000 in
theorem perf_compare (x:Nat) (s:Nat) (parm:Bytes) (m:Nat) (rows:List SRow) (rowsA:Option Addr) (rowsC:Nat) (calls:Nat) (l:List Binding) (lA:Option Addr) (lC:Nat) (w:World) (rowsR:RO [x,m,s] w rowsA (rows.flatMap SRow.enc)) (lR:RO [x,m,s] w lA (l.flatMap Binding.enc)) (lN:Kp [x,m,s] w (okL Binding.ok l)) (hT:Tab [x,m,s] w) (q0:rows.length≤1000) (q1:calls≤890000) (q2:R45.Dist rows) (q3:∀ x∈rows,x.Key.length≤1000000) (q4:parm.length≤1000) (q5:l.length≤1000) (q6:∀ i,(l.getD i default).Lines.length≤1000) (hg:Give [x,m,s] w [Ent.blk x 82 [Value.iface 41 (pB s 0),vS parm,Value.map (some m),vI 0,vB false,vL none 0 0,vL none 0 0],Ent.mp vS m ([]:List (Bytes × Value)),Ent.blk s 52 [vL rowsA rows.length rowsC,vI 0,vI 0,vI ((calls:Nat):Int)]]):Calls Tryz.prog 27 #[pB x 0,vS [99,111,109,112,97,114,101],vL lA l.length lC] w (GivesE [x,m,s] w (fun v L=>∃ cd:Int,∃ ch:List Change,∃ chA:Option Addr,∃ chC:Nat,∃ ln:List Bytes,∃ lnA:Option Addr,∃ lnC:Nat,v=Value.tuple #[]∧L=[Ent.blk x 82 [Value.iface 41 (pB s 0),vS parm,Value.map (some m),vI cd,vB false,vL chA ch.length chC,vL lnA ln.length lnC],Ent.row (.slice chA ch.length chC) 60 5 ch.length (ch.flatMap Change.enc),Ent.row (.slice lnA ln.length lnC) 9 1 ln.length (ln.map vS)]∧(R45.CmpR rows l cd ch ln)) (fun c L=>∃ line:Bytes,c=R45.pan line∧L=[]∧(¬ R45.CmpOk l))):=by
 refine calls_JE [x,m,s] 110 Tryz.func27 rfl Tryz.ntmps27 [(0,_),(1,_),(2,_)] rfl rfl hg ?_
 refine q_ (g_ ?_)
 refine c1 (cl_ Ty.ca32) (fun w hS=>f32_ok w) ?_
 rintro _ _ ⟨pm1,tb2,rfl,rfl⟩
 refine s_ mv_ ?_
 refine JO_read (Value.tuple #[Value.func (.func 51) #[] #[pB tb2 0],vB true]) rfl trivial (x_lookup_ok 0 (f:=vS) (k:=[99,111,109,112,97,114,101]) rfl rfl rfl Tryz.underlying89 (mapK_s Tryz.underlying9) Ty.ze90 (lk_ne (by decide) (lk_ne (by decide) (lk_hit (by decide))))) ?_
 refine s_ mv_ (s_ (ex_ 0) (s_ (ex_ 1) (s_ av_ (s_ av_ (z_ (n_ (q_ ?_)))))))
 refine J_less (L':=[Ent.blk tb2 94 [Value.func (.func 43) #[] #[]],Ent.blk x 82 [Value.iface 41 (pB s 0),vS parm,Value.map (some m),vI 0,vB false,vL none 0 0,vL none 0 0],Ent.mp vS m ([]:List (Bytes × Value)),Ent.blk s 52 [vL rowsA rows.length rowsC,vI 0,vI 0,vI ((calls:Nat):Int)]]) (fun _ h=>h.keep [false,true,true,true,true] rfl) ?_
 refine g_ (s_ mv_ ?_)
 refine JO_callP [] [] [Ent.blk tb2 94 [Value.func (.func 43) #[] #[]],Ent.blk x 82 [Value.iface 41 (pB s 0),vS parm,Value.map (some m),vI 0,vB false,vL none 0 0,vL none 0 0],Ent.mp vS m ([]:List (Bytes × Value)),Ent.blk s 52 [vL rowsA rows.length rowsC,vI 0,vI 0,vI ((calls:Nat):Int)]] rfl trivial (fun _=>x_call Ty.ca33 rfl) (fun _ h=>h) (fun _ h=>by cases h) (fun w hS=>f33_ok true [110,111,32,112,114,111,103,114,97,109] w) ?_ ?_
 ·rintro _ _ ⟨rfl,rfl,hp3⟩
  exact absurd hp3 (by decide)
 rintro _ _ ⟨rfl,rfl,hf4⟩
 refine z_ (n_ (q_ (g_ (s_ mv_ ?_))))
 refine JO_call [tb2] [Ent.blk tb2 94 [Value.func (.func 43) #[] #[]]] [Ent.blk x 82 [Value.iface 41 (pB s 0),vS parm,Value.map (some m),vI 0,vB false,vL none 0 0,vL none 0 0],Ent.mp vS m ([]:List (Bytes × Value)),Ent.blk s 52 [vL rowsA rows.length rowsC,vI 0,vI 0,vI ((calls:Nat):Int)]] rfl trivial (fun _=>x_callv (first:=[]) (caps:=[pB tb2 0]) rfl Ty.ca51 rfl) (fun _ h=>h) (own_mem rfl) (fun w hS=>f51_ok tb2 w  (hS.give (own_in rfl))) ?_
 rintro _ _ ⟨nb5,rfl,rfl⟩
 refine o_ (al_ Ty.ze97 fun b6=>?_)
 refine o_ (stG 0 Ty.sz97 ?_)
 refine z_ (n_ (q_ (q_ (g_ (s_ (fA 0 Ty.fi97_0) (r_ (ld_ 0 Ty.sc25) (s_ (lnS Tryz.underlying25) (s_ mv_ (z_ (n_ (k_ ?_)))))))))))
 refine J_unroll 3 ?_
 refine JR_one ?_
 refine q_ (g_ (jr_ (vB true) (z_ (n_ (q_ (ift (sk_ (n_ (q_ (k_ (q_ (g_ (s_ (x_indexAddr_sl (k:=0) Tryz.underlying25 Ty.sz9 rfl rfl lt_ rfl) (r_ (ld_ 1 Ty.sc9) (o_ (al_ Ty.ze9 fun b7=>?_))))))))))))))))
 refine o_ (st1 0 Ty.sz9 ?_)
 refine z_ (n_ (q_ (g_ (s_ mv_ (js_ (Value.func (.func 35) #[] #[pB b7 0]) (x_makeFunc rfl rfl) ?_)))))
 refine JO_call [b7] [Ent.blk b7 9 [vS [73,78,49]]] [Ent.blk b6 97 [vL (some ⟨nb5,0,none⟩) 2 2,Value.func (.func 43) #[] #[],Value.func (.func 52) #[] #[]],Ent.blk nb5 9 [vS [73,78,49],vS [73,78,50]],Ent.blk tb2 94 [Value.func (.func 43) #[] #[]],Ent.blk x 82 [Value.iface 41 (pB s 0),vS parm,Value.map (some m),vI 0,vB false,vL none 0 0,vL none 0 0],Ent.mp vS m ([]:List (Bytes × Value)),Ent.blk s 52 [vL rowsA rows.length rowsC,vI 0,vI 0,vI ((calls:Nat):Int)]] rfl trivial (fun _=>x_call Ty.ca34 rfl) (fun _ h=>h) (own_mem rfl) (fun w hS=>f34_ok l lA lC b7 [73,78,49] w (lR.on hS (own_mem rfl)) hy_ hy_ (hS.give (own_in rfl))) ?_
 rintro _ _ ⟨rfl,rfl⟩
 have ha8:=R45.findI_bd [73,78,49] l
 try simp only [List.length_cons,List.length_nil,Nat.zero_add,Nat.reduceAdd,Nat.reduceMul] at ha8
 refine s_ av_ (z_ (n_ (q_ (g_ (s_ mv_ (s_ (x_geq_i rfl rfl) (r_ (ld_ 0 Ty.sc9) (js_ (vS ([110,111,32,100,100,32]++[73,78,49])) (x_cat_s rfl rfl c45p0_) ?_))))))))
 refine JO_callP [] [] [Ent.blk b7 9 [vS [73,78,49]],Ent.blk b6 97 [vL (some ⟨nb5,0,none⟩) 2 2,Value.func (.func 43) #[] #[],Value.func (.func 52) #[] #[]],Ent.blk nb5 9 [vS [73,78,49],vS [73,78,50]],Ent.blk tb2 94 [Value.func (.func 43) #[] #[]],Ent.blk x 82 [Value.iface 41 (pB s 0),vS parm,Value.map (some m),vI 0,vB false,vL none 0 0,vL none 0 0],Ent.mp vS m ([]:List (Bytes × Value)),Ent.blk s 52 [vL rowsA rows.length rowsC,vI 0,vI 0,vI ((calls:Nat):Int)]] rfl trivial (fun _=>x_call Ty.ca33 rfl) (fun _ h=>h) (fun _ h=>by cases h) (fun w hS=>f33_ok _ ([110,111,32,100,100,32]++[73,78,49]) w) ?_ ?_
 ·rintro _ _ ⟨rfl,rfl,hp9⟩
  have hp9:=of_decide_eq_false hp9
  refine JX_then_pan (JX_block_pan (JX_then_pan (JX_then_pan (JX_block_pan (JX_then_pan ?_)))))
  refine JX_pan [] (fun _ h=>h.keep [false,false,false,false,false,false,false] rfl) (fun _ _ h=>h) ⟨([110,111,32,100,100,32]++[73,78,49]),rfl,?_,?_⟩
  ·rfl
  ·exact c45p4_
 rintro _ _ ⟨rfl,rfl,hf10⟩
 have hf10:=of_decide_eq_true hf10
 refine z_ (n_ ?_)
 refine drU [] [9] 10 Ty.mixed ?_
 refine jp_ 0 rfl mv_ (jp_ 1 rfl (x_nilCheck rfl) (jp_ 2 rfl (fA 2 Ty.fi82_2) ?_))
 refine JA_early 3 (Value.map (some m)) rfl (by kernel_rfl) (by kernel_rfl) (by kernel_rfl) rfl (by kernel_rfl) (fun _ _ _ h=>h) rfl trivial (x_load 4 rfl rfl Ty.sc80 rfl) ?_
 refine JA_early 4 (vS [73,78,49]) rfl (by kernel_rfl) (by kernel_rfl) (by kernel_rfl) rfl (by kernel_rfl) (fun _ _ _ h=>h) rfl trivial (x_load 0 rfl rfl Ty.sc9 rfl) ?_
 refine jp_ 5 rfl mv_ (jp_ 6 rfl mv_ (jq_ 7 rfl (ixF (k:=(R45.findI [73,78,49] l).toNat) (hy:=(ix_nat rfl (by omega))) Binding.enc_len (cells_ro lR) Tryz.underlying36 Ty.sz33) (jq_ 8 rfl (ldFN Binding.enc_len (cells_ro lR) Ty.ag33 Ty.sz33) (j1_ 9 ?_ (fun _ h=>⟨h.keep [false,false,false,false,false,false,false] rfl,fun _=>h⟩)))))
 refine jio_ rfl (O_mapUpdate 5 (f:=vS) (k:=[73,78,49]) [([73,78,49],vG (Binding.enc (l.getD ((R45.findI [73,78,49] l).toNat) default)))] [Ent.blk b7 9 [vS [73,78,49]],Ent.blk b6 97 [vL (some ⟨nb5,0,none⟩) 2 2,Value.func (.func 43) #[] #[],Value.func (.func 52) #[] #[]],Ent.blk nb5 9 [vS [73,78,49],vS [73,78,50]],Ent.blk tb2 94 [Value.func (.func 43) #[] #[]],Ent.blk x 82 [Value.iface 41 (pB s 0),vS parm,Value.map (some m),vI 0,vB false,vL none 0 0,vL none 0 0],Ent.mp vS m [([73,78,49],vG (Binding.enc (l.getD ((R45.findI [73,78,49] l).toNat) default)))],Ent.blk s 52 [vL rowsA rows.length rowsC,vI 0,vI 0,vI ((calls:Nat):Int)]] rfl rfl rfl rfl Tryz.underlying80 (mapK_s Tryz.underlying9) rfl rfl ?_)
 refine JA_done (by kernel_rfl) (gl_ rfl (fun _ h=>h.keep [false,false,false,false,false,false,false] rfl)) ?_
 refine kx_ (n_ (g_ (jr_ (vI 1) (s_ mv_ (z_ (JX_again ?_))))))
 refine JR_one ?_
 refine q_ (g_ (jr_ (vB true) (z_ (n_ (q_ (ift (sk_ (n_ (q_ (k_ (q_ (g_ (s_ (x_indexAddr_sl (k:=1) Tryz.underlying25 Ty.sz9 rfl rfl lt_ rfl) (r_ (ld_ 2 Ty.sc9) (o_ (al_ Ty.ze9 fun b11=>?_))))))))))))))))
 refine o_ (st1 0 Ty.sz9 ?_)
 refine z_ (n_ (q_ (g_ (s_ mv_ (js_ (Value.func (.func 35) #[] #[pB b11 0]) (x_makeFunc rfl rfl) ?_)))))
 refine JO_call [b11] [Ent.blk b11 9 [vS [73,78,50]]] [Ent.blk b7 9 [vS [73,78,49]],Ent.blk b6 97 [vL (some ⟨nb5,0,none⟩) 2 2,Value.func (.func 43) #[] #[],Value.func (.func 52) #[] #[]],Ent.blk nb5 9 [vS [73,78,49],vS [73,78,50]],Ent.blk tb2 94 [Value.func (.func 43) #[] #[]],Ent.blk x 82 [Value.iface 41 (pB s 0),vS parm,Value.map (some m),vI 0,vB false,vL none 0 0,vL none 0 0],Ent.mp vS m [([73,78,49],vG (Binding.enc (l.getD ((R45.findI [73,78,49] l).toNat) default)))],Ent.blk s 52 [vL rowsA rows.length rowsC,vI 0,vI 0,vI ((calls:Nat):Int)]] rfl trivial (fun _=>x_call Ty.ca34 rfl) (fun _ h=>h) (own_mem rfl) (fun w hS=>f34_ok l lA lC b11 [73,78,50] w (lR.on hS (own_mem rfl)) hy_ hy_ (hS.give (own_in rfl))) ?_
 rintro _ _ ⟨rfl,rfl⟩
 have ha12:=R45.findI_bd [73,78,50] l
 try simp only [List.length_cons,List.length_nil,Nat.zero_add,Nat.reduceAdd,Nat.reduceMul] at ha12
 refine s_ av_ (z_ (n_ (q_ (g_ (s_ mv_ (s_ (x_geq_i rfl rfl) (r_ (ld_ 0 Ty.sc9) (js_ (vS ([110,111,32,100,100,32]++[73,78,50])) (x_cat_s rfl rfl c45p0_) ?_))))))))
 refine JO_callP [] [] [Ent.blk b11 9 [vS [73,78,50]],Ent.blk b7 9 [vS [73,78,49]],Ent.blk b6 97 [vL (some ⟨nb5,0,none⟩) 2 2,Value.func (.func 43) #[] #[],Value.func (.func 52) #[] #[]],Ent.blk nb5 9 [vS [73,78,49],vS [73,78,50]],Ent.blk tb2 94 [Value.func (.func 43) #[] #[]],Ent.blk x 82 [Value.iface 41 (pB s 0),vS parm,Value.map (some m),vI 0,vB false,vL none 0 0,vL none 0 0],Ent.mp vS m [([73,78,49],vG (Binding.enc (l.getD ((R45.findI [73,78,49] l).toNat) default)))],Ent.blk s 52 [vL rowsA rows.length rowsC,vI 0,vI 0,vI ((calls:Nat):Int)]] rfl trivial (fun _=>x_call Ty.ca33 rfl) (fun _ h=>h) (fun _ h=>by cases h) (fun w hS=>f33_ok _ ([110,111,32,100,100,32]++[73,78,50]) w) ?_ ?_
 ·rintro _ _ ⟨rfl,rfl,hp13⟩
  have hp13:=of_decide_eq_false hp13
  refine JX_then_pan (JX_block_pan (JX_then_pan (JX_then_pan (JX_block_pan (JX_then_pan ?_)))))
  refine JX_pan [] (fun _ h=>h.keep [false,false,false,false,false,false,false,false] rfl) (fun _ _ h=>h) ⟨([110,111,32,100,100,32]++[73,78,50]),rfl,?_,?_⟩
  ·rfl
  ·exact c45p4_
 rintro _ _ ⟨rfl,rfl,hf14⟩
 have hf14:=of_decide_eq_true hf14
 refine z_ (n_ ?_)
 refine drU [] [9] 10 Ty.mixed ?_
 refine jp_ 0 rfl mv_ (jp_ 1 rfl (x_nilCheck rfl) (jp_ 2 rfl (fA 2 Ty.fi82_2) ?_))
 refine JA_early 3 (Value.map (some m)) rfl (by kernel_rfl) (by kernel_rfl) (by kernel_rfl) rfl (by kernel_rfl) (fun _ _ _ h=>h) rfl trivial (x_load 5 rfl rfl Ty.sc80 rfl) ?_
 refine JA_early 4 (vS [73,78,50]) rfl (by kernel_rfl) (by kernel_rfl) (by kernel_rfl) rfl (by kernel_rfl) (fun _ _ _ h=>h) rfl trivial (x_load 0 rfl rfl Ty.sc9 rfl) ?_
 refine jp_ 5 rfl mv_ (jp_ 6 rfl mv_ (jq_ 7 rfl (ixF (k:=(R45.findI [73,78,50] l).toNat) (hy:=(ix_nat rfl (by omega))) Binding.enc_len (cells_ro lR) Tryz.underlying36 Ty.sz33) (jq_ 8 rfl (ldFN Binding.enc_len (cells_ro lR) Ty.ag33 Ty.sz33) (j1_ 9 ?_ (fun _ h=>⟨h.keep [false,false,false,false,false,false,false,false] rfl,fun _=>h⟩)))))
 refine jio_ rfl (O_mapUpdate 6 (f:=vS) (k:=[73,78,50]) [([73,78,49],vG (Binding.enc (l.getD ((R45.findI [73,78,49] l).toNat) default))),([73,78,50],vG (Binding.enc (l.getD ((R45.findI [73,78,50] l).toNat) default)))] [Ent.blk b11 9 [vS [73,78,50]],Ent.blk b7 9 [vS [73,78,49]],Ent.blk b6 97 [vL (some ⟨nb5,0,none⟩) 2 2,Value.func (.func 43) #[] #[],Value.func (.func 52) #[] #[]],Ent.blk nb5 9 [vS [73,78,49],vS [73,78,50]],Ent.blk tb2 94 [Value.func (.func 43) #[] #[]],Ent.blk x 82 [Value.iface 41 (pB s 0),vS parm,Value.map (some m),vI 0,vB false,vL none 0 0,vL none 0 0],Ent.mp vS m [([73,78,49],vG (Binding.enc (l.getD ((R45.findI [73,78,49] l).toNat) default))),([73,78,50],vG (Binding.enc (l.getD ((R45.findI [73,78,50] l).toNat) default)))],Ent.blk s 52 [vL rowsA rows.length rowsC,vI 0,vI 0,vI ((calls:Nat):Int)]] rfl rfl rfl rfl Tryz.underlying80 (mapK_s Tryz.underlying9) rfl rfl ?_)
 refine JA_done (by kernel_rfl) (gl_ rfl (fun _ h=>h.keep [false,false,false,false,false,false,false,false] rfl)) ?_
 refine kx_ (n_ (g_ (jr_ (vI 2) (s_ mv_ (z_ (JX_again ?_))))))
 refine JR_one ?_
 refine q_ (g_ (jr_ (vB false) (z_ (n_ (q_ (iff_ (J_exit (ne_ (ne_ (kh_ (n_ (q_ (q_ ?_)))))))))))))
 refine J_less (L':=[Ent.blk b6 97 [vL (some ⟨nb5,0,none⟩) 2 2,Value.func (.func 43) #[] #[],Value.func (.func 52) #[] #[]],Ent.blk nb5 9 [vS [73,78,49],vS [73,78,50]],Ent.blk x 82 [Value.iface 41 (pB s 0),vS parm,Value.map (some m),vI 0,vB false,vL none 0 0,vL none 0 0],Ent.mp vS m [([73,78,49],vG (Binding.enc (l.getD ((R45.findI [73,78,49] l).toNat) default))),([73,78,50],vG (Binding.enc (l.getD ((R45.findI [73,78,50] l).toNat) default)))],Ent.blk s 52 [vL rowsA rows.length rowsC,vI 0,vI 0,vI ((calls:Nat):Int)]]) (fun _ h=>h.keep [false,false,true,true,false,true,true,true] rfl) ?_
 refine g_ (s_ mv_ (s_ (x_nilCheck rfl) (s_ (fA 2 Ty.fi82_2) (r_ (ld_ 2 Ty.sc80) ?_))))
 refine JO_read (Value.tuple #[vG [vS [],vS [],vB false,vI 0,vS [],vS [],vI 0,vI 0,vI 0,vI 0,vI 0,vI 0,vI 0,vI 0,vI 0,vI 0,vI 0,vI 0,vI 0,vI 0,vI 0,vI 0,vI 0,vB false,vI 0,vS [],vS [],vI 0,vI 0,vB false,vI 0,vI 0,vB false,vL none 0 0,vB false,vS [],vI 0,vS [],vI 0,vI 0,vI 0,vI 0,vI 0,vI 0,vI 0,vI 0,vI 0,vI 0,vI 0,vI 0,vI 0,vI 0,vB false,vI 0,vS [],vS [],vI 0,vI 0,vB false,vL none 0 0,vI 0,vI 0,vI 0,vB false,vS [],vS [],vI 0,vI 0,vL none 0 0,vB false,vI 0,vI 0,vI 0,vI 0,vI 0,vI 0,vI 0,vI 0,vI 0,vI 0,vI 0,vI 0,vI 0,vI 0,vB false,vI 0,vS [],vS [],vI 0,vI 0,vB false],vB false]) rfl trivial (x_lookup_ok 3 (f:=vS) (k:=[79,85,84]) rfl rfl rfl Tryz.underlying80 (mapK_s Tryz.underlying9) Ty.ze33 (lk_ne (by decide) (lk_ne (by decide) lk_nil))) ?_
 refine s_ mv_ (s_ (ex_ 0) (s_ (ex_ 1) (o_ (al_ Ty.ze33 fun b15=>?_))))
 refine o_ (stG 0 Ty.sz33 ?_)
 refine s_ av_ (z_ (xk_ [0,1,8,12,13] ?_))
 refine n_ (q_ (g_ (s_ mv_ (z_ (n_ (iff_ (sk_ (n_ (q_ ?_)))))))))
 refine J_less (L':=[Ent.blk b6 97 [vL (some ⟨nb5,0,none⟩) 2 2,Value.func (.func 43) #[] #[],Value.func (.func 52) #[] #[]],Ent.blk nb5 9 [vS [73,78,49],vS [73,78,50]],Ent.blk x 82 [Value.iface 41 (pB s 0),vS parm,Value.map (some m),vI 0,vB false,vL none 0 0,vL none 0 0],Ent.mp vS m [([73,78,49],vG (Binding.enc (l.getD ((R45.findI [73,78,49] l).toNat) default))),([73,78,50],vG (Binding.enc (l.getD ((R45.findI [73,78,50] l).toNat) default)))],Ent.blk s 52 [vL rowsA rows.length rowsC,vI 0,vI 0,vI ((calls:Nat):Int)]]) (fun _ h=>h.keep [false,true,true,true,true,true] rfl) ?_
 refine g_ (s_ (fA 1 Ty.fi97_1) (r_ (ld_ 0 Ty.sc94) (s_ mv_ (c0 (x_callv (first:=[]) (caps:=[]) rfl Ty.ca43 rfl) (fun w hS=>f43_ok x w) ?_))))
 refine JO_callP [] [] [Ent.blk b6 97 [vL (some ⟨nb5,0,none⟩) 2 2,Value.func (.func 43) #[] #[],Value.func (.func 52) #[] #[]],Ent.blk nb5 9 [vS [73,78,49],vS [73,78,50]],Ent.blk x 82 [Value.iface 41 (pB s 0),vS parm,Value.map (some m),vI 0,vB false,vL none 0 0,vL none 0 0],Ent.mp vS m [([73,78,49],vG (Binding.enc (l.getD ((R45.findI [73,78,49] l).toNat) default))),([73,78,50],vG (Binding.enc (l.getD ((R45.findI [73,78,50] l).toNat) default)))],Ent.blk s 52 [vL rowsA rows.length rowsC,vI 0,vI 0,vI ((calls:Nat):Int)]] rfl trivial (fun _=>x_call Ty.ca33 rfl) (fun _ h=>h) (fun _ h=>by cases h) (fun w hS=>f33_ok true [119,114,111,110,103,32,112,97,114,97,109,101,116,101,114] w) ?_ ?_
 ·rintro _ _ ⟨rfl,rfl,hp16⟩
  exact absurd hp16 (by decide)
 rintro _ _ ⟨rfl,rfl,hf17⟩
 refine z_ (n_ (q_ (g_ (s_ av_ (z_ (n_ (q_ (q_ (g_ (s_ (fA 0 Ty.fi97_0) (r_ (ld_ 0 Ty.sc25) (s_ (lnS Tryz.underlying25) (s_ mv_ (z_ (n_ (k_ ?_))))))))))))))))
 refine J_unroll 3 ?_
 refine JR_one ?_
 refine q_ (g_ (jr_ (vB true) (z_ (n_ (q_ (ift (sk_ (n_ (q_ (k_ (q_ (g_ (s_ (x_indexAddr_sl (k:=0) Tryz.underlying25 Ty.sz9 rfl rfl lt_ rfl) (r_ (ld_ 1 Ty.sc9) (s_ av_ (z_ (n_ (q_ (q_ (g_ (s_ mv_ (js_ (vB false) (x_eql_s (a:=([73,78,49]:Bytes)) (b:=([79,85,84]:Bytes)) rfl rfl) ?_))))))))))))))))))))))
 refine z_ (n_ (iff_ (sk_ (n_ (q_ ?_)))))
 refine drU [] [10] 16 Ty.mixed ?_
 refine jp_ 0 rfl mv_ (jp_ 1 rfl (x_nilCheck rfl) (jp_ 2 rfl (fA 0 Ty.fi82_0) ?_))
 refine JA_early 3 (Value.iface 41 (pB s 0)) rfl (by kernel_rfl) (by kernel_rfl) (by kernel_rfl) rfl (by kernel_rfl) (fun _ _ _ h=>h) rfl trivial (x_load 2 rfl rfl Ty.sc71 rfl) ?_
 refine jp_ 4 rfl mv_ (jp_ 5 rfl (x_nilCheck rfl) (jp_ 6 rfl (fA 2 Ty.fi82_2) ?_))
 refine JA_earlyT 7 (Value.map (some m)) rfl (by kernel_rfl) (by kernel_rfl) (by kernel_rfl) rfl (by kernel_rfl) (fun _ _ _ h=>h) rfl trivial (x_load 2 rfl rfl Ty.sc80 rfl) ?_
 refine jp_ 8 rfl mv_ ?_
 refine JA_early 9 (vG (Binding.enc (l.getD ((R45.findI [73,78,49] l).toNat) default))) rfl (by kernel_rfl) (by kernel_rfl) (by kernel_rfl) rfl (by kernel_rfl) (fun _ _ _ h=>h) rfl trivial (x_lookup 3 (f:=vS) (k:=[73,78,49]) rfl rfl rfl Tryz.underlying80 (mapK_s Tryz.underlying9) Ty.ze33 (lk_hit (by decide))) ?_
 refine j1_ 10 ?_ (fun _ h=>⟨h.keep [false,false,false,false,false] rfl,fun _=>h⟩)
 refine JI_call [s] [Ent.blk s 52 [vL rowsA rows.length rowsC,vI 0,vI 0,vI ((calls:Nat):Int)]] [Ent.blk b6 97 [vL (some ⟨nb5,0,none⟩) 2 2,Value.func (.func 43) #[] #[],Value.func (.func 52) #[] #[]],Ent.blk nb5 9 [vS [73,78,49],vS [73,78,50]],Ent.blk x 82 [Value.iface 41 (pB s 0),vS parm,Value.map (some m),vI 0,vB false,vL none 0 0,vL none 0 0],Ent.mp vS m [([73,78,49],vG (Binding.enc (l.getD ((R45.findI [73,78,49] l).toNat) default))),([73,78,50],vG (Binding.enc (l.getD ((R45.findI [73,78,50] l).toNat) default)))]] rfl rfl trivial (fun _=>x_call Ty.ca11 rfl) (fun _ h=>(((((h.front 3 _ rfl).front 3 _ rfl).front 3 _ rfl).front 3 _ rfl).front 4 _ rfl).keep [true,true,true,true,true] rfl) (own_mem rfl) (fun w hS=>f11_ok s rows rowsA rowsC calls (l.getD ((R45.findI [73,78,49] l).toNat) default) w (rowsR.on hS (own_mem rfl)) (okL_at (lN.on hS (own_mem rfl)) _) hy_ hy_ hy_ (by exact q6 _) (hS.give (own_in rfl))) ?_
 rintro _ _ ⟨out18,outA19,outC20,e21,rfl,rfl,hf22,hf23⟩
 have ha24:=R45.rec_len out18 (by assumption) q0 (q6 _)
 refine jp_ 11 rfl mv_ (jp_ 12 rfl (ex_ 0) (jp_ 13 rfl (ex_ 1) (jp_ 14 rfl av_ (jp_ 15 rfl av_ ?_))))
 refine JA_done (by kernel_rfl) (gl_ rfl (fun _ h=>h.keep [false,false,false,false,false,false] rfl)) ?_
 refine n_ (q_ (g_ (s_ mv_ (jr_ (vB true) ?_))))
 refine JO_callP [] [] [Ent.blk s 52 [vL rowsA rows.length rowsC,vI 0,vI 0,vI ((e21:Nat):Int)],Ent.row (.slice outA19 out18.length outC20) 9 1 out18.length (out18.map vS),Ent.blk b6 97 [vL (some ⟨nb5,0,none⟩) 2 2,Value.func (.func 43) #[] #[],Value.func (.func 52) #[] #[]],Ent.blk nb5 9 [vS [73,78,49],vS [73,78,50]],Ent.blk x 82 [Value.iface 41 (pB s 0),vS parm,Value.map (some m),vI 0,vB false,vL none 0 0,vL none 0 0],Ent.mp vS m [([73,78,49],vG (Binding.enc (l.getD ((R45.findI [73,78,49] l).toNat) default))),([73,78,50],vG (Binding.enc (l.getD ((R45.findI [73,78,50] l).toNat) default)))]] rfl trivial (fun _=>x_call Ty.ca33 rfl) (fun _ h=>h) (fun _ h=>by cases h) (fun w hS=>f33_ok true [116,111,111,32,109,97,110,121,32,114,101,99,111,114,100,115] w) ?_ ?_
 ·rintro _ _ ⟨rfl,rfl,hp25⟩
  exact absurd hp25 (by decide)
 rintro _ _ ⟨rfl,rfl,hf26⟩
 refine z_ (n_ (q_ (g_ (s_ mv_ (c0 (cl_ Ty.ca37) (fun w hS=>f37_ok 0 w hy_) (z_ (n_ (g_ (s_ mv_ (s_ mv_ (o_ (O_buildSlice (cs:=[vL outA19 out18.length outC20]) Tryz.underlying102 Ty.sz25 Ty.ze25 (by decide) (by decide) (by kernel_rfl) fun b27=>?_))))))))))))
 refine JO_weaken (E':=[(0,pB x 0),(8,pB b6 0),(14,vL none (([]:List Rw).length) 0),(73,vL (some ⟨nb5,0,none⟩) 2 2),(74,vI 2),(75,vI 0),(76,vB true),(77,pB nb5 0),(78,vS [73,78,49]),(16,vS [73,78,49]),(79,vS [73,78,49]),(80,vB false),(82,pB x 0),(83,pB x 0),(84,pB x 0),(85,Value.iface 41 (pB s 0)),(86,pB x 0),(87,pB x 0),(88,pB x 2),(89,Value.map (some m)),(90,vS [73,78,49]),(91,vG (Binding.enc (l.getD ((R45.findI [73,78,49] l).toNat) default))),(92,Value.tuple #[vL outA19 out18.length outC20,vI 0]),(81,Value.tuple #[vL outA19 out18.length outC20,vI 0]),(93,vL outA19 out18.length outC20),(94,vI 0),(17,vL outA19 out18.length outC20),(18,vI 0),(95,vI 0),(96,vB true),(97,Value.tuple #[]),(98,vI 0),(99,Value.tuple #[]),(100,vL none (([]:List Rw).length) 0),(101,vL outA19 out18.length outC20),(102,vL (some ⟨b27,0,none⟩) 1 1)]) (L':=[Ent.row (.slice none ([]:List Rw).length 0) 25 1 ([]:List Rw).length (([]:List Rw).flatMap Rw.enc),Ent.blk b27 25 [vL outA19 out18.length outC20],Ent.blk s 52 [vL rowsA rows.length rowsC,vI 0,vI 0,vI ((e21:Nat):Int)],Ent.row (.slice outA19 out18.length outC20) 9 1 out18.length (out18.map vS),Ent.blk b6 97 [vL (some ⟨nb5,0,none⟩) 2 2,Value.func (.func 43) #[] #[],Value.func (.func 52) #[] #[]],Ent.blk nb5 9 [vS [73,78,49],vS [73,78,50]],Ent.blk x 82 [Value.iface 41 (pB s 0),vS parm,Value.map (some m),vI 0,vB false,vL none 0 0,vL none 0 0],Ent.mp vS m [([73,78,49],vG (Binding.enc (l.getD ((R45.findI [73,78,49] l).toNat) default))),([73,78,50],vG (Binding.enc (l.getD ((R45.findI [73,78,50] l).toNat) default)))]]) ⟨rfl,rfl,rfl,rfl,rfl,rfl,rfl,rfl,rfl,rfl,rfl,rfl,rfl,rfl,rfl,rfl,rfl,rfl,rfl,rfl,rfl,rfl,rfl,rfl,rfl,rfl,rfl,rfl,rfl,rfl,rfl,rfl,rfl,rfl,rfl,rfl,trivial⟩ (fun _ h=>((((((((h.front 6 _ rfl).front 6 _ rfl).front 6 _ rfl).front 6 _ rfl).front 6 _ rfl).front 6 _ rfl).front 6 _ rfl).nilrow 25 1).keep [true,true,true,true,true,true,true,true] rfl) ?_
 refine o_ (O_append_f 0 Rw.enc 1 ([]:List Rw) [(Rw.mk out18 outA19 outC20)] Tryz.underlying102 Ty.sz25 Ty.by25 Ty.ze25 rfl (by decide) rfl rfl rfl rfl Rw.enc_len Rw.enc_one (cells_blk 1 (off:=0) (m:=1) rfl rfl) lt_ lt_ fun A28 c29=>?_)
 refine s_ av_ (z_ (kx_ (n_ (g_ (jr_ (vI 1) (s_ mv_ (z_ (JX_again ?_))))))))
 refine JR_one ?_
 refine q_ (g_ (jr_ (vB true) (z_ (n_ (q_ (ift (sk_ (n_ (q_ (k_ (q_ (g_ (s_ (x_indexAddr_sl (k:=1) Tryz.underlying25 Ty.sz9 rfl rfl lt_ rfl) (r_ (ld_ 5 Ty.sc9) (s_ av_ (z_ (n_ (q_ (q_ (g_ (s_ mv_ (js_ (vB false) (x_eql_s (a:=([73,78,50]:Bytes)) (b:=([79,85,84]:Bytes)) rfl rfl) ?_))))))))))))))))))))))
 refine z_ (n_ (iff_ (sk_ (n_ (q_ ?_)))))
 refine drU [] [10] 16 Ty.mixed ?_
 refine jp_ 0 rfl mv_ (jp_ 1 rfl (x_nilCheck rfl) (jp_ 2 rfl (fA 0 Ty.fi82_0) ?_))
 refine JA_early 3 (Value.iface 41 (pB s 0)) rfl (by kernel_rfl) (by kernel_rfl) (by kernel_rfl) rfl (by kernel_rfl) (fun _ _ _ h=>h) rfl trivial (x_load 6 rfl rfl Ty.sc71 rfl) ?_
 refine jp_ 4 rfl mv_ (jp_ 5 rfl (x_nilCheck rfl) (jp_ 6 rfl (fA 2 Ty.fi82_2) ?_))
 refine JA_earlyT 7 (Value.map (some m)) rfl (by kernel_rfl) (by kernel_rfl) (by kernel_rfl) rfl (by kernel_rfl) (fun _ _ _ h=>h) rfl trivial (x_load 6 rfl rfl Ty.sc80 rfl) ?_
 refine jp_ 8 rfl mv_ ?_
 refine JA_early 9 (vG (Binding.enc (l.getD ((R45.findI [73,78,50] l).toNat) default))) rfl (by kernel_rfl) (by kernel_rfl) (by kernel_rfl) rfl (by kernel_rfl) (fun _ _ _ h=>h) rfl trivial (x_lookup 7 (f:=vS) (k:=[73,78,50]) rfl rfl rfl Tryz.underlying80 (mapK_s Tryz.underlying9) Ty.ze33 (lk_ne (by decide) (lk_hit (by decide)))) ?_
 refine j1_ 10 ?_ (fun _ h=>⟨h.keep [false,false,false,false,false,false,false,false] rfl,fun _=>h⟩)
 refine JI_call [s] [Ent.blk s 52 [vL rowsA rows.length rowsC,vI 0,vI 0,vI ((e21:Nat):Int)]] [Ent.row (.slice A28 (([]:List Rw)++[(Rw.mk out18 outA19 outC20)]).length c29) 25 1 (([]:List Rw)++[(Rw.mk out18 outA19 outC20)]).length ((([]:List Rw)++[(Rw.mk out18 outA19 outC20)]).flatMap Rw.enc),Ent.blk b27 25 [vL outA19 out18.length outC20],Ent.row (.slice outA19 out18.length outC20) 9 1 out18.length (out18.map vS),Ent.blk b6 97 [vL (some ⟨nb5,0,none⟩) 2 2,Value.func (.func 43) #[] #[],Value.func (.func 52) #[] #[]],Ent.blk nb5 9 [vS [73,78,49],vS [73,78,50]],Ent.blk x 82 [Value.iface 41 (pB s 0),vS parm,Value.map (some m),vI 0,vB false,vL none 0 0,vL none 0 0],Ent.mp vS m [([73,78,49],vG (Binding.enc (l.getD ((R45.findI [73,78,49] l).toNat) default))),([73,78,50],vG (Binding.enc (l.getD ((R45.findI [73,78,50] l).toNat) default)))]] rfl rfl trivial (fun _=>x_call Ty.ca11 rfl) (fun _ h=>((((((((h.front 7 _ rfl).front 7 _ rfl).front 7 _ rfl).front 7 _ rfl).front 7 _ rfl).front 6 _ rfl).front 6 _ rfl).front 7 _ rfl).keep [true,true,true,true,true,true,true,true] rfl) (own_mem rfl) (fun w hS=>f11_ok s rows rowsA rowsC e21 (l.getD ((R45.findI [73,78,50] l).toNat) default) w (rowsR.on hS (own_mem rfl)) (okL_at (lN.on hS (own_mem rfl)) _) hy_ hy_ hy_ (by exact q6 _) (hS.give (own_in rfl))) ?_
 rintro _ _ ⟨out30,outA31,outC32,e33,rfl,rfl,hf34,hf35⟩
 have ha36:=R45.rec_len out30 (by assumption) q0 (q6 _)
 refine jp_ 11 rfl mv_ (jp_ 12 rfl (ex_ 0) (jp_ 13 rfl (ex_ 1) (jp_ 14 rfl av_ (jp_ 15 rfl av_ ?_))))
 refine JA_done (by kernel_rfl) (gl_ rfl (fun _ h=>h.keep [false,false,false,false,false,false,false,false,false] rfl)) ?_
 refine n_ (q_ (g_ (s_ mv_ (jr_ (vB true) ?_))))
 refine JO_callP [] [] [Ent.blk s 52 [vL rowsA rows.length rowsC,vI 0,vI 0,vI ((e33:Nat):Int)],Ent.row (.slice outA31 out30.length outC32) 9 1 out30.length (out30.map vS),Ent.row (.slice A28 (([]:List Rw)++[(Rw.mk out18 outA19 outC20)]).length c29) 25 1 (([]:List Rw)++[(Rw.mk out18 outA19 outC20)]).length ((([]:List Rw)++[(Rw.mk out18 outA19 outC20)]).flatMap Rw.enc),Ent.blk b27 25 [vL outA19 out18.length outC20],Ent.row (.slice outA19 out18.length outC20) 9 1 out18.length (out18.map vS),Ent.blk b6 97 [vL (some ⟨nb5,0,none⟩) 2 2,Value.func (.func 43) #[] #[],Value.func (.func 52) #[] #[]],Ent.blk nb5 9 [vS [73,78,49],vS [73,78,50]],Ent.blk x 82 [Value.iface 41 (pB s 0),vS parm,Value.map (some m),vI 0,vB false,vL none 0 0,vL none 0 0],Ent.mp vS m [([73,78,49],vG (Binding.enc (l.getD ((R45.findI [73,78,49] l).toNat) default))),([73,78,50],vG (Binding.enc (l.getD ((R45.findI [73,78,50] l).toNat) default)))]] rfl trivial (fun _=>x_call Ty.ca33 rfl) (fun _ h=>h) (fun _ h=>by cases h) (fun w hS=>f33_ok true [116,111,111,32,109,97,110,121,32,114,101,99,111,114,100,115] w) ?_ ?_
 ·rintro _ _ ⟨rfl,rfl,hp37⟩
  exact absurd hp37 (by decide)
 rintro _ _ ⟨rfl,rfl,hf38⟩
 refine z_ (n_ (q_ (g_ (s_ mv_ (c0 (cl_ Ty.ca37) (fun w hS=>f37_ok 0 w hy_) (z_ (n_ (g_ (s_ mv_ (s_ mv_ (o_ (O_buildSlice (cs:=[vL outA31 out30.length outC32]) Tryz.underlying102 Ty.sz25 Ty.ze25 (by decide) (by decide) (by kernel_rfl) fun b39=>?_))))))))))))
 refine o_ (O_append_f 3 Rw.enc 1 (([]:List Rw)++[(Rw.mk out18 outA19 outC20)]) [(Rw.mk out30 outA31 outC32)] Tryz.underlying102 Ty.sz25 Ty.by25 Ty.ze25 rfl (by decide) rfl rfl rfl rfl Rw.enc_len Rw.enc_one (cells_blk 0 (off:=0) (m:=1) rfl rfl) lt_ lt_ fun A40 c41=>?_)
 refine s_ av_ (z_ (kx_ (n_ (g_ (jr_ (vI 2) (s_ mv_ (z_ (JX_again ?_))))))))
 refine JR_one ?_
 refine q_ (g_ (jr_ (vB false) (z_ (n_ (q_ (iff_ (J_exit (ne_ (ne_ (kh_ (n_ (g_ (s_ (fA 2 Ty.fi97_2) (r_ (ld_ 6 Ty.sc95) (s_ mv_ (s_ mv_ ?_))))))))))))))))
 refine JO_call [x] [Ent.blk x 82 [Value.iface 41 (pB s 0),vS parm,Value.map (some m),vI 0,vB false,vL none 0 0,vL none 0 0]] [Ent.blk b39 25 [vL outA31 out30.length outC32],Ent.blk s 52 [vL rowsA rows.length rowsC,vI 0,vI 0,vI ((e33:Nat):Int)],Ent.row (.slice outA31 out30.length outC32) 9 1 out30.length (out30.map vS),Ent.row (.slice A40 ((([]:List Rw)++[(Rw.mk out18 outA19 outC20)])++[(Rw.mk out30 outA31 outC32)]).length c41) 25 1 ((([]:List Rw)++[(Rw.mk out18 outA19 outC20)])++[(Rw.mk out30 outA31 outC32)]).length (((([]:List Rw)++[(Rw.mk out18 outA19 outC20)])++[(Rw.mk out30 outA31 outC32)]).flatMap Rw.enc),Ent.blk b27 25 [vL outA19 out18.length outC20],Ent.row (.slice outA19 out18.length outC20) 9 1 out18.length (out18.map vS),Ent.blk b6 97 [vL (some ⟨nb5,0,none⟩) 2 2,Value.func (.func 43) #[] #[],Value.func (.func 52) #[] #[]],Ent.blk nb5 9 [vS [73,78,49],vS [73,78,50]],Ent.mp vS m [([73,78,49],vG (Binding.enc (l.getD ((R45.findI [73,78,49] l).toNat) default))),([73,78,50],vG (Binding.enc (l.getD ((R45.findI [73,78,50] l).toNat) default)))]] rfl trivial (fun _=>x_callv (first:=[]) (caps:=[]) rfl Ty.ca52 rfl) (fun _ h=>((((((((((h.front 9 _ rfl).front 8 _ rfl).front 8 _ rfl).front 8 _ rfl).front 8 _ rfl).front 8 _ rfl).front 8 _ rfl).front 8 _ rfl).front 8 _ rfl).front 9 _ rfl).keep [true,true,true,true,true,true,true,true,true,true] rfl) (own_mem rfl) (fun w hS=>f52_ok x s parm m ((([]:List Rw)++[(Rw.mk out18 outA19 outC20)])++[(Rw.mk out30 outA31 outC32)]) A40 c41 w (RO.of_rowS hS (own_mem rfl) 3 rfl) (ronS (ronS ronN (RO.of_rowS hS (own_mem rfl) 5 rfl)) (RO.of_rowS hS (own_mem rfl) 2 rfl)) (hT.on hS (own_mem rfl)) hy_ c45p3_ c45p3_ (hS.give (own_in rfl))) ?_
 rintro _ _ ⟨cd42,ln43,lnA44,lnC45,rfl,rfl,hf46,hf47⟩
 refine z_ (JX_En ?_)
 refine JX_end0 Tryz.results27 [Ent.blk x 82 [Value.iface 41 (pB s 0),vS parm,Value.map (some m),vI cd42,vB false,vL none 0 0,vL lnA44 ln43.length lnC45],Ent.row (.slice none ([]:List Change).length 0) 60 5 ([]:List Change).length (([]:List Change).flatMap Change.enc),Ent.row (.slice lnA44 ln43.length lnC45) 9 1 ln43.length (ln43.map vS)] (fun _ h=>(((h.front 1 _ rfl).nilrow 60 5).front 2 _ rfl).keep [true,true,true,false,false,false,false,false,false,false,false,false] rfl) ⟨cd42,([]:List Change),none,0,ln43,lnA44,lnC45,?_,?_,?_⟩
 ·rfl
 ·rfl
 ·exact R45.cmp_yes (by assumption) (by assumption) (by assumption) (by assumption) (by assumption) (by assumption)
end Go.Proofs.YtggobegaiijhhaaGreatDoor
namespace Go.Proofs.YtggobegaiijhhaaGreatDoor
open Go.GV
set_option linter.unusedVariables false
set_option linter.unusedSimpArgs false
end Go.Proofs.YtggobegaiijhhaaGreatDoor
namespace Go.Proofs.YtggobegaiijhhaaGreatDoor
open Go.GV
set_option linter.unusedVariables false
set_option linter.unusedSimpArgs false
end Go.Proofs.YtggobegaiijhhaaGreatDoor
