/- C45i, Sh45c, Ad45b, Ad44b, C44p, Ad44c, Eq44, Sh44, Rp, Ad44 in one text. -/
import Derived.Test.YtggobegaiijhhaaGreatDoorUtilityOnly21
set_option linter.unusedVariables false
set_option linter.unusedSimpArgs false
set_option maxRecDepth 20000
namespace Go.Proofs.YtggobegaiijhhaaGreatDoor
open Go.GV Go.Proofs.Tryz Ty
open Go.GV.Ent (blk row mp)
theorem c45i0_ {p:Prop} (h:p:=by first | omega | (rw [List.length_append,List.length_singleton];omega)):p:=h
theorem c45i1_ {p:Prop} (h:p:=by first | omega | (simp only [sub,List.length_drop,List.length_take];omega) | (simp;omega) | (simp_all;omega)):p:=h
theorem f69_ok (w:World):Calls prog 69 #[] w (Gives [] w fun v L=>∃ nb:Nat,∃ bn:Nat,∃ bt:Nat,v=vG [vL (some ⟨nb,0,none⟩) 2 2,Value.func (.func 101) #[] #[pB bn 0,pB bt 0],Value.func (.func 102) #[] #[pB bn 0,pB bt 0]]∧L=[blk nb 9 [vS [73,78],vS [79,85,84]],blk bn 3 [vI 0],blk bt 9 [vS []]]):=by
 refine calls_J [] 7 func69 rfl ntmps69 [] rfl rfl (Give.nil w) ?_
 refine q_ (g_ (o_ (al_ ze97 fun b1=>?_)))
 refine z_ (n_ (q_ (g_ (o_ (al_ ze3 fun b2=>?_)))))
 refine o_ (al_ ze9 fun b3=>?_)
 refine o_ (st1 1 sz3 ?_)
 refine o_ (st1 0 sz9 ?_)
 refine z_ (n_ (q_ (g_ (o_ (O_buildSlice (cs:=[vS [73,78],vS [79,85,84]]) underlying25 sz9 ze9 dd_ dd_ kf_ fun b4=>?_)))))
 refine js_ (Value.func (.func 101) #[] #[pB b2 0,pB b3 0]) (x_makeFunc rfl rfl) (js_ (Value.func (.func 102) #[] #[pB b2 0,pB b3 0]) (x_makeFunc rfl rfl) (js_ (vG [vL (some ⟨b4,0,none⟩) 2 2,Value.func (.func 101) #[] #[pB b2 0,pB b3 0],Value.func (.func 102) #[] #[pB b2 0,pB b3 0]]) (x_build kf_) (o_ (stG 3 sz97 ?_))))
 refine z_ (n_ (rt_ ?_))
 refine JX_rets [_] _ results69 (fun w h=>⟨⟨_,rfl,load_blkN 3 [vL (some ⟨b4,0,none⟩) 2 2,Value.func (.func 101) #[] #[pB b2 0,pB b3 0],Value.func (.func 102) #[] #[pB b2 0,pB b3 0]] h rfl ag97 sz97 rfl⟩,trivial⟩) rfl [blk b4 9 [vS [73,78],vS [79,85,84]],blk b2 3 [vI 0],blk b3 9 [vS []]] (fun _ h=>(((h.front 1 _ rfl).front 2 _ rfl).front 2 _ rfl).keep [T_,T_,T_,F_] rfl) ⟨b4,b2,b3,?_,?_⟩
 ·rfl
 ·rfl
theorem f101_ok (x:Nat) (s:Nat) (parm:Bytes) (m:Nat) (bn:Nat) (bt:Nat) (n0:Int) (t0:Bytes) (w:World) (hT:Tab [x,bn,bt] w) (q0:parm.length≤1000) (hg:Give [x,bn,bt] w [x0_ x s parm m,blk bn 3 [vI n0],blk bt 9 [vS t0]]):Calls prog 101 #[pB x 0,pB bn 0,pB bt 0] w (Gives [x,bn,bt] w fun v L=>∃ n:Int,∃ t:Bytes,∃ ok:Bool,v=vB ok∧L=[x0_ x s parm m,blk bn 3 [vI n],blk bt 9 [vS t]]∧(ok=true→0≤n∧n≤999)∧(t.length≤1000)):=by
 refine calls_J [x,bn,bt] 34 func101 rfl ntmps101 [(0,_),(1,_),(2,_)] rfl rfl hg ?_
 refine q_ (g_ (s_ av_ (z_ (n_ (q_ (g_ (s_ mv_ (s_ (x_nilCheck rfl) (s_ (fA 1 fi82_1) (r_ (ld_ 0 sc9) ?_))))))))))
 refine c1 (cl_ ca92) (fun w hS=>cut_ok 32 parm w (hT.on hS (fun _ h=>by cases h)) hy_) ?_
 rintro _ _ ⟨a1,r2,o3,rfl,rfl,hf4,hf5,hf6⟩
 refine s_ mv_ (s_ (ex_ 0) (s_ (ex_ 1) (s_ (ex_ 2) (s_ av_ (s_ av_ (s_ av_ (z_ (n_ (q_ (g_ (s_ mv_ ?_)))))))))))
 refine c1 (cl_ ca49) (fun w hS=>f49_ok a1 999 w (hT.on hS (fun _ h=>by cases h)) hy_) ?_
 rintro _ _ ⟨n7,ok8,rfl,rfl,hf9⟩
 refine s_ mv_ (s_ (ex_ 0) (s_ (ex_ 1) (s_ av_ (s_ av_ (z_ (xk_ [1,2,4,6,7,8,9] ?_))))))
 refine n_ (q_ (g_ (s_ mv_ (s_ mv_ (o_ (st1 1 sz3 ?_))))))
 refine o_ (st1 2 sz9 ?_)
 refine z_ (n_ (q_ (g_ (s_ mv_ (s_ mv_ ?_)))))
 refine and_ 1 (ok8) (fun g10=>?_) ?_
 ·have g10r:=g10
  refine sg_ g10 mv_ ?_
  exact cr_
 refine s_ mv_ ?_
 refine and_ 2 (decide (r2≠([]:Bytes))) (fun g11=>?_) ?_
 ·have g11r:=g11
  have ⟨g11r,h12⟩:=band_true g11r
  refine sg_ g11 mv_ (jg_ g11 (vB (decide (r2≠([]:Bytes)))) (x_neq_s rfl rfl) ?_)
  exact cr_
 refine s_ av_ (z_ (n_ (rt_ ?_)))
 refine JX_rets [_] _ results101 (fun w h=>⟨rfl,trivial⟩) rfl _ i_ ⟨n7,r2,((o3&&ok8)&&(decide (r2≠([]:Bytes)))),?_,?_,?_,?_⟩
 ·rfl
 ·rfl
 ·intro hk;simp only [Bool.and_eq_true] at hk;exact R45.NumJ.rg as_ (by first | exact hk.1.2 | exact hk.2)
 ·omega
theorem f140_ok (s:Bytes) (p:Bytes) (w:World) (q0:s.length≤9223372036854775807) (q1:p.length≤9223372036854775807):Calls prog 140 #[vS s,vS p] w (Gives [] w fun v L=>∃ z:Bool,v=vB z∧L=[]):=by
 refine calls_J [] 18 func140 rfl ntmps140 [(0,_),(1,_)] rfl rfl (Give.nil w) ?_
 refine q_ (g_ (s_ av_ (z_ (n_ (q_ (g_ (s_ mv_ (s_ (x_len_s rfl underlying9) (s_ mv_ (s_ (x_len_s rfl underlying9) (s_ (x_geq_i rfl rfl) (s_ mv_ ?_))))))))))))
 refine and_ 6 (decide (sub s 0 p.length=p)) (fun g1=>?_) ?_
 ·have g1r:=g1
  have g1r:=ot_ g1r
  refine sg_ g1 mv_ (sg_ g1 mv_ (sg_ g1 (x_len_s rfl underlying9) (sg_ g1 (x_sub_s (lo:=0) (hi:=p.length) rfl underlying9 (.inr ⟨rfl,rfl⟩) (.inl rfl) lt_ c45i1_) (sg_ g1 mv_ (sg_ g1 (x_eql_s rfl rfl) ?_)))))
  exact cr_
 refine s_ av_ (z_ (n_ (rt_ ?_)))
 exact p1 results140 rfl ⟨((decide (((p.length:Nat):Int)≤((s.length:Nat):Int)))&&(decide (sub s 0 p.length=p))),rfl,rfl⟩
theorem f103_ok (s:Bytes) (p:Bytes) (w:World) (q0:s.length≤9223372036854775807) (q1:p.length≤9223372036854775807):Calls prog 103 #[vS s,vS p] w (Gives [] w fun v L=>∃ z:Bool,v=vB z∧L=[]):=by
 refine calls_J [] 8 func103 rfl ntmps103 [(0,_),(1,_)] rfl rfl (Give.nil w) ?_
 refine q_ (g_ (s_ av_ (z_ (n_ (q_ (g_ (s_ mv_ (s_ mv_ ?_))))))))
 refine c1 (cl_ ca140) (fun w hS=>f140_ok s p w hy_ hy_) ?_
 rintro _ _ ⟨z1,rfl,rfl⟩
 refine s_ av_ (z_ (n_ (rt_ ?_)))
 exact p1 results103 rfl ⟨(z1),(eB (by exact df_)),rfl⟩
theorem f102_ok (x:Nat) (s:Nat) (parm:Bytes) (m:Nat) (rows:List SRow) (rowsA:OA_) (rowsC:Nat) (calls:Nat) (dds:List (Bytes × Binding)) (rc:List Rw) (rcA:OA_) (rcC:Nat) (bn:Nat) (bt:Nat) (n:Int) (t:Bytes) (w:World) (rowsR:RO [x,m,s,bn,bt] w rowsA (rows.flatMap SRow.enc)) (rcR:RO [x,m,s,bn,bt] w rcA (rc.flatMap Rw.enc)) (rcN:∀ i:Nat,RO [x,m,s,bn,bt] w (rc.getD i default).sA (((rc.getD i default).s).map vS)) (hT:Tab [x,m,s,bn,bt] w) (q0:rows.length≤1000) (q1:calls≤990000) (q2:R45.Dist rows) (q3:∀ x∈rows,x.Key.length≤1000000) (q4:rc.length=1) (q5:((rc.getD 0 default).s).length≤1100) (q6:∀ i,(((rc.getD 0 default).s).getD i []).length≤1000000) (q7:0≤n) (q8:n≤999) (q9:t.length≤1000) (hg:Give [x,m,s,bn,bt] w [x0_ x s parm m,mp vS m (dds.map R45.bindE),sH_ s rowsA rows.length rowsC calls,blk bn 3 [vI n],blk bt 9 [vS t]]):Calls prog 102 #[pB x 0,vL rcA rc.length rcC,pB bn 0,pB bt 0] w (GivesE [x,m,s,bn,bt] w (fun v L=>∃ ch:List Change,∃ chA:OA_,∃ chC:Nat,∃ ln:LB_,∃ lnA:OA_,∃ lnC:Nat,v=Value.tuple #[]∧L=[xE_ x s parm m [vI 0,vB false,vL chA ch.length chC,vL lnA ln.length lnC],mp vS m (dds.map R45.bindE),row (.slice chA ch.length chC) 60 5 ch.length (ch.flatMap Change.enc),row (.slice lnA ln.length lnC) 9 1 ln.length (ln.map vS)]∧(ch.length≤300)∧(∀ c∈ch,R45.ChB (R45.outB dds) c)∧(ln.length=1)) (fun c L=>∃ line:Bytes,c=R45.pan line∧L=[])):=by
 refine calls_JE [x,m,s,bn,bt] 36 func102 rfl ntmps102 [(0,_),(1,_),(2,_),(3,_)] rfl rfl hg ?_
 refine q_ (g_ (s_ av_ (z_ (n_ (q_ (q_ (g_ (s_ mv_ (r_ (ixF (k:=0) Rw.enc_len (cells_ro rcR) underlying102 sz25) (r_ (ldF (k:=0) 0 Rw.enc_len (cells_ro rcR) sc25) (s_ (lnS underlying25) (s_ mv_ (z_ (n_ (k_ ?_)))))))))))))))
 refine J_loop (X:=Nat × (LB_) × (OA_) × Nat) (fun (⟨k,l,lA,lC⟩:Nat × (LB_) × (OA_) × Nat)=>(k≤((rc.getD 0 default).s).length)∧(l.length≤k)∧(∀ i,(l.getD i []).length≤1000000)) (fun (⟨k,l,lA,lC⟩:Nat × (LB_) × (OA_) × Nat)=>[(0,pB x 0),(2,pB bn 0),(3,pB bt 0),(6,vL lA l.length lC),(11,vL ((rc.getD 0 default).sA) ((rc.getD 0 default).s.length) ((rc.getD 0 default).sC)),(12,vI (((rc.getD 0 default).s.length:Nat):Int)),(13,vN k)]) (fun (⟨k,l,lA,lC⟩:Nat × (LB_) × (OA_) × Nat)=>[x0_ x s parm m,mp vS m (dds.map R45.bindE),sH_ s rowsA rows.length rowsC calls,blk bn 3 [vI n],blk bt 9 [vS t],row (.slice lA l.length lC) 9 1 l.length (l.map vS)]) (fun (⟨k,l,lA,lC⟩:Nat × (LB_) × (OA_) × Nat)=>((rc.getD 0 default).s).length-k) ((0,([]:LB_),none,0):Nat × (LB_) × (OA_) × Nat) ?_ se_ (fun _ h=>((((((h.nilrow 9 1).front 5 _ rfl).front 5 _ rfl).front 5 _ rfl).front 5 _ rfl).front 5 _ rfl).keep [T_,T_,T_,T_,T_,T_] rfl) ?_
 ·try dsimp only
  refine ⟨?_,?_,?_⟩
  ·exact df_
  ·exact Nat.zero_le _
  ·simp
 rintro ⟨k,l,lA,lC⟩ hI1
 obtain ⟨i1_0,i1_1,i1_2⟩:=hI1
 try dsimp only at i1_0
 try dsimp only at i1_1
 try dsimp only at i1_2
 have hqk:=q6 k
 try dsimp only
 refine q_ (g_ (s_ (x_lss_i rfl rfl) (z_ (n_ (q_ ?_)))))
 refine ifd (fun h1w h1=>?_) (fun h1w h1=>?_)
 ·refine sk_ (n_ (q_ (k_ (q_ (g_ (r_ (x_indexAddr_at (k:=k) (off:=k) (cells_ro (rcN 0)) underlying25 sz9 rfl rfl lt_ (by rw [List.length_map];first | omega | (simp only [List.length_append,List.length_cons,List.length_nil];omega) | (simp;omega) | (simp_all;omega) | (simp_all;done)) (Nat.mul_one _)) (r_ (ldM vS [] (cells_ro (rcN 0)) sc9) (s_ av_ (z_ (n_ (q_ ?_)))))))))))
  refine drB [] 11 mixed ?_
  refine jp_ 0 rfl mv_ (jp_ 1 rfl (x_len_s rfl underlying9) (jq_ 2 rfl (ld_ 3 sc3) (jp_ 3 rfl (x_geq_i rfl rfl) (jp_ 4 rfl mv_ ?_))))
  refine jb_ 21 (fun h2=>?_) (fun h2=>?_)
  ·have h2:=ot_ h2
   refine jp_ 5 rfl mv_ (jq_ 6 rfl (ld_ 3 sc3) (jp_ 7 rfl (x_sub_s (lo:=(n).toNat) (hi:=(((rc.getD 0 default).s).getD k []).length) rfl underlying9 (.inl (lo_i om_)) (.inr ⟨rfl,rfl⟩) lt_ c45i1_) (jq_ 8 rfl (ld_ 4 sc9) (j1_ 9 ?_ gm_) (hw:=w_)) (hw:=w_)) (hw:=w_)) (hw:=w_)
   refine jc1_ rfl (cl_ ca103) (fun w hS=>f103_ok _ t w hy_ hy_) ?_ (hw:=w_)
   rintro _ _ ⟨z3,rfl,rfl⟩
   refine jt_ 10 (vB z3) rfl (fun _ _=>rfl) ?_
   refine JA_done kf_ gm_ ?_
   refine n_ ?_
   refine if_ (fun h4=>?_) (fun h4=>?_)
   ·have h4w:=h4
    refine g_ (s_ mv_ (s_ mv_ (o_ (O_buildSlice (cs:=[vS (((rc.getD 0 default).s).getD k [])]) underlying25 sz9 ze9 dd_ dd_ kf_ fun b5=>?_))))
    refine o_ (O_append_m 6 vS l [(((rc.getD 0 default).s).getD k [])] underlying25 sz9 by9 ze9 rfl rfl rfl rfl rfl (fun _=>rfl) (cells_blk 0 (off:=0) (m:=1) rfl rfl) lt_ lt_ fun A6 c7=>?_)
    refine s_ av_ (z_ (kx_ (n_ (g_ (s_ (x_add_n (a:=k) (b:=1) rfl rfl om_) (s_ mv_ (z_ ?_)))))))
    refine JX_round ((k+1,l++[(((rc.getD 0 default).s).getD k [])],A6,c7):Nat × (LB_) × (OA_) × Nat) ?_ ?_ se_ (fun _ h=>h.keep [F_,T_,T_,T_,T_,T_,T_] rfl)
    ·try dsimp only
     refine ⟨?_,?_,?_⟩
     ·exact df_
     ·exact c45i0_
     ·first | exact i1_2 | exact R45.each_snoc i1_2 hqk
    ·try dsimp only
     first | omega | (simp;omega) | (simp_all;omega)
   ·have h4w:=h4
    refine sk_ (kx_ (n_ (g_ (s_ (x_add_n (a:=k) (b:=1) rfl rfl om_) (s_ mv_ (z_ ?_))))))
    refine JX_round ((k+1,l,lA,lC):Nat × (LB_) × (OA_) × Nat) ?_ ?_ se_ i_
    ·try dsimp only
     refine ⟨?_,?_,?_⟩
     ·exact df_
     ·exact c45i0_
     ·first | exact i1_2 | exact R45.each_snoc i1_2 hqk
    ·try dsimp only
     first | omega | (simp;omega) | (simp_all;omega)
  ·have h2:=of_ h2
   refine js2_ 5 rfl (js2_ 6 rfl (js2_ 7 rfl (js2_ 8 rfl (js2_ 9 rfl ?_))))
   refine jt_ 10 (vB false) rfl (fun _ _=>rfl) ?_
   refine JA_done kf_ gm_ ?_
   refine n_ (iff_ (sk_ (kx_ (n_ (g_ (s_ (x_add_n (a:=k) (b:=1) rfl rfl om_) (s_ mv_ (z_ ?_))))))))
   refine JX_round ((k+1,l,lA,lC):Nat × (LB_) × (OA_) × Nat) ?_ ?_ se_ i_
   ·try dsimp only
    refine ⟨?_,?_,?_⟩
    ·exact df_
    ·exact c45i0_
    ·first | exact i1_2 | exact R45.each_snoc i1_2 hqk
   ·try dsimp only
    first | omega | (simp;omega) | (simp_all;omega)
 ·refine J_exit (ne_ (re_ (kh_ (n_ (g_ ?_)))))
  refine s_ mv_ (s_ mv_ ?_)
  refine JO_callP [x,m,s] [x0_ x s parm m,mp vS m (dds.map R45.bindE),sH_ s rowsA rows.length rowsC calls] [blk bn 3 [vI n],blk bt 9 [vS t],row (.slice lA l.length lC) 9 1 l.length (l.map vS)] rfl trivial (fun _=>x_call ca56 rfl) i_ (own_mem rfl) (fun w hS=>f56_ok x s parm m rows rowsA rowsC calls dds l lA lC [] w (rowsR.on hS (own_mem rfl)) (RO.of_rowS hS (own_mem rfl) 2 rfl) (hT.on hS (own_mem rfl)) hy_ hy_ hy_ hy_ hy_ (by exact i1_2) hy_ (hS.give (own_in rfl))) ?_ ?_
  ·rintro _ _ ⟨line8,rfl,rfl,hp9⟩
   refine JX_pan [] (fun _ h=>h.keep [F_,F_,F_] rfl) (fun _ _ h=>h) ⟨line8,rfl,?_⟩
   ·rfl
  rintro _ _ ⟨ch10,chA11,chC12,ln13,lnA14,lnC15,e16,rfl,rfl,hf17,hf18,hf19⟩
  refine z_ (JX_En ?_)
  refine JX_end0 results102 [xE_ x s parm m [vI 0,vB false,vL chA11 ch10.length chC12,vL lnA14 ln13.length lnC15],mp vS m (dds.map R45.bindE),row (.slice chA11 ch10.length chC12) 60 5 ch10.length (ch10.flatMap Change.enc),row (.slice lnA14 ln13.length lnC15) 9 1 ln13.length (ln13.map vS)] (fun _ h=>h.keep [T_,T_,F_,T_,T_,F_,F_,F_] rfl) ⟨ch10,chA11,chC12,ln13,lnA14,lnC15,?_,?_,?_,?_,?_⟩
  ·rfl
  ·rfl
  ·exact (R45.wrj_w as_).1
  ·exact (R45.wrj_w as_).2
  ·exact R45.ln_one as_
end Go.Proofs.YtggobegaiijhhaaGreatDoor
namespace Go.Proofs
open Go.Shelf
open Go.RowKit Go.Lib
def Tryz.lays160_ren:Go.Shelf.Ren:=⟨fun | 160=>190 | 232=>202 | 231=>201 | 227=>203 | 234=>205 | 233=>204 | 236=>207 | 235=>206 | 228=>214 | 271=>216 | 151=>215 | 197=>187 | 120=>220 | 152=>219 | 260=>195 | 137=>221 | 119=>222 | 224=>77 | 225=>76 | 217=>75 | 266=>114 | n=>n,fun | 9=>9 | 4=>4 | 3=>3 | 5=>5 | 117=>268 | 116=>267 | 0=>0 | 124=>271 | 21=>21 | 105=>251 | 46=>122 | 119=>272 | 139=>275 | 138=>274 | n=>n,fun | 3=>6 | 4=>7 | n=>n⟩
theorem Tryz.lays160:Go.Proofs.Lays.n160 Tryz.prog Tryz.lays160_ren:={
  mixed:=by kernel_rfl
  f119:=Tryz.func222.trans (congrArg some (by kernel_rfl))
  f120:=Tryz.func220.trans (congrArg some (by kernel_rfl))
  f137:=Tryz.func221.trans (congrArg some (by kernel_rfl))
  f151:=Tryz.func215.trans (congrArg some (by kernel_rfl))
  f152:=Tryz.func219.trans (congrArg some (by kernel_rfl))
  f160:=Tryz.func190.trans (congrArg some (by kernel_rfl))
  f197:=Tryz.func187.trans (congrArg some (by kernel_rfl))
  f217:=Tryz.func75.trans (congrArg some (by kernel_rfl))
  f224:=Tryz.func77.trans (congrArg some (by kernel_rfl))
  f225:=Tryz.func76.trans (congrArg some (by kernel_rfl))
  f227:=Tryz.func203.trans (congrArg some (by kernel_rfl))
  f228:=Tryz.func214.trans (congrArg some (by kernel_rfl))
  f231:=Tryz.func201.trans (congrArg some (by kernel_rfl))
  f232:=Tryz.func202.trans (congrArg some (by kernel_rfl))
  f233:=Tryz.func204.trans (congrArg some (by kernel_rfl))
  f234:=Tryz.func205.trans (congrArg some (by kernel_rfl))
  f235:=Tryz.func206.trans (congrArg some (by kernel_rfl))
  f236:=Tryz.func207.trans (congrArg some (by kernel_rfl))
  f260:=Tryz.func195.trans (congrArg some (by kernel_rfl))
  f266:=Tryz.func114.trans (congrArg some (by kernel_rfl))
  f271:=Tryz.func216.trans (congrArg some (by kernel_rfl))
  t0:=Tryz.underlying0
  a0:=Tryz.isAgg0
  z0:=Tryz.sizeOf0
  v0:=Tryz.zeroValue0
  t3:=Tryz.underlying3
  a3:=Tryz.isAgg3
  z3:=Tryz.sizeOf3
  v3:=Tryz.zeroValue3
  t4:=Tryz.underlying4
  a4:=Tryz.isAgg4
  z4:=Tryz.sizeOf4
  v4:=Tryz.zeroValue4
  t5:=Tryz.underlying5
  a5:=Tryz.isAgg5
  z5:=Tryz.sizeOf5
  v5:=Tryz.zeroValue5
  t9:=Tryz.underlying9
  a9:=Tryz.isAgg9
  z9:=Tryz.sizeOf9
  v9:=Tryz.zeroValue9
  t21:=Tryz.underlying21
  a21:=Tryz.isAgg21
  z21:=Tryz.sizeOf21
  v21:=Tryz.zeroValue21
  t46:=Tryz.underlying122
  a46:=Tryz.isAgg122
  z46:=Tryz.sizeOf122
  v46:=Tryz.zeroValue122
  t105:=Tryz.underlying251
  a105:=Tryz.isAgg251
  z105:=Tryz.sizeOf251
  v105:=Tryz.zeroValue251
  t116:=Tryz.underlying267
  a116:=Tryz.isAgg267
  z116:=Tryz.sizeOf267
  t117:=Tryz.underlying268
  a117:=Tryz.isAgg268
  z117:=Tryz.sizeOf268
  v117:=Tryz.zeroValue268
  t119:=Tryz.underlying272
  a119:=Tryz.isAgg272
  z119:=Tryz.sizeOf272
  t124:=Tryz.underlying271
  a124:=Tryz.isAgg271
  z124:=Tryz.sizeOf271
  v124:=Tryz.zeroValue271
  t138:=Tryz.underlying274
  a138:=Tryz.isAgg274
  z138:=Tryz.sizeOf274
  v138:=Tryz.zeroValue274
  t139:=Tryz.underlying275
  a139:=Tryz.isAgg275
  z139:=Tryz.sizeOf275
  v139:=Tryz.zeroValue275
  g3:=by kernel_rfl
  g4:=by kernel_rfl }
theorem Tryz.strings_Trim_one (s:ByteArray) (c:UInt8) (hc:c.toNat<128) (w:World) (hs:s.size≤9223372036854775807) :
    Calls Tryz.prog 190 #[.string s,.string ⟨#[c]⟩] w fun e w'=>e = .returned (.string ⟨(Lib.trimB s.data.toList c).toArray⟩)∧(w'=w∨w'=w.drew):=Any.strings_Trim_one Tryz.lays160 s c hc w hs
def Tryz.lays106_ren:Go.Shelf.Ren:=⟨fun | 106=>181 | 213=>193 | 265=>209 | n=>n,fun | 9=>9 | 3=>3 | n=>n,fun | n=>n⟩
theorem Tryz.lays106:Go.Proofs.Lays.n106 Tryz.prog Tryz.lays106_ren:={
  mixed:=by kernel_rfl
  f106:=Tryz.func181.trans (congrArg some (by kernel_rfl))
  f213:=Tryz.func193.trans (congrArg some (by kernel_rfl))
  f265:=Tryz.func209.trans (congrArg some (by kernel_rfl))
  t3:=Tryz.underlying3
  a3:=Tryz.isAgg3
  z3:=Tryz.sizeOf3
  v3:=Tryz.zeroValue3
  t9:=Tryz.underlying9
  a9:=Tryz.isAgg9
  z9:=Tryz.sizeOf9
  v9:=Tryz.zeroValue9 }
theorem Tryz.strings_Compare (a b:ByteArray) (w:World) :
    Calls Tryz.prog 181 #[.string a,.string b] w fun e w'=>e = .returned (.int .i64 (Lib.compareBytes a.data.toList b.data.toList))∧w'=w:=Any.strings_Compare Tryz.lays106 a b w
def Tryz.lays103_ren:Go.Shelf.Ren:=⟨fun | 103=>191 | 210=>208 | 206=>140 | n=>n,fun | 9=>9 | 4=>4 | 24=>214 | 3=>3 | n=>n,fun | n=>n⟩
theorem Tryz.lays103:Go.Proofs.Lays.n103 Tryz.prog Tryz.lays103_ren:={
  mixed:=by kernel_rfl
  f103:=Tryz.func191.trans (congrArg some (by kernel_rfl))
  f206:=Tryz.func140.trans (congrArg some (by kernel_rfl))
  f210:=Tryz.func208.trans (congrArg some (by kernel_rfl))
  t3:=Tryz.underlying3
  a3:=Tryz.isAgg3
  z3:=Tryz.sizeOf3
  v3:=Tryz.zeroValue3
  t4:=Tryz.underlying4
  a4:=Tryz.isAgg4
  z4:=Tryz.sizeOf4
  v4:=Tryz.zeroValue4
  t9:=Tryz.underlying9
  a9:=Tryz.isAgg9
  z9:=Tryz.sizeOf9
  v9:=Tryz.zeroValue9
  t24:=Tryz.underlying214
  a24:=Tryz.isAgg214
  z24:=Tryz.sizeOf214
  v24:=Tryz.zeroValue214 }
theorem Tryz.strings_CutPrefix (s p:ByteArray) (w:World) :
    Calls Tryz.prog 191 #[.string s,.string p] w fun e w'=>e = .returned (.tuple #[.string ⟨(Lib.trimPrefix s.data.toList p.data.toList).toArray⟩,.bool (Lib.hasPrefix s.data.toList p.data.toList)])∧w'=w:=Any.strings_CutPrefix Tryz.lays103 s p w
def Tryz.lays146_ren:Go.Shelf.Ren:=⟨fun | 146=>133 | 221=>162 | 268=>175 | 138=>176 | 143=>29 | 195=>186 | 197=>187 | 218=>188 | 219=>39 | 260=>195 | 217=>75 | 225=>76 | 224=>77 | 267=>78 | 266=>114 | 314=>115 | n=>n,fun | 9=>9 | 31=>25 | 3=>3 | 4=>4 | 0=>0 | 105=>251 | 21=>21 | 5=>5 | 46=>122 | 119=>272 | 139=>275 | 138=>274 | 146=>161 | 51=>158 | n=>n,fun | 1=>0 | 3=>6 | 4=>7 | n=>n⟩
theorem Tryz.lays146:Go.Proofs.Lays.n146 Tryz.prog Tryz.lays146_ren:={
  mixed:=by kernel_rfl
  f138:=Tryz.func176.trans (congrArg some (by kernel_rfl))
  f143:=Tryz.func29.trans (congrArg some (by kernel_rfl))
  f146:=Tryz.func133.trans (congrArg some (by kernel_rfl))
  f195:=Tryz.func186.trans (congrArg some (by kernel_rfl))
  f197:=Tryz.func187.trans (congrArg some (by kernel_rfl))
  f217:=Tryz.func75.trans (congrArg some (by kernel_rfl))
  f218:=Tryz.func188.trans (congrArg some (by kernel_rfl))
  f219:=Tryz.func39.trans (congrArg some (by kernel_rfl))
  f221:=Tryz.func162.trans (congrArg some (by kernel_rfl))
  f224:=Tryz.func77.trans (congrArg some (by kernel_rfl))
  f225:=Tryz.func76.trans (congrArg some (by kernel_rfl))
  f260:=Tryz.func195.trans (congrArg some (by kernel_rfl))
  f266:=Tryz.func114.trans (congrArg some (by kernel_rfl))
  f267:=Tryz.func78.trans (congrArg some (by kernel_rfl))
  f268:=Tryz.func175.trans (congrArg some (by kernel_rfl))
  f314:=Tryz.func115.trans (congrArg some (by kernel_rfl))
  t0:=Tryz.underlying0
  a0:=Tryz.isAgg0
  z0:=Tryz.sizeOf0
  v0:=Tryz.zeroValue0
  t3:=Tryz.underlying3
  a3:=Tryz.isAgg3
  z3:=Tryz.sizeOf3
  v3:=Tryz.zeroValue3
  t4:=Tryz.underlying4
  a4:=Tryz.isAgg4
  z4:=Tryz.sizeOf4
  v4:=Tryz.zeroValue4
  t5:=Tryz.underlying5
  a5:=Tryz.isAgg5
  z5:=Tryz.sizeOf5
  v5:=Tryz.zeroValue5
  t9:=Tryz.underlying9
  a9:=Tryz.isAgg9
  z9:=Tryz.sizeOf9
  v9:=Tryz.zeroValue9
  t21:=Tryz.underlying21
  a21:=Tryz.isAgg21
  z21:=Tryz.sizeOf21
  v21:=Tryz.zeroValue21
  t31:=Tryz.underlying25
  a31:=Tryz.isAgg25
  z31:=Tryz.sizeOf25
  v31:=Tryz.zeroValue25
  t46:=Tryz.underlying122
  a46:=Tryz.isAgg122
  z46:=Tryz.sizeOf122
  v46:=Tryz.zeroValue122
  t51:=Tryz.underlying158
  a51:=Tryz.isAgg158
  z51:=Tryz.sizeOf158
  v51:=Tryz.zeroValue158
  t105:=Tryz.underlying251
  a105:=Tryz.isAgg251
  z105:=Tryz.sizeOf251
  v105:=Tryz.zeroValue251
  t119:=Tryz.underlying272
  a119:=Tryz.isAgg272
  z119:=Tryz.sizeOf272
  t138:=Tryz.underlying274
  a138:=Tryz.isAgg274
  z138:=Tryz.sizeOf274
  v138:=Tryz.zeroValue274
  t139:=Tryz.underlying275
  a139:=Tryz.isAgg275
  z139:=Tryz.sizeOf275
  v139:=Tryz.zeroValue275
  t146:=Tryz.underlying161
  a146:=Tryz.isAgg161
  z146:=Tryz.sizeOf161
  v146:=Tryz.zeroValue161
  g1:=by kernel_rfl
  g3:=by kernel_rfl
  g4:=by kernel_rfl }
theorem Tryz.strings_Split (s sep:ByteArray) (m:Int) (w:World) (hs:s.size<4294967281) (hm:w.cell? ⟨0,0,none⟩=some (.int .i64 m)) (h1:1≤sep.size) :
    Calls Tryz.prog 133 #[.string s,.string sep] w fun e w' =>
      e = .returned (.slice (some ⟨w.heap.size,0,none⟩) (Lib.countB s sep+1) (Lib.countB s sep+1))∧w'=w.alloc (.cells ((Lib.splitB sep 0 (Lib.countB s sep) s).map Value.string).toArray 9):=Any.strings_Split Tryz.lays146 (by kernel_rfl) s sep m w hs hm h1
def Tryz.lays105_ren:Go.Shelf.Ren:=⟨fun | 105=>189 | 212=>196 | 99=>103 | 165=>197 | 166=>198 | 170=>199 | 169=>200 | 263=>210 | 264=>211 | 206=>140 | 240=>212 | 241=>213 | 276=>217 | 277=>218 | n=>n,fun | 9=>9 | 3=>3 | 4=>4 | 20=>20 | 0=>0 | 46=>122 | 109=>257 | 5=>5 | 72=>261 | 76=>128 | 51=>158 | 146=>161 | 53=>114 | 148=>277 | 70=>259 | 37=>117 | 75=>127 | 127=>246 | 164=>281 | 80=>264 | n=>n,fun | n=>n⟩
theorem Tryz.lays105:Go.Proofs.Lays.n105 Tryz.prog Tryz.lays105_ren:={
  mixed:=by kernel_rfl
  f99:=Tryz.func103.trans (congrArg some (by kernel_rfl))
  f105:=Tryz.func189.trans (congrArg some (by kernel_rfl))
  f165:=Tryz.func197.trans (congrArg some (by kernel_rfl))
  f166:=Tryz.func198.trans (congrArg some (by kernel_rfl))
  f169:=Tryz.func200.trans (congrArg some (by kernel_rfl))
  f170:=Tryz.func199.trans (congrArg some (by kernel_rfl))
  f206:=Tryz.func140.trans (congrArg some (by kernel_rfl))
  f212:=Tryz.func196.trans (congrArg some (by kernel_rfl))
  f240:=Tryz.func212.trans (congrArg some (by kernel_rfl))
  f241:=Tryz.func213.trans (congrArg some (by kernel_rfl))
  f263:=Tryz.func210.trans (congrArg some (by kernel_rfl))
  f264:=Tryz.func211.trans (congrArg some (by kernel_rfl))
  f276:=Tryz.func217.trans (congrArg some (by kernel_rfl))
  f277:=Tryz.func218.trans (congrArg some (by kernel_rfl))
  t0:=Tryz.underlying0
  a0:=Tryz.isAgg0
  z0:=Tryz.sizeOf0
  v0:=Tryz.zeroValue0
  t3:=Tryz.underlying3
  a3:=Tryz.isAgg3
  z3:=Tryz.sizeOf3
  v3:=Tryz.zeroValue3
  t4:=Tryz.underlying4
  a4:=Tryz.isAgg4
  z4:=Tryz.sizeOf4
  v4:=Tryz.zeroValue4
  t5:=Tryz.underlying5
  a5:=Tryz.isAgg5
  z5:=Tryz.sizeOf5
  v5:=Tryz.zeroValue5
  t9:=Tryz.underlying9
  a9:=Tryz.isAgg9
  z9:=Tryz.sizeOf9
  v9:=Tryz.zeroValue9
  t20:=Tryz.underlying20
  a20:=Tryz.isAgg20
  z20:=Tryz.sizeOf20
  v20:=Tryz.zeroValue20
  t37:=Tryz.underlying117
  a37:=Tryz.isAgg117
  z37:=Tryz.sizeOf117
  v37:=Tryz.zeroValue117
  t46:=Tryz.underlying122
  a46:=Tryz.isAgg122
  z46:=Tryz.sizeOf122
  v46:=Tryz.zeroValue122
  t51:=Tryz.underlying158
  a51:=Tryz.isAgg158
  z51:=Tryz.sizeOf158
  v51:=Tryz.zeroValue158
  t53:=Tryz.underlying114
  a53:=Tryz.isAgg114
  z53:=Tryz.sizeOf114
  v53:=Tryz.zeroValue114
  t70:=Tryz.underlying259
  a70:=Tryz.isAgg259
  z70:=Tryz.sizeOf259
  v70:=Tryz.zeroValue259
  t72:=Tryz.underlying261
  a72:=Tryz.isAgg261
  z72:=Tryz.sizeOf261
  v72:=Tryz.zeroValue261
  t75:=Tryz.underlying127
  a75:=Tryz.isAgg127
  z75:=Tryz.sizeOf127
  v75:=Tryz.zeroValue127
  t76:=Tryz.underlying128
  a76:=Tryz.isAgg128
  z76:=Tryz.sizeOf128
  v76:=Tryz.zeroValue128
  t109:=Tryz.underlying257
  a109:=Tryz.isAgg257
  z109:=Tryz.sizeOf257
  v109:=Tryz.zeroValue257
  t127:=Tryz.underlying246
  a127:=Tryz.isAgg246
  z127:=Tryz.sizeOf246
  v127:=Tryz.zeroValue246
  t146:=Tryz.underlying161
  a146:=Tryz.isAgg161
  z146:=Tryz.sizeOf161
  v146:=Tryz.zeroValue161
  t148:=Tryz.underlying277
  a148:=Tryz.isAgg277
  z148:=Tryz.sizeOf277
  v148:=Tryz.zeroValue277
  t164:=Tryz.underlying281
  a164:=Tryz.isAgg281
  z164:=Tryz.sizeOf281
  v164:=Tryz.zeroValue281 }
theorem Tryz.Builder_Extra_105:Builder.Extra Tryz.prog Tryz.lays105_ren:={
  sizeBuilder:=by kernel_rfl
  liesBuilder:=by kernel_rfl
  t5:=Tryz.underlying5
  a5:=Tryz.isAgg5
  z5:=Tryz.sizeOf5
  v5:=Tryz.zeroValue5
  infoByte:=by kernel_rfl
  cellsByte:=by kernel_rfl
  sizeByte:=by kernel_rfl
  neB5:=by decide }
theorem Tryz.strings_Repeat (s:ByteArray) (c:Nat) (w:World) (hc:c≤9223372036854775807) (hlen:s.size*c≤140737488355328) :
    Calls Tryz.prog 189 #[.string s,.int .i64 c] w fun e w'=>e = .returned (.string ⟨(Lib.repeatL s.data.toList c).toArray⟩)∧Below w.heap.size w w':=Any.strings_Repeat Tryz.lays105 Tryz.Builder_Extra_105 s c w hc hlen
def Tryz.lays229_ren:Go.Shelf.Ren:=⟨fun | 229=>105 | n=>n,fun | 9=>9 | 40=>147 | 31=>25 | 152=>184 | 3=>3 | 0=>0 | 4=>4 | 21=>21 | 154=>186 | n=>n,fun | n=>n⟩
theorem Tryz.lays229:Go.Proofs.Lays.n229 Tryz.prog Tryz.lays229_ren:={
  mixed:=by kernel_rfl
  f229:=Tryz.func105.trans (congrArg some (by kernel_rfl))
  t0:=Tryz.underlying0
  a0:=Tryz.isAgg0
  z0:=Tryz.sizeOf0
  v0:=Tryz.zeroValue0
  t3:=Tryz.underlying3
  a3:=Tryz.isAgg3
  z3:=Tryz.sizeOf3
  v3:=Tryz.zeroValue3
  t4:=Tryz.underlying4
  a4:=Tryz.isAgg4
  z4:=Tryz.sizeOf4
  v4:=Tryz.zeroValue4
  t9:=Tryz.underlying9
  a9:=Tryz.isAgg9
  z9:=Tryz.sizeOf9
  v9:=Tryz.zeroValue9
  t21:=Tryz.underlying21
  a21:=Tryz.isAgg21
  z21:=Tryz.sizeOf21
  v21:=Tryz.zeroValue21
  t31:=Tryz.underlying25
  a31:=Tryz.isAgg25
  z31:=Tryz.sizeOf25
  v31:=Tryz.zeroValue25
  t40:=Tryz.underlying147
  a40:=Tryz.isAgg147
  z40:=Tryz.sizeOf147
  v40:=Tryz.zeroValue147
  t152:=Tryz.underlying184
  a152:=Tryz.isAgg184
  z152:=Tryz.sizeOf184
  v152:=Tryz.zeroValue184
  t154:=Tryz.underlying186
  a154:=Tryz.isAgg186
  z154:=Tryz.sizeOf186
  v154:=Tryz.zeroValue186 }
theorem Tryz.strings_FieldsFunc_grows (g:Nat) (lb:Array Value) (eg:∀ args w,(callFunc g args).run Tryz.prog w = .ok (.enter g args) w) (p:Nat→Bool) (s:ByteArray) (w:World) (hs:s.size≤4294967296) (hp:PredGrows Tryz.prog g lb p w) :
    Calls Tryz.prog 105 #[.string s,.func (.func g) #[] lb] w fun e w'=>∃ A,e = .returned (.slice (some ⟨A,0,none⟩) (Lib.goFieldsP p s).length (Lib.goFieldsP p s).length)∧w.heap.size≤A ∧
      w'.ownsRow w.heap.size 9 1 (.slice (some ⟨A,0,none⟩) (Lib.goFieldsP p s).length (Lib.goFieldsP p s).length) (Lib.goFieldsP p s).length ((Lib.goFieldsP p s).map Value.string)∧Below w.heap.size w w':=Any.strings_FieldsFunc_grows Tryz.lays229 g lb eg p s w hs hp (by kernel_rfl) (by kernel_rfl)
end Go.Proofs
namespace Go.Proofs.YtggobegaiijhhaaGreatDoor
open Go.GV Go.RowKit Go.Op
theorem st_new {w w':World} {A n c:Nat} {e:TypeId} {sz:Nat} {cs:List Value} (hb:Below w.heap.size w w') (hA:w.heap.size≤A) (h:(Ent.row (.slice (some ⟨A,0,none⟩) n c) e sz n cs).at w'):St [] w w' [Ent.row (.slice (some ⟨A,0,none⟩) n c) e sz n cs]:=
  ⟨Fr.of_below hb,fun x hx=>by rw [List.mem_singleton.1 hx];exact h,List.pairwise_singleton _ _,fun x hx b hbb=>by rw [List.mem_singleton.1 hx] at hbb;cases hbb;exact .inr hA⟩
section
variable {P:Program} {E:Env} {w:World} {x y:Operand} {dst:Option Nat} {t t' ty:TypeId} {pos:String} {af:Array Edge} {g:Option (Nat × Bool)}
abbrev vR (n:Int):Value:=.int .i32 n
theorem x_eql_i32 {a b:Int} (hx:ev E x=vR a) (hy:ev E y=vR b):(execOp (ev E) ⟨dst,.binOp .eql t x y t',ty,pos,af,g⟩).run P w = .ok (.value (vB (decide (a=b)))) w:=by
  have h:decide (a=b)=(a == b):=by by_cases e:a=b <;> simp [e]
  rw [h];simp only [execOp,hx,hy];rfl
end
theorem split_ok (s:Bytes) (w:World) (hT:Tab [] w) (q0:s.length≤1000000):Calls Tryz.prog 133 #[vS s,vS [44]] w (Gives [] w fun v L=>∃ (A2:Option Addr) (c2:Nat),v=vL A2 (R44.splitC 44 s).length c2∧L=[Ent.row (.slice A2 (R44.splitC 44 s).length c2) 9 1 (R44.splitC 44 s).length ((R44.splitC 44 s).map vS)]):=by
  obtain ⟨m,hm⟩:=hT.mx
  refine (Tryz.strings_Split ⟨s.toArray⟩ ⟨#[44]⟩ m w (by show s.toArray.size<_;simp;omega) (cell_of hm) (by decide)).mono ?_
  rintro e w' ⟨rfl,rfl⟩
  have hl:=R44.split_lib ⟨s.toArray⟩ 44
  have hlen:=congrArg List.length hl
  rw [List.length_map,Lib.splitB_all _ (by decide) 0 _ _ rfl] at hlen
  have hsz:s.length=(⟨s.toArray⟩:ByteArray).size:=by show _=s.toArray.size;simp
  have hc:=Lib.countB_le ⟨#[44]⟩ (by decide) _ ⟨s.toArray⟩ (Nat.le_refl _)
  have hcells:(Lib.splitB ⟨#[44]⟩ 0 (Lib.countB ⟨s.toArray⟩ ⟨#[44]⟩) ⟨s.toArray⟩).map Value.string=(R44.splitC 44 s).map vS:=by
    rw [show R44.splitC 44 s=R44.splitC 44 (⟨s.toArray⟩:ByteArray).data.toList from rfl,← hl,List.map_map]
    exact List.map_congr_left fun x _=>rfl
  refine ⟨_,_,rfl,⟨some ⟨w.heap.size,0,none⟩,(R44.splitC 44 s).length,?_,rfl⟩,?_⟩
  · rw [hlen]
  · refine (St.nil (Fr.refl [] w)).alloc _ _ rfl ⟨by simp,.inr ⟨w.heap.size,(R44.splitC 44 s).length,((R44.splitC 44 s).map vS).toArray,rfl,?_,Nat.le_refl _,?_,by simp,?_⟩⟩
    · rw [hcells]
    · rw [← hlen];simp only [maxLen];omega
    · exact List.take_of_length_le (by simp)
theorem fields_ok (g:Nat) (hg:Callable Tryz.prog g) (hp:∀ (x:Nat) (w:World),Calls Tryz.prog g #[vR x] w (Gives [] w fun v L=>v=vB (decide ((x:Int)=32))∧L=[])) (s:Bytes) (w:World) (q0:s.length≤1000000):Calls Tryz.prog 105 #[vS s,Value.func (.func g) #[] #[]] w (Gives [] w fun v L=>∃ (A2:Option Addr) (c2:Nat),v=vL A2 (R44.words s).length c2∧L=[Ent.row (.slice A2 (R44.words s).length c2) 9 1 (R44.words s).length ((R44.words s).map vS)]):=by
  refine (Tryz.strings_FieldsFunc_grows g #[] (fun args w=>run_callFunc_enter hg) (fun n=>n == 32) ⟨s.toArray⟩ w (by show s.toArray.size≤_;simp;omega) (fun W x _ _=>?_)).mono ?_
  · refine (hp x W).mono ?_
    rintro e w' ⟨v,L,rfl,⟨rfl,rfl⟩,hS⟩
    refine ⟨?_,hS.fr.below⟩
    have:decide (((x:Nat):Int)=32)=(x == 32):=by
      by_cases h:x=32
      · subst h;rfl
      · rw [decide_eq_false (by omega)];exact (beq_eq_false_iff_ne.2 h).symm
    rw [this]
  · rintro e w' ⟨A,rfl,hA,hrow,hb⟩
    have hl:=R44.fields_words ⟨s.toArray⟩
    have hlen:=congrArg List.length hl
    rw [List.length_map] at hlen
    have hcells:(Lib.goFieldsP (fun n=>n == 32) ⟨s.toArray⟩).map Value.string=(R44.words s).map vS:=by
      rw [show R44.words s=R44.words (⟨s.toArray⟩:ByteArray).data.toList from rfl,← hl,List.map_map]
      exact List.map_congr_left fun x _=>rfl
    have hlen':(Lib.goFieldsP (fun n=>n == 32) ⟨s.toArray⟩).length=(R44.words s).length:=hlen
    rw [hcells,hlen'] at hrow
    refine ⟨_,_,rfl,⟨some ⟨A,0,none⟩,(R44.words s).length,?_,rfl⟩,st_new hb hA (owns_row hrow)⟩
    rw [hlen']
end Go.Proofs.YtggobegaiijhhaaGreatDoor
namespace Go.Proofs.YtggobegaiijhhaaGreatDoor
open Go.GV Go.Proofs.Tryz Ty
open Go.GV.Ent (blk row mp)
theorem f161_ok (x:Nat) (w:World):Calls prog 161 #[vR ((x:Nat):Int)] w (Gives [] w fun v L=>v=vB (decide (((x:Nat):Int)=(32:Int)))∧L=[]):=by
 refine calls_J [] 5 func161 rfl ntmps161 [(0,_)] rfl rfl (Give.nil w) ?_
 refine q_ (g_ (s_ av_ (z_ (n_ (q_ (g_ (s_ mv_ (js_ (vB (decide (((x:Nat):Int)=(32:Int)))) (x_eql_i32 rfl rfl) (s_ av_ (z_ (n_ (rt_ ?_))))))))))))
 exact p1 results161 rfl ⟨rfl,rfl⟩
end Go.Proofs.YtggobegaiijhhaaGreatDoor
namespace Go.Proofs.YtggobegaiijhhaaGreatDoor
open Go.GV
theorem fields1_ok (s:Bytes) (w:World) (q0:s.length≤1000000):Calls Tryz.prog 105 #[vS s,Value.func (.func 161) #[] #[]] w (Gives [] w fun v L=>∃ (A2:Option Addr) (c2:Nat),v=vL A2 (R44.words s).length c2∧L=[Ent.row (.slice A2 (R44.words s).length c2) 9 1 (R44.words s).length ((R44.words s).map vS)]):=
  fields_ok 161 Ty.ca161 (fun x w=>f161_ok x w) s w q0
namespace Ty
end Ty
end Go.Proofs.YtggobegaiijhhaaGreatDoor
namespace Go.Proofs.YtggobegaiijhhaaGreatDoor
open Go.GV Go.RowKit
theorem repeat_ok {n:Nat} {s:Bytes} {c:Nat} {w:World}
    (h:Calls Tryz.prog n #[.string ⟨s.toArray⟩,.int .i64 c] w fun e w'=>e = .returned (.string ⟨(Lib.repeatL s c).toArray⟩)∧Below w.heap.size w w') :
    Calls Tryz.prog n #[vS s,vI c] w (Gives [] w fun v L=>v=vS (rep s c)∧L=[]):=by
  refine h.mono ?_
  rintro e w' ⟨rfl,hb⟩
  exact ⟨_,_,rfl,⟨by rw [rep_lib],rfl⟩,St.nil (Fr.of_below hb)⟩
theorem repeat_spec (s:Bytes) (c:Int) (w:World) (q0:0≤c) (q1:c≤1000) (q2:s.length≤1000):Calls Tryz.prog 189 #[vS s,vI c] w (Gives [] w fun v L=>v=vS (rep s c.toNat)∧L=[]):=by
  obtain ⟨n,rfl⟩:∃ n:Nat,c=n:=⟨c.toNat,by omega⟩
  refine repeat_ok (Tryz.strings_Repeat ⟨s.toArray⟩ n w (by omega) ?_)
  show s.length*n≤_
  exact Nat.le_trans (Nat.mul_le_mul q2 (show n≤1000 by omega)) (by decide)
namespace R44
theorem trim_swap (s:Bytes):trimL (trimR s)=trimR (trimL s):=by
  obtain ⟨m,h1,h2,h3⟩:=trimR_split s
  rcases h3 with h3 | ⟨t,c,h3,hc⟩
  · rw [h3,List.nil_append] at h1
    have:trimL s=[]:=trimL_all.2 (by rw [h1];exact h2)
    rw [this,h3];rfl
  · have hne:trimL (trimR s)≠[]:=fun e=>hc (trimL_all.1 e c (by rw [h3];simp))
    have h4:trimL s=trimL (trimR s)++m:=by
      rw (config:={ occs:=.pos [1] }) [h1]
      unfold trimL
      rw [List.dropWhile_append]
      split
      · rename_i he
        rw [List.isEmpty_iff] at he
        exact absurd he hne
      · rfl
    have h5:∃ t',trimL (trimR s)=t'++[c]:=by
      have hs:trimL (trimR s) <:+ trimR s:=List.dropWhile_suffix _
      obtain ⟨p,hp⟩:=hs
      have hl:=congrArg List.getLast? hp
      rw [h3,List.getLast?_append,List.getLast?_append] at hl
      cases hx:(trimL (t++[c])).getLast? with
      | none=>rw [List.getLast?_eq_none_iff] at hx;rw [h3] at hne;exact absurd hx hne
      | some d =>
        rw [hx] at hl;simp at hl;subst hl
        obtain ⟨ys,hys⟩:=List.getLast?_eq_some_iff.1 hx
        exact ⟨ys,by rw [h3,hys]⟩
    obtain ⟨t',h5⟩:=h5
    rw [h4,trimR_app h2,h5,trimR_id hc]
theorem trims_len (s:Bytes):(trimR (trimL s)).length≤s.length:=Nat.le_trans (trimR_len _) (trimL_len _)
def cutM (s:Bytes):Bytes × Bool:=if s.head? = some 45 then (s.tail,true) else (s,false)
theorem cutM_len (s:Bytes):(cutM s).1.length≤s.length:=by unfold cutM;split <;> simp
theorem cutM_lib (s:Bytes):Lib.trimPrefix s [45]=(cutM s).1∧Lib.hasPrefix s [45]=(cutM s).2:=by
  unfold Lib.trimPrefix Lib.hasPrefix cutM
  cases s with
  | nil=>exact ⟨rfl,rfl⟩
  | cons c t =>
    by_cases hc:c=45
    · subst hc;simp
    · have h1:((45:UInt8) == c)=false:=by simp;exact fun e=>hc e.symm
      have h2:¬ 45=c:=fun e=>hc e.symm
      simp [List.isPrefixOf,hc,h2]
theorem cmpS_lib:∀ (a b:Bytes),Lib.compareBytes a b=cmpS a b
  | [],[]=>rfl
  | [],_::_=>rfl
  | _::_,[]=>rfl
  | x::a,y::b=>by
    rw [Lib.compareBytes,cmpS_lib a b]
    unfold cmpS
    by_cases h1:x<y
    · rw [if_pos h1,if_pos (by rw [Op.bytesLess,decide_eq_true h1];rfl)]
    · rw [if_neg h1]
      by_cases h2:y<x
      · have hne:¬ x=y:=fun e=>by subst e;exact h1 h2
        have hb:(x == y)=false:=by simpa using hne
        rw [if_pos h2,if_neg (by rw [Op.bytesLess,decide_eq_false h1,hb];simp),if_neg (fun e=>hne (List.cons.inj e).1)]
      · have he:x=y:=by
          rw [UInt8.lt_iff_toNat_lt] at h1 h2
          exact UInt8.toNat_inj.1 (by omega)
        subst he
        have hl:Op.bytesLess (x::a) (x::b)=Op.bytesLess a b:=by rw [Op.bytesLess,decide_eq_false h1];simp
        rw [if_neg h2,hl]
        by_cases h3:a=b
        · subst h3;rw [if_pos rfl,if_pos rfl]
        · rw [if_neg h3,if_neg (fun e=>h3 (List.cons.inj e).2)]
theorem dec_cut (s:Bytes):dec s=if (cutM (trimR (trimL s))).1=[] then none else (num (cutM (trimR (trimL s))).1 0).map fun n=>if (cutM (trimR (trimL s))).2=true then -n else n:=by
  unfold dec cutM
  split
  · simp
  · split <;> simp
theorem dec_none {s:Bytes} (h:(cutM (trimR (trimL s))).1=[]):dec s=none:=by rw [dec_cut,if_pos h]
theorem dec_bad {s:Bytes} (h:num (cutM (trimR (trimL s))).1 0=none):dec s=none:=by rw [dec_cut,h];simp
theorem dec_pos' {s:Bytes} {n:Int} (h0:(cutM (trimR (trimL s))).1≠[]) (h:num (cutM (trimR (trimL s))).1 0=some n) (h2:(cutM (trimR (trimL s))).2=false):dec s=some n:=by rw [dec_cut,if_neg h0,h,h2];rfl
theorem dec_neg' {s:Bytes} {n:Int} (h0:(cutM (trimR (trimL s))).1≠[]) (h:num (cutM (trimR (trimL s))).1 0=some n) (h2:(cutM (trimR (trimL s))).2=true):dec s=some (-n):=by rw [dec_cut,if_neg h0,h,h2];rfl
end R44
theorem trim_ok (s:Bytes) (w:World) (q0:s.length≤9223372036854775807):Calls Tryz.prog 190 #[vS s,vS [32]] w (Gives [] w fun v L=>v=vS (R44.trimR (R44.trimL s))∧L=[]):=by
  refine (Tryz.strings_Trim_one ⟨s.toArray⟩ 32 (by decide) w q0).mono ?_
  rintro e w' ⟨rfl,h⟩
  refine ⟨_,_,rfl,⟨?_,rfl⟩,St.nil ?_⟩
  · show vS (R44.trimL (R44.trimR s))=_
    rw [R44.trim_swap]
  · rcases h with rfl | rfl
    · exact Fr.refl _ _
    · exact Fr.drew _ _
theorem cutp_ok (s:Bytes) (w:World):Calls Tryz.prog 191 #[vS s,vS [45]] w (Gives [] w fun v L=>v = .tuple #[vS (R44.cutM s).1,vB (R44.cutM s).2]∧L=[]):=by
  refine (Tryz.strings_CutPrefix ⟨s.toArray⟩ ⟨#[45]⟩ w).mono ?_
  rintro e w' ⟨rfl,rfl⟩
  refine ⟨_,_,rfl,⟨?_,rfl⟩,St.nil (Fr.refl _ _)⟩
  show Value.tuple #[vS (Lib.trimPrefix s [45]),vB (Lib.hasPrefix s [45])]=_
  rw [(R44.cutM_lib s).1,(R44.cutM_lib s).2]
theorem scmp_ok (a b:Bytes) (w:World):Calls Tryz.prog 181 #[vS a,vS b] w (Gives [] w fun v L=>v=vI (R44.cmpS a b)∧L=[]):=by
  refine (Tryz.strings_Compare ⟨a.toArray⟩ ⟨b.toArray⟩ w).mono ?_
  rintro e w' ⟨rfl,rfl⟩
  refine ⟨_,_,rfl,⟨?_,rfl⟩,St.nil (Fr.refl _ _)⟩
  show vI (Lib.compareBytes a b)=_
  rw [R44.cmpS_lib]
end Go.Proofs.YtggobegaiijhhaaGreatDoor
