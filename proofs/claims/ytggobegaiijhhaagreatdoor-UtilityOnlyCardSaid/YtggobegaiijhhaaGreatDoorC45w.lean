/- contracts C45w -/
import Derived.Test.YtggobegaiijhhaaGreatDoorUtilityOnly13
set_option linter.unusedVariables false
set_option linter.unusedSimpArgs false
set_option maxRecDepth 20000
namespace Go.Proofs.YtggobegaiijhhaaGreatDoor
open Go.GV Go.Proofs.Tryz Ty
open Go.GV.Ent (blk row mp)
theorem c45w0_ {p:Prop} (h:p:=by first | exact R45.WrK.step i1_1 om_ rfl rfl (.inl rfl) (fun h=>absurd as_ h.2) | exact R45.WrK.step i1_1 om_ rfl rfl (.inl rfl) (fun h=>absurd as_ h.1) | exact R45.WrK.step i1_1 om_ rfl rfl (.inr rfl) (fun _=>rfl)):p:=h
theorem c45w1_ {p:Prop} (h:p:=by first | exact fun h=>h.1.2 as_ | exact fun h=>by have:=h.2;omega):p:=h
theorem c45w2_ {p:Prop} (h:p:=by first | exact R45.wrj_dummy as_ | exact R45.wrj_done as_ i1_1 om_ om_):p:=h
theorem c45w3_ {p:Prop} (h:p:=by first | exact R45.WrK.c as_ | exact R45.WrK.e as_ as_ | exact R45.WrK.m as_ as_):p:=h
theorem f86_ok (x:Nat) (s:Nat) (parm:Bytes) (m:Nat) (rows:List SRow) (rowsA:OA_) (rowsC:Nat) (calls:Nat) (cd:Int) (fd:Bool) (chA:OA_) (chN:Nat) (chC:Nat) (lnA:OA_) (lnN:Nat) (lnC:Nat) (id:Int) (w:World) (rowsR:RO [x,s] w rowsA (rows.flatMap SRow.enc)) (q0:rows.length≤1000) (q1:calls≤990000) (q2:R45.Dist rows) (q3:∀ x∈rows,x.Key.length≤1000000) (hg:Give [x,s] w [xE_ x s parm m [vI cd,vB fd,vL chA chN chC,vL lnA lnN lnC],sH_ s rowsA rows.length rowsC calls]):Calls prog 86 #[pB x 0,vI id] w (Gives [x,s] w fun v L=>∃ n:Int,∃ c2:Nat,v=vI n∧L=[xE_ x s parm m [vI cd,vB fd,vL chA chN chC,vL lnA lnN lnC],sH_ s rowsA rows.length rowsC c2]∧(0≤n)∧(n≤1099511627776)∧(c2≤calls+rows.length+1)):=by
 refine calls_J [x,s] 33 func86 rfl ntmps86 [(0,_),(1,_)] rfl rfl hg ?_
 refine q_ (g_ (s_ av_ (z_ (n_ (q_ (g_ (s_ av_ (z_ (n_ (k_ ?_))))))))))
 refine J_loop (X:=Bytes × Nat) (fun (⟨a,c2⟩:Bytes × Nat)=>(c2+(R45.above rows id a).length≤calls+rows.length)∧(a.length≤1000000)) (fun (⟨a,c2⟩:Bytes × Nat)=>[(0,pB x 0),(1,vI id),(5,vS a)]) (fun (⟨a,c2⟩:Bytes × Nat)=>[xE_ x s parm m [vI cd,vB fd,vL chA chN chC,vL lnA lnN lnC],sH_ s rowsA rows.length rowsC c2]) (fun (⟨a,c2⟩:Bytes × Nat)=>(R45.above rows id a).length) (([],calls):Bytes × Nat) ?_ ⟨rfl,rfl,rfl,trivial⟩ i_ ?_
 ·try dsimp only
  refine ⟨?_,?_⟩
  ·have:=R45.above_len rows id [];omega
  ·simp
 rintro ⟨a,c2⟩ hI1
 obtain ⟨i1_0,i1_1⟩:=hI1
 try dsimp only at i1_0
 try dsimp only at i1_1
 try dsimp only
 refine k_ (q_ (g_ (s_ mv_ (s_ (x_nilCheck rfl) (s_ (fA 0 fi82_0) (r_ (ld_ 0 sc71) (s_ mv_ (s_ mv_ ?_))))))))
 refine JO_call [s] [sH_ s rowsA rows.length rowsC c2] [xE_ x s parm m [vI cd,vB fd,vL chA chN chC,vL lnA lnN lnC]] rfl trivial (fun _=>x_invokeP rfl mt239 ca239 mtd rfl) (fun _ h=>(h.front 1 _ rfl).keep [T_,T_] rfl) (own_mem rfl) (fun w hS=>f239_ok s rows rowsA rowsC c2 id a w (rowsR.on hS (own_mem rfl)) hy_ hy_ (hS.give (own_in rfl))) ?_
 rintro _ _ ⟨k1,r2,e3,rfl,rfl,hf4⟩
 have ha5:=R45.NextJ.e as_
 refine s_ mv_ (s_ (ex_ 0) (s_ (ex_ 1) (s_ (ex_ 2) (s_ av_ (s_ av_ (s_ av_ (z_ (n_ (q_ (g_ (s_ mv_ (c0 (cl_ ca37) (fun w hS=>f37_ok e3 w hy_) ?_))))))))))))
 refine z_ (n_ (q_ (q_ (g_ (s_ mv_ (s_ (x_neq_i rfl rfl) (z_ (xk_ [0,1,5,6,25] ?_))))))))
 refine n_ ?_
 refine ifd (fun h6w h6=>?_) (fun h6w h6=>?_)
 ·refine q_ (g_ (s_ mv_ ?_))
  refine c1 (cl_ ca128) (fun w hS=>f128_ok a w hy_) ?_
  rintro _ _ ⟨n7,ok8,rfl,rfl,hf9,hf10⟩
  refine s_ mv_ (s_ (ex_ 0) (s_ (ex_ 1) (s_ av_ (s_ av_ (z_ (n_ (q_ (g_ (s_ mv_ (s_ av_ (z_ (n_ (rt_ (nr_ (kq_ ?_)))))))))))))))
  refine rr_ (kq_ ?_)
  refine JX_rets [_] _ results86 (fun w h=>⟨rfl,trivial⟩) rfl [xE_ x s parm m [vI cd,vB fd,vL chA chN chC,vL lnA lnN lnC],blk s 52 [vL rowsA rows.length rowsC,vI 0,vI 0,vI ((c2+1:Nat):Int)]] (fun _ h=>(h.front 1 _ rfl).keep [T_,T_] rfl) ⟨n7,c2+1,?_,?_,?_,?_,?_⟩
  ·rfl
  ·have e_y0:(c2+1:Nat)=(c2+1):=by
    exact df_
   have e_all:=(congrArg (fun (y0:Nat)=>[xE_ x s parm m [vI cd,vB fd,vL chA chN chC,vL lnA lnN lnC],sH_ s rowsA rows.length rowsC y0]) e_y0)
   exact e_all
  ·omega
  ·omega
  ·omega
 ·refine sk_ (n_ (g_ (s_ mv_ (s_ av_ (z_ (kx_ ?_))))))
  refine JX_round ((k1,c2+1):Bytes × Nat) ?_ ?_ ⟨rfl,rfl,rfl,trivial⟩ (fun _ h=>(h.front 1 _ rfl).keep [T_,T_] rfl)
  ·try dsimp only
   refine ⟨?_,?_⟩
   ·have:=R45.above_step q2 as_ om_;omega
   ·exact R45.next_key as_ om_ q3
  ·try dsimp only
   have:=R45.above_step q2 as_ om_;omega
theorem f56_ok (x:Nat) (s:Nat) (parm:Bytes) (m:Nat) (rows:List SRow) (rowsA:OA_) (rowsC:Nat) (calls:Nat) (dds:List (Bytes × Binding)) (l:LB_) (lA:OA_) (lC:Nat) (more:Bytes) (w:World) (rowsR:RO [x,m,s] w rowsA (rows.flatMap SRow.enc)) (lR:RO [x,m,s] w lA (l.map vS)) (hT:Tab [x,m,s] w) (q0:rows.length≤1000) (q1:calls≤990000) (q2:R45.Dist rows) (q3:∀ x∈rows,x.Key.length≤1000000) (q4:l.length≤1100) (q5:∀ i,(l.getD i []).length≤1000000) (q6:more.length≤1000) (hg:Give [x,m,s] w [x0_ x s parm m,mp vS m (dds.map R45.bindE),sH_ s rowsA rows.length rowsC calls]):Calls prog 56 #[pB x 0,vL lA l.length lC,vS more] w (GivesE [x,m,s] w (fun v L=>∃ ch:List Change,∃ chA:OA_,∃ chC:Nat,∃ ln:LB_,∃ lnA:OA_,∃ lnC:Nat,∃ c2:Nat,v=Value.tuple #[]∧L=[xE_ x s parm m [vI 0,vB false,vL chA ch.length chC,vL lnA ln.length lnC],mp vS m (dds.map R45.bindE),sH_ s rowsA rows.length rowsC c2,row (.slice chA ch.length chC) 60 5 ch.length (ch.flatMap Change.enc),row (.slice lnA ln.length lnC) 9 1 ln.length (ln.map vS)]∧(R45.WrJ (R45.outB dds) l ch)∧(ln=[R45.countS l.length++more])∧(c2≤calls+rows.length+1)) (fun c L=>∃ line:Bytes,c=R45.pan line∧L=[]∧(¬ (R45.SeqB (R45.outB dds)∧l.length≤290)))):=by
 refine calls_JE [x,m,s] 95 func56 rfl ntmps56 [(0,_),(1,_),(2,_)] rfl rfl hg ?_
 refine q_ (g_ (s_ mv_ (s_ mv_ (s_ (lnS underlying25) (c0 (cl_ ca60) (fun w hS=>f60_ok _ w (hT.on hS (fun _ h=>by cases h)) hy_) ?_)))))
 have ha1:=R45.count_len l.length om_
 refine s_ mv_ (s_ (x_cat_s rfl rfl (by first | omega | (simp only [List.length_append,List.length_cons,List.length_nil];omega) | (simp;omega) | (simp_all;omega))) ?_)
 refine JO_call (Lown [x0_ x s parm m,row (.slice none 0 0) 9 1 0 (([]:LB_).map vS)]) [x0_ x s parm m,row (.slice none 0 0) 9 1 0 (([]:LB_).map vS)] [mp vS m (dds.map R45.bindE),sH_ s rowsA rows.length rowsC calls] rfl trivial (fun _=>x_call ca59 rfl) (fun _ h=>((((h.front 2 _ rfl).front 2 _ rfl).nilrow 9 1).front 3 _ rfl).keep [T_,T_,T_,T_] rfl) lown_mem (fun w hS=>f59_ok x s parm m 0 false none 0 0 ([]:LB_) none 0 0 ((R45.countS l.length)++more) w hy_ hy_ (hS.give lown_in)) ?_
 rintro _ _ ⟨e2,e3,rfl,rfl⟩
 refine z_ (n_ (q_ (g_ (s_ mv_ (s_ (x_nilCheck rfl) (s_ (fA 2 fi82_2) (r_ (ld_ 0 sc80) ?_)))))))
 refine JO_read (vG (Binding.enc (R45.outB dds))) rfl trivial (x_lookup_v 2 (f:=vS) (k:=[79,85,84]) rfl rfl rfl underlying80 (mapK_s underlying9) ze33 (R45.look_out _) (R45.look_val _)) ?_
 refine o_ (al_ ze33 fun b4=>?_)
 refine o_ (stG 0 sz33 ?_)
 refine z_ (n_ (q_ (q_ (g_ (s_ (fA 0 fi33_0) (s_ (fA 34 fi27_14) (r_ (ld_ 0 sc4) (z_ (n_ ?_)))))))))
 refine if_ (fun h5=>?_) (fun h5=>?_)
 ·have h5w:=h5
  refine rt_ (nr_ (JX_Er ?_))
  refine JX_ret0 results56 [xE_ x s parm m [vI 0,vB false,vL none 0 0,vL e2 ((l1_ (R45.countS l.length) more).length) e3],mp vS m (dds.map R45.bindE),sH_ s rowsA rows.length rowsC calls,row (.slice none ([]:List Change).length 0) 60 5 ([]:List Change).length (([]:List Change).flatMap Change.enc),row (.slice e2 (l1_ (R45.countS l.length) more).length e3) 9 1 (l1_ (R45.countS l.length) more).length ((l1_ (R45.countS l.length) more).map vS)] (fun _ h=>(((((h.front 2 _ rfl).nilrow 60 5).front 5 _ rfl).front 5 _ rfl).front 5 _ rfl).keep [T_,T_,T_,T_,T_,F_] rfl) ⟨([]:List Change),none,0,(l1_ (R45.countS l.length) more),e2,e3,calls,?_,?_,?_,?_,?_⟩
  ·rfl
  ·rfl
  ·exact c45w2_
  ·rfl
  ·omega
 ·have h5w:=h5
  refine sk_ (n_ (q_ (g_ (r_ (ldN 0 (Binding.enc (R45.outB dds)) ag33 sz33) (c0 (cl_ ca84) (fun w hS=>f84_ok _ w) (o_ (al_ ze24 fun b6=>?_)))))))
  refine o_ (stG 0 sz24 ?_)
  refine z_ (xk_ [0,1,6,7] ?_)
  refine n_ (q_ (g_ (s_ av_ (z_ (n_ (q_ (k_ (q_ (g_ (s_ (fA 69 fi33_3) (r_ (ld_ 1 sc4) (s_ av_ (z_ (n_ ?_))))))))))))))
  refine if_ (fun h7=>?_) (fun h7=>?_)
  ·have h7w:=h7
   refine sk_ (kx_ (n_ (q_ (q_ (g_ (s_ mv_ (s_ (lnS underlying25) (s_ mv_ (z_ (n_ (k_ ?_)))))))))))
   refine J_loop (X:=Nat × (List Change) × (OA_) × Nat × Int) (fun (⟨k,ch,chA,chC,sl⟩:Nat × (List Change) × (OA_) × Nat × Int)=>(k≤l.length)∧(R45.WrK (R45.outB dds) l k ch)∧(0≤sl)∧(sl≤1099511627776+k)) (fun (⟨k,ch,chA,chC,sl⟩:Nat × (List Change) × (OA_) × Nat × Int)=>[(0,pB x 0),(7,pB b6 0),(8,vI sl),(52,vL lA l.length lC),(53,vN l.length),(54,vN k)]) (fun (⟨k,ch,chA,chC,sl⟩:Nat × (List Change) × (OA_) × Nat × Int)=>[blk b6 24 (DataSet.enc (R45.setV (R45.outB dds))),xE_ x s parm m [vI 0,vB false,vL chA ch.length chC,vL e2 ((l1_ (R45.countS l.length) more).length) e3],row (.slice e2 (l1_ (R45.countS l.length) more).length e3) 9 1 (l1_ (R45.countS l.length) more).length ((l1_ (R45.countS l.length) more).map vS),mp vS m (dds.map R45.bindE),sH_ s rowsA rows.length rowsC calls,row (.slice chA ch.length chC) 60 5 ch.length (ch.flatMap Change.enc)]) (fun (⟨k,ch,chA,chC,sl⟩:Nat × (List Change) × (OA_) × Nat × Int)=>l.length-k) ((0,([]:List Change),none,0,0):Nat × (List Change) × (OA_) × Nat × Int) ?_ se_ (fun _ h=>((((((h.nilrow 60 5).front 6 _ rfl).front 6 _ rfl).front 6 _ rfl).front 6 _ rfl).front 5 _ rfl).keep [T_,T_,T_,T_,T_,T_,F_] rfl) ?_
   ·try dsimp only
    refine ⟨?_,?_,?_,?_⟩
    ·exact df_
    ·exact c45w3_
    ·exact df_
    ·exact df_
   rintro ⟨k,ch,chA,chC,sl⟩ hI1
   obtain ⟨i1_0,i1_1,i1_2,i1_3⟩:=hI1
   try dsimp only at i1_0
   try dsimp only at i1_1
   try dsimp only at i1_2
   try dsimp only at i1_3
   have hck:=i1_1.1
   have hlk:=q5 k
   try dsimp only
   refine q_ (g_ (s_ (x_lss_i rfl rfl) (z_ (n_ (q_ ?_)))))
   refine ifd (fun h8w h8=>?_) (fun h8w h8=>?_)
   ·refine sk_ (n_ (q_ (k_ (q_ (g_ (s_ mv_ (r_ (ixM (cells_ro lR) underlying25 sz9) (r_ (ldM vS [] (cells_ro lR) sc9) (s_ av_ (s_ av_ (z_ (n_ (q_ (g_ (s_ (fA 0 fi24_0) (r_ (ld_ 0 sc3) (s_ mv_ ?_)))))))))))))))))
    refine js_ (vG [vI 2,vI ((R45.setV (R45.outB dds)).Id),vS [],vS (l.getD k []),vS []]) (x_build kf_) (o_ (al_ ze60 fun b9=>?_))
    refine o_ (stG 0 sz60 ?_)
    refine z_ (n_ (q_ (q_ (g_ (s_ (fA 1 fi24_1) (r_ (ld_ 1 sc3) (z_ (n_ (k_ (q_ (g_ (s_ (x_eql_i rfl rfl) (s_ av_ (z_ (xk_ [0,7,8,52,53,54,9,10,11,64,65] ?_)))))))))))))))
    refine n_ ?_
    refine ifd (fun h10w h10=>?_) (fun h10w h10=>?_)
    ·refine q_ (g_ (r_ (ldN 1 (DataSet.enc (R45.setV (R45.outB dds))) ag24 sz24) (s_ mv_ ?_)))
     refine c1 (cl_ ca87) (fun w hS=>f87_ok _ _ w hy_) ?_
     rintro _ _ ⟨k11,e12,rfl,rfl⟩
     refine s_ mv_ (s_ (ex_ 0) (s_ (ex_ 1) (s_ av_ (s_ av_ (z_ (n_ (q_ (g_ (s_ mv_ (s_ (x_eql_i rfl rfl) (s_ mv_ (c0 (cl_ ca88) (fun w hS=>f88_ok k w (hT.on hS (fun _ h=>by cases h)) hy_) ?_))))))))))))
     have ha13:=R45.wrong_len k om_
     refine JO_callP [] [] [blk b9 60 [vI 2,vI ((R45.setV (R45.outB dds)).Id),vS [],vS (l.getD k []),vS []],blk b6 24 (DataSet.enc (R45.setV (R45.outB dds))),xE_ x s parm m [vI 0,vB false,vL chA ch.length chC,vL e2 ((l1_ (R45.countS l.length) more).length) e3],row (.slice e2 (l1_ (R45.countS l.length) more).length e3) 9 1 (l1_ (R45.countS l.length) more).length ((l1_ (R45.countS l.length) more).map vS),mp vS m (dds.map R45.bindE),sH_ s rowsA rows.length rowsC calls,row (.slice chA ch.length chC) 60 5 ch.length (ch.flatMap Change.enc)] rfl trivial (fun _=>x_call ca33 rfl) i_ (fun _ h=>by cases h) (fun w hS=>f33_ok _ _ w) ?_ ?_
     ·rintro _ _ ⟨rfl,rfl,hp14⟩
      have hp14:=of_ hp14
      refine JX_then_pan (JX_block_pan (JX_then_pan (JX_block_pan (JX_then_pan (JX_round_pan ?_)))))
      refine JX_block_pan (JX_then_pan ?_)
      refine JX_pan [] (fun _ h=>h.keep [F_,F_,F_,F_,F_,F_,F_] rfl) (fun _ _ h=>h) ⟨(R45.wrongS k),rfl,?_,?_⟩
      ·rfl
      ·exact c45w1_
     rintro _ _ ⟨rfl,rfl,hf15⟩
     have hf15:=ot_ hf15
     refine z_ (xk_ [0,7,8,52,53,54,11,12] ?_)
     refine n_ (g_ (s_ mv_ (s_ (fA 0 fi60_0) (o_ (st1 0 sz3 ?_)))))
     refine s_ (fA 2 fi60_2) (o_ (st1 0 sz9 ?_))
     refine z_ (kx_ (n_ (g_ (s_ mv_ (r_ (ldN 0 [vI 0,vI ((R45.setV (R45.outB dds)).Id),vS k11,vS (l.getD k []),vS []] ag60 sz60) ?_)))))
     refine JO_call (Lown [xE_ x s parm m [vI 0,vB false,vL chA ch.length chC,vL e2 ((l1_ (R45.countS l.length) more).length) e3],row (.slice chA ch.length chC) 60 5 ch.length (ch.flatMap Change.enc)]) [xE_ x s parm m [vI 0,vB false,vL chA ch.length chC,vL e2 ((l1_ (R45.countS l.length) more).length) e3],row (.slice chA ch.length chC) 60 5 ch.length (ch.flatMap Change.enc)] [blk b9 60 [vI 0,vI ((R45.setV (R45.outB dds)).Id),vS k11,vS (l.getD k []),vS []],blk b6 24 (DataSet.enc (R45.setV (R45.outB dds))),row (.slice e2 (l1_ (R45.countS l.length) more).length e3) 9 1 (l1_ (R45.countS l.length) more).length ((l1_ (R45.countS l.length) more).map vS),mp vS m (dds.map R45.bindE),sH_ s rowsA rows.length rowsC calls] rfl trivial (fun _=>x_call ca85 rfl) (fun _ h=>(((((((h.front 5 _ rfl).front 5 _ rfl).front 5 _ rfl).front 4 _ rfl).front 4 _ rfl).front 6 _ rfl).front 6 _ rfl).keep [T_,T_,T_,T_,T_,T_,T_] rfl) lown_mem (fun w hS=>f85_ok x s parm m 0 false e2 ((l1_ (R45.countS l.length) more).length) e3 ch chA chC ch.length (Change.mk 0 ((R45.setV (R45.outB dds)).Id) k11 (l.getD k []) []) w hy_ hy_ (hS.give lown_in)) ?_
     rintro _ _ ⟨e16,e17,rfl,rfl⟩
     refine z_ (kx_ (n_ (g_ (s_ (x_add_n (a:=k) (b:=1) rfl rfl om_) (s_ mv_ (z_ ?_))))))
     refine JX_round ((k+1,(ch++[(Change.mk 0 ((R45.setV (R45.outB dds)).Id) k11 (l.getD k []) [])]),e16,e17,sl):Nat × (List Change) × (OA_) × Nat × Int) ?_ ?_ se_ (fun _ h=>((((((h.front 1 _ rfl).front 6 _ rfl).front 6 _ rfl).front 6 _ rfl).front 4 _ rfl).front 6 _ rfl).keep [T_,T_,T_,T_,T_,T_,F_] rfl)
     ·try dsimp only
      refine ⟨?_,?_,?_,?_⟩
      ·exact df_
      ·exact c45w0_
      ·exact df_
      ·exact df_
     ·try dsimp only
      first | omega | (simp;omega) | (simp_all;omega)
    ·refine q_ (g_ (s_ (x_eql_i rfl rfl) (s_ av_ (z_ (n_ ?_)))))
     refine ifd (fun h18w h18=>?_) (fun h18w h18=>?_)
     ·refine q_ (g_ (s_ mv_ (s_ (x_add_i (a:=sl) (b:=1) rfl rfl om_ om_) (s_ av_ (z_ (n_ (g_ (s_ mv_ ?_))))))))
      refine c1 (cl_ ca89) (fun w hS=>f89_ok _ w hy_ hy_) ?_
      rintro _ _ ⟨k19,rfl,rfl⟩
      refine s_ (fA 0 fi60_0) (o_ (st1 0 sz3 ?_))
      refine s_ (fA 2 fi60_2) (o_ (st1 0 sz9 ?_))
      refine z_ (kx_ (n_ (g_ (s_ mv_ (r_ (ldN 0 [vI 0,vI ((R45.setV (R45.outB dds)).Id),vS k19,vS (l.getD k []),vS []] ag60 sz60) ?_)))))
      refine JO_call (Lown [xE_ x s parm m [vI 0,vB false,vL chA ch.length chC,vL e2 ((l1_ (R45.countS l.length) more).length) e3],row (.slice chA ch.length chC) 60 5 ch.length (ch.flatMap Change.enc)]) [xE_ x s parm m [vI 0,vB false,vL chA ch.length chC,vL e2 ((l1_ (R45.countS l.length) more).length) e3],row (.slice chA ch.length chC) 60 5 ch.length (ch.flatMap Change.enc)] [blk b9 60 [vI 0,vI ((R45.setV (R45.outB dds)).Id),vS k19,vS (l.getD k []),vS []],blk b6 24 (DataSet.enc (R45.setV (R45.outB dds))),row (.slice e2 (l1_ (R45.countS l.length) more).length e3) 9 1 (l1_ (R45.countS l.length) more).length ((l1_ (R45.countS l.length) more).map vS),mp vS m (dds.map R45.bindE),sH_ s rowsA rows.length rowsC calls] rfl trivial (fun _=>x_call ca85 rfl) (fun _ h=>(((((((h.front 5 _ rfl).front 5 _ rfl).front 5 _ rfl).front 4 _ rfl).front 4 _ rfl).front 6 _ rfl).front 6 _ rfl).keep [T_,T_,T_,T_,T_,T_,T_] rfl) lown_mem (fun w hS=>f85_ok x s parm m 0 false e2 ((l1_ (R45.countS l.length) more).length) e3 ch chA chC ch.length (Change.mk 0 ((R45.setV (R45.outB dds)).Id) k19 (l.getD k []) []) w hy_ hy_ (hS.give lown_in)) ?_
      rintro _ _ ⟨e20,e21,rfl,rfl⟩
      refine z_ (kx_ (n_ (g_ (s_ (x_add_n (a:=k) (b:=1) rfl rfl om_) (s_ mv_ (z_ ?_))))))
      refine JX_round ((k+1,(ch++[(Change.mk 0 ((R45.setV (R45.outB dds)).Id) k19 (l.getD k []) [])]),e20,e21,sl+1):Nat × (List Change) × (OA_) × Nat × Int) ?_ ?_ se_ (fun _ h=>((((((h.front 1 _ rfl).front 6 _ rfl).front 6 _ rfl).front 6 _ rfl).front 4 _ rfl).front 6 _ rfl).keep [T_,T_,T_,T_,T_,T_,F_] rfl)
      ·try dsimp only
       refine ⟨?_,?_,?_,?_⟩
       ·exact df_
       ·exact c45w0_
       ·exact df_
       ·exact df_
      ·try dsimp only
       first | omega | (simp;omega) | (simp_all;omega)
     ·refine sk_ (kx_ (n_ (g_ (s_ mv_ (r_ (ldN 0 [vI 2,vI ((R45.setV (R45.outB dds)).Id),vS [],vS (l.getD k []),vS []] ag60 sz60) ?_)))))
      refine JO_call (Lown [xE_ x s parm m [vI 0,vB false,vL chA ch.length chC,vL e2 ((l1_ (R45.countS l.length) more).length) e3],row (.slice chA ch.length chC) 60 5 ch.length (ch.flatMap Change.enc)]) [xE_ x s parm m [vI 0,vB false,vL chA ch.length chC,vL e2 ((l1_ (R45.countS l.length) more).length) e3],row (.slice chA ch.length chC) 60 5 ch.length (ch.flatMap Change.enc)] [blk b9 60 [vI 2,vI ((R45.setV (R45.outB dds)).Id),vS [],vS (l.getD k []),vS []],blk b6 24 (DataSet.enc (R45.setV (R45.outB dds))),row (.slice e2 (l1_ (R45.countS l.length) more).length e3) 9 1 (l1_ (R45.countS l.length) more).length ((l1_ (R45.countS l.length) more).map vS),mp vS m (dds.map R45.bindE),sH_ s rowsA rows.length rowsC calls] rfl trivial (fun _=>x_call ca85 rfl) (fun _ h=>(((((((h.front 5 _ rfl).front 5 _ rfl).front 5 _ rfl).front 4 _ rfl).front 4 _ rfl).front 6 _ rfl).front 6 _ rfl).keep [T_,T_,T_,T_,T_,T_,T_] rfl) lown_mem (fun w hS=>f85_ok x s parm m 0 false e2 ((l1_ (R45.countS l.length) more).length) e3 ch chA chC ch.length (Change.mk 2 ((R45.setV (R45.outB dds)).Id) [] (l.getD k []) []) w hy_ hy_ (hS.give lown_in)) ?_
      rintro _ _ ⟨e22,e23,rfl,rfl⟩
      refine z_ (kx_ (n_ (g_ (s_ (x_add_n (a:=k) (b:=1) rfl rfl om_) (s_ mv_ (z_ ?_))))))
      refine JX_round ((k+1,(ch++[(Change.mk 2 ((R45.setV (R45.outB dds)).Id) [] (l.getD k []) [])]),e22,e23,sl):Nat × (List Change) × (OA_) × Nat × Int) ?_ ?_ se_ (fun _ h=>((((((h.front 1 _ rfl).front 6 _ rfl).front 6 _ rfl).front 6 _ rfl).front 4 _ rfl).front 6 _ rfl).keep [T_,T_,T_,T_,T_,T_,F_] rfl)
      ·try dsimp only
       refine ⟨?_,?_,?_,?_⟩
       ·exact df_
       ·exact c45w0_
       ·exact df_
       ·exact df_
      ·try dsimp only
       first | omega | (simp;omega) | (simp_all;omega)
   ·refine J_exit (ne_ (re_ (kh_ (n_ (g_ ?_)))))
    refine s_ mv_ ?_
    refine JO_callP [x] [xE_ x s parm m [vI 0,vB false,vL chA ch.length chC,vL e2 ((l1_ (R45.countS l.length) more).length) e3]] [blk b6 24 (DataSet.enc (R45.setV (R45.outB dds))),row (.slice e2 (l1_ (R45.countS l.length) more).length e3) 9 1 (l1_ (R45.countS l.length) more).length ((l1_ (R45.countS l.length) more).map vS),mp vS m (dds.map R45.bindE),sH_ s rowsA rows.length rowsC calls,row (.slice chA ch.length chC) 60 5 ch.length (ch.flatMap Change.enc)] rfl trivial (fun _=>x_call ca90 rfl) (fun _ h=>((((((h.front 5 _ rfl).front 5 _ rfl).front 5 _ rfl).front 5 _ rfl).front 4 _ rfl).front 5 _ rfl).keep [T_,T_,T_,T_,T_,T_] rfl) (own_mem rfl) (fun w hS=>f90_ok x s parm m 0 false chA ch.length chC e2 ((l1_ (R45.countS l.length) more).length) e3 w  (hS.give (own_in rfl))) ?_ ?_
    ·rintro _ _ ⟨rfl,rfl,hp24⟩
     refine JX_pan [] (fun _ h=>h.keep [F_,F_,F_,F_,F_] rfl) (fun _ _ h=>h) ⟨[116,111,111,32,109,97,110,121,32,99,104,97,110,103,101,115],rfl,?_,?_⟩
     ·rfl
     ·exact c45w1_
    rintro _ _ ⟨rfl,rfl,hf25⟩
    refine z_ (JX_En ?_)
    refine JX_end0 results56 [xE_ x s parm m [vI 0,vB false,vL chA ch.length chC,vL e2 ((l1_ (R45.countS l.length) more).length) e3],mp vS m (dds.map R45.bindE),sH_ s rowsA rows.length rowsC calls,row (.slice chA ch.length chC) 60 5 ch.length (ch.flatMap Change.enc),row (.slice e2 (l1_ (R45.countS l.length) more).length e3) 9 1 (l1_ (R45.countS l.length) more).length ((l1_ (R45.countS l.length) more).map vS)] (fun _ h=>(((((h.front 2 _ rfl).front 5 _ rfl).front 5 _ rfl).front 5 _ rfl).front 4 _ rfl).keep [T_,T_,T_,T_,T_,F_] rfl) ⟨ch,chA,chC,(l1_ (R45.countS l.length) more),e2,e3,calls,?_,?_,?_,?_,?_⟩
    ·rfl
    ·rfl
    ·exact c45w2_
    ·rfl
    ·omega
  ·have h7w:=h7
   refine q_ (g_ (s_ (fA 0 fi33_0) (s_ (fA 6 fi27_6) (r_ (ld_ 1 sc3) (s_ (x_neq_i rfl rfl) (s_ av_ (z_ (n_ ?_))))))))
   refine ifd (fun h26w h26=>?_) (fun h26w h26=>?_)
   ·refine g_ (s_ mv_ (s_ (fA 0 fi24_0) (r_ (ld_ 0 sc3) (js_ (vG [vI 3,vI ((R45.setV (R45.outB dds)).Id),vS [],vS [],vS []]) (x_build kf_) ?_))))
    refine JO_call (Lown [xE_ x s parm m [vI 0,vB false,vL none 0 0,vL e2 ((l1_ (R45.countS l.length) more).length) e3],row (.slice none 0 0) 60 5 0 (([]:List Change).flatMap Change.enc)]) [xE_ x s parm m [vI 0,vB false,vL none 0 0,vL e2 ((l1_ (R45.countS l.length) more).length) e3],row (.slice none 0 0) 60 5 0 (([]:List Change).flatMap Change.enc)] [blk b6 24 (DataSet.enc (R45.setV (R45.outB dds))),blk b4 33 (Binding.enc (R45.outB dds)),row (.slice e2 (l1_ (R45.countS l.length) more).length e3) 9 1 (l1_ (R45.countS l.length) more).length ((l1_ (R45.countS l.length) more).map vS),mp vS m (dds.map R45.bindE),sH_ s rowsA rows.length rowsC calls] rfl trivial (fun _=>x_call ca85 rfl) (fun _ h=>(((((((h.front 5 _ rfl).front 5 _ rfl).front 5 _ rfl).front 4 _ rfl).front 4 _ rfl).nilrow 60 5).front 6 _ rfl).keep [T_,T_,T_,T_,T_,T_,T_] rfl) lown_mem (fun w hS=>f85_ok x s parm m 0 false e2 ((l1_ (R45.countS l.length) more).length) e3 ([]:List Change) none 0 0 (Change.mk 3 ((R45.setV (R45.outB dds)).Id) [] [] []) w hy_ hy_ (hS.give lown_in)) ?_
    rintro _ _ ⟨e27,e28,rfl,rfl⟩
    refine z_ (kx_ (n_ (q_ (q_ (g_ (s_ mv_ (s_ (lnS underlying25) (s_ mv_ (z_ (xk_ [0,7,8,52,53,54] ?_))))))))))
    refine n_ (k_ ?_)
    refine J_loop (X:=Nat × (List Change) × (OA_) × Nat × Int) (fun (⟨k,ch,chA,chC,sl⟩:Nat × (List Change) × (OA_) × Nat × Int)=>(k≤l.length)∧(R45.WrK (R45.outB dds) l k ch)∧(0≤sl)∧(sl≤1099511627776+k)) (fun (⟨k,ch,chA,chC,sl⟩:Nat × (List Change) × (OA_) × Nat × Int)=>[(0,pB x 0),(7,pB b6 0),(8,vI sl),(52,vL lA l.length lC),(53,vN l.length),(54,vN k)]) (fun (⟨k,ch,chA,chC,sl⟩:Nat × (List Change) × (OA_) × Nat × Int)=>[xE_ x s parm m [vI 0,vB false,vL chA ch.length chC,vL e2 ((l1_ (R45.countS l.length) more).length) e3],blk b6 24 (DataSet.enc (R45.setV (R45.outB dds))),row (.slice e2 (l1_ (R45.countS l.length) more).length e3) 9 1 (l1_ (R45.countS l.length) more).length ((l1_ (R45.countS l.length) more).map vS),mp vS m (dds.map R45.bindE),sH_ s rowsA rows.length rowsC calls,row (.slice chA ch.length chC) 60 5 ch.length (ch.flatMap Change.enc)]) (fun (⟨k,ch,chA,chC,sl⟩:Nat × (List Change) × (OA_) × Nat × Int)=>l.length-k) ((0,(([]:List Change)++[(Change.mk 3 ((R45.setV (R45.outB dds)).Id) [] [] [])]),e27,e28,0):Nat × (List Change) × (OA_) × Nat × Int) ?_ se_ (fun _ h=>((((((h.front 1 _ rfl).front 6 _ rfl).front 6 _ rfl).front 6 _ rfl).front 5 _ rfl).front 5 _ rfl).keep [T_,T_,T_,T_,T_,T_,F_] rfl) ?_
    ·try dsimp only
     refine ⟨?_,?_,?_,?_⟩
     ·exact df_
     ·exact c45w3_
     ·exact df_
     ·exact df_
    rintro ⟨k,ch,chA,chC,sl⟩ hI1
    obtain ⟨i1_0,i1_1,i1_2,i1_3⟩:=hI1
    try dsimp only at i1_0
    try dsimp only at i1_1
    try dsimp only at i1_2
    try dsimp only at i1_3
    have hck:=i1_1.1
    have hlk:=q5 k
    try dsimp only
    refine q_ (g_ (s_ (x_lss_i rfl rfl) (z_ (n_ (q_ ?_)))))
    refine ifd (fun h29w h29=>?_) (fun h29w h29=>?_)
    ·refine sk_ (n_ (q_ (k_ (q_ (g_ (s_ mv_ (r_ (ixM (cells_ro lR) underlying25 sz9) (r_ (ldM vS [] (cells_ro lR) sc9) (s_ av_ (s_ av_ (z_ (n_ (q_ (g_ (s_ (fA 0 fi24_0) (r_ (ld_ 1 sc3) (s_ mv_ ?_)))))))))))))))))
     refine js_ (vG [vI 2,vI ((R45.setV (R45.outB dds)).Id),vS [],vS (l.getD k []),vS []]) (x_build kf_) (o_ (al_ ze60 fun b30=>?_))
     refine o_ (stG 0 sz60 ?_)
     refine z_ (n_ (q_ (q_ (g_ (s_ (fA 1 fi24_1) (r_ (ld_ 2 sc3) (z_ (n_ (k_ (q_ (g_ (s_ (x_eql_i rfl rfl) (s_ av_ (z_ (xk_ [0,7,8,52,53,54,9,10,11,64,65] ?_)))))))))))))))
     refine n_ ?_
     refine ifd (fun h31w h31=>?_) (fun h31w h31=>?_)
     ·refine q_ (g_ (r_ (ldN 2 (DataSet.enc (R45.setV (R45.outB dds))) ag24 sz24) (s_ mv_ ?_)))
      refine c1 (cl_ ca87) (fun w hS=>f87_ok _ _ w hy_) ?_
      rintro _ _ ⟨k32,e33,rfl,rfl⟩
      refine s_ mv_ (s_ (ex_ 0) (s_ (ex_ 1) (s_ av_ (s_ av_ (z_ (n_ (q_ (g_ (s_ mv_ (s_ (x_eql_i rfl rfl) (s_ mv_ (c0 (cl_ ca88) (fun w hS=>f88_ok k w (hT.on hS (fun _ h=>by cases h)) hy_) ?_))))))))))))
      have ha34:=R45.wrong_len k om_
      refine JO_callP [] [] [blk b30 60 [vI 2,vI ((R45.setV (R45.outB dds)).Id),vS [],vS (l.getD k []),vS []],xE_ x s parm m [vI 0,vB false,vL chA ch.length chC,vL e2 ((l1_ (R45.countS l.length) more).length) e3],blk b6 24 (DataSet.enc (R45.setV (R45.outB dds))),row (.slice e2 (l1_ (R45.countS l.length) more).length e3) 9 1 (l1_ (R45.countS l.length) more).length ((l1_ (R45.countS l.length) more).map vS),mp vS m (dds.map R45.bindE),sH_ s rowsA rows.length rowsC calls,row (.slice chA ch.length chC) 60 5 ch.length (ch.flatMap Change.enc)] rfl trivial (fun _=>x_call ca33 rfl) i_ (fun _ h=>by cases h) (fun w hS=>f33_ok _ _ w) ?_ ?_
      ·rintro _ _ ⟨rfl,rfl,hp35⟩
       have hp35:=of_ hp35
       refine JX_then_pan (JX_block_pan (JX_then_pan (JX_block_pan (JX_then_pan (JX_round_pan ?_)))))
       refine JX_block_pan (JX_then_pan ?_)
       refine JX_pan [] (fun _ h=>h.keep [F_,F_,F_,F_,F_,F_,F_] rfl) (fun _ _ h=>h) ⟨(R45.wrongS k),rfl,?_,?_⟩
       ·rfl
       ·exact c45w1_
      rintro _ _ ⟨rfl,rfl,hf36⟩
      have hf36:=ot_ hf36
      refine z_ (xk_ [0,7,8,52,53,54,11,12] ?_)
      refine n_ (g_ (s_ mv_ (s_ (fA 0 fi60_0) (o_ (st1 0 sz3 ?_)))))
      refine s_ (fA 2 fi60_2) (o_ (st1 0 sz9 ?_))
      refine z_ (kx_ (n_ (g_ (s_ mv_ (r_ (ldN 0 [vI 0,vI ((R45.setV (R45.outB dds)).Id),vS k32,vS (l.getD k []),vS []] ag60 sz60) ?_)))))
      refine JO_call (Lown [xE_ x s parm m [vI 0,vB false,vL chA ch.length chC,vL e2 ((l1_ (R45.countS l.length) more).length) e3],row (.slice chA ch.length chC) 60 5 ch.length (ch.flatMap Change.enc)]) [xE_ x s parm m [vI 0,vB false,vL chA ch.length chC,vL e2 ((l1_ (R45.countS l.length) more).length) e3],row (.slice chA ch.length chC) 60 5 ch.length (ch.flatMap Change.enc)] [blk b30 60 [vI 0,vI ((R45.setV (R45.outB dds)).Id),vS k32,vS (l.getD k []),vS []],blk b6 24 (DataSet.enc (R45.setV (R45.outB dds))),row (.slice e2 (l1_ (R45.countS l.length) more).length e3) 9 1 (l1_ (R45.countS l.length) more).length ((l1_ (R45.countS l.length) more).map vS),mp vS m (dds.map R45.bindE),sH_ s rowsA rows.length rowsC calls] rfl trivial (fun _=>x_call ca85 rfl) (fun _ h=>(((((((h.front 5 _ rfl).front 5 _ rfl).front 5 _ rfl).front 5 _ rfl).front 4 _ rfl).front 6 _ rfl).front 6 _ rfl).keep [T_,T_,T_,T_,T_,T_,T_] rfl) lown_mem (fun w hS=>f85_ok x s parm m 0 false e2 ((l1_ (R45.countS l.length) more).length) e3 ch chA chC ch.length (Change.mk 0 ((R45.setV (R45.outB dds)).Id) k32 (l.getD k []) []) w hy_ hy_ (hS.give lown_in)) ?_
      rintro _ _ ⟨e37,e38,rfl,rfl⟩
      refine z_ (kx_ (n_ (g_ (s_ (x_add_n (a:=k) (b:=1) rfl rfl om_) (s_ mv_ (z_ ?_))))))
      refine JX_round ((k+1,(ch++[(Change.mk 0 ((R45.setV (R45.outB dds)).Id) k32 (l.getD k []) [])]),e37,e38,sl):Nat × (List Change) × (OA_) × Nat × Int) ?_ ?_ se_ (fun _ h=>((((((h.front 1 _ rfl).front 6 _ rfl).front 6 _ rfl).front 6 _ rfl).front 6 _ rfl).front 5 _ rfl).keep [T_,T_,T_,T_,T_,T_,F_] rfl)
      ·try dsimp only
       refine ⟨?_,?_,?_,?_⟩
       ·exact df_
       ·exact c45w0_
       ·exact df_
       ·exact df_
      ·try dsimp only
       first | omega | (simp;omega) | (simp_all;omega)
     ·refine q_ (g_ (s_ (x_eql_i rfl rfl) (s_ av_ (z_ (n_ ?_)))))
      refine ifd (fun h39w h39=>?_) (fun h39w h39=>?_)
      ·refine q_ (g_ (s_ mv_ (s_ (x_add_i (a:=sl) (b:=1) rfl rfl om_ om_) (s_ av_ (z_ (n_ (g_ (s_ mv_ ?_))))))))
       refine c1 (cl_ ca89) (fun w hS=>f89_ok _ w hy_ hy_) ?_
       rintro _ _ ⟨k40,rfl,rfl⟩
       refine s_ (fA 0 fi60_0) (o_ (st1 0 sz3 ?_))
       refine s_ (fA 2 fi60_2) (o_ (st1 0 sz9 ?_))
       refine z_ (kx_ (n_ (g_ (s_ mv_ (r_ (ldN 0 [vI 0,vI ((R45.setV (R45.outB dds)).Id),vS k40,vS (l.getD k []),vS []] ag60 sz60) ?_)))))
       refine JO_call (Lown [xE_ x s parm m [vI 0,vB false,vL chA ch.length chC,vL e2 ((l1_ (R45.countS l.length) more).length) e3],row (.slice chA ch.length chC) 60 5 ch.length (ch.flatMap Change.enc)]) [xE_ x s parm m [vI 0,vB false,vL chA ch.length chC,vL e2 ((l1_ (R45.countS l.length) more).length) e3],row (.slice chA ch.length chC) 60 5 ch.length (ch.flatMap Change.enc)] [blk b30 60 [vI 0,vI ((R45.setV (R45.outB dds)).Id),vS k40,vS (l.getD k []),vS []],blk b6 24 (DataSet.enc (R45.setV (R45.outB dds))),row (.slice e2 (l1_ (R45.countS l.length) more).length e3) 9 1 (l1_ (R45.countS l.length) more).length ((l1_ (R45.countS l.length) more).map vS),mp vS m (dds.map R45.bindE),sH_ s rowsA rows.length rowsC calls] rfl trivial (fun _=>x_call ca85 rfl) (fun _ h=>(((((((h.front 5 _ rfl).front 5 _ rfl).front 5 _ rfl).front 5 _ rfl).front 4 _ rfl).front 6 _ rfl).front 6 _ rfl).keep [T_,T_,T_,T_,T_,T_,T_] rfl) lown_mem (fun w hS=>f85_ok x s parm m 0 false e2 ((l1_ (R45.countS l.length) more).length) e3 ch chA chC ch.length (Change.mk 0 ((R45.setV (R45.outB dds)).Id) k40 (l.getD k []) []) w hy_ hy_ (hS.give lown_in)) ?_
       rintro _ _ ⟨e41,e42,rfl,rfl⟩
       refine z_ (kx_ (n_ (g_ (s_ (x_add_n (a:=k) (b:=1) rfl rfl om_) (s_ mv_ (z_ ?_))))))
       refine JX_round ((k+1,(ch++[(Change.mk 0 ((R45.setV (R45.outB dds)).Id) k40 (l.getD k []) [])]),e41,e42,sl+1):Nat × (List Change) × (OA_) × Nat × Int) ?_ ?_ se_ (fun _ h=>((((((h.front 1 _ rfl).front 6 _ rfl).front 6 _ rfl).front 6 _ rfl).front 6 _ rfl).front 5 _ rfl).keep [T_,T_,T_,T_,T_,T_,F_] rfl)
       ·try dsimp only
        refine ⟨?_,?_,?_,?_⟩
        ·exact df_
        ·exact c45w0_
        ·exact df_
        ·exact df_
       ·try dsimp only
        first | omega | (simp;omega) | (simp_all;omega)
      ·refine sk_ (kx_ (n_ (g_ (s_ mv_ (r_ (ldN 0 [vI 2,vI ((R45.setV (R45.outB dds)).Id),vS [],vS (l.getD k []),vS []] ag60 sz60) ?_)))))
       refine JO_call (Lown [xE_ x s parm m [vI 0,vB false,vL chA ch.length chC,vL e2 ((l1_ (R45.countS l.length) more).length) e3],row (.slice chA ch.length chC) 60 5 ch.length (ch.flatMap Change.enc)]) [xE_ x s parm m [vI 0,vB false,vL chA ch.length chC,vL e2 ((l1_ (R45.countS l.length) more).length) e3],row (.slice chA ch.length chC) 60 5 ch.length (ch.flatMap Change.enc)] [blk b30 60 [vI 2,vI ((R45.setV (R45.outB dds)).Id),vS [],vS (l.getD k []),vS []],blk b6 24 (DataSet.enc (R45.setV (R45.outB dds))),row (.slice e2 (l1_ (R45.countS l.length) more).length e3) 9 1 (l1_ (R45.countS l.length) more).length ((l1_ (R45.countS l.length) more).map vS),mp vS m (dds.map R45.bindE),sH_ s rowsA rows.length rowsC calls] rfl trivial (fun _=>x_call ca85 rfl) (fun _ h=>(((((((h.front 5 _ rfl).front 5 _ rfl).front 5 _ rfl).front 5 _ rfl).front 4 _ rfl).front 6 _ rfl).front 6 _ rfl).keep [T_,T_,T_,T_,T_,T_,T_] rfl) lown_mem (fun w hS=>f85_ok x s parm m 0 false e2 ((l1_ (R45.countS l.length) more).length) e3 ch chA chC ch.length (Change.mk 2 ((R45.setV (R45.outB dds)).Id) [] (l.getD k []) []) w hy_ hy_ (hS.give lown_in)) ?_
       rintro _ _ ⟨e43,e44,rfl,rfl⟩
       refine z_ (kx_ (n_ (g_ (s_ (x_add_n (a:=k) (b:=1) rfl rfl om_) (s_ mv_ (z_ ?_))))))
       refine JX_round ((k+1,(ch++[(Change.mk 2 ((R45.setV (R45.outB dds)).Id) [] (l.getD k []) [])]),e43,e44,sl):Nat × (List Change) × (OA_) × Nat × Int) ?_ ?_ se_ (fun _ h=>((((((h.front 1 _ rfl).front 6 _ rfl).front 6 _ rfl).front 6 _ rfl).front 6 _ rfl).front 5 _ rfl).keep [T_,T_,T_,T_,T_,T_,F_] rfl)
       ·try dsimp only
        refine ⟨?_,?_,?_,?_⟩
        ·exact df_
        ·exact c45w0_
        ·exact df_
        ·exact df_
       ·try dsimp only
        first | omega | (simp;omega) | (simp_all;omega)
    ·refine J_exit (ne_ (re_ (kh_ (n_ (g_ ?_)))))
     refine s_ mv_ ?_
     refine JO_callP [x] [xE_ x s parm m [vI 0,vB false,vL chA ch.length chC,vL e2 ((l1_ (R45.countS l.length) more).length) e3]] [blk b6 24 (DataSet.enc (R45.setV (R45.outB dds))),row (.slice e2 (l1_ (R45.countS l.length) more).length e3) 9 1 (l1_ (R45.countS l.length) more).length ((l1_ (R45.countS l.length) more).map vS),mp vS m (dds.map R45.bindE),sH_ s rowsA rows.length rowsC calls,row (.slice chA ch.length chC) 60 5 ch.length (ch.flatMap Change.enc)] rfl trivial (fun _=>x_call ca90 rfl) i_ (own_mem rfl) (fun w hS=>f90_ok x s parm m 0 false chA ch.length chC e2 ((l1_ (R45.countS l.length) more).length) e3 w  (hS.give (own_in rfl))) ?_ ?_
     ·rintro _ _ ⟨rfl,rfl,hp45⟩
      refine JX_pan [] (fun _ h=>h.keep [F_,F_,F_,F_,F_] rfl) (fun _ _ h=>h) ⟨[116,111,111,32,109,97,110,121,32,99,104,97,110,103,101,115],rfl,?_,?_⟩
      ·rfl
      ·exact c45w1_
     rintro _ _ ⟨rfl,rfl,hf46⟩
     refine z_ (JX_En ?_)
     refine JX_end0 results56 [xE_ x s parm m [vI 0,vB false,vL chA ch.length chC,vL e2 ((l1_ (R45.countS l.length) more).length) e3],mp vS m (dds.map R45.bindE),sH_ s rowsA rows.length rowsC calls,row (.slice chA ch.length chC) 60 5 ch.length (ch.flatMap Change.enc),row (.slice e2 (l1_ (R45.countS l.length) more).length e3) 9 1 (l1_ (R45.countS l.length) more).length ((l1_ (R45.countS l.length) more).map vS)] (fun _ h=>(((((h.front 2 _ rfl).front 5 _ rfl).front 5 _ rfl).front 5 _ rfl).front 4 _ rfl).keep [T_,T_,T_,T_,T_,F_] rfl) ⟨ch,chA,chC,(l1_ (R45.countS l.length) more),e2,e3,calls,?_,?_,?_,?_,?_⟩
     ·rfl
     ·rfl
     ·exact c45w2_
     ·rfl
     ·omega
   ·refine q_ (g_ (s_ (fA 1 fi24_1) (r_ (ld_ 0 sc3) (s_ (x_eql_i rfl rfl) (s_ av_ (z_ (n_ ?_)))))))
    refine ifd (fun h47w h47=>?_) (fun h47w h47=>?_)
    ·refine g_ (s_ mv_ (s_ (fA 0 fi24_0) (r_ (ld_ 0 sc3) ?_)))
     refine JO_call [x,s] [xE_ x s parm m [vI 0,vB false,vL none 0 0,vL e2 ((l1_ (R45.countS l.length) more).length) e3],sH_ s rowsA rows.length rowsC calls] [blk b6 24 (DataSet.enc (R45.setV (R45.outB dds))),blk b4 33 (Binding.enc (R45.outB dds)),row (.slice e2 (l1_ (R45.countS l.length) more).length e3) 9 1 (l1_ (R45.countS l.length) more).length ((l1_ (R45.countS l.length) more).map vS),mp vS m (dds.map R45.bindE)] rfl trivial (fun _=>x_call ca86 rfl) (fun _ h=>((((((h.front 4 _ rfl).front 4 _ rfl).front 3 _ rfl).front 3 _ rfl).front 5 _ rfl).front 5 _ rfl).keep [T_,T_,T_,T_,T_,T_] rfl) (own_mem rfl) (fun w hS=>f86_ok x s parm m rows rowsA rowsC calls 0 false none 0 0 e2 ((l1_ (R45.countS l.length) more).length) e3 ((R45.setV (R45.outB dds)).Id) w (rowsR.on hS (own_mem rfl)) hy_ hy_ hy_ hy_ (hS.give (own_in rfl))) ?_
     rintro _ _ ⟨n48,e49,rfl,rfl,hf50,hf51,hf52⟩
     refine s_ av_ (z_ (kx_ (n_ (q_ (q_ (g_ (s_ mv_ (s_ (lnS underlying25) (s_ mv_ (z_ (xk_ [0,7,8,52,53,54] ?_)))))))))))
     refine n_ (k_ ?_)
     refine J_loop (X:=Nat × (List Change) × (OA_) × Nat × Int) (fun (⟨k,ch,chA,chC,sl⟩:Nat × (List Change) × (OA_) × Nat × Int)=>(k≤l.length)∧(R45.WrK (R45.outB dds) l k ch)∧(0≤sl)∧(sl≤1099511627776+k)) (fun (⟨k,ch,chA,chC,sl⟩:Nat × (List Change) × (OA_) × Nat × Int)=>[(0,pB x 0),(7,pB b6 0),(8,vI sl),(52,vL lA l.length lC),(53,vN l.length),(54,vN k)]) (fun (⟨k,ch,chA,chC,sl⟩:Nat × (List Change) × (OA_) × Nat × Int)=>[xE_ x s parm m [vI 0,vB false,vL chA ch.length chC,vL e2 ((l1_ (R45.countS l.length) more).length) e3],sH_ s rowsA rows.length rowsC e49,blk b6 24 (DataSet.enc (R45.setV (R45.outB dds))),row (.slice e2 (l1_ (R45.countS l.length) more).length e3) 9 1 (l1_ (R45.countS l.length) more).length ((l1_ (R45.countS l.length) more).map vS),mp vS m (dds.map R45.bindE),row (.slice chA ch.length chC) 60 5 ch.length (ch.flatMap Change.enc)]) (fun (⟨k,ch,chA,chC,sl⟩:Nat × (List Change) × (OA_) × Nat × Int)=>l.length-k) ((0,([]:List Change),none,0,n48):Nat × (List Change) × (OA_) × Nat × Int) ?_ se_ (fun _ h=>((((((h.nilrow 60 5).front 6 _ rfl).front 6 _ rfl).front 5 _ rfl).front 5 _ rfl).front 5 _ rfl).keep [T_,T_,T_,T_,T_,T_,F_] rfl) ?_
     ·try dsimp only
      refine ⟨?_,?_,?_,?_⟩
      ·exact df_
      ·exact c45w3_
      ·exact df_
      ·exact df_
     rintro ⟨k,ch,chA,chC,sl⟩ hI1
     obtain ⟨i1_0,i1_1,i1_2,i1_3⟩:=hI1
     try dsimp only at i1_0
     try dsimp only at i1_1
     try dsimp only at i1_2
     try dsimp only at i1_3
     have hck:=i1_1.1
     have hlk:=q5 k
     try dsimp only
     refine q_ (g_ (s_ (x_lss_i rfl rfl) (z_ (n_ (q_ ?_)))))
     refine ifd (fun h53w h53=>?_) (fun h53w h53=>?_)
     ·refine sk_ (n_ (q_ (k_ (q_ (g_ (s_ mv_ (r_ (ixM (cells_ro lR) underlying25 sz9) (r_ (ldM vS [] (cells_ro lR) sc9) (s_ av_ (s_ av_ (z_ (n_ (q_ (g_ (s_ (fA 0 fi24_0) (r_ (ld_ 2 sc3) (s_ mv_ ?_)))))))))))))))))
      refine js_ (vG [vI 2,vI ((R45.setV (R45.outB dds)).Id),vS [],vS (l.getD k []),vS []]) (x_build kf_) (o_ (al_ ze60 fun b54=>?_))
      refine o_ (stG 0 sz60 ?_)
      refine z_ (n_ (q_ (q_ (g_ (s_ (fA 1 fi24_1) (r_ (ld_ 3 sc3) (z_ (n_ (k_ (q_ (g_ (s_ (x_eql_i rfl rfl) (s_ av_ (z_ (xk_ [0,7,8,52,53,54,9,10,11,64,65] ?_)))))))))))))))
      refine n_ ?_
      refine ifd (fun h55w h55=>?_) (fun h55w h55=>?_)
      ·refine q_ (g_ (r_ (ldN 3 (DataSet.enc (R45.setV (R45.outB dds))) ag24 sz24) (s_ mv_ ?_)))
       refine c1 (cl_ ca87) (fun w hS=>f87_ok _ _ w hy_) ?_
       rintro _ _ ⟨k56,e57,rfl,rfl⟩
       refine s_ mv_ (s_ (ex_ 0) (s_ (ex_ 1) (s_ av_ (s_ av_ (z_ (n_ (q_ (g_ (s_ mv_ (s_ (x_eql_i rfl rfl) (s_ mv_ (c0 (cl_ ca88) (fun w hS=>f88_ok k w (hT.on hS (fun _ h=>by cases h)) hy_) ?_))))))))))))
       have ha58:=R45.wrong_len k om_
       refine JO_callP [] [] [blk b54 60 [vI 2,vI ((R45.setV (R45.outB dds)).Id),vS [],vS (l.getD k []),vS []],xE_ x s parm m [vI 0,vB false,vL chA ch.length chC,vL e2 ((l1_ (R45.countS l.length) more).length) e3],sH_ s rowsA rows.length rowsC e49,blk b6 24 (DataSet.enc (R45.setV (R45.outB dds))),row (.slice e2 (l1_ (R45.countS l.length) more).length e3) 9 1 (l1_ (R45.countS l.length) more).length ((l1_ (R45.countS l.length) more).map vS),mp vS m (dds.map R45.bindE),row (.slice chA ch.length chC) 60 5 ch.length (ch.flatMap Change.enc)] rfl trivial (fun _=>x_call ca33 rfl) i_ (fun _ h=>by cases h) (fun w hS=>f33_ok _ _ w) ?_ ?_
       ·rintro _ _ ⟨rfl,rfl,hp59⟩
        have hp59:=of_ hp59
        refine JX_then_pan (JX_block_pan (JX_then_pan (JX_block_pan (JX_then_pan (JX_round_pan ?_)))))
        refine JX_block_pan (JX_then_pan ?_)
        refine JX_pan [] (fun _ h=>h.keep [F_,F_,F_,F_,F_,F_,F_] rfl) (fun _ _ h=>h) ⟨(R45.wrongS k),rfl,?_,?_⟩
        ·rfl
        ·exact c45w1_
       rintro _ _ ⟨rfl,rfl,hf60⟩
       have hf60:=ot_ hf60
       refine z_ (xk_ [0,7,8,52,53,54,11,12] ?_)
       refine n_ (g_ (s_ mv_ (s_ (fA 0 fi60_0) (o_ (st1 0 sz3 ?_)))))
       refine s_ (fA 2 fi60_2) (o_ (st1 0 sz9 ?_))
       refine z_ (kx_ (n_ (g_ (s_ mv_ (r_ (ldN 0 [vI 0,vI ((R45.setV (R45.outB dds)).Id),vS k56,vS (l.getD k []),vS []] ag60 sz60) ?_)))))
       refine JO_call (Lown [xE_ x s parm m [vI 0,vB false,vL chA ch.length chC,vL e2 ((l1_ (R45.countS l.length) more).length) e3],row (.slice chA ch.length chC) 60 5 ch.length (ch.flatMap Change.enc)]) [xE_ x s parm m [vI 0,vB false,vL chA ch.length chC,vL e2 ((l1_ (R45.countS l.length) more).length) e3],row (.slice chA ch.length chC) 60 5 ch.length (ch.flatMap Change.enc)] [blk b54 60 [vI 0,vI ((R45.setV (R45.outB dds)).Id),vS k56,vS (l.getD k []),vS []],sH_ s rowsA rows.length rowsC e49,blk b6 24 (DataSet.enc (R45.setV (R45.outB dds))),row (.slice e2 (l1_ (R45.countS l.length) more).length e3) 9 1 (l1_ (R45.countS l.length) more).length ((l1_ (R45.countS l.length) more).map vS),mp vS m (dds.map R45.bindE)] rfl trivial (fun _=>x_call ca85 rfl) (fun _ h=>(((((((h.front 5 _ rfl).front 5 _ rfl).front 5 _ rfl).front 5 _ rfl).front 4 _ rfl).front 6 _ rfl).front 6 _ rfl).keep [T_,T_,T_,T_,T_,T_,T_] rfl) lown_mem (fun w hS=>f85_ok x s parm m 0 false e2 ((l1_ (R45.countS l.length) more).length) e3 ch chA chC ch.length (Change.mk 0 ((R45.setV (R45.outB dds)).Id) k56 (l.getD k []) []) w hy_ hy_ (hS.give lown_in)) ?_
       rintro _ _ ⟨e61,e62,rfl,rfl⟩
       refine z_ (kx_ (n_ (g_ (s_ (x_add_n (a:=k) (b:=1) rfl rfl om_) (s_ mv_ (z_ ?_))))))
       refine JX_round ((k+1,(ch++[(Change.mk 0 ((R45.setV (R45.outB dds)).Id) k56 (l.getD k []) [])]),e61,e62,sl):Nat × (List Change) × (OA_) × Nat × Int) ?_ ?_ se_ (fun _ h=>((((((h.front 1 _ rfl).front 6 _ rfl).front 6 _ rfl).front 6 _ rfl).front 6 _ rfl).front 5 _ rfl).keep [T_,T_,T_,T_,T_,T_,F_] rfl)
       ·try dsimp only
        refine ⟨?_,?_,?_,?_⟩
        ·exact df_
        ·exact c45w0_
        ·exact df_
        ·exact df_
       ·try dsimp only
        first | omega | (simp;omega) | (simp_all;omega)
      ·refine q_ (g_ (s_ (x_eql_i rfl rfl) (s_ av_ (z_ (n_ ?_)))))
       refine ifd (fun _ _=>?_) (fun _ hc=>absurd h47 hc)
       refine q_ (g_ (s_ mv_ (s_ (x_add_i (a:=sl) (b:=1) rfl rfl om_ om_) (s_ av_ (z_ (n_ (g_ (s_ mv_ ?_))))))))
       refine c1 (cl_ ca89) (fun w hS=>f89_ok _ w hy_ hy_) ?_
       rintro _ _ ⟨k64,rfl,rfl⟩
       refine s_ (fA 0 fi60_0) (o_ (st1 0 sz3 ?_))
       refine s_ (fA 2 fi60_2) (o_ (st1 0 sz9 ?_))
       refine z_ (kx_ (n_ (g_ (s_ mv_ (r_ (ldN 0 [vI 0,vI ((R45.setV (R45.outB dds)).Id),vS k64,vS (l.getD k []),vS []] ag60 sz60) ?_)))))
       refine JO_call (Lown [xE_ x s parm m [vI 0,vB false,vL chA ch.length chC,vL e2 ((l1_ (R45.countS l.length) more).length) e3],row (.slice chA ch.length chC) 60 5 ch.length (ch.flatMap Change.enc)]) [xE_ x s parm m [vI 0,vB false,vL chA ch.length chC,vL e2 ((l1_ (R45.countS l.length) more).length) e3],row (.slice chA ch.length chC) 60 5 ch.length (ch.flatMap Change.enc)] [blk b54 60 [vI 0,vI ((R45.setV (R45.outB dds)).Id),vS k64,vS (l.getD k []),vS []],sH_ s rowsA rows.length rowsC e49,blk b6 24 (DataSet.enc (R45.setV (R45.outB dds))),row (.slice e2 (l1_ (R45.countS l.length) more).length e3) 9 1 (l1_ (R45.countS l.length) more).length ((l1_ (R45.countS l.length) more).map vS),mp vS m (dds.map R45.bindE)] rfl trivial (fun _=>x_call ca85 rfl) (fun _ h=>(((((((h.front 5 _ rfl).front 5 _ rfl).front 5 _ rfl).front 5 _ rfl).front 4 _ rfl).front 6 _ rfl).front 6 _ rfl).keep [T_,T_,T_,T_,T_,T_,T_] rfl) lown_mem (fun w hS=>f85_ok x s parm m 0 false e2 ((l1_ (R45.countS l.length) more).length) e3 ch chA chC ch.length (Change.mk 0 ((R45.setV (R45.outB dds)).Id) k64 (l.getD k []) []) w hy_ hy_ (hS.give lown_in)) ?_
       rintro _ _ ⟨e65,e66,rfl,rfl⟩
       refine z_ (kx_ (n_ (g_ (s_ (x_add_n (a:=k) (b:=1) rfl rfl om_) (s_ mv_ (z_ ?_))))))
       refine JX_round ((k+1,(ch++[(Change.mk 0 ((R45.setV (R45.outB dds)).Id) k64 (l.getD k []) [])]),e65,e66,sl+1):Nat × (List Change) × (OA_) × Nat × Int) ?_ ?_ se_ (fun _ h=>((((((h.front 1 _ rfl).front 6 _ rfl).front 6 _ rfl).front 6 _ rfl).front 6 _ rfl).front 5 _ rfl).keep [T_,T_,T_,T_,T_,T_,F_] rfl)
       ·try dsimp only
        refine ⟨?_,?_,?_,?_⟩
        ·exact df_
        ·exact c45w0_
        ·exact df_
        ·exact df_
       ·try dsimp only
        first | omega | (simp;omega) | (simp_all;omega)
     ·refine J_exit (ne_ (re_ (kh_ (n_ (g_ ?_)))))
      refine s_ mv_ ?_
      refine JO_callP [x] [xE_ x s parm m [vI 0,vB false,vL chA ch.length chC,vL e2 ((l1_ (R45.countS l.length) more).length) e3]] [sH_ s rowsA rows.length rowsC e49,blk b6 24 (DataSet.enc (R45.setV (R45.outB dds))),row (.slice e2 (l1_ (R45.countS l.length) more).length e3) 9 1 (l1_ (R45.countS l.length) more).length ((l1_ (R45.countS l.length) more).map vS),mp vS m (dds.map R45.bindE),row (.slice chA ch.length chC) 60 5 ch.length (ch.flatMap Change.enc)] rfl trivial (fun _=>x_call ca90 rfl) i_ (own_mem rfl) (fun w hS=>f90_ok x s parm m 0 false chA ch.length chC e2 ((l1_ (R45.countS l.length) more).length) e3 w  (hS.give (own_in rfl))) ?_ ?_
      ·rintro _ _ ⟨rfl,rfl,hp67⟩
       refine JX_pan [] (fun _ h=>h.keep [F_,F_,F_,F_,F_] rfl) (fun _ _ h=>h) ⟨[116,111,111,32,109,97,110,121,32,99,104,97,110,103,101,115],rfl,?_,?_⟩
       ·rfl
       ·exact c45w1_
      rintro _ _ ⟨rfl,rfl,hf68⟩
      refine z_ (JX_En ?_)
      refine JX_end0 results56 [xE_ x s parm m [vI 0,vB false,vL chA ch.length chC,vL e2 ((l1_ (R45.countS l.length) more).length) e3],mp vS m (dds.map R45.bindE),sH_ s rowsA rows.length rowsC e49,row (.slice chA ch.length chC) 60 5 ch.length (ch.flatMap Change.enc),row (.slice e2 (l1_ (R45.countS l.length) more).length e3) 9 1 (l1_ (R45.countS l.length) more).length ((l1_ (R45.countS l.length) more).map vS)] (fun _ h=>(((((h.front 3 _ rfl).front 5 _ rfl).front 3 _ rfl).front 5 _ rfl).front 4 _ rfl).keep [T_,T_,T_,T_,T_,F_] rfl) ⟨ch,chA,chC,(l1_ (R45.countS l.length) more),e2,e3,e49,?_,?_,?_,?_,?_⟩
      ·rfl
      ·rfl
      ·exact c45w2_
      ·rfl
      ·omega
    ·refine sk_ (kx_ (n_ (q_ (q_ (g_ (s_ mv_ (s_ (lnS underlying25) (s_ mv_ (z_ (n_ (k_ ?_)))))))))))
     refine J_loop (X:=Nat × (List Change) × (OA_) × Nat × Int) (fun (⟨k,ch,chA,chC,sl⟩:Nat × (List Change) × (OA_) × Nat × Int)=>(k≤l.length)∧(R45.WrK (R45.outB dds) l k ch)∧(0≤sl)∧(sl≤1099511627776+k)) (fun (⟨k,ch,chA,chC,sl⟩:Nat × (List Change) × (OA_) × Nat × Int)=>[(0,pB x 0),(7,pB b6 0),(8,vI sl),(52,vL lA l.length lC),(53,vN l.length),(54,vN k)]) (fun (⟨k,ch,chA,chC,sl⟩:Nat × (List Change) × (OA_) × Nat × Int)=>[blk b6 24 (DataSet.enc (R45.setV (R45.outB dds))),xE_ x s parm m [vI 0,vB false,vL chA ch.length chC,vL e2 ((l1_ (R45.countS l.length) more).length) e3],row (.slice e2 (l1_ (R45.countS l.length) more).length e3) 9 1 (l1_ (R45.countS l.length) more).length ((l1_ (R45.countS l.length) more).map vS),mp vS m (dds.map R45.bindE),sH_ s rowsA rows.length rowsC calls,row (.slice chA ch.length chC) 60 5 ch.length (ch.flatMap Change.enc)]) (fun (⟨k,ch,chA,chC,sl⟩:Nat × (List Change) × (OA_) × Nat × Int)=>l.length-k) ((0,([]:List Change),none,0,0):Nat × (List Change) × (OA_) × Nat × Int) ?_ se_ (fun _ h=>((((((h.nilrow 60 5).front 6 _ rfl).front 6 _ rfl).front 6 _ rfl).front 6 _ rfl).front 5 _ rfl).keep [T_,T_,T_,T_,T_,T_,F_] rfl) ?_
     ·try dsimp only
      refine ⟨?_,?_,?_,?_⟩
      ·exact df_
      ·exact c45w3_
      ·exact df_
      ·exact df_
     rintro ⟨k,ch,chA,chC,sl⟩ hI1
     obtain ⟨i1_0,i1_1,i1_2,i1_3⟩:=hI1
     try dsimp only at i1_0
     try dsimp only at i1_1
     try dsimp only at i1_2
     try dsimp only at i1_3
     have hck:=i1_1.1
     have hlk:=q5 k
     try dsimp only
     refine q_ (g_ (s_ (x_lss_i rfl rfl) (z_ (n_ (q_ ?_)))))
     refine ifd (fun h69w h69=>?_) (fun h69w h69=>?_)
     ·refine sk_ (n_ (q_ (k_ (q_ (g_ (s_ mv_ (r_ (ixM (cells_ro lR) underlying25 sz9) (r_ (ldM vS [] (cells_ro lR) sc9) (s_ av_ (s_ av_ (z_ (n_ (q_ (g_ (s_ (fA 0 fi24_0) (r_ (ld_ 0 sc3) (s_ mv_ ?_)))))))))))))))))
      refine js_ (vG [vI 2,vI ((R45.setV (R45.outB dds)).Id),vS [],vS (l.getD k []),vS []]) (x_build kf_) (o_ (al_ ze60 fun b70=>?_))
      refine o_ (stG 0 sz60 ?_)
      refine z_ (n_ (q_ (q_ (g_ (s_ (fA 1 fi24_1) (r_ (ld_ 1 sc3) (z_ (n_ (k_ (q_ (g_ (s_ (x_eql_i rfl rfl) (s_ av_ (z_ (xk_ [0,7,8,52,53,54,9,10,11,64,65] ?_)))))))))))))))
      refine n_ ?_
      refine ifd (fun h71w h71=>?_) (fun h71w h71=>?_)
      ·refine q_ (g_ (r_ (ldN 1 (DataSet.enc (R45.setV (R45.outB dds))) ag24 sz24) (s_ mv_ ?_)))
       refine c1 (cl_ ca87) (fun w hS=>f87_ok _ _ w hy_) ?_
       rintro _ _ ⟨k72,e73,rfl,rfl⟩
       refine s_ mv_ (s_ (ex_ 0) (s_ (ex_ 1) (s_ av_ (s_ av_ (z_ (n_ (q_ (g_ (s_ mv_ (s_ (x_eql_i rfl rfl) (s_ mv_ (c0 (cl_ ca88) (fun w hS=>f88_ok k w (hT.on hS (fun _ h=>by cases h)) hy_) ?_))))))))))))
       have ha74:=R45.wrong_len k om_
       refine JO_callP [] [] [blk b70 60 [vI 2,vI ((R45.setV (R45.outB dds)).Id),vS [],vS (l.getD k []),vS []],blk b6 24 (DataSet.enc (R45.setV (R45.outB dds))),xE_ x s parm m [vI 0,vB false,vL chA ch.length chC,vL e2 ((l1_ (R45.countS l.length) more).length) e3],row (.slice e2 (l1_ (R45.countS l.length) more).length e3) 9 1 (l1_ (R45.countS l.length) more).length ((l1_ (R45.countS l.length) more).map vS),mp vS m (dds.map R45.bindE),sH_ s rowsA rows.length rowsC calls,row (.slice chA ch.length chC) 60 5 ch.length (ch.flatMap Change.enc)] rfl trivial (fun _=>x_call ca33 rfl) i_ (fun _ h=>by cases h) (fun w hS=>f33_ok _ _ w) ?_ ?_
       ·rintro _ _ ⟨rfl,rfl,hp75⟩
        have hp75:=of_ hp75
        refine JX_then_pan (JX_block_pan (JX_then_pan (JX_block_pan (JX_then_pan (JX_round_pan ?_)))))
        refine JX_block_pan (JX_then_pan ?_)
        refine JX_pan [] (fun _ h=>h.keep [F_,F_,F_,F_,F_,F_,F_] rfl) (fun _ _ h=>h) ⟨(R45.wrongS k),rfl,?_,?_⟩
        ·rfl
        ·exact c45w1_
       rintro _ _ ⟨rfl,rfl,hf76⟩
       have hf76:=ot_ hf76
       refine z_ (xk_ [0,7,8,52,53,54,11,12] ?_)
       refine n_ (g_ (s_ mv_ (s_ (fA 0 fi60_0) (o_ (st1 0 sz3 ?_)))))
       refine s_ (fA 2 fi60_2) (o_ (st1 0 sz9 ?_))
       refine z_ (kx_ (n_ (g_ (s_ mv_ (r_ (ldN 0 [vI 0,vI ((R45.setV (R45.outB dds)).Id),vS k72,vS (l.getD k []),vS []] ag60 sz60) ?_)))))
       refine JO_call (Lown [xE_ x s parm m [vI 0,vB false,vL chA ch.length chC,vL e2 ((l1_ (R45.countS l.length) more).length) e3],row (.slice chA ch.length chC) 60 5 ch.length (ch.flatMap Change.enc)]) [xE_ x s parm m [vI 0,vB false,vL chA ch.length chC,vL e2 ((l1_ (R45.countS l.length) more).length) e3],row (.slice chA ch.length chC) 60 5 ch.length (ch.flatMap Change.enc)] [blk b70 60 [vI 0,vI ((R45.setV (R45.outB dds)).Id),vS k72,vS (l.getD k []),vS []],blk b6 24 (DataSet.enc (R45.setV (R45.outB dds))),row (.slice e2 (l1_ (R45.countS l.length) more).length e3) 9 1 (l1_ (R45.countS l.length) more).length ((l1_ (R45.countS l.length) more).map vS),mp vS m (dds.map R45.bindE),sH_ s rowsA rows.length rowsC calls] rfl trivial (fun _=>x_call ca85 rfl) (fun _ h=>(((((((h.front 5 _ rfl).front 5 _ rfl).front 5 _ rfl).front 4 _ rfl).front 4 _ rfl).front 6 _ rfl).front 6 _ rfl).keep [T_,T_,T_,T_,T_,T_,T_] rfl) lown_mem (fun w hS=>f85_ok x s parm m 0 false e2 ((l1_ (R45.countS l.length) more).length) e3 ch chA chC ch.length (Change.mk 0 ((R45.setV (R45.outB dds)).Id) k72 (l.getD k []) []) w hy_ hy_ (hS.give lown_in)) ?_
       rintro _ _ ⟨e77,e78,rfl,rfl⟩
       refine z_ (kx_ (n_ (g_ (s_ (x_add_n (a:=k) (b:=1) rfl rfl om_) (s_ mv_ (z_ ?_))))))
       refine JX_round ((k+1,(ch++[(Change.mk 0 ((R45.setV (R45.outB dds)).Id) k72 (l.getD k []) [])]),e77,e78,sl):Nat × (List Change) × (OA_) × Nat × Int) ?_ ?_ se_ (fun _ h=>((((((h.front 1 _ rfl).front 6 _ rfl).front 6 _ rfl).front 6 _ rfl).front 4 _ rfl).front 6 _ rfl).keep [T_,T_,T_,T_,T_,T_,F_] rfl)
       ·try dsimp only
        refine ⟨?_,?_,?_,?_⟩
        ·exact df_
        ·exact c45w0_
        ·exact df_
        ·exact df_
       ·try dsimp only
        first | omega | (simp;omega) | (simp_all;omega)
      ·refine q_ (g_ (s_ (x_eql_i rfl rfl) (s_ av_ (z_ (n_ ?_)))))
       refine ifd (fun _ hc=>absurd hc h47) (fun _ _=>?_)
       refine sk_ (kx_ (n_ (g_ (s_ mv_ (r_ (ldN 0 [vI 2,vI ((R45.setV (R45.outB dds)).Id),vS [],vS (l.getD k []),vS []] ag60 sz60) ?_)))))
       refine JO_call (Lown [xE_ x s parm m [vI 0,vB false,vL chA ch.length chC,vL e2 ((l1_ (R45.countS l.length) more).length) e3],row (.slice chA ch.length chC) 60 5 ch.length (ch.flatMap Change.enc)]) [xE_ x s parm m [vI 0,vB false,vL chA ch.length chC,vL e2 ((l1_ (R45.countS l.length) more).length) e3],row (.slice chA ch.length chC) 60 5 ch.length (ch.flatMap Change.enc)] [blk b70 60 [vI 2,vI ((R45.setV (R45.outB dds)).Id),vS [],vS (l.getD k []),vS []],blk b6 24 (DataSet.enc (R45.setV (R45.outB dds))),row (.slice e2 (l1_ (R45.countS l.length) more).length e3) 9 1 (l1_ (R45.countS l.length) more).length ((l1_ (R45.countS l.length) more).map vS),mp vS m (dds.map R45.bindE),sH_ s rowsA rows.length rowsC calls] rfl trivial (fun _=>x_call ca85 rfl) (fun _ h=>(((((((h.front 5 _ rfl).front 5 _ rfl).front 5 _ rfl).front 4 _ rfl).front 4 _ rfl).front 6 _ rfl).front 6 _ rfl).keep [T_,T_,T_,T_,T_,T_,T_] rfl) lown_mem (fun w hS=>f85_ok x s parm m 0 false e2 ((l1_ (R45.countS l.length) more).length) e3 ch chA chC ch.length (Change.mk 2 ((R45.setV (R45.outB dds)).Id) [] (l.getD k []) []) w hy_ hy_ (hS.give lown_in)) ?_
       rintro _ _ ⟨e80,e81,rfl,rfl⟩
       refine z_ (kx_ (n_ (g_ (s_ (x_add_n (a:=k) (b:=1) rfl rfl om_) (s_ mv_ (z_ ?_))))))
       refine JX_round ((k+1,(ch++[(Change.mk 2 ((R45.setV (R45.outB dds)).Id) [] (l.getD k []) [])]),e80,e81,sl):Nat × (List Change) × (OA_) × Nat × Int) ?_ ?_ se_ (fun _ h=>((((((h.front 1 _ rfl).front 6 _ rfl).front 6 _ rfl).front 6 _ rfl).front 4 _ rfl).front 6 _ rfl).keep [T_,T_,T_,T_,T_,T_,F_] rfl)
       ·try dsimp only
        refine ⟨?_,?_,?_,?_⟩
        ·exact df_
        ·exact c45w0_
        ·exact df_
        ·exact df_
       ·try dsimp only
        first | omega | (simp;omega) | (simp_all;omega)
     ·refine J_exit (ne_ (re_ (kh_ (n_ (g_ ?_)))))
      refine s_ mv_ ?_
      refine JO_callP [x] [xE_ x s parm m [vI 0,vB false,vL chA ch.length chC,vL e2 ((l1_ (R45.countS l.length) more).length) e3]] [blk b6 24 (DataSet.enc (R45.setV (R45.outB dds))),row (.slice e2 (l1_ (R45.countS l.length) more).length e3) 9 1 (l1_ (R45.countS l.length) more).length ((l1_ (R45.countS l.length) more).map vS),mp vS m (dds.map R45.bindE),sH_ s rowsA rows.length rowsC calls,row (.slice chA ch.length chC) 60 5 ch.length (ch.flatMap Change.enc)] rfl trivial (fun _=>x_call ca90 rfl) (fun _ h=>((((((h.front 5 _ rfl).front 5 _ rfl).front 5 _ rfl).front 5 _ rfl).front 4 _ rfl).front 5 _ rfl).keep [T_,T_,T_,T_,T_,T_] rfl) (own_mem rfl) (fun w hS=>f90_ok x s parm m 0 false chA ch.length chC e2 ((l1_ (R45.countS l.length) more).length) e3 w  (hS.give (own_in rfl))) ?_ ?_
      ·rintro _ _ ⟨rfl,rfl,hp82⟩
       refine JX_pan [] (fun _ h=>h.keep [F_,F_,F_,F_,F_] rfl) (fun _ _ h=>h) ⟨[116,111,111,32,109,97,110,121,32,99,104,97,110,103,101,115],rfl,?_,?_⟩
       ·rfl
       ·exact c45w1_
      rintro _ _ ⟨rfl,rfl,hf83⟩
      refine z_ (JX_En ?_)
      refine JX_end0 results56 [xE_ x s parm m [vI 0,vB false,vL chA ch.length chC,vL e2 ((l1_ (R45.countS l.length) more).length) e3],mp vS m (dds.map R45.bindE),sH_ s rowsA rows.length rowsC calls,row (.slice chA ch.length chC) 60 5 ch.length (ch.flatMap Change.enc),row (.slice e2 (l1_ (R45.countS l.length) more).length e3) 9 1 (l1_ (R45.countS l.length) more).length ((l1_ (R45.countS l.length) more).map vS)] (fun _ h=>(((((h.front 2 _ rfl).front 5 _ rfl).front 5 _ rfl).front 5 _ rfl).front 4 _ rfl).keep [T_,T_,T_,T_,T_,F_] rfl) ⟨ch,chA,chC,(l1_ (R45.countS l.length) more),e2,e3,calls,?_,?_,?_,?_,?_⟩
      ·rfl
      ·rfl
      ·exact c45w2_
      ·rfl
      ·omega
end Go.Proofs.YtggobegaiijhhaaGreatDoor
