/- C44m, Ad45c, C45m, Pl44p, Pl45m, Pl45n in one text. -/
import Derived.Test.YtggobegaiijhhaaGreatDoorUtilityOnly29
set_option linter.unusedVariables false
set_option linter.unusedSimpArgs false
set_option maxRecDepth 20000
namespace Go.Proofs.YtggobegaiijhhaaGreatDoor
open Go.GV Go.Proofs.Tryz Ty
open Go.GV.Ent (blk row mp)
theorem c44m0_ {p:Prop} (h:p:=by rw [← R44.runsV_yes hg1.2.1 hg1.1 as_,List.length_map]):p:=h
set_option maxHeartbeats 4000000 in
theorem f108_ok (rs:LB_) (rsA:OA_) (rsC:Nat) (m:Int) (fan:Int) (l:List SortField) (lA:OA_) (lC:Nat) (w:World) (rsR:RO [] w rsA (rs.map vS)) (lR:RO [] w lA (l.flatMap SortField.enc)) (q0:rs.length≤1000000) (q1:∀ i,(rs.getD i []).length≤1000000) (q2:rs.length≤rsC) (q3:l.length≤9223372036854775807):Calls prog 108 #[vL rsA rs.length rsC,vG [vI m,vI fan],vL lA l.length lC,vG [Value.nilFunc,Value.nilFunc]] w (GivesW [] w fun v L wx=>∃ out:LB_,∃ outA:OA_,∃ outC:Nat,∃ v1:Int,∃ v2:Int,∃ v3:Int,∃ e:Int,v=Value.tuple #[vL outA out.length outC,vG [vI v1,vI v2,vI v3],vI e]∧L=[]∧RO (List.range w.heap.size) wx outA (out.map vS)∧out.length≤outC∧((out,SortWork.mk v1 v2 v3,e)=R44.sortV l m fan R44.idF R44.noF rs)):=by
 refine calls_JNW [] 120 func108 rfl ntmps108 [(0,_),(1,_),(2,_),(3,_)] rfl rfl (Give.nil w) ?_
 refine q_ (g_ (o_ (bxG fun b1=>?_)))
 refine o_ (bx1 fun b2=>?_)
 refine o_ (bxG fun b3=>?_)
 refine s_ av_ (o_ (al_ ze149 fun b4=>?_))
 refine s_ av_ (z_ (n_ (q_ (q_ (g_ (r_ (ld_ 2 sc138) (c0 (cl_ ca137) (fun w hS=>f137_ok l lA lC w (rno lR hS) hy_) (s_ (x_not rfl) (s_ mv_ ?_)))))))))
 refine or_ 3 (decide (m<1)) (fun g5=>?_) ?_
 ·have g5r:=g5
  have g5r:(R44.valid l)=true:=bnot_false g5r
  have hi6:=R44.valid_facts g5r
  refine sg_ g5 (fA 0 fi145_0) (rg_ g5 (ld_ 3 sc3) (sg_ g5 (x_lss_i rfl rfl) ?_))
  exact cr_
 refine s_ mv_ ?_
 refine or_ 3 (decide ((1024:Int)<m)) (fun g7=>?_) ?_
 ·have g7r:=g7
  have ⟨g7r,h8⟩:=bor_false g7r
  have g7r:(R44.valid l)=true:=bnot_false g7r
  have hi9:=R44.valid_facts g7r
  have h8:=of_ h8
  refine sg_ g7 (fA 0 fi145_0) (rg_ g7 (ld_ 3 sc3) (sg_ g7 (x_gtr_i rfl rfl) ?_))
  exact cr_
 refine s_ mv_ ?_
 refine or_ 3 (decide (fan<2)) (fun g10=>?_) ?_
 ·have g10r:=g10
  have ⟨g10r,h11⟩:=bor_false g10r
  have ⟨g10r,h12⟩:=bor_false g10r
  have g10r:(R44.valid l)=true:=bnot_false g10r
  have hi13:=R44.valid_facts g10r
  have h12:=of_ h12
  have h11:=of_ h11
  refine sg_ g10 (fA 1 fi145_1) (rg_ g10 (ld_ 3 sc3) (sg_ g10 (x_lss_i rfl rfl) ?_))
  exact cr_
 refine s_ mv_ ?_
 refine or_ 3 (decide ((16:Int)<fan)) (fun g14=>?_) ?_
 ·have g14r:=g14
  have ⟨g14r,h15⟩:=bor_false g14r
  have ⟨g14r,h16⟩:=bor_false g14r
  have ⟨g14r,h17⟩:=bor_false g14r
  have g14r:(R44.valid l)=true:=bnot_false g14r
  have hi18:=R44.valid_facts g14r
  have h17:=of_ h17
  have h16:=of_ h16
  have h15:=of_ h15
  refine sg_ g14 (fA 1 fi145_1) (rg_ g14 (ld_ 3 sc3) (sg_ g14 (x_gtr_i rfl rfl) ?_))
  exact cr_
 refine z_ (xk_ [0,5,6,7,8,9,10,41] ?_)
 refine n_ ?_
 refine if_ (fun h19=>?_) (fun h19=>?_)
 ·have h19w:=h19
  simp only [Bool.and_eq_true,Bool.or_eq_true,Bool.and_eq_false_iff,Bool.or_eq_false_iff,Bool.not_eq_true',Bool.not_eq_false',decide_eq_true_eq,decide_eq_false_iff_not] at h19
  refine q_ (g_ (js_ (vG [vI 0,vI 0,vI 0]) (x_build kf_) (s_ av_ (o_ (stG 0 sz149 ?_)))))
  refine s_ av_ (z_ (n_ (rt_ (nr_ ?_))))
  refine JX_retsMW ([]:List Nat) [_,_,_] (Value.tuple #[_,_,_]) rfl results108 [blk b4 149 [vI 0,vI 0,vI 0],blk b3 155 [Value.nilFunc,Value.nilFunc],blk b2 138 [vL lA l.length lC],blk b1 145 [vI m,vI fan]] i_ (fun w h=>⟨rfl,⟨_,rfl,load_blkN 0 [vI 0,vI 0,vI 0] h rfl ag149 sz149 rfl⟩,rfl,trivial⟩) rfl [] (fun _ h=>h.keep [F_,F_,F_,F_] rfl) (fun _ _ h=>h) (fun wx hw=>⟨([]:LB_),none,0,0,0,0,1,?_,?_,RO.nil,(Nat.zero_le _),?_⟩)
  ·have e_x0:(0:Nat)=(([]:LB_).length):=by exact df_
   exact congrArg (fun (x0:Nat)=>Value.tuple #[vL none x0 0,vG [vI 0,vI 0,vI 0],vI 1]) e_x0
  ·rfl
  ·first | exact R44.sv_1 as_ | exact R44.sv_2 as_ as_ | exact R44.sv_5 (fan:=(kf:Int)) as_ as_ (R44.inR_id as_) (by first | decide | assumption) (R44.one_row (m:=m.toNat) om_ om_ i1_0 om_).1 R44.sums_no (by first | decide | assumption) c44m0_ (R44.one_row (m:=m.toNat) om_ om_ i1_0 om_).2 (by first | rfl | omega) | exact R44.sv_5 (fan:=(kf:Int)) as_ as_ (R44.inR_id as_) (by first | decide | assumption) (R44.one_none om_ (R44.one_row (m:=m.toNat) om_ om_ i1_0 om_).1) R44.sums_no (by first | decide | assumption) c44m0_ (R44.one_row (m:=m.toNat) om_ om_ i1_0 om_).2 (by first | rfl | omega)
 ·have h19w:=h19
  have ⟨h19,h20⟩:=bor_false h19
  have ⟨h19,h21⟩:=bor_false h19
  have ⟨h19,h22⟩:=bor_false h19
  have ⟨h19,h23⟩:=bor_false h19
  have h19:(R44.valid l)=true:=bnot_false h19
  have hi24:=R44.valid_facts h19
  have h23:=of_ h23
  have h22:=of_ h22
  have h21:=of_ h21
  have h20:=of_ h20
  obtain ⟨kf,rfl⟩:∃ kf:Nat,fan=(kf:Int):=⟨fan.toNat,by omega⟩
  have hg1:=R44.g1_facts (l:=l) (m:=m) (fan:=(kf:Int)) as_
  refine sk_ (n_ (q_ (q_ (g_ (s_ mv_ (s_ (lnS underlying25) (s_ (x_gtr_i rfl rfl) (s_ mv_ ?_))))))))
  refine or_ 2 (R44.long rs) (fun g25=>?_) ?_
  ·have g25r:=g25
   have g25r:=of_ g25r
   refine sg_ g25 mv_ (c0g g25 (cl_ ca141) (fun w hS=>f141_ok rs rsA rsC w (rno rsR hS) hy_ (by first | assumption | exact fun i=>Nat.le_trans (q1 i) dd_)) ?_)
   exact cr_
  refine z_ (n_ ?_)
  refine if_ (fun h26=>?_) (fun h26=>?_)
  ·have h26w:=h26
   simp only [Bool.and_eq_true,Bool.or_eq_true,Bool.and_eq_false_iff,Bool.or_eq_false_iff,Bool.not_eq_true',Bool.not_eq_false',decide_eq_true_eq,decide_eq_false_iff_not] at h26
   refine q_ (g_ (js_ (vG [vI 0,vI 0,vI 0]) (x_build kf_) (s_ av_ (o_ (stG 0 sz149 ?_)))))
   refine s_ av_ (z_ (n_ (rt_ (nr_ ?_))))
   refine JX_retsMW ([]:List Nat) [_,_,_] (Value.tuple #[_,_,_]) rfl results108 [blk b4 149 [vI 0,vI 0,vI 0],blk b3 155 [Value.nilFunc,Value.nilFunc],blk b2 138 [vL lA l.length lC],blk b1 145 [vI m,vN kf]] i_ (fun w h=>⟨rfl,⟨_,rfl,load_blkN 0 [vI 0,vI 0,vI 0] h rfl ag149 sz149 rfl⟩,rfl,trivial⟩) rfl [] (fun _ h=>h.keep [F_,F_,F_,F_] rfl) (fun _ _ h=>h) (fun wx hw=>⟨([]:LB_),none,0,0,0,0,8,?_,?_,RO.nil,(Nat.zero_le _),?_⟩)
   ·have e_x0:(0:Nat)=(([]:LB_).length):=by exact df_
    exact congrArg (fun (x0:Nat)=>Value.tuple #[vL none x0 0,vG [vI 0,vI 0,vI 0],vI 8]) e_x0
   ·rfl
   ·first | exact R44.sv_1 as_ | exact R44.sv_2 as_ as_ | exact R44.sv_5 (fan:=(kf:Int)) as_ as_ (R44.inR_id as_) (by first | decide | assumption) (R44.one_row (m:=m.toNat) om_ om_ i1_0 om_).1 R44.sums_no (by first | decide | assumption) c44m0_ (R44.one_row (m:=m.toNat) om_ om_ i1_0 om_).2 (by first | rfl | omega) | exact R44.sv_5 (fan:=(kf:Int)) as_ as_ (R44.inR_id as_) (by first | decide | assumption) (R44.one_none om_ (R44.one_row (m:=m.toNat) om_ om_ i1_0 om_).1) R44.sums_no (by first | decide | assumption) c44m0_ (R44.one_row (m:=m.toNat) om_ om_ i1_0 om_).2 (by first | rfl | omega)
  ·have h26w:=h26
   have ⟨h26,h27⟩:=bor_false h26
   have h26:=of_ h26
   have hi28:=R44.long_facts h27
   refine sk_ (n_ (q_ (g_ (s_ mv_ (s_ (fA 0 fi155_0) (r_ (ld_ 1 sc152) ?_))))))
   refine c1 (cl_ ca143) (fun w hS=>f143_ok rs rsA rsC w (rno rsR hS) hy_ hy_) ?_
   rintro _ _ ⟨e29,e30,rfl,rfl⟩
   refine s_ mv_ (s_ (ex_ 0) (s_ (ex_ 1) (s_ (ex_ 2) (s_ av_ (s_ av_ (s_ av_ (z_ (xk_ [0,5,6,7,8,9,10,11,12] ?_))))))))
   refine n_ (q_ (q_ (g_ (s_ mv_ (jr_ (vB false) (z_ (n_ (iff_ (sk_ (n_ (q_ (g_ (s_ mv_ (s_ (fA 0 fi145_0) (r_ (ld_ 4 sc3) (r_ (ld_ 3 sc138) ?_))))))))))))))))
   refine JO_callB [] [] [row (.slice e29 rs.length e30) 9 1 rs.length (rs.map vS),blk b4 149 [vI 0,vI 0,vI 0],blk b3 155 [Value.nilFunc,Value.nilFunc],blk b2 138 [vL lA l.length lC],blk b1 145 [vI m,vN kf]] rfl trivial (fun _=>x_call ca144 rfl) i_ (fun _ h=>by cases h) (fun w hS=>f144_ok rs e29 e30 m l lA lC w (RO.of_row hS 0 rfl) (lR.on hS (fun _ h=>by cases h)) hy_ hy_ (by first | omega | assumption | exact row_le (hS.mem (j:=0) rfl) | exact row_le (hS.mem (j:=1) rfl) | exact row_le (hS.mem (j:=2) rfl) | exact row_le (hS.mem (j:=3) rfl) | exact row_le (hS.mem (j:=4) rfl) | exact row_le (hS.mem (j:=5) rfl)) hy_) ?_
   rintro wc _ _ wbhB32 ⟨rout,routA,routC,rfl,rfl,routR,routL,routN,routK,hf31⟩ hc0 hB32
   have rsR:=rsR.again hB32
   have lR:=lR.again hB32
   have routR0:=routR.mono (lown_rangeF (w00:=w) hc0 hc0.fr.size)
   have routN0:=fun i=>(routN i).mono (lown_rangeF (w00:=w) hc0 hc0.fr.size)
   have routR:=routR.mono (lown_range hc0)
   have routN:=fun i=>(routN i).mono (lown_range hc0)
   refine s_ av_ (z_ (n_ (q_ (g_ (s_ mv_ (s_ (lnS underlying102) (s_ mv_ (js_ (vG [vN rout.length,vI 0,vI 0]) (x_build kf_) (o_ (al_ ze149 fun b33=>?_))))))))))
   refine o_ (stG 0 sz149 ?_)
   refine z_ (xk_ [5,6,7,8,9,10,12,13,14] ?_)
   refine n_ (q_ (k_ ?_))
   refine J_loopM (X:=(List Rw) × (OA_) × Nat × Nat × (List Nat)) (fun (⟨runs,runsA,runsC,np,Ds⟩:(List Rw) × (OA_) × Nat × Nat × (List Nat))=>Ds) (fun (⟨runs,runsA,runsC,np,Ds⟩:(List Rw) × (OA_) × Nat × Nat × (List Nat))=>(R44.PassJ (R44.cmpL l) kf (Srt.runs (R44.cmpL l) m.toNat rs) (runs.map Rw.s) np)) (fun (⟨runs,runsA,runsC,np,Ds⟩:(List Rw) × (OA_) × Nat × Nat × (List Nat)) wx=>RO (Lown (blk b33 149 [vN rout.length,vN np,vI 0]::blk b4 149 [vI 0,vI 0,vI 0]::blk b3 155 [Value.nilFunc,Value.nilFunc]::blk b2 138 [vL lA l.length lC]::blk b1 145 [vI m,vN kf]::(Ds.map dfr))++List.range w.heap.size) wx runsA (runs.flatMap Rw.enc)∧runs.length≤runsC∧(∀ i:Nat,RO (Lown (blk b33 149 [vN rout.length,vN np,vI 0]::blk b4 149 [vI 0,vI 0,vI 0]::blk b3 155 [Value.nilFunc,Value.nilFunc]::blk b2 138 [vL lA l.length lC]::blk b1 145 [vI m,vN kf]::(Ds.map dfr))++List.range w.heap.size) wx (runs.getD i default).sA (((runs.getD i default).s).map vS))∧(∀ i:Nat,(runs.getD i default).s.length≤(runs.getD i default).sC)) (fun (⟨runs,runsA,runsC,np,Ds⟩:(List Rw) × (OA_) × Nat × Nat × (List Nat))=>[(5,pB b1 0),(6,pB b2 0),(7,pB b3 0),(8,vL none 0 0),(9,pB b4 0),(10,vI 0),(12,vI 0),(13,vL runsA runs.length runsC),(14,pB b33 0)]) (fun (⟨runs,runsA,runsC,np,Ds⟩:(List Rw) × (OA_) × Nat × Nat × (List Nat))=>(blk b33 149 [vN rout.length,vN np,vI 0]::blk b4 149 [vI 0,vI 0,vI 0]::blk b3 155 [Value.nilFunc,Value.nilFunc]::blk b2 138 [vL lA l.length lC]::blk b1 145 [vI m,vN kf]::(Ds.map dfr))) (fun (⟨runs,runsA,runsC,np,Ds⟩:(List Rw) × (OA_) × Nat × Nat × (List Nat))=>runs.length) ((rout,routA,routC,0,([]:List Nat)):(List Rw) × (OA_) × Nat × Nat × (List Nat)) ?_ rfl se_ (fun _ h=>h.keep [T_,F_,T_,T_,T_,T_] rfl) (fun wx hw=>⟨(routR0.againF (hw.keep [T_,F_,T_,T_,T_,T_] rfl)),routL,(fun i=>(routN0 i).againF (hw.keep [T_,F_,T_,T_,T_,T_] rfl)),routK⟩) ?_
   ·try dsimp only
    exact R44.PassJ.start_of (R44.runsV_yes hg1.2.1 hg1.1 as_)
   rintro ⟨runs,runsA,runsC,np,Ds⟩ wb1 hI1 hW1 hB1
   have rsR:=rsR.again hB1
   have lR:=lR.again hB1
   have routR0:=routR0.againF hB1
   have routR:=routR.again hB1
   have routN0:=fun i=>(routN0 i).againF hB1
   have routN:=fun i=>(routN i).again hB1
   obtain ⟨runsR0,runsL,runsN0,runsK⟩:=hW1
   have runsR:=runsR0.fromF
   have runsN:=fun i=>(runsN0 i).fromF
   have i1_0:=hI1
   try dsimp only at i1_0
   have hcv:=R44.cmpL_ok l
   have hpb:=R44.pass_bounds om_ om_ i1_0 q0 q1
   have hil:=R44.inner_len (lists:=runs) 0
   try dsimp only
   refine q_ (q_ (g_ (s_ mv_ (s_ (lnS underlying102) (s_ (x_gtr_i rfl rfl) (z_ (n_ ?_)))))))
   refine ifd (fun h34w h34=>?_) (fun h34w h34=>?_)
   ·refine sk_ (n_ (k_ (q_ (g_ (o_ (al_ ze102 fun b35=>?_))))))
    refine z_ (n_ (q_ (q_ (g_ (s_ mv_ (s_ (fA 1 fi145_1) (r_ (ld_ 5 sc3) ?_)))))))
    refine c1 (cl_ ca145) (fun w hS=>f145_ok runs _ _ kf w (rno runsR hS) (fun i=>(runsN i).on hS (fun _ h=>by cases h)) hy_ hy_) ?_
    rintro _ _ ⟨bp36,bq37,rfl,rfl⟩
    refine z_ (n_ (k_ ?_))
    refine J_rangeFunc (n:=_) (gf:=170) (lb:=[pB bp36 0,pB bq37 0]) (enc:=Part.enc) (xs:=(R44.parts kf runs runsA)) (fun (pre:List Part) (⟨next,nextA,nextC⟩:(List Rw) × (OA_) × Nat)=>(next.map Rw.s=pre.map (fun p=>R44.mergeV l (p.s.map Rw.s)))) (fun (_:List Part) (⟨next,nextA,nextC⟩:(List Rw) × (OA_) × Nat)=>(blk b35 102 [vL nextA next.length nextC]::blk b33 149 [vN rout.length,vN np,vI 0]::blk b4 149 [vI 0,vI 0,vI 0]::blk b3 155 [Value.nilFunc,Value.nilFunc]::blk b2 138 [vL lA l.length lC]::blk b1 145 [vI m,vN kf]::row (.slice nextA next.length nextC) 25 1 next.length (next.flatMap Rw.enc)::(next.map (RwE 9)++(Ds.map dfr)))) ((([]:List Rw),none,0):(List Rw) × (OA_) × Nat) [blk bp36 102 [vL runsA runs.length runsC],blk bq37 3 [vN kf]] rfl rfl rfl ca170 (ps_ rfl) (fun _=>rfl) (fun _ h=>(((((((((h.nilrow 25 1).front 8 _ rfl).front 8 _ rfl).front 8 _ rfl).front 8 _ rfl).front 8 _ rfl).front 8 _ rfl).front 8 _ rfl).front 8 _ rfl).keepN 9 [T_,T_,T_,T_,T_,T_,T_,T_,T_] rfl) ?_ ?_ ?_
    ·intro wi39 li40 di41 ri42 hold43 hg44 hY45
     refine it_done (I:=(fun (pre:List Part) (⟨next,nextA,nextC⟩:(List Rw) × (OA_) × Nat)=>(next.map Rw.s=pre.map (fun p=>R44.mergeV l (p.s.map Rw.s))))) (Lf:=LF li40 di41 ri42 (fun (_:List Part) (⟨next,nextA,nextC⟩:(List Rw) × (OA_) × Nat)=>(blk b35 102 [vL nextA next.length nextC]::blk b33 149 [vN rout.length,vN np,vI 0]::blk b4 149 [vI 0,vI 0,vI 0]::blk b3 155 [Value.nilFunc,Value.nilFunc]::blk b2 138 [vL lA l.length lC]::blk b1 145 [vI m,vN kf]::row (.slice nextA next.length nextC) 25 1 next.length (next.flatMap Rw.enc)::(next.map (RwE 9)++(Ds.map dfr))))) ?_
     exact f170_ok li40 _ _ _ _ bp36 bq37 runs runsA runsC kf _ (runsR.old hold43) (fun i=>(runsN i).old hold43) hY45 rfl om_ om_ om_ om_ hg44
    ·rintro wi46 li40 di41 ri42 pre ⟨ps,psA,psC⟩ rest48 ⟨next,nextA,nextC⟩ hp49 hI50 hold43
     have i2_0:=hI50
     try dsimp only at i2_0
     have rsR:=rsR.old hold43
     have lR:=lR.old hold43
     have routR:=routR.old hold43
     have runsR:=runsR.old hold43
     have routN:=fun i=>(routN i).old hold43
     have runsN:=fun i=>(runsN i).old hold43
     have hpl:=R44.part_pre hp49
     have hnl:=R44.map_lens i2_0
     have hp0:=R44.part_len hp49 hpb.1
     have hp1:=R44.part_short hp49 hpb.2.2.1
     have hp2:=R44.part_cap hp49 runsK
     have hp3:=R44.part_flat hp49 hpb.2.1
     have psR:=R44.part_ro hp49 runsR
     have psN:=R44.part_ron hp49 runsN
     refine J_weaken (E':=[(6,pB b2 0),(15,pB b35 0),(79,vL psA ps.length psC)]) (L':=(Ent.obj li40 (lp ri42 .ready)::dfr di41::blk b35 102 [vL nextA next.length nextC]::blk b33 149 [vN rout.length,vN np,vI 0]::blk b4 149 [vI 0,vI 0,vI 0]::blk b3 155 [Value.nilFunc,Value.nilFunc]::blk b2 138 [vL lA l.length lC]::blk b1 145 [vI m,vN kf]::row (.slice nextA next.length nextC) 25 1 next.length (next.flatMap Rw.enc)::(next.map (RwE 9)++(Ds.map dfr)))) ⟨rfl,rfl,rfl,trivial⟩ i_ ?_
     refine g_ (s_ av_ (z_ (JX_begin (k_ ?_))))
     refine drU (Ent.obj li40 (lp ri42 .busy)::dfr di41::blk b33 149 [vN rout.length,vN np,vI 0]::blk b4 149 [vI 0,vI 0,vI 0]::blk b3 155 [Value.nilFunc,Value.nilFunc]::blk b2 138 [vL lA l.length lC]::blk b1 145 [vI m,vN kf]::(Ds.map dfr)) [5,6] 7 mixed ?_
     refine je_ 0 (vL nextA next.length nextC) rfl (x_load 2 rfl rfl sc102 rfl) ?_
     refine jp_ 1 rfl mv_ (jq_ 2 rfl (ld_ 5 sc138) (j1_ 3 ?_ (fun _ h=>⟨(drop_seg 9 (G:=next.map (RwE 9)) h rfl).keepN 9 [T_,T_,F_,T_,T_,T_,T_,T_,F_] rfl,fun _=>h⟩)))
     refine jc1_ rfl (cl_ ca100) (fun w hS=>f100_ok ps psA psC l lA lC w (rno psR hS) (fun i=>(psN i).on hS (fun _ h=>by cases h)) (rno lR hS) hy_ hy_ hy_ hy_ hy_) ?_
     rintro _ _ ⟨e51,e52,rfl,rfl⟩
     refine j1_ 4 (jio_ rfl (O_buildSlice (cs:=[vL e51 ((R44.mergeV l (ps.map Rw.s)).length) e52]) underlying102 sz25 ze25 dd_ dd_ kf_ fun b54=>?_)) (fun _ h=>⟨(drop_seg 10 (G:=next.map (RwE 9)) h rfl).keepN 10 [F_,T_,T_,F_,T_,T_,T_,T_,T_,F_] rfl,fun _=>h.keepN 10 [F_,T_,T_,T_,T_,T_,T_,T_,T_,T_] rfl⟩)
     refine j1_ 5 (jio_ rfl (O_append_f 10 Rw.enc 1 next [(Rw.mk (R44.mergeV l (ps.map Rw.s)) e51 e52)] underlying102 sz25 by25 ze25 rfl dd_ rfl rfl rfl rfl Rw.enc_len Rw.enc_one (cells_blk 0 (off:=0) (m:=1) rfl rfl) lt_ lt_ fun A57 c58=>?_)) (fun _ h=>⟨(drop_seg 11 (G:=next.map (RwE 9)) h rfl).keepN 11 [F_,F_,T_,T_,F_,T_,T_,T_,T_,T_,F_] rfl,fun _=>h.keepN 11 [F_,F_,T_,T_,T_,T_,T_,T_,T_,T_,T_] rfl⟩)
     refine JA_weaken (E':=[(6,pB b2 0),(15,pB b35 0),(79,vL psA ps.length psC),(16,vL psA ps.length psC),(80,vL nextA next.length nextC),(81,vL psA ps.length psC),(82,vL lA l.length lC),(83,vL e51 ((R44.mergeV l (ps.map Rw.s)).length) e52),(84,vL (some ⟨b54,0,none⟩) 1 1),(85,vL A57 ((next++[(Rw.mk (R44.mergeV l (ps.map Rw.s)) e51 e52)]).length) c58)]) (L':=(blk b54 25 [vL e51 ((R44.mergeV l (ps.map Rw.s)).length) e52]::Ent.obj li40 (lp ri42 .busy)::dfr di41::blk b35 102 [vL nextA next.length nextC]::blk b33 149 [vN rout.length,vN np,vI 0]::blk b4 149 [vI 0,vI 0,vI 0]::blk b3 155 [Value.nilFunc,Value.nilFunc]::blk b2 138 [vL lA l.length lC]::blk b1 145 [vI m,vN kf]::row (.slice A57 (next++[(Rw.mk (R44.mergeV l (ps.map Rw.s)) e51 e52)]).length c58) 25 1 (next++[(Rw.mk (R44.mergeV l (ps.map Rw.s)) e51 e52)]).length ((next++[(Rw.mk (R44.mergeV l (ps.map Rw.s)) e51 e52)]).flatMap Rw.enc)::((next++[(Rw.mk (R44.mergeV l (ps.map Rw.s)) e51 e52)]).map (RwE 9)++(Ds.map dfr)))) se_ (fun _ h=>(seg_snoc 10 (X:=next) (f:=RwE 9) (x:=(Rw.mk (R44.mergeV l (ps.map Rw.s)) e51 e52)) (h.front 1 _ rfl) rfl rfl)) ?_
     refine j1_ 6 (jio_ rfl (st1 3 sz102 ?_)) (gl_ rfl (fun _ h=>(drop_seg 10 (G:=(next++[(Rw.mk (R44.mergeV l (ps.map Rw.s)) e51 e52)]).map (RwE 9)) h rfl).keepN 10 [F_,T_,T_,F_,T_,T_,T_,T_,T_,F_] rfl))
     refine JA_done kf_ (gl_ rfl (fun _ h=>(drop_seg 10 (G:=(next++[(Rw.mk (R44.mergeV l (ps.map Rw.s)) e51 e52)]).map (RwE 9)) h rfl).keepN 10 [F_,T_,T_,F_,T_,T_,T_,T_,T_,F_] rfl)) ?_
     refine kx_ ?_
     refine JX_end (dfr di41::blk b35 102 [vL A57 ((next++[(Rw.mk (R44.mergeV l (ps.map Rw.s)) e51 e52)]).length) c58]::blk b33 149 [vN rout.length,vN np,vI 0]::blk b4 149 [vI 0,vI 0,vI 0]::blk b3 155 [Value.nilFunc,Value.nilFunc]::blk b2 138 [vL lA l.length lC]::blk b1 145 [vI m,vN kf]::row (.slice A57 (next++[(Rw.mk (R44.mergeV l (ps.map Rw.s)) e51 e52)]).length c58) 25 1 (next++[(Rw.mk (R44.mergeV l (ps.map Rw.s)) e51 e52)]).length ((next++[(Rw.mk (R44.mergeV l (ps.map Rw.s)) e51 e52)]).flatMap Rw.enc)::((next++[(Rw.mk (R44.mergeV l (ps.map Rw.s)) e51 e52)]).map (RwE 9)++(Ds.map dfr))) (fun _ h=>h.keepN 10 [F_,T_,T_,T_,T_,T_,T_,T_,T_,T_] rfl) (fun w hS=>⟨rfl,((next++[(Rw.mk (R44.mergeV l (ps.map Rw.s)) e51 e52)],A57,c58):(List Rw) × (OA_) × Nat),?_,hS⟩)
     try dsimp only
     rw [List.map_append,List.map_append,i2_0];rfl
    ·rintro D59 ⟨next,nextA,nextC⟩ hI50
     have i2_0:=hI50
     try dsimp only at i2_0
     try dsimp only
     refine kx_ (n_ (q_ (g_ (r_ (ld_ 1 sc102) (s_ av_ (z_ (n_ (g_ (s_ (fA 1 fi149_1) (r_ (ld_ 2 sc3) (s_ (x_add_n (a:=np) (b:=1) rfl rfl om_) (s_ (fA 1 fi149_1) (o_ (st1 2 sz3 ?_))))))))))))))
     refine z_ (kx_ ?_)
     refine JX_roundM ((next,nextA,nextC,np+1,(D59::Ds)):(List Rw) × (OA_) × Nat × Nat × (List Nat)) ?_ ?_ rfl se_ (fun _ _ h=>(hB1.back _ _ h)) (fun _ h=>(mark_tail 7 (G:=[]) (drop_seg 8 (G:=next.map (RwE 9)) h rfl) rfl).keepN 7 [F_,T_,T_,T_,T_,T_,F_] rfl) (fun wx hw=>⟨(RO.of_rowF (Lc:=(blk b33 149 [vN rout.length,vI (((np+1):Nat):Int),vI 0]::blk b4 149 [vI 0,vI 0,vI 0]::blk b3 155 [Value.nilFunc,Value.nilFunc]::blk b2 138 [vL lA l.length lC]::blk b1 145 [vI m,vN kf]::((D59::Ds).map dfr))) (Lr:=row (.slice nextA next.length nextC) 25 1 next.length (next.flatMap Rw.enc)::next.map (RwE 9)) (split_last 5 (M:=(blk b33 149 [vN rout.length,vI (((np+1):Nat):Int),vI 0]::blk b4 149 [vI 0,vI 0,vI 0]::blk b3 155 [Value.nilFunc,Value.nilFunc]::blk b2 138 [vL lA l.length lC]::blk b1 145 [vI m,vN kf]::(next.map (RwE 9)++((D59::Ds).map dfr)))) (G:=next.map (RwE 9)) (T:=((D59::Ds).map dfr)) ((((((((mark_tail 7 (G:=next.map (RwE 9)) hw rfl).front 5 _ rfl).front 5 _ rfl).front 5 _ rfl).front 5 _ rfl).front 5 _ rfl).front 6 _ rfl).keepN 7 [T_,T_,T_,T_,T_,T_,F_] rfl) rfl) (hB32.back _ _ (hB1.back _ _ (split_last 5 (M:=(blk b33 149 [vN rout.length,vI (((np+1):Nat):Int),vI 0]::blk b4 149 [vI 0,vI 0,vI 0]::blk b3 155 [Value.nilFunc,Value.nilFunc]::blk b2 138 [vL lA l.length lC]::blk b1 145 [vI m,vN kf]::(next.map (RwE 9)++((D59::Ds).map dfr)))) (G:=next.map (RwE 9)) (T:=((D59::Ds).map dfr)) ((((((((mark_tail 7 (G:=next.map (RwE 9)) hw rfl).front 5 _ rfl).front 5 _ rfl).front 5 _ rfl).front 5 _ rfl).front 5 _ rfl).front 6 _ rfl).keepN 7 [T_,T_,T_,T_,T_,T_,F_] rfl) rfl))) 0 rfl),(row_le ((split_last 5 (M:=(blk b33 149 [vN rout.length,vI (((np+1):Nat):Int),vI 0]::blk b4 149 [vI 0,vI 0,vI 0]::blk b3 155 [Value.nilFunc,Value.nilFunc]::blk b2 138 [vL lA l.length lC]::blk b1 145 [vI m,vN kf]::(next.map (RwE 9)++((D59::Ds).map dfr)))) (G:=next.map (RwE 9)) (T:=((D59::Ds).map dfr)) ((((((((mark_tail 7 (G:=next.map (RwE 9)) hw rfl).front 5 _ rfl).front 5 _ rfl).front 5 _ rfl).front 5 _ rfl).front 5 _ rfl).front 6 _ rfl).keepN 7 [T_,T_,T_,T_,T_,T_,F_] rfl) rfl).hold _ (List.mem_append_right _ List.mem_cons_self))),(ron_segF (Lc:=(blk b33 149 [vN rout.length,vI (((np+1):Nat):Int),vI 0]::blk b4 149 [vI 0,vI 0,vI 0]::blk b3 155 [Value.nilFunc,Value.nilFunc]::blk b2 138 [vL lA l.length lC]::blk b1 145 [vI m,vN kf]::((D59::Ds).map dfr))) (Lr:=row (.slice nextA next.length nextC) 25 1 next.length (next.flatMap Rw.enc)::next.map (RwE 9)) (X:=next) (t:=9) (split_last 5 (M:=(blk b33 149 [vN rout.length,vI (((np+1):Nat):Int),vI 0]::blk b4 149 [vI 0,vI 0,vI 0]::blk b3 155 [Value.nilFunc,Value.nilFunc]::blk b2 138 [vL lA l.length lC]::blk b1 145 [vI m,vN kf]::(next.map (RwE 9)++((D59::Ds).map dfr)))) (G:=next.map (RwE 9)) (T:=((D59::Ds).map dfr)) ((((((((mark_tail 7 (G:=next.map (RwE 9)) hw rfl).front 5 _ rfl).front 5 _ rfl).front 5 _ rfl).front 5 _ rfl).front 5 _ rfl).front 6 _ rfl).keepN 7 [T_,T_,T_,T_,T_,T_,F_] rfl) rfl) (hB32.back _ _ (hB1.back _ _ (split_last 5 (M:=(blk b33 149 [vN rout.length,vI (((np+1):Nat):Int),vI 0]::blk b4 149 [vI 0,vI 0,vI 0]::blk b3 155 [Value.nilFunc,Value.nilFunc]::blk b2 138 [vL lA l.length lC]::blk b1 145 [vI m,vN kf]::(next.map (RwE 9)++((D59::Ds).map dfr)))) (G:=next.map (RwE 9)) (T:=((D59::Ds).map dfr)) ((((((((mark_tail 7 (G:=next.map (RwE 9)) hw rfl).front 5 _ rfl).front 5 _ rfl).front 5 _ rfl).front 5 _ rfl).front 5 _ rfl).front 6 _ rfl).keepN 7 [T_,T_,T_,T_,T_,T_,F_] rfl) rfl))) (fun _ h=>List.mem_cons_of_mem _ h)),(cap_seg (X:=next) (t:=9) (split_last 5 (M:=(blk b33 149 [vN rout.length,vI (((np+1):Nat):Int),vI 0]::blk b4 149 [vI 0,vI 0,vI 0]::blk b3 155 [Value.nilFunc,Value.nilFunc]::blk b2 138 [vL lA l.length lC]::blk b1 145 [vI m,vN kf]::(next.map (RwE 9)++((D59::Ds).map dfr)))) (G:=next.map (RwE 9)) (T:=((D59::Ds).map dfr)) ((((((((mark_tail 7 (G:=next.map (RwE 9)) hw rfl).front 5 _ rfl).front 5 _ rfl).front 5 _ rfl).front 5 _ rfl).front 5 _ rfl).front 6 _ rfl).keepN 7 [T_,T_,T_,T_,T_,T_,F_] rfl) rfl) (fun _ h=>List.mem_append_right _ (List.mem_cons_of_mem _ h)))⟩)
     ·try dsimp only
      exact R44.pass_next hcv om_ i1_0 om_ hg1.1 i2_0
     ·try dsimp only
      exact R44.pass_dec om_ om_ hg1.1 i2_0
   ·refine J_exit (ne_ (JX_roundM_exit (kh_ (n_ (q_ ?_)))))
    refine g_ (s_ av_ (z_ (n_ (q_ (q_ (g_ (s_ mv_ (s_ (lnS underlying102) (s_ (x_gtr_i rfl rfl) (z_ (n_ ?_)))))))))))
    refine ifd (fun h60w h60=>?_) (fun h60w h60=>?_)
    ·refine g_ (s_ mv_ (r_ (ixF (k:=0) Rw.enc_len (cells_ro runsR) underlying102 sz25) (r_ (ldF (k:=0) 0 Rw.enc_len (cells_ro runsR) sc25) (s_ av_ (z_ (n_ (q_ (g_ (s_ mv_ (r_ (ld_ 3 sc138) (s_ (fA 1 fi155_1) (r_ (ld_ 2 sc153) ?_))))))))))))
     refine c0 (cl_ ca146) (fun w hS=>f146_ok _ _ _ l lA lC w (rno (runsN 0) hS) (rno lR hS)) (s_ mv_ (s_ (ex_ 0) (s_ (ex_ 1) (s_ av_ (s_ av_ (z_ (xk_ [8,9,10,12,14,17,18] ?_)))))))
     refine n_ (q_ (q_ (g_ (s_ mv_ (jr_ (vB false) (z_ (n_ (iff_ (sk_ (n_ (q_ (g_ (s_ (fA 2 fi149_2) (r_ (ld_ 0 sc3) (s_ mv_ (s_ (lnS underlying25) (s_ mv_ ?_)))))))))))))))))
     refine s_ (lnS underlying25) (s_ (x_sub_i (a:=(((runs.getD 0 default).s.length:Nat):Int)) (b:=((((runs.getD 0 default).s).length:Nat):Int)) rfl rfl om_ om_) (s_ (x_add_i (a:=0) (b:=(((runs.getD 0 default).s.length:Nat):Int)-((((runs.getD 0 default).s).length:Nat):Int)) rfl rfl om_ om_) (s_ (fA 2 fi149_2) (o_ (st1 0 sz3 ?_)))))
     refine z_ (n_ (q_ ?_))
     refine drU (blk b33 149 [vN rout.length,vN np,vI (0+((((runs.getD 0 default).s.length:Nat):Int)-((((runs.getD 0 default).s).length:Nat):Int)))]::blk b3 155 [Value.nilFunc,Value.nilFunc]::blk b2 138 [vL lA l.length lC]::blk b1 145 [vI m,vN kf]::(Ds.map dfr)) [3] 5 mixed ?_
     refine jp_ 0 rfl mv_ (jq_ 1 rfl (ldN 0 [vN rout.length,vN np,vI (0+((((runs.getD 0 default).s.length:Nat):Int)-((((runs.getD 0 default).s).length:Nat):Int)))] ag149 sz149) (jp_ 2 rfl av_ (j1_ 3 (jio_ rfl (stG 1 sz149 ?_)) (fun _ h=>⟨h.keepN 5 [T_,F_,T_,T_,T_] rfl,fun _=>h⟩))))
     refine jp_ 4 rfl av_ ?_
     refine JA_done kf_ (gl_ rfl (fun _ h=>h.keepN 5 [T_,F_,T_,T_,T_] rfl)) ?_
     refine n_ (rt_ ?_)
     refine JX_retsMW Ds [_,_,_] (Value.tuple #[_,_,_]) rfl results108 [blk b33 149 [vN rout.length,vN np,vI (0+((((runs.getD 0 default).s.length:Nat):Int)-((((runs.getD 0 default).s).length:Nat):Int)))],blk b4 149 [vN rout.length,vN np,vI (0+((((runs.getD 0 default).s.length:Nat):Int)-((((runs.getD 0 default).s).length:Nat):Int)))],blk b3 155 [Value.nilFunc,Value.nilFunc],blk b2 138 [vL lA l.length lC],blk b1 145 [vI m,vN kf]] (fun _ h=>tail_front 5 h rfl) (fun w h=>⟨rfl,⟨_,rfl,load_blkN 1 [vN rout.length,vN np,vI (0+((((runs.getD 0 default).s.length:Nat):Int)-((((runs.getD 0 default).s).length:Nat):Int)))] h rfl ag149 sz149 rfl⟩,rfl,trivial⟩) rfl [] (fun _ h=>h.keep [F_,F_,F_,F_,F_] rfl) (fun _ _ h=>(hB32.back _ _ (hB1.back _ _ h))) (fun wx hw=>⟨(runs.getD 0 default).s,((runs.getD 0 default).sA),((runs.getD 0 default).sC),((rout.length:Nat):Int),((np:Nat):Int),0+((((runs.getD 0 default).s.length:Nat):Int)-((((runs.getD 0 default).s).length:Nat):Int)),0,?_,?_,((runsN0 0).againF hw).freshF,(by first | assumption | exact runsK 0),?_⟩)
     ·rfl
     ·rfl
     ·first | exact R44.sv_1 as_ | exact R44.sv_2 as_ as_ | exact R44.sv_5 (fan:=(kf:Int)) as_ as_ (R44.inR_id as_) (by first | decide | assumption) (R44.one_row (m:=m.toNat) om_ om_ i1_0 om_).1 R44.sums_no (by first | decide | assumption) c44m0_ (R44.one_row (m:=m.toNat) om_ om_ i1_0 om_).2 (by first | rfl | omega) | exact R44.sv_5 (fan:=(kf:Int)) as_ as_ (R44.inR_id as_) (by first | decide | assumption) (R44.one_none om_ (R44.one_row (m:=m.toNat) om_ om_ i1_0 om_).1) R44.sums_no (by first | decide | assumption) c44m0_ (R44.one_row (m:=m.toNat) om_ om_ i1_0 om_).2 (by first | rfl | omega)
    ·refine sk_ (n_ (q_ (g_ (s_ mv_ (r_ (ld_ 3 sc138) (s_ (fA 1 fi155_1) (r_ (ld_ 2 sc153) (c0 (cl_ ca146) (fun w hS=>f146_ok ([]:LB_) none 0 l lA lC w RO.nil (rno lR hS)) (s_ mv_ (s_ (ex_ 0) (s_ (ex_ 1) (s_ av_ ?_))))))))))))
     refine s_ av_ (z_ (xk_ [8,9,10,12,14,17,18] ?_))
     refine n_ (q_ (q_ (g_ (s_ mv_ (jr_ (vB false) (z_ (n_ (iff_ (sk_ (n_ (q_ (g_ (s_ (fA 2 fi149_2) (r_ (ld_ 0 sc3) (s_ mv_ (s_ (lnS underlying25) (s_ mv_ ?_)))))))))))))))))
     refine s_ (lnS underlying25) (s_ (x_sub_i (a:=0) (b:=((([]:LB_).length:Nat):Int)) rfl rfl lt_ lt_) (s_ (x_add_i (a:=0) (b:=0-((([]:LB_).length:Nat):Int)) rfl rfl lt_ lt_) (s_ (fA 2 fi149_2) (o_ (st1 0 sz3 ?_)))))
     refine z_ (n_ (q_ ?_))
     refine drU (blk b33 149 [vN rout.length,vN np,vI (0+(0-((([]:LB_).length:Nat):Int)))]::blk b3 155 [Value.nilFunc,Value.nilFunc]::blk b2 138 [vL lA l.length lC]::blk b1 145 [vI m,vN kf]::(Ds.map dfr)) [3] 5 mixed ?_
     refine jp_ 0 rfl mv_ (jq_ 1 rfl (ldN 0 [vN rout.length,vN np,vI (0+(0-((([]:LB_).length:Nat):Int)))] ag149 sz149) (jp_ 2 rfl av_ (j1_ 3 (jio_ rfl (stG 1 sz149 ?_)) (fun _ h=>⟨h.keepN 5 [T_,F_,T_,T_,T_] rfl,fun _=>h⟩))))
     refine jp_ 4 rfl av_ ?_
     refine JA_done kf_ (gl_ rfl (fun _ h=>h.keepN 5 [T_,F_,T_,T_,T_] rfl)) ?_
     refine n_ (rt_ ?_)
     refine JX_retsMW Ds [_,_,_] (Value.tuple #[_,_,_]) rfl results108 [blk b33 149 [vN rout.length,vN np,vI (0+(0-((([]:LB_).length:Nat):Int)))],blk b4 149 [vN rout.length,vN np,vI (0+(0-((([]:LB_).length:Nat):Int)))],blk b3 155 [Value.nilFunc,Value.nilFunc],blk b2 138 [vL lA l.length lC],blk b1 145 [vI m,vN kf]] (fun _ h=>tail_front 5 h rfl) (fun w h=>⟨rfl,⟨_,rfl,load_blkN 1 [vN rout.length,vN np,vI (0+(0-((([]:LB_).length:Nat):Int)))] h rfl ag149 sz149 rfl⟩,rfl,trivial⟩) rfl [] (fun _ h=>h.keep [F_,F_,F_,F_,F_] rfl) (fun _ _ h=>(hB32.back _ _ (hB1.back _ _ h))) (fun wx hw=>⟨([]:LB_),none,0,((rout.length:Nat):Int),((np:Nat):Int),0+(0-((([]:LB_).length:Nat):Int)),0,?_,?_,RO.nil,(Nat.zero_le _),?_⟩)
     ·rfl
     ·rfl
     ·first | exact R44.sv_1 as_ | exact R44.sv_2 as_ as_ | exact R44.sv_5 (fan:=(kf:Int)) as_ as_ (R44.inR_id as_) (by first | decide | assumption) (R44.one_row (m:=m.toNat) om_ om_ i1_0 om_).1 R44.sums_no (by first | decide | assumption) c44m0_ (R44.one_row (m:=m.toNat) om_ om_ i1_0 om_).2 (by first | rfl | omega) | exact R44.sv_5 (fan:=(kf:Int)) as_ as_ (R44.inR_id as_) (by first | decide | assumption) (R44.one_none om_ (R44.one_row (m:=m.toNat) om_ om_ i1_0 om_).1) R44.sums_no (by first | decide | assumption) c44m0_ (R44.one_row (m:=m.toNat) om_ om_ i1_0 om_).2 (by first | rfl | omega)
end Go.Proofs.YtggobegaiijhhaaGreatDoor
namespace Go.Proofs.YtggobegaiijhhaaGreatDoor
open Go.GV Go.RowKit Go.Op
theorem cut_ok2 (c:UInt8) (s:Bytes) (w:World) (hT:Tab [] w) (q0:s.length≤1000000):Calls Tryz.prog 92 #[vS s,vS [c]] w (Gives [] w fun v L=>∃ (a r:Bytes) (o:Bool),v=Value.tuple #[vS a,vS r,vB o]∧L=[]∧(o=true→R45.cutB c s=some (a,r))∧(o=false→R45.cutB c s=none)∧(a.length+r.length≤s.length)∧(o=false→a=s)):=by
  obtain ⟨m,hm⟩:=hT.mx
  refine (Tryz.strings_Cut ⟨s.toArray⟩ ⟨#[c]⟩ m w (by rw [sz];omega) (cell_of hm)).mono ?_
  rintro e w' ⟨rfl,n,rfl⟩
  rcases R45.cut_lib c s with ⟨h1,h2⟩ | ⟨a,r,h1,h2⟩
  · refine ⟨_,_,rfl,⟨s,[],false,?_,rfl,fun h=>(by cases h),fun _=>h1,Nat.le_refl _,fun _=>rfl⟩,St.nil (fr_drewN w n)⟩
    show Value.tuple #[vS (Lib.cut s [c]).1,vS (Lib.cut s [c]).2.1,vB (Lib.cut s [c]).2.2]=_
    rw [h2]
  · refine ⟨_,_,rfl,⟨a,r,true,?_,rfl,fun _=>h1,fun h=>(by cases h),by have:=congrArg List.length (R45.cutB_le h1);rw [List.length_append,List.length_cons] at this;omega,fun h=>(by cases h)⟩,St.nil (fr_drewN w n)⟩
    show Value.tuple #[vS (Lib.cut s [c]).1,vS (Lib.cut s [c]).2.1,vB (Lib.cut s [c]).2.2]=_
    rw [h2]
end Go.Proofs.YtggobegaiijhhaaGreatDoor
namespace Go.Proofs.YtggobegaiijhhaaGreatDoor
open Go.GV Go.Proofs.Tryz Ty
open Go.GV.Ent (blk row mp)
theorem c45m0_ {p:Prop} (h:p:=by first | exact ⟨fun _=>i1_2.done om_,fun h=>(by cases h)⟩ | exact ⟨fun h=>(by cases h),fun _=>R45.AdJ.bad (i:=i) om_ om_ as_⟩):p:=h
theorem f106_ok (x:Nat) (w:World):Calls prog 106 #[vR (x:Int)] w (Gives [] w fun v L=>v=vB (decide ((x:Int)=32))∧L=[]):=by
 refine calls_J [] 5 func106 rfl ntmps106 [(0,_)] rfl rfl (Give.nil w) ?_
 refine q_ (g_ (s_ av_ (z_ (n_ (q_ (g_ (s_ mv_ (js_ (vB (decide ((x:Int)=(32:Int)))) (x_eql_i32 rfl rfl) (s_ av_ (z_ (n_ (rt_ ?_))))))))))))
 exact p1 results106 rfl ⟨(eB (by exact df_)),rfl⟩
theorem f65_ok (w:World):Calls prog 65 #[] w (Gives [] w fun v L=>∃ nb:Nat,∃ tf:Nat,v=vG [vL (some ⟨nb,0,none⟩) 3 3,(fC_ 94 tf),(fC_ 96 tf)]∧L=[blk nb 9 [vS [73,78,49],vS [73,78,50],vS [79,85,84]],blk tf 138 [vL none 0 0]]):=by
 refine calls_J [] 6 func65 rfl ntmps65 [] rfl rfl (Give.nil w) ?_
 refine q_ (g_ (o_ (al_ ze97 fun b1=>?_)))
 refine z_ (n_ (q_ (g_ (o_ (al_ ze138 fun b2=>?_)))))
 refine z_ (n_ (q_ (g_ (o_ (O_buildSlice (cs:=[vS [73,78,49],vS [73,78,50],vS [79,85,84]]) underlying25 sz9 ze9 dd_ dd_ kf_ fun b3=>?_)))))
 refine js_ ((fC_ 94 b2)) (x_makeFunc rfl rfl) (js_ ((fC_ 96 b2)) (x_makeFunc rfl rfl) (js_ (vG [vL (some ⟨b3,0,none⟩) 3 3,(fC_ 94 b2),(fC_ 96 b2)]) (x_build kf_) (o_ (stG 2 sz97 ?_))))
 refine z_ (n_ (rt_ ?_))
 refine JX_rets [_] _ results65 (fun w h=>⟨⟨_,rfl,load_blkN 2 [vL (some ⟨b3,0,none⟩) 3 3,(fC_ 94 b2),(fC_ 96 b2)] h rfl ag97 sz97 rfl⟩,trivial⟩) rfl _ (fun _ h=>h.keep [T_,T_,F_] rfl) ⟨b3,b2,?_,?_⟩
 ·rfl
 ·rfl
theorem f94_ok (x:Nat) (s:Nat) (parm:Bytes) (m:Nat) (tf:Nat) (w:World) (hT:Tab [x,tf] w) (q0:parm.length≤1000) (hg:Give [x,tf] w [x0_ x s parm m,blk tf 138 [vL none 0 0]]):Calls prog 94 #[pB x 0,pB tf 0] w (Gives [x,tf] w fun v L=>∃ fl:List SortField,∃ flA:OA_,∃ flC:Nat,∃ ok:Bool,v=vB ok∧L=[x0_ x s parm m,blk tf 138 [vL flA fl.length flC],row (.slice flA fl.length flC) 179 4 fl.length (fl.flatMap SortField.enc)]∧(R45.MrP parm fl ok)):=by
 refine calls_J [x,tf] 17 func94 rfl ntmps94 [(0,_),(1,_)] rfl rfl hg ?_
 refine q_ (g_ (s_ av_ (z_ (n_ (q_ (g_ (s_ mv_ (s_ (x_nilCheck rfl) (s_ (fA 1 fi82_1) (r_ (ld_ 0 sc9) ?_))))))))))
 refine c1 (cl_ ca95) (fun w hS=>f95_ok parm w (hT.on hS (fun _ h=>by cases h)) hy_) ?_
 rintro _ _ ⟨out1,outA2,outC3,e4,rfl,rfl,hf5⟩
 refine s_ mv_ (s_ (ex_ 0) (s_ (ex_ 1) (s_ av_ (s_ av_ (z_ (n_ (q_ (g_ (s_ mv_ (o_ (st1 2 sz138 ?_)))))))))))
 refine z_ (n_ (q_ (g_ (s_ mv_ (s_ (x_eql_i rfl rfl) (s_ av_ (z_ (n_ (rt_ ?_)))))))))
 refine JX_rets [_] _ results94 (fun w h=>⟨rfl,trivial⟩) rfl [x0_ x s parm m,blk tf 138 [vL outA2 out1.length outC3],row (.slice outA2 out1.length outC3) 179 4 out1.length (out1.flatMap SortField.enc)] (fun _ h=>((h.front 2 _ rfl).front 2 _ rfl).keep [T_,T_,T_] rfl) ⟨out1,outA2,outC3,(decide (e4=0)),?_,?_,?_⟩
 ·rfl
 ·rfl
 ·exact R45.mrP as_
theorem f98_ok (a:Bytes) (b:Bytes) (tf:Nat) (fl:List SortField) (flA:OA_) (flC:Nat) (w:World) (flR:RO [tf] w flA (fl.flatMap SortField.enc)) (q0:fl.length≤9223372036854775807) (q1:a.length≤1000000000) (q2:b.length≤1000000000) (hg:Give [tf] w [blk tf 138 [vL flA fl.length flC]]):Calls prog 98 #[vS a,vS b,pB tf 0] w (Gives [tf] w fun v L=>v=vI (R44.cmpV fl a b)∧L=[blk tf 138 [vL flA fl.length flC]]):=by
 refine calls_J [tf] 10 func98 rfl ntmps98 [(0,_),(1,_),(2,_)] rfl rfl hg ?_
 refine q_ (g_ (s_ av_ (z_ (n_ (q_ (g_ (s_ mv_ (s_ mv_ (r_ (ld_ 0 sc138) (c0 (cl_ ca99) (fun w hS=>f99_ok a b fl flA flC w (rno flR hS) hy_ hy_ hy_) ?_))))))))))
 have ha1:=R44.cmpV_bd fl a b
 refine s_ av_ (z_ (n_ (rt_ ?_)))
 refine JX_rets [_] _ results98 (fun w h=>⟨rfl,trivial⟩) rfl _ i_ ⟨?_,?_⟩
 ·rfl
 ·rfl
theorem f97_ok (rs:LB_) (rsA:OA_) (rsC:Nat) (tf:Nat) (fl:List SortField) (flA:OA_) (flC:Nat) (w:World) (rsR:RO [tf] w rsA (rs.map vS)) (flR:RO [tf] w flA (fl.flatMap SortField.enc)) (q0:fl.length≤9223372036854775807) (q1:rs.length≤1000000) (q2:∀ i,(rs.getD i []).length≤1000000) (hg:Give [tf] w [blk tf 138 [vL flA fl.length flC]]):Calls prog 97 #[vL rsA rs.length rsC,(fC_ 98 tf)] w (Gives [tf] w fun v L=>∃ z:Bool,v=vB z∧L=[blk tf 138 [vL flA fl.length flC]]∧((z=true→R45.Adj fl rs)∧(z=false→¬ R45.Adj fl rs))):=by
 refine calls_J [tf] 25 func97 rfl ntmps97 [(0,_),(1,_)] rfl rfl hg ?_
 refine q_ (g_ (s_ av_ (z_ (n_ (q_ (q_ (g_ (s_ mv_ (s_ (lnS underlying25) (s_ (x_sub_i (a:=((rs.length:Nat):Int)) (b:=1) rfl rfl om_ om_) (s_ av_ (z_ (n_ (k_ ?_))))))))))))))
 refine J_loop (X:=Int) (fun (i:Int)=>(-1≤i)∧(i≤(rs.length:Int)-1)∧(R45.AdJ fl rs i)) (fun (i:Int)=>[(0,vL rsA rs.length rsC),(1,(fC_ 98 tf)),(5,vI i)]) (fun (i:Int)=>[blk tf 138 [vL flA fl.length flC]]) (fun (i:Int)=>i.toNat) (((rs.length:Nat):Int)-1:Int) ?_ ⟨rfl,rfl,rfl,trivial⟩ i_ ?_
 ·try dsimp only
  refine ⟨?_,?_,?_⟩
  ·exact df_
  ·exact df_
  ·exact R45.AdJ.start
 intro i hI1
 obtain ⟨i1_0,i1_1,i1_2⟩:=hI1
 try dsimp only at i1_0
 try dsimp only at i1_1
 try dsimp only at i1_2
 have hq1:=q2 i.toNat
 have hq2:=q2 (i-1).toNat
 try dsimp only
 refine q_ (q_ (g_ (s_ mv_ (s_ (x_gtr_i rfl rfl) (z_ (n_ ?_))))))
 refine ifd (fun h1w h1=>?_) (fun h1w h1=>?_)
 ·refine sk_ (n_ (q_ (k_ (q_ ?_))))
  refine drU [] [10] 12 mixed ?_
  refine jp_ 0 rfl mv_ (jp_ 1 rfl mv_ (jp_ 2 rfl mv_ (jq_ 3 rfl (ixM (k:=(i).toNat) (hy:=(ix_nat rfl om_)) (cells_ro rsR) underlying25 sz9) (jq_ 4 rfl (ldM vS [] (cells_ro rsR) sc9) (jp_ 5 rfl mv_ (jp_ 6 rfl mv_ (jp_ 7 rfl (x_sub_i (a:=i) (b:=1) rfl rfl om_ om_) (jq_ 8 rfl (ixM (k:=(i-1).toNat) (hy:=(ix_nat rfl om_)) (cells_ro rsR) underlying25 sz9) (jq_ 9 rfl (ldM vS [] (cells_ro rsR) sc9) ?_)))))))))
  refine j1_ 10 ?_ (fun _ h=>⟨h.keep [F_] rfl,fun _=>h⟩)
  refine JI_call [tf] [blk tf 138 [vL flA fl.length flC]] [] rfl rfl trivial (fun _=>x_callv (first:=[]) (caps:=[pB tf 0]) rfl ca98 rfl) i_ (own_mem rfl) (fun w hS=>f98_ok (rs.getD ((i).toNat) []) (rs.getD ((i-1).toNat) []) tf fl flA flC w (flR.on hS (own_mem rfl)) hy_ hy_ hy_ (hS.give (own_in rfl))) ?_
  rintro _ _ ⟨rfl,rfl⟩
  have ha2:=R44.cmpV_bd fl (rs.getD ((i).toNat) []) (rs.getD ((i-1).toNat) [])
  try simp only [List.length_cons,List.length_nil,Nat.zero_add,Nat.reduceAdd,Nat.reduceMul] at ha2
  refine jp_ 11 rfl (x_lss_i rfl rfl) ?_
  refine JA_done kf_ (gl_ rfl (fun _ h=>h.keep [F_] rfl)) ?_
  refine n_ ?_
  refine ifd (fun h3w h3=>?_) (fun h3w h3=>?_)
  ·refine q_ (g_ (s_ av_ (z_ (n_ (rt_ (kq_ (nr_ (rr_ (kq_ (nr_ ?_))))))))))
   refine JX_rets [_] _ results97 (fun w h=>⟨rfl,trivial⟩) rfl _ i_ ⟨(false),?_,?_,?_⟩
   ·have e_x0:(false:Bool)=(false):=by exact df_
    exact congrArg (fun (x0:Bool)=>vB x0) e_x0
   ·rfl
   ·exact c45m0_
  ·refine sk_ (kx_ (n_ (g_ (s_ mv_ (s_ (x_sub_i (a:=i) (b:=1) rfl rfl om_ om_) (s_ av_ (z_ ?_)))))))
   refine JX_round (i-1:Int) ?_ ?_ ⟨rfl,rfl,rfl,trivial⟩ i_
   ·try dsimp only
    refine ⟨?_,?_,?_⟩
    ·exact df_
    ·exact df_
    ·exact i1_2.step om_ as_
   ·try dsimp only
    first | omega | (simp;omega) | (simp_all;omega)
 ·refine J_exit (ne_ (re_ (kh_ (n_ (q_ ?_)))))
  refine g_ (s_ av_ (z_ (n_ (rt_ ?_))))
  refine JX_rets [_] _ results97 (fun w h=>⟨rfl,trivial⟩) rfl _ i_ ⟨(true),?_,?_,?_⟩
  ·have e_x0:(true:Bool)=(true):=by exact df_
   exact congrArg (fun (x0:Bool)=>vB x0) e_x0
  ·rfl
  ·exact c45m0_
end Go.Proofs.YtggobegaiijhhaaGreatDoor
namespace Go.Proofs.YtggobegaiijhhaaGreatDoor
open Go.GV
open Srt (Cmp)
namespace R44
theorem mergeV_len (l:List SortField) (ls:List (List Bytes)):(mergeV l ls).length≤ls.flatten.length:=by
  unfold mergeV
  split
  · rw [(Srt.merge_perm (cmpL_ok l) ls).length_eq];exact Nat.le_refl _
  · exact Nat.zero_le _
end R44
end Go.Proofs.YtggobegaiijhhaaGreatDoor
namespace Go.Proofs.YtggobegaiijhhaaGreatDoor
open Go.GV
namespace R45
theorem mem_each {l:List Bytes} {n:Nat} (h:∀ x∈l,x.length≤n) (i:Nat):(l.getD i []).length≤n:=by
  by_cases hi:i<l.length
  · exact h _ (getD_mem hi)
  · rw [List.getD_eq_getElem?_getD,List.getElem?_eq_none (by omega)];exact Nat.zero_le _
theorem each_mem {l:List Bytes} {n:Nat} (h:∀ i,(l.getD i []).length≤n) {x:Bytes} (hx:x∈l):x.length≤n:=by
  obtain ⟨i,_,rfl⟩:=mem_getD (d:=[]) hx
  exact h i
theorem flat2 {rc:List Rw} (h:rc.length=2) (h2:∀ i,(rc.getD i default).s.length≤500):(rc.map Rw.s).flatten.length≤1000:=by
  match rc,h with
  | [a,b],_ =>
    have h0:a.s.length≤500:=h2 0
    have h1:b.s.length≤500:=h2 1
    simp only [List.map_cons,List.map_nil,List.flatten_cons,List.flatten_nil,List.length_append,List.length_nil]
    omega
theorem merge2_len {fl:List SortField} {rc:List Rw} (h:rc.length=2) (h2:∀ i,(rc.getD i default).s.length≤500):(R44.mergeV fl (rc.map Rw.s)).length≤1000:=Nat.le_trans (R44.mergeV_len _ _) (flat2 h h2)
theorem merge2_each {fl:List SortField} {rc:List Rw} (h:∀ i j,((rc.getD i default).s.getD j []).length≤1000000) (i:Nat):((R44.mergeV fl (rc.map Rw.s)).getD i []).length≤1000000:=by
  refine mem_each (fun x hx=>?_) i
  unfold R44.mergeV at hx
  split at hx
  · rw [Srt.merge_mem (R44.cmpL_ok fl)] at hx
    obtain ⟨l,hl,hx⟩:=List.mem_flatten.1 hx
    obtain ⟨r,hr,rfl⟩:=List.mem_map.1 hl
    obtain ⟨k,_,rfl⟩:=mem_getD (d:=default) hr
    exact each_mem (h k) hx
  · cases hx
theorem sort_val (fl:List SortField) (m fan:Int) (rs:List Bytes):(R44.sortV fl m fan R44.idF R44.noF rs).1=[]∨(R44.sortV fl m fan R44.idF R44.noF rs).1=Srt.srt (R44.cmpL fl) rs:=by
  unfold R44.sortV
  split
  · exact .inl rfl
  · split
    · exact .inl rfl
    · rename_i hg
      rw [← R44.inR_id (by simpa using hg)]
      split
      · exact .inl rfl
      · rw [← R44.sums_no]
        split
        · exact .inl rfl
        · exact .inr rfl
theorem sort_len {fl:List SortField} {m fan a b d e:Int} {rs out:List Bytes} (h:(out,SortWork.mk a b d,e)=R44.sortV fl m fan R44.idF R44.noF rs):out.length≤rs.length:=by
  have h1:out=(R44.sortV fl m fan R44.idF R44.noF rs).1:=by rw [← h]
  rcases sort_val fl m fan rs with h2 | h2 <;> rw [h1,h2]
  · exact Nat.zero_le _
  · rw [Srt.srt_len];exact Nat.le_refl _
theorem sort_each {fl:List SortField} {m fan a b d e:Int} {rs out:List Bytes} (h:(out,SortWork.mk a b d,e)=R44.sortV fl m fan R44.idF R44.noF rs) {n:Nat} (hr:∀ i,(rs.getD i []).length≤n) (i:Nat):(out.getD i []).length≤n:=by
  have h1:out=(R44.sortV fl m fan R44.idF R44.noF rs).1:=by rw [← h]
  refine mem_each (fun x hx=>?_) i
  rcases sort_val fl m fan rs with h2 | h2 <;> rw [h1,h2] at hx
  · cases hx
  · rw [Srt.srt_mem] at hx;exact each_mem hr hx
theorem sort_work {fl:List SortField} {m fan a b d e:Int} {rs out:List Bytes} (h:(out,SortWork.mk a b d,e)=R44.sortV fl m fan R44.idF R44.noF rs) (hr:rs.length≤1000):0≤a∧a≤1000∧0≤b∧b≤1000:=by
  have h1:SortWork.mk a b d=(R44.sortV fl m fan R44.idF R44.noF rs).2.1:=by rw [← h]
  unfold R44.sortV at h1
  split at h1
  · cases h1;omega
  · rename_i hg1
    split at h1
    · cases h1;omega
    · rename_i hg
      rw [← R44.inR_id (by simpa using hg)] at h1
      split at h1
      · cases h1;omega
      · rw [← R44.sums_no] at h1
        split at h1
        · cases h1;omega
        · simp only [R44.g1,Bool.or_eq_true,decide_eq_true_eq,not_or,Bool.not_eq_true'] at hg1
          have hm:0<m.toNat:=by omega
          have hf:2≤fan.toNat:=by omega
          have k1:=(R44.runs_small (R44.cmpL_ok fl) hm rs).1
          have k2:=Srt.rounds_count (c:=R44.cmpL fl) hf (Srt.runs (R44.cmpL fl) m.toNat rs)
          have k3:=R44.passes_le fan.toNat (Srt.runs (R44.cmpL fl) m.toNat rs).length (Srt.runs (R44.cmpL fl) m.toNat rs).length
          injection h1 with e1 e2 e3
          have e1:a=((Srt.runs (R44.cmpL fl) m.toNat rs).length:Int):=e1
          have e2:b=((Srt.rounds (R44.cmpL fl) fan.toNat (Srt.runs (R44.cmpL fl) m.toNat rs)).2:Int):=e2
          rw [k2] at e2
          omega
theorem sort_wr {fl:List SortField} {m fan a b d e:Int} {rs out:List Bytes} {B:Binding} {ch:List Change} (h:(out,SortWork.mk a b d,e)=R44.sortV fl m fan R44.idF R44.noF rs) (hw:WrJ B out ch):WrJ B (R44.sortV fl m fan R44.idF R44.noF rs).1 ch:=by rw [← h];exact hw
end R45
namespace R45
def OnlyF (l:List Binding) (cd:Int) (ch:List Change):Prop:=ch.length≤300∧0≤cd∧cd≤4095 ∧ ∀ c∈ch,c.Volume=[]∧c.Kind≤3∧0≤findI OUT l∧c.Id=(setV (bd l OUT)).Id
theorem only_nil {l:List Binding} {cd:Int} (h:0≤cd) (h2:cd≤4095):OnlyF l cd []:=⟨Nat.zero_le _,h,h2,fun c hc=>by cases hc⟩
theorem only_04 {l:List Binding} {cd:Int} (h:cd=0∨cd=4):OnlyF l cd []:=only_nil (by omega) (by omega)
theorem only_ch {l:List Binding} {ch:List Change} {B:Binding} (h0:0≤findI OUT l) (hB:B=bd l OUT) (h:ch.length≤300) (h2:∀ c∈ch,ChB B c):OnlyF l 0 ch:=⟨h,by decide,by decide,fun c hc=>by
  have:=h2 c hc
  rw [hB] at this
  exact ⟨this.2.1,this.2.2.2,h0,this.1⟩⟩
theorem only_er {l:List Binding} {cd:Int} {ch:List Change} {B:Binding} (h0:0≤findI OUT l) (hB:B=bd l OUT) (hw:wrV erN (bd l OUT)=true) (hc:cd=0∨cd=4) (h:ch.length≤300) (h2:∀ c∈ch,ChI B.EData.Id c):OnlyF l cd ch:=⟨h,by omega,by omega,fun c hc=>by
  have:=h2 c hc
  rw [hB] at this
  have hcr:(bd l OUT).Create=false:=by
    unfold wrV at hw
    cases hq:(bd l OUT).Create with
    | false=>rfl
    | true=>rw [hq] at hw;simp [erN] at hw
  refine ⟨this.2.1,this.2.2,h0,?_⟩
  rw [this.1,← set_f hcr]⟩
theorem only_wr {l:List Binding} {ch:List Change} {B:Binding} {xs:List Bytes} (h0:0≤findI OUT l) (hB:B=bd l OUT) (h:WrJ B xs ch):OnlyF l 0 ch:=only_ch h0 hB h.1 h.2.1
theorem wr_use {n:Bytes} {b:Binding} {z:Bool} (h:z=wrV n b) (hz:z=true):wrV n b=true:=by rw [← h];exact hz
theorem sel_use {ok:Bool} {n:Int} (h:ok=true→0≤n∧n≤999) (hk:ok=true):0≤n∧n≤999:=h hk
def soN:Bytes:=[115,111,114,116]
def SrtR (rows:List SRow) (parm:Bytes) (l:List Binding) (cd:Int) (ch:List Change):Prop:=0≤findI OUT l∧cd=0 ∧ ∃ fl m fan,parmS parm=some (fl,m,fan)∧WrJ (bd l OUT) (R44.sortV fl m fan R44.idF R44.noF (recV rows (bd l IN))).1 ch
def SrtOk (rows:List SRow) (parm:Bytes) (l:List Binding):Prop:=0≤findI IN l∧0≤findI OUT l∧wrV soN (bd l OUT)=true∧parmS parm≠none∧SeqB (bd l OUT)∧(recV rows (bd l IN)).length≤290 ∧ ∀ i,((recV rows (bd l IN)).getD i []).length≤1000
theorem srt_noP {rows:List SRow} {parm:Bytes} {l:List Binding} {fl:List SortField} {m fan:Int} {ok:Bool} (h:SrP parm fl m fan ok) (hk:ok=false):¬ SrtOk rows parm l:=fun hh=>hh.2.2.2.1 (h.2.1 hk)
theorem srt_no {rows:List SRow} {parm:Bytes} {l:List Binding} {o:List Bytes} (hw:¬ (SeqB (outB [(IN,bd l IN),(OUT,bd l OUT)])∧o.length≤290 ∧ ∀ i,(o.getD i []).length≤1000)) (ho:o=recV rows (bd l IN)):¬ SrtOk rows parm l:=fun h=>by
  rw [ho,outB2] at hw;exact hw h.2.2.2.2
theorem srt_yes {rows:List SRow} {parm:Bytes} {l:List Binding} {fl:List SortField} {m fan:Int} {ok:Bool} {o:List Bytes} {ch:List Change} (h1:0≤findI OUT l) (h:SrP parm fl m fan ok) (hk:ok=true) (hw:WrJ (outB [(IN,bd l IN),(OUT,bd l OUT)]) (R44.sortV fl m fan R44.idF R44.noF o).1 ch) (ho:o=recV rows (bd l IN)):SrtR rows parm l 0 ch:=by
  rw [ho] at hw;exact ⟨h1,rfl,fl,m,fan,h.1 hk,hw⟩
theorem only_gen {parm:Bytes} {l:List Binding} {cd:Int} {ch:List Change} {ln:List Bytes} (h:GenR parm l cd ch ln):OnlyF l cd ch:=by
  obtain ⟨h0,rfl,n,t,_,hw,_⟩:=h;exact only_wr h0 rfl hw
theorem only_cmp {rows:List SRow} {l:List Binding} {cd:Int} {ch:List Change} {ln:List Bytes} (h:CmpR rows l cd ch ln):OnlyF l cd ch:=by
  obtain ⟨_,_,rfl,hc,_⟩:=h
  refine only_04 ?_
  rw [hc];unfold cmpC;split
  · exact .inl rfl
  · exact .inr rfl
theorem only_cpy {rows:List SRow} {l:List Binding} {cd:Int} {ch:List Change} {ln:List Bytes} (h:CpyR rows l cd ch ln):OnlyF l cd ch:=by
  obtain ⟨_,h0,rfl,hw,_⟩:=h;exact only_wr h0 rfl hw
theorem only_srt {rows:List SRow} {parm:Bytes} {l:List Binding} {cd:Int} {ch:List Change} (h:SrtR rows parm l cd ch):OnlyF l cd ch:=by
  obtain ⟨h0,rfl,fl,m,fan,_,hw⟩:=h;exact only_wr h0 rfl hw
def meN:Bytes:=[109,101,114,103,101]
def MrgR (rows:List SRow) (parm:Bytes) (l:List Binding) (cd:Int) (ch:List Change):Prop:=0≤findI OUT l∧cd=0 ∧ ∃ fl,R44.parseV parm=(fl,0)∧WrJ (bd l OUT) (R44.mergeV fl [recV rows (bd l IN1),recV rows (bd l IN2)]) ch
def MgOk (fl:List SortField) (B:Binding) (ls:List (List Bytes)):Prop:=SeqB B∧(R44.mergeV fl ls).length≤290 ∧ ∀ x∈ls,Adj fl x
def MrgOk (rows:List SRow) (parm:Bytes) (l:List Binding):Prop:=0≤findI IN1 l∧0≤findI IN2 l∧0≤findI OUT l∧wrV meN (bd l OUT)=true∧(R44.parseV parm).2=0∧MgOk (R44.parseV parm).1 (bd l OUT) [recV rows (bd l IN1),recV rows (bd l IN2)]
theorem only_mrg {rows:List SRow} {parm:Bytes} {l:List Binding} {cd:Int} {ch:List Change} (h:MrgR rows parm l cd ch):OnlyF l cd ch:=by
  obtain ⟨h0,rfl,fl,_,hw⟩:=h;exact only_wr h0 rfl hw
theorem mrg_adj {fl:List SortField} {B:Binding} {rc:List Rw} {k:Nat} (hk:k<rc.length) (h:¬ Adj fl (rc.getD k default).s):¬ MgOk fl B (rc.map Rw.s):=fun hh=>h (hh.2.2 _ (List.mem_map_of_mem (getD_mem hk)))
theorem mrg_adjz {fl:List SortField} {B:Binding} {rc:List Rw} {k:Nat} {z:Bool} (hk:k<rc.length) (h:(z=true→Adj fl (rc.getD k default).s)∧(z=false→¬ Adj fl (rc.getD k default).s)) (hz:z=false):¬ MgOk fl B (rc.map Rw.s):=mrg_adj hk (h.2 hz)
theorem mrg_few {fl:List SortField} {B:Binding} {ls:List (List Bytes)} (h:¬ (SeqB B∧(R44.mergeV fl ls).length≤290)):¬ MgOk fl B ls:=fun hh=>h ⟨hh.1,hh.2.1⟩
theorem mrg_noP {rows:List SRow} {parm:Bytes} {l:List Binding} {fl:List SortField} {ok:Bool} (h:MrP parm fl ok) (hk:ok=false):¬ MrgOk rows parm l:=fun hh=>h.2.1 hk hh.2.2.2.2.1
theorem mrg_no {rows:List SRow} {parm:Bytes} {l:List Binding} {fl:List SortField} {ok:Bool} {o1 o2:List Bytes} {A B:Option Addr} {c d:Nat} (h:MrP parm fl ok) (hk:ok=true) (hw:¬ MgOk fl (outB [(IN1,bd l IN1),(IN2,bd l IN2),(OUT,bd l OUT)]) ([Rw.mk o1 A c,Rw.mk o2 B d].map Rw.s)) (h1:o1=recV rows (bd l IN1)) (h2:o2=recV rows (bd l IN2)):¬ MrgOk rows parm l:=fun hh=>by
  have he:=h.1 hk
  have h3:=hh.2.2.2.2.2
  rw [he,← h1,← h2] at h3
  exact hw h3
theorem mrg_yes {rows:List SRow} {parm:Bytes} {l:List Binding} {fl:List SortField} {ok:Bool} {o1 o2:List Bytes} {A B:Option Addr} {c d:Nat} {ch:List Change} (h0:0≤findI OUT l) (h:MrP parm fl ok) (hk:ok=true) (hw:WrJ (outB [(IN1,bd l IN1),(IN2,bd l IN2),(OUT,bd l OUT)]) (R44.mergeV fl ([Rw.mk o1 A c,Rw.mk o2 B d].map Rw.s)) ch) (h1:o1=recV rows (bd l IN1)) (h2:o2=recV rows (bd l IN2)):MrgR rows parm l 0 ch:=by
  refine ⟨h0,rfl,fl,h.1 hk,?_⟩
  rw [← h1,← h2];exact hw
theorem recV_len5 {rows:List SRow} {b:Binding} (h:rows.length≤500) (h2:b.Lines.length≤500):(recV rows b).length≤500:=by
  unfold recV
  split
  · exact h2
  · split
    · simp
    · unfold recs;rw [List.length_map];have:=above_len rows b.EData.Id [];omega
theorem rec_len5 (o:List Bytes) {rows:List SRow} {b:Binding} (h:o=recV rows b) (h1:rows.length≤500) (h2:b.Lines.length≤500):o.length≤500:=by rw [h];exact recV_len5 h1 h2
theorem two_each {p:Rw→Prop} {a b:Rw} (h:p a) (h2:p b) (hd:p default) (i:Nat):p (([a,b]:List Rw).getD i default):=by
  match i with
  | 0=>exact h
  | 1=>exact h2
  | i+2=>exact hd
end R45
end Go.Proofs.YtggobegaiijhhaaGreatDoor
