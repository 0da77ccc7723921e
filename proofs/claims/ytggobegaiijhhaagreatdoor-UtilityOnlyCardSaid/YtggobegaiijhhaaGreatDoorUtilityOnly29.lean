/- C44g, C44h, C44i, C44j, C44k, C44l in one text. -/
import Derived.Test.YtggobegaiijhhaaGreatDoorC44f
set_option linter.unusedVariables false
set_option linter.unusedSimpArgs false
set_option maxRecDepth 20000
namespace Go.Proofs.YtggobegaiijhhaaGreatDoor
open Go.GV Go.Proofs.Tryz Ty
open Go.GV.Ent (blk row mp)
theorem c44i0_ {p:Prop} (h:p:=by first | exact i2_1.skip (R44.rw_nil om_) | exact i2_1.new om_ (R44.rw_cons om_) | exact i2_1.lt om_ (R44.rw_cons om_) (R44.rw_cons om_) as_ | exact i2_1.ge om_ (R44.rw_cons om_) (R44.rw_cons om_) as_):p:=h
theorem c44i1_ {p:Prop} (h:p:=by rw [List.length_map];first | omega | (simp only [List.length_append,List.length_cons,List.length_nil];omega) | (simp;omega) | (simp_all;omega) | (simp_all;done)):p:=h
theorem f165_ok (lists:List Rw) (listsA:OA_) (listsC:Nat) (w:World) (listsR:RO [] w listsA (lists.flatMap Rw.enc)) (listsN:∀ i:Nat,RO [] w (lists.getD i default).sA (((lists.getD i default).s).map vS)) (q0:lists.length≤1000000):Calls prog 165 #[vL listsA lists.length listsC] w (Gives [] w fun v L=>∃ A2:OA_,∃ c2:Nat,v=vL A2 lists.length c2∧L=[row (.slice A2 lists.length c2) 25 1 lists.length (lists.flatMap Rw.enc)]):=by
 refine calls_J [] 8 func165 rfl ntmps165 [(0,_)] rfl rfl (Give.nil w) ?_
 refine q_ (g_ (s_ av_ (z_ (n_ (q_ (q_ (g_ (s_ mv_ (s_ (x_eql_sl rfl rfl underlying102) (z_ (n_ ?_)))))))))))
 refine if_ (fun h1=>?_) (fun h1=>?_)
 ·refine q_ (g_ (s_ av_ (z_ (n_ (rt_ (nr_ ?_))))))
  refine JX_rets [_] _ results165 (fun w h=>⟨rfl,trivial⟩) rfl [row (.slice none ([]:List Rw).length 0) 25 1 ([]:List Rw).length (([]:List Rw).flatMap Rw.enc)] (fun _ h=>(h.nilrow 25 1).keep [T_] rfl) ⟨none,0,?_,?_⟩
  ·have e_x0:(0:Nat)=lists.length:=by first | rfl | (rw [RO.emptyF (m:=0) Rw.enc_len listsR as_];rfl)
   exact congrArg (fun (x0:Nat)=>vL none x0 0) e_x0
  ·have e_y0:(([]:List Rw):List Rw)=lists:=by
    first | rfl | exact (RO.emptyF (m:=0) Rw.enc_len listsR as_).symm
   have e_all:=(congrArg (fun (y0:List Rw)=>[row (.slice none y0.length 0) 25 1 y0.length (y0.flatMap Rw.enc)]) e_y0)
   exact e_all
 ·refine sk_ (n_ (q_ (g_ (o_ (O_buildSlice0 underlying102 sz25 fun b2=>?_)))))
  refine s_ mv_ ?_
  refine JO_weaken (E':=[(0,vL listsA lists.length listsC),(2,vL none 0 0),(3,vL listsA lists.length listsC),(4,vB listsA.isNone),(5,vL (some ⟨b2,0,none⟩) ((([]:List Rw)).length) 0),(6,vL listsA lists.length listsC)]) (L':=[row (.slice (some ⟨b2,0,none⟩) ([]:List Rw).length 0) 25 1 ([]:List Rw).length (([]:List Rw).flatMap Rw.enc)]) se_ (fun _ h=>(St.torow (cs:=[]) h 1 0 rfl dd_).keep [T_] rfl) ?_
  refine o_ (O_append_f 0 Rw.enc 1 ([]:List Rw) lists underlying102 sz25 by25 ze25 rfl dd_ rfl rfl rfl rfl Rw.enc_len Rw.enc_one (cells_ro listsR) lt_ lt_ fun A3 c4=>?_)
  refine s_ av_ (z_ (n_ (rt_ ?_)))
  refine JX_rets [_] _ results165 (fun w h=>⟨rfl,trivial⟩) rfl _ i_ ⟨A3,c4,?_,?_⟩
  ·have e_x0:((([]:List Rw)++lists).length:Nat)=lists.length:=by first | rfl | (rw [RO.emptyF (m:=0) Rw.enc_len listsR as_];rfl)
   exact congrArg (fun (x0:Nat)=>vL A3 x0 c4) e_x0
  ·have e_y0:(([]:List Rw)++lists:List Rw)=lists:=by
    first | rfl | exact (RO.emptyF (m:=0) Rw.enc_len listsR as_).symm
   have e_all:=(congrArg (fun (y0:List Rw)=>[row (.slice A3 y0.length c4) 25 1 y0.length (y0.flatMap Rw.enc)]) e_y0)
   exact e_all
theorem f24_okS (rs:LB_) (rsA:OA_) (rsC:Nat) (w:World) (rsR:RO [] w rsA (rs.map vS)) (q0:rs.length≤1000000):Calls prog 24 #[vL rsA rs.length rsC] w (Gives [] w fun v L=>∃ A2:OA_,∃ c2:Nat,v=vL A2 rs.length c2∧L=[row (.slice A2 rs.length c2) 9 1 rs.length (rs.map vS)]):=by
 refine calls_J [] 8 func24 rfl ntmps24 [(0,_)] rfl rfl (Give.nil w) ?_
 refine q_ (g_ (s_ av_ (z_ (n_ (q_ (q_ (g_ (s_ mv_ (s_ (x_eql_sl rfl rfl underlying25) (z_ (n_ ?_)))))))))))
 refine if_ (fun h1=>?_) (fun h1=>?_)
 ·refine q_ (g_ (s_ av_ (z_ (n_ (rt_ (nr_ ?_))))))
  refine JX_rets [_] _ results24 (fun w h=>⟨rfl,trivial⟩) rfl [row (.slice none ([]:LB_).length 0) 9 1 ([]:LB_).length (([]:LB_).map vS)] (fun _ h=>(h.nilrow 9 1).keep [T_] rfl) ⟨none,0,?_,?_⟩
  ·have e_x0:(0:Nat)=rs.length:=by first | rfl | (rw [RO.empty rsR as_];rfl)
   exact congrArg (fun (x0:Nat)=>vL none x0 0) e_x0
  ·have e_y0:(([]:LB_):LB_)=rs:=by
    first | rfl | exact (RO.empty rsR as_).symm
   have e_all:=(congrArg (fun (y0:LB_)=>[row (.slice none y0.length 0) 9 1 y0.length (y0.map vS)]) e_y0)
   exact e_all
 ·refine sk_ (n_ (q_ (g_ (o_ (O_buildSlice0 underlying25 sz9 fun b2=>?_)))))
  refine s_ mv_ ?_
  refine JO_weaken (E':=[(0,vL rsA rs.length rsC),(2,vL none 0 0),(3,vL rsA rs.length rsC),(4,vB rsA.isNone),(5,vL (some ⟨b2,0,none⟩) ((([]:LB_)).length) 0),(6,vL rsA rs.length rsC)]) (L':=[row (.slice (some ⟨b2,0,none⟩) ([]:LB_).length 0) 9 1 ([]:LB_).length (([]:LB_).map vS)]) se_ (fun _ h=>(St.torow (cs:=[]) h 1 0 rfl dd_).keep [T_] rfl) ?_
  refine o_ (O_append_m 0 vS ([]:LB_) rs underlying25 sz9 by9 ze9 rfl rfl rfl rfl rfl (fun _=>rfl) (cells_ro rsR) lt_ lt_ fun A3 c4=>?_)
  refine s_ av_ (z_ (n_ (rt_ ?_)))
  refine JX_rets [_] _ results24 (fun w h=>⟨rfl,trivial⟩) rfl _ i_ ⟨A3,c4,?_,?_⟩
  ·have e_x0:((([]:LB_)++rs).length:Nat)=rs.length:=by first | rfl | (rw [RO.empty rsR as_];rfl)
   exact congrArg (fun (x0:Nat)=>vL A3 x0 c4) e_x0
  ·have e_y0:(([]:LB_)++rs:LB_)=rs:=by
    first | rfl | exact (RO.empty rsR as_).symm
   have e_all:=(congrArg (fun (y0:LB_)=>[row (.slice A3 y0.length c4) 9 1 y0.length (y0.map vS)]) e_y0)
   exact e_all
theorem f139_ok (lists:List Rw) (listsA:OA_) (listsC:Nat) (l:List SortField) (lA:OA_) (lC:Nat) (w:World) (listsR:RO [] w listsA (lists.flatMap Rw.enc)) (listsN:∀ i:Nat,RO [] w (lists.getD i default).sA (((lists.getD i default).s).map vS)) (lR:RO [] w lA (l.flatMap SortField.enc)):Calls prog 139 #[vL listsA lists.length listsC,vL lA l.length lC] w (Gives [] w fun v L=>∃ bp:Nat,∃ bq:Nat,v=Value.func (.func 164) #[] #[pB bp 0,pB bq 0]∧L=[blk bp 102 [vL listsA lists.length listsC],blk bq 138 [vL lA l.length lC]]):=by
 refine calls_J [] 6 func139 rfl ntmps139 [(0,_),(1,_)] rfl rfl (Give.nil w) ?_
 refine q_ (g_ (o_ (bx1 fun b1=>?_)))
 refine o_ (bx1 fun b2=>?_)
 refine s_ av_ (z_ (n_ (q_ (g_ (js_ (Value.func (.func 164) #[] #[pB b1 0,pB b2 0]) (x_makeFunc rfl rfl) (s_ av_ (z_ (n_ (rt_ ?_)))))))))
 refine JX_rets [_] _ results139 (fun w h=>⟨rfl,trivial⟩) rfl [blk b1 102 [vL listsA lists.length listsC],blk b2 138 [vL lA l.length lC]] (fun _ h=>(h.front 1 _ rfl).keep [T_,T_] rfl) ⟨b1,b2,?_,?_⟩
 ·rfl
 ·rfl
set_option maxHeartbeats 2000000 in
theorem f164_ok (yl:Nat) (X:Type) (I:LB_→X→Prop) (Lf:LB_→X→List Ent) (x0:X) (bp:Nat) (bq:Nat) (lists:List Rw) (listsA:OA_) (listsC:Nat) (l:List SortField) (lA:OA_) (lC:Nat) (w:World) (listsR:RO (Lown (blk bp 102 [vL listsA lists.length listsC]::blk bq 138 [vL lA l.length lC]::(Lf ([]:LB_) x0))) w listsA (lists.flatMap Rw.enc)) (listsN:∀ i:Nat,RO (Lown (blk bp 102 [vL listsA lists.length listsC]::blk bq 138 [vL lA l.length lC]::(Lf ([]:LB_) x0))) w (lists.getD i default).sA (((lists.getD i default).s).map vS)) (lR:RO (Lown (blk bp 102 [vL listsA lists.length listsC]::blk bq 138 [vL lA l.length lC]::(Lf ([]:LB_) x0))) w lA (l.flatMap SortField.enc)) (hY:YieldOk prog yl (Lown (blk bp 102 [vL listsA lists.length listsC]::blk bq 138 [vL lA l.length lC]::(Lf ([]:LB_) x0))) w (fun a:Bytes=>[vS a]) I Lf (Srt.merge (R44.cmpL l) (lists.map Rw.s))) (hI0:I [] x0) (q2:lists.length≤1000000) (q3:∀ i j,((lists.getD i default).s.getD j []).length≤1000000) (q4:R44.valid l=true) (q5:∀ i,(lists.getD i default).s.length≤(lists.getD i default).sC) (hg:Give (Lown (blk bp 102 [vL listsA lists.length listsC]::blk bq 138 [vL lA l.length lC]::(Lf ([]:LB_) x0))) w (blk bp 102 [vL listsA lists.length listsC]::blk bq 138 [vL lA l.length lC]::(Lf ([]:LB_) x0))):Calls prog 164 #[Value.func (.yield yl) #[] #[],pB bp 0,pB bq 0] w (Gives (Lown (blk bp 102 [vL listsA lists.length listsC]::blk bq 138 [vL lA l.length lC]::(Lf ([]:LB_) x0))) w fun v L=>∃ st:X,v=Value.tuple #[]∧L=((Lf (Srt.merge (R44.cmpL l) (lists.map Rw.s)) st))∧(I (Srt.merge (R44.cmpL l) (lists.map Rw.s)) st)):=by
 refine calls_J (Lown (blk bp 102 [vL listsA lists.length listsC]::blk bq 138 [vL lA l.length lC]::(Lf ([]:LB_) x0))) 61 func164 rfl ntmps164 [(0,_),(1,_),(2,_)] rfl rfl hg ?_
 refine q_ (g_ (r_ (ld_ 0 sc102) ?_))
 refine c1 (cl_ ca165) (fun w hS=>f165_ok _ _ _ w (rno listsR hS) (fun i=>(listsN i).on hS (fun _ h=>by cases h)) hy_) ?_
 rintro _ _ ⟨e1,e2,rfl,rfl⟩
 refine s_ av_ (z_ (n_ (k_ ?_)))
 refine J_loop (X:=(List Rw) × (OA_) × Nat × (LB_) × X) (fun (⟨rest,restA,restC,pre,st⟩:(List Rw) × (OA_) × Nat × (LB_) × X)=>(∀ i:Nat,RO (Lown (blk bp 102 [vL listsA lists.length listsC]::blk bq 138 [vL lA l.length lC]::(Lf ([]:LB_) x0))) w (rest.getD i default).sA ((rest.getD i default).s.map vS))∧(R44.MergeJ (R44.cmpL l) (lists.map Rw.s) pre (rest.map Rw.s))∧(I pre st)∧(rest.length=lists.length)∧(R44.Subs lists rest)∧(∀ i,(rest.getD i default).s.length≤(rest.getD i default).sC)) (fun (⟨rest,restA,restC,pre,st⟩:(List Rw) × (OA_) × Nat × (LB_) × X)=>[(0,Value.func (.yield yl) #[] #[]),(2,pB bq 0),(4,vL restA rest.length restC)]) (fun (⟨rest,restA,restC,pre,st⟩:(List Rw) × (OA_) × Nat × (LB_) × X)=>(blk bp 102 [vL listsA lists.length listsC]::blk bq 138 [vL lA l.length lC]::row (.slice restA rest.length restC) 25 1 rest.length (rest.flatMap Rw.enc)::(Lf pre st))) (fun (⟨rest,restA,restC,pre,st⟩:(List Rw) × (OA_) × Nat × (LB_) × X)=>(rest.map Rw.s).flatten.length) ((lists,e1,e2,([]:LB_),x0):(List Rw) × (OA_) × Nat × (LB_) × X) ?_ ⟨rfl,rfl,rfl,trivial⟩ (fun _ h=>((h.front 2 _ rfl).front 2 _ rfl).keepN 3 [T_,T_,T_] rfl) ?_
 ·try dsimp only
  refine ⟨?_,?_,?_,?_,?_,?_⟩
  ·exact listsN
  ·exact R44.MergeJ.start
  ·exact hI0
  ·rfl
  ·exact R44.Subs.start
  ·exact q5
 rintro ⟨rest,restA,restC,pre,st⟩ hI1
 obtain ⟨i1_0,i1_1,i1_2,i1_3,i1_4,i1_5⟩:=hI1
 try dsimp only at i1_0
 try dsimp only at i1_1
 try dsimp only at i1_2
 try dsimp only at i1_3
 try dsimp only at i1_4
 try dsimp only at i1_5
 have hcv:=R44.cmpL_ok l
 try dsimp only
 have restN:=i1_0
 refine k_ (q_ (g_ (s_ av_ (z_ (n_ (q_ (q_ (g_ (s_ mv_ (s_ (lnS underlying102) (s_ mv_ (z_ (n_ (k_ ?_))))))))))))))
 refine J_loop (X:=Nat × Int) (fun (⟨k,best⟩:Nat × Int)=>(k≤rest.length)∧(R44.BI (R44.cmpL l) (rest.map Rw.s) k best)) (fun (⟨k,best⟩:Nat × Int)=>[(0,Value.func (.yield yl) #[] #[]),(2,pB bq 0),(4,vL restA rest.length restC),(5,vI best),(10,vL restA rest.length restC),(11,vN rest.length),(12,vN k)]) (fun (⟨k,best⟩:Nat × Int)=>(blk bp 102 [vL listsA lists.length listsC]::blk bq 138 [vL lA l.length lC]::row (.slice restA rest.length restC) 25 1 rest.length (rest.flatMap Rw.enc)::(Lf pre st))) (fun (⟨k,best⟩:Nat × Int)=>rest.length-k) ((0,(-1)):Nat × Int) ?_ se_ i_ ?_
 ·try dsimp only
  refine ⟨?_,?_⟩
  ·exact df_
  ·exact R44.BI.zero
 rintro ⟨k,best⟩ hI2
 obtain ⟨i2_0,i2_1⟩:=hI2
 try dsimp only at i2_0
 try dsimp only at i2_1
 have hps:=R44.posS i2_1 hcv i2_0
 have hcb:=i1_5 best.toNat
 have hq1:=i1_4.short q3 k 0
 have hq2:=i1_4.short q3 best.toNat 0
 try dsimp only
 refine q_ (g_ (s_ (x_lss_i rfl rfl) (z_ (n_ (q_ ?_)))))
 refine ifd (fun h3w h3=>?_) (fun h3w h3=>?_)
 ·refine sk_ (n_ (q_ (k_ (q_ (g_ (s_ mv_ (r_ (ixF Rw.enc_len (cells_row 2 rfl) underlying102 sz25) (r_ (ldF0 Rw.enc_len (cells_row 2 rfl) sc25) (s_ av_ (s_ av_ (z_ (n_ (q_ ?_)))))))))))))
  refine drB [] 21 mixed ?_
  refine jp_ 0 rfl mv_ (jp_ 1 rfl (lnS underlying25) (jp_ 2 rfl (x_gtr_i rfl rfl) (jp_ 3 rfl mv_ ?_)))
  refine jb_ 20 (fun h4=>?_) (fun h4=>?_)
  ·have h4:=ot_ h4
   refine jp_ 4 rfl mv_ (jp_ 5 rfl (x_lss_i rfl rfl) (jp_ 6 rfl mv_ ?_ (hw:=w_)) (hw:=w_)) (hw:=w_)
   refine jb_ 23 (fun h5=>?_) (fun h5=>?_)
   ·have h5:=ot_ h5
    refine js2_ 7 rfl (js2_ 8 rfl (js2_ 9 rfl (js2_ 10 rfl (js2_ 11 rfl (js2_ 12 rfl (js2_ 13 rfl (js2_ 14 rfl (js2_ 15 rfl (js2_ 16 rfl ?_)))))))))
    refine js2_ 17 rfl (js2_ 18 rfl ?_)
    refine JA_take 19 (vB true) rfl kf_ kf_ kf_ rfl (fun _ _ _ h=>h) rfl ⟨_,rfl,rfl⟩ (fun _ _=>rfl) ?_
    refine jt_ 20 (vB true) rfl (fun _ _=>rfl) ?_
    refine JA_done kf_ gm_ ?_
    refine n_ (ift (g_ (s_ mv_ (s_ av_ (z_ (kx_ (n_ (g_ (s_ (x_add_n (a:=k) (b:=1) rfl rfl om_) (s_ mv_ (z_ ?_)))))))))))
    refine JX_round ((k+1,((k:Nat):Int)):Nat × Int) ?_ ?_ se_ i_
    ·try dsimp only
     refine ⟨?_,?_⟩
     ·exact df_
     ·exact c44i0_
    ·try dsimp only
     first | omega | (simp;omega) | (simp_all;omega)
   ·have h5:=of_ h5
    refine jp_ 7 rfl mv_ (jq_ 8 rfl (x_indexAddr_at (k:=0) (off:=0) (cells_ro (restN k)) underlying25 sz9 rfl rfl lt_ c44i1_ rfl) (jq_ 9 rfl (ldM vS [] (cells_ro (restN k)) sc9) (jp_ 10 rfl mv_ (jp_ 11 rfl mv_ (jq_ 12 rfl (ixF (k:=(best).toNat) (hy:=(ix_nat rfl om_)) Rw.enc_len (cells_row 2 rfl) underlying102 sz25) (jq_ 13 rfl (ldF0 Rw.enc_len (cells_row 2 rfl) sc25) (jq_ 14 rfl (x_indexAddr_at (k:=0) (off:=0) (cells_ro (restN ((best).toNat))) underlying25 sz9 rfl rfl lt_ c44i1_ rfl) (jq_ 15 rfl (ldM vS [] (cells_ro (restN ((best).toNat))) sc9) (jq_ 16 rfl (ld_ 1 sc138) ?_ (hw:=w_)) (hw:=w_)) (hw:=w_)) (hw:=w_)) (hw:=w_)) (hw:=w_)) (hw:=w_)) (hw:=w_)) (hw:=w_)) (hw:=w_)
    refine j1_ 17 (jc0_ rfl (cl_ ca138) (fun w hS=>f138_ok _ _ l lA lC w (rno lR hS) hy_ hy_ hy_) ?_ (hw:=w_)) gm_
    have ha6:=R44.cmpL_bd l (((rest.getD k default).s).getD 0 []) (((rest.getD ((best).toNat) default).s).getD 0 [])
    try simp only [List.length_cons,List.length_nil,Nat.zero_add,Nat.reduceAdd,Nat.reduceMul] at ha6
    refine jp_ 18 rfl (x_lss_i rfl rfl) ?_ (hw:=w_)
    refine JA_take 19 (vB (decide (R44.cmpL l (((rest.getD k default).s).getD 0 []) (((rest.getD ((best).toNat) default).s).getD 0 [])<0))) rfl kf_ kf_ kf_ rfl (fun _ _ _ h=>h) rfl ⟨_,rfl,rfl⟩ (fun _ _=>rfl) ?_
    refine jt_ 20 (vB (decide (R44.cmpL l (((rest.getD k default).s).getD 0 []) (((rest.getD ((best).toNat) default).s).getD 0 [])<0))) rfl (fun _ _=>rfl) ?_
    refine JA_done kf_ gm_ ?_
    refine n_ ?_
    refine ifd (fun h7w h7=>?_) (fun h7w h7=>?_)
    ·refine g_ (s_ mv_ (s_ av_ (z_ (kx_ (n_ (g_ (s_ (x_add_n (a:=k) (b:=1) rfl rfl om_) (s_ mv_ (z_ ?_)))))))))
     refine JX_round ((k+1,((k:Nat):Int)):Nat × Int) ?_ ?_ se_ i_
     ·try dsimp only
      refine ⟨?_,?_⟩
      ·exact df_
      ·exact c44i0_
     ·try dsimp only
      first | omega | (simp;omega) | (simp_all;omega)
    ·refine sk_ (kx_ (n_ (g_ (s_ (x_add_n (a:=k) (b:=1) rfl rfl om_) (s_ mv_ (z_ ?_))))))
     refine JX_round ((k+1,best):Nat × Int) ?_ ?_ se_ i_
     ·try dsimp only
      refine ⟨?_,?_⟩
      ·exact df_
      ·exact c44i0_
     ·try dsimp only
      first | omega | (simp;omega) | (simp_all;omega)
  ·have h4:=of_ h4
   refine js2_ 4 rfl (js2_ 5 rfl (js2_ 6 rfl (ju_ 7 rfl (ju_ 8 rfl (ju_ 9 rfl (ju_ 10 rfl (ju_ 11 rfl (ju_ 12 rfl (ju_ 13 rfl ?_)))))))))
   refine ju_ 14 rfl (ju_ 15 rfl (ju_ 16 rfl (ju_ 17 rfl (ju_ 18 rfl (js2_ 19 rfl ?_)))))
   refine jt_ 20 (vB false) rfl (fun _ _=>rfl) ?_
   refine JA_done kf_ gm_ ?_
   refine n_ (iff_ (sk_ (kx_ (n_ (g_ (s_ (x_add_n (a:=k) (b:=1) rfl rfl om_) (s_ mv_ (z_ ?_))))))))
   refine JX_round ((k+1,best):Nat × Int) ?_ ?_ se_ i_
   ·try dsimp only
    refine ⟨?_,?_⟩
    ·exact df_
    ·exact c44i0_
   ·try dsimp only
    first | omega | (simp;omega) | (simp_all;omega)
 ·refine J_exit (ne_ (re_ (kh_ (n_ (q_ ?_)))))
  refine q_ (g_ (s_ mv_ (s_ (x_lss_i rfl rfl) (s_ mv_ ?_))))
  rcases Bool.eq_false_or_eq_true (decide (best<0)) with g8 | g8
  ·have g8r:=g8
   have g8r:=ot_ g8r
   refine sh_ g8 (sh_ g8 (sh_ g8 (sh_ g8 (sh_ g8 (sh_ g8 (sh_ g8 (sh_ g8 (sh_ g8 (js_ (vB true) (x_pick_t rfl g8 rfl) ?_)))))))))
   refine z_ (xk_ [0,2,4,5,52] ?_)
   refine n_ (ift (rt_ (nr_ (kq_ (rr_ (kq_ ?_))))))
   refine JX_ret0 results164 ((Lf pre st)) (fun _ h=>h.keepN 3 [F_,F_,F_] rfl) ⟨st,?_,?_,?_⟩
   ·rfl
   ·rw [R44.mj_done i1_1 i2_1 om_ om_]
   ·rw [← R44.mj_done i1_1 i2_1 om_ om_];assumption
  ·have g8r:=g8
   have g8r:=of_ g8r
   refine sg_ g8 mv_ (sg_ g8 mv_ (sg_ g8 mv_ (rg_ g8 (ixF (k:=(best).toNat) (hy:=(ix_nat rfl om_)) Rw.enc_len (cells_row 2 rfl) underlying102 sz25) (rg_ g8 (ldF0 Rw.enc_len (cells_row 2 rfl) sc25) (rg_ g8 (x_indexAddr_at (k:=0) (off:=0) (cells_ro (restN ((best).toNat))) underlying25 sz9 rfl rfl lt_ c44i1_ rfl) (rg_ g8 (ldM vS [] (cells_ro (restN ((best).toNat))) sc9) ?_))))))
   refine JO_yield hY (pre:=pre) (a:=(((rest.getD ((best).toNat) default).s).getD 0 [])) (st:=st) (R44.mj_yield i1_1 i2_1 om_ om_ om_) i1_2 [blk bp 102 [vL listsA lists.length listsC],blk bq 138 [vL lA l.length lC],row (.slice restA rest.length restC) 25 1 rest.length (rest.flatMap Rw.enc)] rfl ⟨_,rfl,g8⟩ rfl rfl i_ (fun st9 hI10=>?_)
   refine jg_ g8 (vB false) (rfl) (js_ (vB false) (x_pick_f rfl g8 rfl) (z_ (xk_ [0,2,4,5,52] ?_)))
   refine n_ (iff_ (sk_ (n_ (g_ (s_ mv_ (s_ mv_ (s_ mv_ (s_ mv_ (r_ (ixF (k:=(best).toNat) (hy:=(ix_nat rfl om_)) Rw.enc_len (cells_row 2 rfl) underlying102 sz25) (r_ (ldF0 Rw.enc_len (cells_row 2 rfl) sc25) (s_ (x_subrow (lo:=1) (hi:=(rest.getD ((best).toNat) default).s.length) rfl underlying25 sz9 (.inl rfl) (.inr ⟨rfl,rfl⟩) lt_ lt_) ?_)))))))))))
   have hro11:=RO.subM (restN ((best).toNat)) ((rest.getD ((best).toNat) default).sC) 1 (((rest.getD ((best).toNat) default).s.length)-1) lt_
   rw [show ((rest.getD ((best).toNat) default).s.length)-1=(((rest.getD ((best).toNat) default).s).drop 1).length from List.length_drop.symm,List.take_length] at hro11
   refine JO_weaken (E':=[(0,Value.func (.yield yl) #[] #[]),(2,pB bq 0),(4,vL restA rest.length restC),(5,vI best),(52,vB false),(53,vL restA rest.length restC),(54,vI best),(55,vL restA rest.length restC),(56,vI best),(57,pA restA (((best).toNat)*1)),(58,vL ((rest.getD ((best).toNat) default).sA) ((rest.getD ((best).toNat) default).s.length) ((rest.getD ((best).toNat) default).sC)),(59,vL (subA (rest.getD ((best).toNat) default).sA ((rest.getD ((best).toNat) default).sC) 1 1) ((((rest.getD ((best).toNat) default).s).drop 1).length) (((rest.getD ((best).toNat) default).sC)-1))]) (L':=(blk bp 102 [vL listsA lists.length listsC]::blk bq 138 [vL lA l.length lC]::row (.slice restA rest.length restC) 25 1 rest.length (rest.flatMap Rw.enc)::(Lf (pre++[(((rest.getD ((best).toNat) default).s).getD 0 [])]) st9))) ⟨rfl,rfl,rfl,rfl,rfl,rfl,rfl,rfl,rfl,rfl,rfl,(congrArg (fun n:Nat=>some (Value.slice (subA (rest.getD ((best).toNat) default).sA ((rest.getD ((best).toNat) default).sC) 1 1) n (((rest.getD ((best).toNat) default).sC)-1))) (by exact List.length_drop.symm)),trivial⟩ i_ ?_
   refine r_ (ixF (k:=(best).toNat) (hy:=(ix_nat rfl om_)) Rw.enc_len (cells_row 2 rfl) underlying102 sz25) ?_
   refine o_ (O_store_row_g (a:=(Rw.mk (((rest.getD ((best).toNat) default).s).drop 1) (subA (rest.getD ((best).toNat) default).sA ((rest.getD ((best).toNat) default).sC) 1 1) (((rest.getD ((best).toNat) default).sC)-1))) (xs:=rest) (k:=(best).toNat) 2 Rw.enc (blk bp 102 [vL listsA lists.length listsC]::blk bq 138 [vL lA l.length lC]::row (.slice restA (rest.set ((best).toNat) (Rw.mk (((rest.getD ((best).toNat) default).s).drop 1) (subA (rest.getD ((best).toNat) default).sA ((rest.getD ((best).toNat) default).sC) 1 1) (((rest.getD ((best).toNat) default).sC)-1))).length restC) 25 1 (rest.set ((best).toNat) (Rw.mk (((rest.getD ((best).toNat) default).s).drop 1) (subA (rest.getD ((best).toNat) default).sA ((rest.getD ((best).toNat) default).sC) 1 1) (((rest.getD ((best).toNat) default).sC)-1))).length ((rest.set ((best).toNat) (Rw.mk (((rest.getD ((best).toNat) default).s).drop 1) (subA (rest.getD ((best).toNat) default).sA ((rest.getD ((best).toNat) default).sC) 1 1) (((rest.getD ((best).toNat) default).sC)-1))).flatMap Rw.enc)::(Lf (pre++[(((rest.getD ((best).toNat) default).s).getD 0 [])]) st9)) rfl rfl rfl rfl sz25 Rw.enc_len Rw.enc_one lt_ rfl ?_)
   refine JO_weaken (E':=[(0,Value.func (.yield yl) #[] #[]),(2,pB bq 0),(4,vL restA ((rest.set ((best).toNat) (Rw.mk (((rest.getD ((best).toNat) default).s).drop 1) (subA (rest.getD ((best).toNat) default).sA ((rest.getD ((best).toNat) default).sC) 1 1) (((rest.getD ((best).toNat) default).sC)-1))).length) restC),(5,vI best),(52,vB false),(53,vL restA ((rest.set ((best).toNat) (Rw.mk (((rest.getD ((best).toNat) default).s).drop 1) (subA (rest.getD ((best).toNat) default).sA ((rest.getD ((best).toNat) default).sC) 1 1) (((rest.getD ((best).toNat) default).sC)-1))).length) restC),(54,vI best),(55,vL restA ((rest.set ((best).toNat) (Rw.mk (((rest.getD ((best).toNat) default).s).drop 1) (subA (rest.getD ((best).toNat) default).sA ((rest.getD ((best).toNat) default).sC) 1 1) (((rest.getD ((best).toNat) default).sC)-1))).length) restC),(56,vI best),(57,pA restA (((best).toNat)*1)),(58,vL ((rest.getD ((best).toNat) default).sA) ((rest.getD ((best).toNat) default).s.length) ((rest.getD ((best).toNat) default).sC)),(59,vL (subA (rest.getD ((best).toNat) default).sA ((rest.getD ((best).toNat) default).sC) 1 1) ((((rest.getD ((best).toNat) default).s).drop 1).length) (((rest.getD ((best).toNat) default).sC)-1)),(60,pA restA (((best).toNat)*1))]) (L':=(blk bp 102 [vL listsA lists.length listsC]::blk bq 138 [vL lA l.length lC]::row (.slice restA (rest.set ((best).toNat) (Rw.mk (((rest.getD ((best).toNat) default).s).drop 1) (subA (rest.getD ((best).toNat) default).sA ((rest.getD ((best).toNat) default).sC) 1 1) (((rest.getD ((best).toNat) default).sC)-1))).length restC) 25 1 (rest.set ((best).toNat) (Rw.mk (((rest.getD ((best).toNat) default).s).drop 1) (subA (rest.getD ((best).toNat) default).sA ((rest.getD ((best).toNat) default).sC) 1 1) (((rest.getD ((best).toNat) default).sC)-1))).length ((rest.set ((best).toNat) (Rw.mk (((rest.getD ((best).toNat) default).s).drop 1) (subA (rest.getD ((best).toNat) default).sA ((rest.getD ((best).toNat) default).sC) 1 1) (((rest.getD ((best).toNat) default).sC)-1))).flatMap Rw.enc)::(Lf (pre++[(((rest.getD ((best).toNat) default).s).getD 0 [])]) st9))) ⟨rfl,rfl,(congrArg (fun n:Nat=>some (Value.slice restA n restC)) (set_len rest ((best).toNat) (Rw.mk (((rest.getD ((best).toNat) default).s).drop 1) (subA (rest.getD ((best).toNat) default).sA ((rest.getD ((best).toNat) default).sC) 1 1) (((rest.getD ((best).toNat) default).sC)-1))).symm),rfl,rfl,(congrArg (fun n:Nat=>some (Value.slice restA n restC)) (set_len rest ((best).toNat) (Rw.mk (((rest.getD ((best).toNat) default).s).drop 1) (subA (rest.getD ((best).toNat) default).sA ((rest.getD ((best).toNat) default).sC) 1 1) (((rest.getD ((best).toNat) default).sC)-1))).symm),rfl,(congrArg (fun n:Nat=>some (Value.slice restA n restC)) (set_len rest ((best).toNat) (Rw.mk (((rest.getD ((best).toNat) default).s).drop 1) (subA (rest.getD ((best).toNat) default).sA ((rest.getD ((best).toNat) default).sC) 1 1) (((rest.getD ((best).toNat) default).sC)-1))).symm),rfl,rfl,rfl,rfl,rfl,trivial⟩ i_ ?_
   refine z_ (kx_ ?_)
   refine JX_round (((rest.set ((best).toNat) (Rw.mk (((rest.getD ((best).toNat) default).s).drop 1) (subA (rest.getD ((best).toNat) default).sA ((rest.getD ((best).toNat) default).sC) 1 1) (((rest.getD ((best).toNat) default).sC)-1))),restA,restC,(pre++[(((rest.getD ((best).toNat) default).s).getD 0 [])]),st9):(List Rw) × (OA_) × Nat × (LB_) × X) ?_ ?_ ⟨rfl,rfl,rfl,trivial⟩ i_
   ·try dsimp only
    refine ⟨?_,?_,?_,?_,?_,?_⟩
    ·exact R44.ron_set i1_0 as_
    ·exact R44.mj_step hcv i1_1 i2_1 om_ om_
    ·assumption
    ·rw [List.length_set];exact i1_3
    ·exact i1_4.step _ _ _
    ·exact R44.cap_set i1_5
   ·try dsimp only
    exact R44.mj_less om_ hps.2.2
theorem f79_ok (bp:Nat) (bq:Nat) (lists:List Rw) (listsA:OA_) (listsC:Nat) (l:List SortField) (lA:OA_) (lC:Nat) (w:World) (listsR:RO [bp,bq] w listsA (lists.flatMap Rw.enc)) (listsN:∀ i:Nat,RO [bp,bq] w (lists.getD i default).sA (((lists.getD i default).s).map vS)) (lR:RO [bp,bq] w lA (l.flatMap SortField.enc)) (q0:lists.length≤1000000) (q1:∀ i j,((lists.getD i default).s.getD j []).length≤1000000) (q2:R44.valid l=true) (q3:∀ i,(lists.getD i default).s.length≤(lists.getD i default).sC) (q4:(lists.map Rw.s).flatten.length≤1000000) (hg:Give [bp,bq] w [blk bp 102 [vL listsA lists.length listsC],blk bq 138 [vL lA l.length lC]]):Calls prog 79 #[vL none 0 0,Value.func (.func 164) #[] #[pB bp 0,pB bq 0]] w (Gives [bp,bq] w fun v L=>∃ A2:OA_,∃ c2:Nat,v=vL A2 ((Srt.merge (R44.cmpL l) (lists.map Rw.s)).length) c2∧L=[row (.slice A2 (Srt.merge (R44.cmpL l) (lists.map Rw.s)).length c2) 9 1 (Srt.merge (R44.cmpL l) (lists.map Rw.s)).length ((Srt.merge (R44.cmpL l) (lists.map Rw.s)).map vS)]):=by
 refine calls_JNG [bp,bq] 13 func79 rfl ntmps79 [(0,_),(1,_)] rfl rfl hg ?_
 refine q_ (g_ (o_ (bx1 fun b1=>?_)))
 refine s_ av_ (z_ (n_ (q_ (q_ (g_ (s_ mv_ (z_ (n_ (k_ ?_)))))))))
 refine J_rangeFunc (n:=_) (gf:=164) (lb:=[pB bp 0,pB bq 0]) (enc:=(fun a:Bytes=>[vS a])) (xs:=(Srt.merge (R44.cmpL l) (lists.map Rw.s))) (fun (pre:LB_) (⟨out,outA,outC⟩:(LB_) × (OA_) × Nat)=>(out=pre)) (fun (_:LB_) (⟨out,outA,outC⟩:(LB_) × (OA_) × Nat)=>[blk b1 25 [vL outA out.length outC],row (.slice outA out.length outC) 9 1 out.length (out.map vS)]) ((([]:LB_),none,0):(LB_) × (OA_) × Nat) [blk bp 102 [vL listsA lists.length listsC],blk bq 138 [vL lA l.length lC]] rfl rfl rfl ca164 (ps_ rfl) (fun _=>rfl) (fun _ h=>((((h.nilrow 9 1).front 1 _ rfl).front 3 _ rfl).front 3 _ rfl).keep [T_,T_,T_,T_] rfl) ?_ ?_ ?_
 ·intro wi3 li4 di5 ri6 hold7 hg8 hY9
  refine it_done (I:=(fun (pre:LB_) (⟨out,outA,outC⟩:(LB_) × (OA_) × Nat)=>(out=pre))) (Lf:=LF li4 di5 ri6 (fun (_:LB_) (⟨out,outA,outC⟩:(LB_) × (OA_) × Nat)=>[blk b1 25 [vL outA out.length outC],row (.slice outA out.length outC) 9 1 out.length (out.map vS)])) ?_
  exact f164_ok li4 _ _ _ _ bp bq lists listsA listsC l lA lC _ (listsR.old hold7) (fun i=>(listsN i).old hold7) (lR.old hold7) hY9 rfl q0 q1 q2 q3 hg8
 ·rintro wi10 li4 di5 ri6 pre a11 rest12 ⟨out,outA,outC⟩ hp13 hI14 hold7
  have i1_0:=hI14
  try dsimp only at i1_0
  have listsR:=listsR.old hold7
  have lR:=lR.old hold7
  have listsN:=fun i=>(listsN i).old hold7
  have hpl:pre.length<1000000:=R44.merge_pre (R44.cmpL_ok l) q4 hp13
  refine J_weaken (E':=[(2,pB b1 0),(7,vS a11)]) (L':=[Ent.obj li4 (lp ri6 .ready),dfr di5,blk b1 25 [vL outA out.length outC],row (.slice outA out.length outC) 9 1 out.length (out.map vS)]) ⟨rfl,rfl,trivial⟩ i_ ?_
  refine g_ (s_ av_ (z_ (JX_begin (k_ (g_ (r_ (ld_ 2 sc25) (s_ mv_ (o_ (O_buildSlice (cs:=[vS a11]) underlying25 sz9 ze9 dd_ dd_ kf_ fun b15=>?_)))))))))
  refine o_ (O_append_m 4 vS out [a11] underlying25 sz9 by9 ze9 rfl rfl rfl rfl rfl (fun _=>rfl) (cells_blk 0 (off:=0) (m:=1) rfl rfl) lt_ lt_ fun A16 c17=>?_)
  refine o_ (st1 3 sz25 ?_)
  refine z_ (kx_ ?_)
  refine JX_end [dfr di5,blk b1 25 [vL A16 ((out++[a11]).length) c17],row (.slice A16 (out++[a11]).length c17) 9 1 (out++[a11]).length ((out++[a11]).map vS)] (fun _ h=>h.keep [F_,T_,T_,T_,T_] rfl) (fun w hS=>⟨rfl,((out++[a11],A16,c17):(LB_) × (OA_) × Nat),?_,hS⟩)
  try dsimp only
  rw [i1_0]
 ·rintro D18 ⟨out,outA,outC⟩ hI14
  have i1_0:=hI14
  try dsimp only at i1_0
  try dsimp only
  refine kx_ (n_ (q_ (g_ (r_ (ld_ 1 sc25) (s_ av_ (z_ (n_ (rt_ ?_))))))))
  refine JX_retsMG (D18::([]:List Nat)) [_] _ rfl results79 [blk b1 25 [vL outA out.length outC],row (.slice outA out.length outC) 9 1 out.length (out.map vS)] i_ (fun w h=>⟨rfl,trivial⟩) rfl [row (.slice outA out.length outC) 9 1 out.length (out.map vS)] (fun _ h=>h.keep [F_,T_] rfl) (fun _ _ h=>h) ⟨outA,outC,?_,?_⟩
  ·have e_x0:(out.length:Nat)=((Srt.merge (R44.cmpL l) (lists.map Rw.s)).length):=by rw [i1_0]
   exact congrArg (fun (x0:Nat)=>vL outA x0 outC) e_x0
  ·have e_y0:(out:LB_)=(Srt.merge (R44.cmpL l) (lists.map Rw.s)):=by
    exact i1_0
   have e_all:=(congrArg (fun (y0:LB_)=>[row (.slice outA y0.length outC) 9 1 y0.length (y0.map vS)]) e_y0)
   exact e_all
theorem f40_ok (bp:Nat) (bq:Nat) (lists:List Rw) (listsA:OA_) (listsC:Nat) (l:List SortField) (lA:OA_) (lC:Nat) (w:World) (listsR:RO [bp,bq] w listsA (lists.flatMap Rw.enc)) (listsN:∀ i:Nat,RO [bp,bq] w (lists.getD i default).sA (((lists.getD i default).s).map vS)) (lR:RO [bp,bq] w lA (l.flatMap SortField.enc)) (q0:lists.length≤1000000) (q1:∀ i j,((lists.getD i default).s.getD j []).length≤1000000) (q2:R44.valid l=true) (q3:∀ i,(lists.getD i default).s.length≤(lists.getD i default).sC) (q4:(lists.map Rw.s).flatten.length≤1000000) (hg:Give [bp,bq] w [blk bp 102 [vL listsA lists.length listsC],blk bq 138 [vL lA l.length lC]]):Calls prog 40 #[Value.func (.func 164) #[] #[pB bp 0,pB bq 0]] w (Gives [bp,bq] w fun v L=>∃ A2:OA_,∃ c2:Nat,v=vL A2 ((Srt.merge (R44.cmpL l) (lists.map Rw.s)).length) c2∧L=[row (.slice A2 (Srt.merge (R44.cmpL l) (lists.map Rw.s)).length c2) 9 1 (Srt.merge (R44.cmpL l) (lists.map Rw.s)).length ((Srt.merge (R44.cmpL l) (lists.map Rw.s)).map vS)]):=by
 refine calls_J [bp,bq] 5 func40 rfl ntmps40 [(0,_)] rfl rfl hg ?_
 refine q_ (g_ (s_ av_ (z_ (n_ (q_ (g_ (s_ mv_ ?_)))))))
 refine JO_call [bp,bq] [blk bp 102 [vL listsA lists.length listsC],blk bq 138 [vL lA l.length lC]] [] rfl trivial (fun _=>x_call ca79 rfl) i_ (own_mem rfl) (fun w hS=>f79_ok bp bq lists listsA listsC l lA lC w (listsR.on hS (own_mem rfl)) (fun i=>(listsN i).on hS (own_mem rfl)) (lR.on hS (own_mem rfl)) hy_ hy_ hy_ hy_ hy_ (hS.give (own_in rfl))) ?_
 rintro _ _ ⟨e1,e2,rfl,rfl⟩
 refine s_ av_ (z_ (n_ (rt_ ?_)))
 refine JX_rets [_] _ results40 (fun w h=>⟨rfl,trivial⟩) rfl _ i_ ⟨e1,e2,?_,?_⟩
 ·rfl
 ·rfl
theorem f100_ok (lists:List Rw) (listsA:OA_) (listsC:Nat) (l:List SortField) (lA:OA_) (lC:Nat) (w:World) (listsR:RO [] w listsA (lists.flatMap Rw.enc)) (listsN:∀ i:Nat,RO [] w (lists.getD i default).sA (((lists.getD i default).s).map vS)) (lR:RO [] w lA (l.flatMap SortField.enc)) (q0:lists.length≤1000000) (q1:∀ i j,((lists.getD i default).s.getD j []).length≤1000000) (q2:∀ i,(lists.getD i default).s.length≤(lists.getD i default).sC) (q3:(lists.map Rw.s).flatten.length≤1000000) (q4:l.length≤9223372036854775807):Calls prog 100 #[vL listsA lists.length listsC,vL lA l.length lC] w (Gives [] w fun v L=>∃ A2:OA_,∃ c2:Nat,v=vL A2 ((R44.mergeV l (lists.map Rw.s)).length) c2∧L=[row (.slice A2 (R44.mergeV l (lists.map Rw.s)).length c2) 9 1 (R44.mergeV l (lists.map Rw.s)).length ((R44.mergeV l (lists.map Rw.s)).map vS)]):=by
 refine calls_J [] 12 func100 rfl ntmps100 [(0,_),(1,_)] rfl rfl (Give.nil w) ?_
 refine q_ (g_ (s_ av_ (z_ (n_ (q_ (q_ (g_ (s_ mv_ (c0 (cl_ ca137) (fun w hS=>f137_ok l lA lC w (rno lR hS) hy_) (s_ (x_not rfl) (z_ (n_ ?_))))))))))))
 refine if_ (fun h1=>?_) (fun h1=>?_)
 ·have h1w:=h1
  have h1:(R44.valid l)=false:=bnot_true h1
  refine q_ (g_ (s_ av_ (z_ (n_ (rt_ (nr_ ?_))))))
  refine JX_rets [_] _ results100 (fun w h=>⟨rfl,trivial⟩) rfl [row (.slice none ([]:LB_).length 0) 9 1 ([]:LB_).length (([]:LB_).map vS)] (fun _ h=>(h.nilrow 9 1).keep [T_] rfl) ⟨none,0,?_,?_⟩
  ·have e_x0:(0:Nat)=((R44.mergeV l (lists.map Rw.s)).length):=by first | exact congrArg List.length (R44.mergeV_no (by simp_all)) | exact congrArg List.length (R44.mergeV_yes as_)
   exact congrArg (fun (x0:Nat)=>vL none x0 0) e_x0
  ·have e_y0:(([]:LB_):LB_)=(R44.mergeV l (lists.map Rw.s)):=by
    first | exact R44.mergeV_no (by simp_all) | exact R44.mergeV_yes as_
   have e_all:=(congrArg (fun (y0:LB_)=>[row (.slice none y0.length 0) 9 1 y0.length (y0.map vS)]) e_y0)
   exact e_all
 ·have h1w:=h1
  have h1:(R44.valid l)=true:=bnot_false h1
  have hi2:=R44.valid_facts h1
  refine sk_ (n_ (q_ (g_ (s_ mv_ (s_ mv_ ?_)))))
  refine c1 (cl_ ca139) (fun w hS=>f139_ok _ _ _ l lA lC w (rno listsR hS) (fun i=>(listsN i).on hS (fun _ h=>by cases h)) (rno lR hS)) ?_
  rintro _ _ ⟨bp3,bq4,rfl,rfl⟩
  refine JO_call [bp3,bq4] [blk bp3 102 [vL listsA lists.length listsC],blk bq4 138 [vL lA l.length lC]] [] rfl trivial (fun _=>x_call ca40 rfl) i_ (own_mem rfl) (fun w hS=>f40_ok bp3 bq4 lists listsA listsC l lA lC w (listsR.on hS (own_mem rfl)) (fun i=>(listsN i).on hS (own_mem rfl)) (lR.on hS (own_mem rfl)) hy_ hy_ hy_ hy_ hy_ (hS.give (own_in rfl))) ?_
  rintro _ _ ⟨e5,e6,rfl,rfl⟩
  refine s_ av_ (z_ (n_ (rt_ ?_)))
  refine JX_rets [_] _ results100 (fun w h=>⟨rfl,trivial⟩) rfl _ i_ ⟨e5,e6,?_,?_⟩
  ·have e_x0:((Srt.merge (R44.cmpL l) (lists.map Rw.s)).length:Nat)=((R44.mergeV l (lists.map Rw.s)).length):=by first | exact congrArg List.length (R44.mergeV_no (by simp_all)) | exact congrArg List.length (R44.mergeV_yes as_)
   exact congrArg (fun (x0:Nat)=>vL e5 x0 e6) e_x0
  ·have e_y0:((Srt.merge (R44.cmpL l) (lists.map Rw.s)):LB_)=(R44.mergeV l (lists.map Rw.s)):=by
    first | exact R44.mergeV_no (by simp_all) | exact R44.mergeV_yes as_
   have e_all:=(congrArg (fun (y0:LB_)=>[row (.slice e5 y0.length e6) 9 1 y0.length (y0.map vS)]) e_y0)
   exact e_all
theorem c44k0_ {p:Prop} (h:p:=by first | exact R44.ix_yes om_ om_ | exact R44.ix_no (fun i hi=>i1_1 i om_)):p:=h
theorem f142_ok (s:Bytes) (w:World) (q0:s.length≤9223372036854775807):Calls prog 142 #[vS s] w (Gives [] w fun v L=>v=vB (decide ((1000:Int)<((s.length:Nat):Int)))∧L=[]):=by
 refine calls_J [] 6 func142 rfl ntmps142 [(0,_)] rfl rfl (Give.nil w) ?_
 refine q_ (g_ (s_ av_ (z_ (n_ (q_ (g_ (s_ mv_ (s_ (x_len_s rfl underlying9) (s_ (x_gtr_i rfl rfl) (s_ av_ (z_ (n_ (rt_ ?_)))))))))))))
 exact p1 results142 rfl ⟨rfl,rfl⟩
theorem f166_ok (rs:LB_) (rsA:OA_) (rsC:Nat) (w:World) (rsR:RO [] w rsA (rs.map vS)) (q0:rs.length≤9223372036854775807) (q1:∀ i,(rs.getD i []).length≤9223372036854775807):Calls prog 166 #[vL rsA rs.length rsC,(fN_ 142)] w (Gives [] w fun v L=>∃ r:Int,v=vI r∧L=[]∧(-1≤r)∧(decide (0≤r)=R44.long rs)):=by
 refine calls_J [] 19 func166 rfl ntmps166 [(0,_),(1,_)] rfl rfl (Give.nil w) ?_
 refine q_ (g_ (s_ av_ (z_ (n_ (q_ (q_ (g_ (s_ mv_ (s_ (lnS underlying25) (s_ mv_ (z_ (n_ (k_ ?_)))))))))))))
 refine J_loop (X:=Nat) (fun (k:Nat)=>(k≤rs.length)∧(∀ i,i<k→(rs.getD i []).length≤1000)) (fun (k:Nat)=>[(0,vL rsA rs.length rsC),(1,(fN_ 142)),(7,vN rs.length),(8,vN k)]) (fun (k:Nat)=>[]) (fun (k:Nat)=>rs.length-k) (0:Nat) ?_ se_ i_ ?_
 ·try dsimp only
  refine ⟨?_,?_⟩
  ·exact df_
  ·intro i hi;omega
 intro k hI1
 obtain ⟨i1_0,i1_1⟩:=hI1
 try dsimp only at i1_0
 try dsimp only at i1_1
 have hqk:=q1 k
 try dsimp only
 refine q_ (g_ (s_ (x_lss_i rfl rfl) (z_ (n_ (q_ ?_)))))
 refine ifd (fun h1w h1=>?_) (fun h1w h1=>?_)
 ·refine sk_ (n_ (q_ (k_ (q_ (g_ (s_ mv_ (s_ av_ (z_ (n_ (q_ (g_ (s_ mv_ (s_ mv_ (s_ mv_ (r_ (ixM (cells_ro rsR) underlying25 sz9) (r_ (ldM vS [] (cells_ro rsR) sc9) (c0 (x_callv (first:=[]) (caps:=[]) rfl ca142 rfl) (fun w hS=>f142_ok _ w hy_) ?_)))))))))))))))))
  refine z_ (n_ ?_)
  refine ifd (fun h2w h2=>?_) (fun h2w h2=>?_)
  ·refine q_ (g_ (s_ mv_ (s_ av_ (z_ (n_ (rt_ (kq_ (nr_ (rr_ (kq_ (nr_ ?_)))))))))))
   refine JX_rets [_] _ results166 (fun w h=>⟨rfl,trivial⟩) rfl _ i_ ⟨((k:Nat):Int),?_,?_,?_,?_⟩
   ·rfl
   ·rfl
   ·omega
   ·exact c44k0_
  ·refine sk_ (kx_ (n_ (g_ (s_ (x_add_n (a:=k) (b:=1) rfl rfl om_) (s_ mv_ (z_ ?_))))))
   refine JX_round (k+1:Nat) ?_ ?_ se_ i_
   ·try dsimp only
    refine ⟨?_,?_⟩
    ·exact df_
    ·intro i hi
     by_cases hik:i=k
     ·subst hik;omega
     ·exact i1_1 i om_
   ·try dsimp only
    first | omega | (simp;omega) | (simp_all;omega)
 ·refine J_exit (ne_ (re_ (kh_ (n_ (q_ ?_)))))
  refine g_ (s_ av_ (z_ (n_ (rt_ ?_))))
  refine JX_rets [_] _ results166 (fun w h=>⟨rfl,trivial⟩) rfl _ i_ ⟨(-1),?_,?_,?_,?_⟩
  ·rfl
  ·rfl
  ·omega
  ·exact c44k0_
theorem f141_ok (rs:LB_) (rsA:OA_) (rsC:Nat) (w:World) (rsR:RO [] w rsA (rs.map vS)) (q0:rs.length≤9223372036854775807) (q1:∀ i,(rs.getD i []).length≤9223372036854775807):Calls prog 141 #[vL rsA rs.length rsC,(fN_ 142)] w (Gives [] w fun v L=>v=vB (R44.long rs)∧L=[]):=by
 refine calls_J [] 9 func141 rfl ntmps141 [(0,_),(1,_)] rfl rfl (Give.nil w) ?_
 refine q_ (g_ (s_ av_ (z_ (n_ (q_ (g_ (s_ mv_ (s_ mv_ ?_))))))))
 refine c1 (cl_ ca166) (fun w hS=>f166_ok rs rsA rsC w (rno rsR hS) hy_ hy_) ?_
 rintro _ _ ⟨r1,rfl,rfl,hf2,hf3⟩
 refine s_ (x_geq_i rfl rfl) (s_ av_ (z_ (n_ (rt_ ?_))))
 exact p1 results141 rfl ⟨(eB as_),rfl⟩
theorem f143_ok (rs:LB_) (rsA:OA_) (rsC:Nat) (w:World) (rsR:RO [] w rsA (rs.map vS)) (q0:rs.length≤1000000) (q1:∀ i,(rs.getD i []).length≤1000000):Calls prog 143 #[vL rsA rs.length rsC,Value.nilFunc] w (Gives [] w fun v L=>∃ A2:OA_,∃ c2:Nat,v=Value.tuple #[vL A2 rs.length c2,vI 0,vI 0]∧L=[row (.slice A2 rs.length c2) 9 1 rs.length (rs.map vS)]):=by
 refine calls_J [] 44 func143 rfl ntmps143 [(0,_),(1,_)] rfl rfl (Give.nil w) ?_
 refine q_ (g_ (s_ av_ (s_ av_ (s_ av_ (z_ (n_ (q_ (q_ (g_ (s_ mv_ (s_ (x_eql_nil rfl rfl underlying152) (z_ (n_ (ift (q_ (g_ (s_ mv_ ?_)))))))))))))))))
 refine c1 (cl_ ca24) (fun w hS=>f24_okS rs rsA rsC w (rno rsR hS) hy_) ?_
 rintro _ _ ⟨e1,e2,rfl,rfl⟩
 refine s_ av_ (s_ av_ (s_ av_ (z_ (n_ (rt_ (nr_ ?_))))))
 refine JX_rets [_,_,_] (Value.tuple #[_,_,_]) results143 (fun w h=>⟨rfl,rfl,rfl,trivial⟩) rfl _ i_ ⟨e1,e2,?_,?_⟩
 ·rfl
 ·rfl
theorem f146_ok (rs:LB_) (rsA:OA_) (rsC:Nat) (l:List SortField) (lA:OA_) (lC:Nat) (w:World) (rsR:RO [] w rsA (rs.map vS)) (lR:RO [] w lA (l.flatMap SortField.enc)):Calls prog 146 #[vL rsA rs.length rsC,vL lA l.length lC,Value.nilFunc] w (Gives [] w fun v L=>v=Value.tuple #[vL rsA rs.length rsC,vI 0]∧L=[]):=by
 refine calls_J [] 67 func146 rfl ntmps146 [(0,_),(1,_),(2,_)] rfl rfl (Give.nil w) ?_
 refine q_ (g_ (s_ av_ (s_ av_ (z_ (n_ (q_ (q_ (g_ (s_ mv_ (s_ (x_eql_nil rfl rfl underlying153) (z_ (n_ (ift (q_ (g_ (s_ mv_ (s_ av_ (s_ av_ ?_))))))))))))))))))
 refine z_ (n_ (rt_ (nr_ ?_)))
 exact p2 results146 rfl rfl ⟨rfl,rfl⟩
theorem f145_ok (rws:List Rw) (rwsA:OA_) (rwsC:Nat) (n:Nat) (w:World) (rwsR:RO [] w rwsA (rws.flatMap Rw.enc)) (rwsN:∀ i:Nat,RO [] w (rws.getD i default).sA (((rws.getD i default).s).map vS)) (q0:1≤n) (q1:n≤1000000):Calls prog 145 #[vL rwsA rws.length rwsC,vN n] w (Gives [] w fun v L=>∃ bp:Nat,∃ bq:Nat,v=Value.func (.func 170) #[] #[pB bp 0,pB bq 0]∧L=[blk bp 102 [vL rwsA rws.length rwsC],blk bq 3 [vN n]]):=by
 refine calls_J [] 9 func145 rfl ntmps145 [(0,_),(1,_)] rfl rfl (Give.nil w) ?_
 refine q_ (g_ (o_ (bx1 fun b1=>?_)))
 refine o_ (bx1 fun b2=>?_)
 refine s_ av_ (z_ (n_ (q_ (q_ (g_ (r_ (ld_ 0 sc3) (s_ (x_lss_i rfl rfl) (z_ (n_ ?_)))))))))
 refine ifd (fun h3w h3=>?_) (fun h3w h3=>?_)
 ·exfalso;omega
 ·refine sk_ (n_ (q_ (g_ (js_ (Value.func (.func 170) #[] #[pB b1 0,pB b2 0]) (x_makeFunc rfl rfl) (s_ av_ (z_ (n_ (rt_ ?_))))))))
  refine JX_rets [_] _ results145 (fun w h=>⟨rfl,trivial⟩) rfl [blk b1 102 [vL rwsA rws.length rwsC],blk b2 3 [vN n]] (fun _ h=>(h.front 1 _ rfl).keep [T_,T_] rfl) ⟨b1,b2,?_,?_⟩
  ·rfl
  ·rfl
theorem f170_ok (yl:Nat) (X:Type) (I:List Part→X→Prop) (Lf:List Part→X→List Ent) (x0:X) (bp:Nat) (bq:Nat) (rws:List Rw) (rwsA:OA_) (rwsC:Nat) (n:Nat) (w:World) (rwsR:RO (Lown (blk bp 102 [vL rwsA rws.length rwsC]::blk bq 3 [vN n]::(Lf ([]:List Part) x0))) w rwsA (rws.flatMap Rw.enc)) (rwsN:∀ i:Nat,RO (Lown (blk bp 102 [vL rwsA rws.length rwsC]::blk bq 3 [vN n]::(Lf ([]:List Part) x0))) w (rws.getD i default).sA (((rws.getD i default).s).map vS)) (hY:YieldOk prog yl (Lown (blk bp 102 [vL rwsA rws.length rwsC]::blk bq 3 [vN n]::(Lf ([]:List Part) x0))) w Part.enc I Lf (R44.parts n rws rwsA)) (hI0:I [] x0) (q2:1≤n) (q3:n≤1000000) (q4:rws.length≤1000000) (q5:rws.length≤rwsC) (hg:Give (Lown (blk bp 102 [vL rwsA rws.length rwsC]::blk bq 3 [vN n]::(Lf ([]:List Part) x0))) w (blk bp 102 [vL rwsA rws.length rwsC]::blk bq 3 [vN n]::(Lf ([]:List Part) x0))):Calls prog 170 #[Value.func (.yield yl) #[] #[],pB bp 0,pB bq 0] w (Gives (Lown (blk bp 102 [vL rwsA rws.length rwsC]::blk bq 3 [vN n]::(Lf ([]:List Part) x0))) w fun v L=>∃ st:X,v=Value.tuple #[]∧L=((Lf (R44.parts n rws rwsA) st))∧(I (R44.parts n rws rwsA) st)):=by
 refine calls_J (Lown (blk bp 102 [vL rwsA rws.length rwsC]::blk bq 3 [vN n]::(Lf ([]:List Part) x0))) 31 func170 rfl ntmps170 [(0,_),(1,_),(2,_)] rfl rfl hg ?_
 refine q_ (g_ (s_ av_ (z_ (n_ (k_ ?_)))))
 refine J_loop (X:=Nat × (List Part) × X) (fun (⟨lo,pre,st⟩:Nat × (List Part) × X)=>(R44.PartJ n rws rwsA pre lo)∧(I pre st)∧(lo≤rws.length+n)) (fun (⟨lo,pre,st⟩:Nat × (List Part) × X)=>[(0,Value.func (.yield yl) #[] #[]),(1,pB bp 0),(2,pB bq 0),(4,vN lo)]) (fun (⟨lo,pre,st⟩:Nat × (List Part) × X)=>(blk bp 102 [vL rwsA rws.length rwsC]::blk bq 3 [vN n]::(Lf pre st))) (fun (⟨lo,pre,st⟩:Nat × (List Part) × X)=>rws.length+n-lo) ((0,([]:List Part),x0):Nat × (List Part) × X) ?_ se_ i_ ?_
 ·try dsimp only
  refine ⟨?_,?_,?_⟩
  ·exact R44.PartJ.start
  ·exact hI0
  ·exact df_
 rintro ⟨lo,pre,st⟩ hI1
 obtain ⟨i1_0,i1_1,i1_2⟩:=hI1
 try dsimp only at i1_0
 try dsimp only at i1_1
 try dsimp only at i1_2
 try dsimp only
 refine q_ (q_ (g_ (s_ mv_ (r_ (ld_ 0 sc102) (s_ (lnS underlying102) (s_ (x_lss_i rfl rfl) (z_ (n_ ?_))))))))
 refine ifd (fun h1w h1=>?_) (fun h1w h1=>?_)
 ·refine sk_ (n_ (q_ (k_ (q_ ?_))))
  refine drB [] 7 mixed ?_
  refine jq_ 0 rfl (ld_ 1 sc3) (jq_ 1 rfl (ld_ 0 sc102) (jp_ 2 rfl mv_ (jp_ 3 rfl (x_subrow (lo:=lo) (hi:=rws.length) rfl underlying102 sz25 (.inl rfl) (.inr ⟨rfl,rfl⟩) lt_ lt_) (jp_ 4 rfl (lnS underlying102) (jp_ 5 rfl (x_min_n (a:=n) (b:=rws.length-lo) rfl rfl) (jp_ 6 rfl av_ ?_))))))
  refine JA_done kf_ gm_ ?_
  refine n_ (q_ (g_ (s_ mv_ (r_ (ld_ 0 sc102) (s_ mv_ (s_ mv_ (s_ mv_ (s_ (x_add_n (a:=lo) (b:=min n (rws.length-lo)) rfl rfl om_) (s_ mv_ (s_ mv_ (s_ (x_add_n (a:=lo) (b:=min n (rws.length-lo)) rfl rfl om_) ?_)))))))))))
  refine s_ (x_subrow3 (lo:=lo) (hi:=lo+(min n (rws.length-lo))) (mx:=lo+(min n (rws.length-lo))) rfl underlying102 sz25 rfl rfl rfl lt_ lt_ lt_) ?_
  refine JO_weaken (E':=[(0,Value.func (.yield yl) #[] #[]),(1,pB bp 0),(2,pB bq 0),(4,vN lo),(6,vN lo),(7,vL rwsA rws.length rwsC),(8,vN rws.length),(9,vB (decide (((lo:Nat):Int)<((rws.length:Nat):Int)))),(13,vN n),(14,vL rwsA rws.length rwsC),(15,vN lo),(16,vL (subA rwsA rwsC lo 1) (rws.length-lo) (rwsC-lo)),(17,vI ((rws.length-lo:Nat):Int)),(18,vI ((min n (rws.length-lo):Nat):Int)),(5,vI ((min n (rws.length-lo):Nat):Int)),(19,Value.func (.yield yl) #[] #[]),(20,vL rwsA rws.length rwsC),(21,vN lo),(22,vN lo),(23,vI ((min n (rws.length-lo):Nat):Int)),(24,vI ((lo+(min n (rws.length-lo)):Nat):Int)),(25,vN lo),(26,vI ((min n (rws.length-lo):Nat):Int)),(27,vI ((lo+(min n (rws.length-lo)):Nat):Int)),(28,vL (subA rwsA (lo+(min n (rws.length-lo))) lo 1) (min n (rws.length-lo)) (min n (rws.length-lo)))]) (L':=(blk bp 102 [vL rwsA rws.length rwsC]::blk bq 3 [vN n]::(Lf pre st))) ⟨rfl,rfl,rfl,rfl,rfl,rfl,rfl,rfl,rfl,rfl,rfl,rfl,rfl,rfl,rfl,rfl,rfl,rfl,rfl,rfl,rfl,rfl,rfl,rfl,(sl_ lt_ lt_),trivial⟩ i_ ?_
  refine JO_yield hY (pre:=pre) (a:=(Part.mk ((rws.drop lo).take (min n (rws.length-lo))) (subA rwsA (lo+(min n (rws.length-lo))) lo 1) (min n (rws.length-lo)))) (st:=st) (i1_0.yield q2 om_) i1_1 [blk bp 102 [vL rwsA rws.length rwsC],blk bq 3 [vN n]] rfl trivial rfl R44.part_enc i_ (fun st2 hI3=>?_)
  refine jr_ (vB false) (z_ (xk_ [0,1,2,4,30] ?_))
  refine n_ (iff_ (sk_ (kx_ (n_ (g_ (s_ mv_ (r_ (ld_ 1 sc3) (s_ (x_add_n (a:=lo) (b:=n) rfl rfl om_) (s_ av_ (z_ ?_))))))))))
  refine JX_round ((lo+n,(pre++[(Part.mk ((rws.drop lo).take (min n (rws.length-lo))) (subA rwsA (lo+(min n (rws.length-lo))) lo 1) (min n (rws.length-lo)))]),st2):Nat × (List Part) × X) ?_ ?_ se_ i_
  ·try dsimp only
   refine ⟨?_,?_,?_⟩
   ·exact i1_0.step q2 om_
   ·assumption
   ·exact df_
  ·try dsimp only
   first | omega | (simp;omega) | (simp_all;omega)
 ·refine J_exit (ne_ (re_ (kh_ ?_)))
  refine JX_end0 results170 ((Lf pre st)) (fun _ h=>h.keepN 2 [F_,F_] rfl) ⟨st,?_,?_,?_⟩
  ·rfl
  ·rw [i1_0.done om_]
  ·rw [← i1_0.done om_];assumption
end Go.Proofs.YtggobegaiijhhaaGreatDoor
