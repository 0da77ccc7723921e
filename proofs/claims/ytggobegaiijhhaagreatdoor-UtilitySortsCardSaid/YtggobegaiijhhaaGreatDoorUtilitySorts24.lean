/- C44g, C44h, C44i, C44j, C44k, C44l in one text. -/
import Derived.Test.YtggobegaiijhhaaGreatDoorC44f
import Derived.Test.YtggobegaiijhhaaGreatDoorUtilitySorts16
import Derived.Test.YtggobegaiijhhaaGreatDoorUtilitySorts7
set_option linter.unusedVariables false
set_option linter.unusedSimpArgs false
namespace Go.Proofs.YtggobegaiijhhaaGreatDoor
open Go.GV
set_option linter.unusedVariables false
set_option linter.unusedSimpArgs false
end Go.Proofs.YtggobegaiijhhaaGreatDoor
namespace Go.Proofs.YtggobegaiijhhaaGreatDoor
open Go.GV
set_option linter.unusedVariables false
set_option linter.unusedSimpArgs false
end Go.Proofs.YtggobegaiijhhaaGreatDoor
namespace Go.Proofs.YtggobegaiijhhaaGreatDoor
open Go.GV
set_option linter.unusedVariables false
set_option linter.unusedSimpArgs false
theorem c44i0_ {p:Prop} (h:p:=by first | exact i2_1.skip (R44.rw_nil (by omega)) | exact i2_1.new (by omega) (R44.rw_cons (by omega)) | exact i2_1.lt (by omega) (R44.rw_cons (by omega)) (R44.rw_cons (by omega)) (by assumption) | exact i2_1.ge (by omega) (R44.rw_cons (by omega)) (R44.rw_cons (by omega)) (by assumption)):p:=h
theorem c44i1_ {p:Prop} (h:p:=by rw [List.length_map];first | omega | (simp only [List.length_append,List.length_cons,List.length_nil];omega) | (simp;omega) | (simp_all;omega) | (simp_all;done)):p:=h
set_option maxRecDepth 20000 in
theorem f165_ok (lists:List Rw) (listsA:Option Addr) (listsC:Nat) (w:World) (listsR:RO [] w listsA (lists.flatMap Rw.enc)) (listsN:∀ i:Nat,RO [] w (lists.getD i default).sA (((lists.getD i default).s).map vS)) (q0:lists.length≤1000000):Calls Tryz.prog 165 #[vL listsA lists.length listsC] w (Gives [] w fun v L=>∃ A2:Option Addr,∃ c2:Nat,v=vL A2 lists.length c2∧L=[Ent.row (.slice A2 lists.length c2) 25 1 lists.length (lists.flatMap Rw.enc)]):=by
 refine calls_J [] 8 Tryz.func165 rfl Tryz.ntmps165 [(0,_)] rfl rfl (Give.nil w) ?_
 refine q_ (g_ (s_ av_ (z_ (n_ (q_ (q_ (g_ (s_ mv_ (s_ (x_eql_sl rfl rfl Tryz.underlying102) (z_ (n_ ?_)))))))))))
 refine if_ (fun h1=>?_) (fun h1=>?_)
 ·refine q_ (g_ (s_ av_ (z_ (n_ (rt_ (nr_ ?_))))))
  refine JX_rets [_] _ Tryz.results165 (fun w h=>⟨rfl,trivial⟩) rfl [Ent.row (.slice none ([]:List Rw).length 0) 25 1 ([]:List Rw).length (([]:List Rw).flatMap Rw.enc)] (fun _ h=>(h.nilrow 25 1).keep [true] rfl) ⟨none,0,?_,?_⟩
  ·have e_x0:(0:Nat)=lists.length:=by first | rfl | (rw [RO.emptyF (m:=0) Rw.enc_len listsR (by assumption)];rfl)
   exact congrArg (fun (x0:Nat)=>vL none x0 0) e_x0
  ·have e_y0:(([]:List Rw):List Rw)=lists:=by
    first | rfl | exact (RO.emptyF (m:=0) Rw.enc_len listsR (by assumption)).symm
   have e_all:=(congrArg (fun (y0:List Rw)=>[Ent.row (.slice none y0.length 0) 25 1 y0.length (y0.flatMap Rw.enc)]) e_y0)
   exact e_all
 ·refine sk_ (n_ (q_ (g_ (o_ (O_buildSlice0 Tryz.underlying102 Ty.sz25 fun b2=>?_)))))
  refine s_ mv_ ?_
  refine JO_weaken (E':=[(0,vL listsA lists.length listsC),(2,vL none 0 0),(3,vL listsA lists.length listsC),(4,vB listsA.isNone),(5,vL (some ⟨b2,0,none⟩) ((([]:List Rw)).length) 0),(6,vL listsA lists.length listsC)]) (L':=[Ent.row (.slice (some ⟨b2,0,none⟩) ([]:List Rw).length 0) 25 1 ([]:List Rw).length (([]:List Rw).flatMap Rw.enc)]) ⟨rfl,rfl,rfl,rfl,rfl,rfl,trivial⟩ (fun _ h=>(St.torow (cs:=[]) h 1 0 rfl (by decide)).keep [true] rfl) ?_
  refine o_ (O_append_f 0 Rw.enc 1 ([]:List Rw) lists Tryz.underlying102 Ty.sz25 Ty.by25 Ty.ze25 rfl (by decide) rfl rfl rfl rfl Rw.enc_len Rw.enc_one (cells_ro listsR) lt_ lt_ fun A3 c4=>?_)
  refine s_ av_ (z_ (n_ (rt_ ?_)))
  refine JX_rets [_] _ Tryz.results165 (fun w h=>⟨rfl,trivial⟩) rfl _ (fun _ h=>h) ⟨A3,c4,?_,?_⟩
  ·have e_x0:((([]:List Rw)++lists).length:Nat)=lists.length:=by first | rfl | (rw [RO.emptyF (m:=0) Rw.enc_len listsR (by assumption)];rfl)
   exact congrArg (fun (x0:Nat)=>vL A3 x0 c4) e_x0
  ·have e_y0:(([]:List Rw)++lists:List Rw)=lists:=by
    first | rfl | exact (RO.emptyF (m:=0) Rw.enc_len listsR (by assumption)).symm
   have e_all:=(congrArg (fun (y0:List Rw)=>[Ent.row (.slice A3 y0.length c4) 25 1 y0.length (y0.flatMap Rw.enc)]) e_y0)
   exact e_all
set_option maxRecDepth 20000 in
theorem f24_okS (rs:List Bytes) (rsA:Option Addr) (rsC:Nat) (w:World) (rsR:RO [] w rsA (rs.map vS)) (q0:rs.length≤1000000):Calls Tryz.prog 24 #[vL rsA rs.length rsC] w (Gives [] w fun v L=>∃ A2:Option Addr,∃ c2:Nat,v=vL A2 rs.length c2∧L=[Ent.row (.slice A2 rs.length c2) 9 1 rs.length (rs.map vS)]):=by
 refine calls_J [] 8 Tryz.func24 rfl Tryz.ntmps24 [(0,_)] rfl rfl (Give.nil w) ?_
 refine q_ (g_ (s_ av_ (z_ (n_ (q_ (q_ (g_ (s_ mv_ (s_ (x_eql_sl rfl rfl Tryz.underlying25) (z_ (n_ ?_)))))))))))
 refine if_ (fun h1=>?_) (fun h1=>?_)
 ·refine q_ (g_ (s_ av_ (z_ (n_ (rt_ (nr_ ?_))))))
  refine JX_rets [_] _ Tryz.results24 (fun w h=>⟨rfl,trivial⟩) rfl [Ent.row (.slice none ([]:List Bytes).length 0) 9 1 ([]:List Bytes).length (([]:List Bytes).map vS)] (fun _ h=>(h.nilrow 9 1).keep [true] rfl) ⟨none,0,?_,?_⟩
  ·have e_x0:(0:Nat)=rs.length:=by first | rfl | (rw [RO.empty rsR (by assumption)];rfl)
   exact congrArg (fun (x0:Nat)=>vL none x0 0) e_x0
  ·have e_y0:(([]:List Bytes):List Bytes)=rs:=by
    first | rfl | exact (RO.empty rsR (by assumption)).symm
   have e_all:=(congrArg (fun (y0:List Bytes)=>[Ent.row (.slice none y0.length 0) 9 1 y0.length (y0.map vS)]) e_y0)
   exact e_all
 ·refine sk_ (n_ (q_ (g_ (o_ (O_buildSlice0 Tryz.underlying25 Ty.sz9 fun b2=>?_)))))
  refine s_ mv_ ?_
  refine JO_weaken (E':=[(0,vL rsA rs.length rsC),(2,vL none 0 0),(3,vL rsA rs.length rsC),(4,vB rsA.isNone),(5,vL (some ⟨b2,0,none⟩) ((([]:List Bytes)).length) 0),(6,vL rsA rs.length rsC)]) (L':=[Ent.row (.slice (some ⟨b2,0,none⟩) ([]:List Bytes).length 0) 9 1 ([]:List Bytes).length (([]:List Bytes).map vS)]) ⟨rfl,rfl,rfl,rfl,rfl,rfl,trivial⟩ (fun _ h=>(St.torow (cs:=[]) h 1 0 rfl (by decide)).keep [true] rfl) ?_
  refine o_ (O_append_m 0 vS ([]:List Bytes) rs Tryz.underlying25 Ty.sz9 Ty.by9 Ty.ze9 rfl rfl rfl rfl rfl (fun _=>rfl) (cells_ro rsR) lt_ lt_ fun A3 c4=>?_)
  refine s_ av_ (z_ (n_ (rt_ ?_)))
  refine JX_rets [_] _ Tryz.results24 (fun w h=>⟨rfl,trivial⟩) rfl _ (fun _ h=>h) ⟨A3,c4,?_,?_⟩
  ·have e_x0:((([]:List Bytes)++rs).length:Nat)=rs.length:=by first | rfl | (rw [RO.empty rsR (by assumption)];rfl)
   exact congrArg (fun (x0:Nat)=>vL A3 x0 c4) e_x0
  ·have e_y0:(([]:List Bytes)++rs:List Bytes)=rs:=by
    first | rfl | exact (RO.empty rsR (by assumption)).symm
   have e_all:=(congrArg (fun (y0:List Bytes)=>[Ent.row (.slice A3 y0.length c4) 9 1 y0.length (y0.map vS)]) e_y0)
   exact e_all
set_option maxRecDepth 20000 in
theorem f139_ok (lists:List Rw) (listsA:Option Addr) (listsC:Nat) (l:List SortField) (lA:Option Addr) (lC:Nat) (w:World) (listsR:RO [] w listsA (lists.flatMap Rw.enc)) (listsN:∀ i:Nat,RO [] w (lists.getD i default).sA (((lists.getD i default).s).map vS)) (lR:RO [] w lA (l.flatMap SortField.enc)):Calls Tryz.prog 139 #[vL listsA lists.length listsC,vL lA l.length lC] w (Gives [] w fun v L=>∃ bp:Nat,∃ bq:Nat,v=Value.func (.func 164) #[] #[pB bp 0,pB bq 0]∧L=[Ent.blk bp 102 [vL listsA lists.length listsC],Ent.blk bq 138 [vL lA l.length lC]]):=by
 refine calls_J [] 6 Tryz.func139 rfl Tryz.ntmps139 [(0,_),(1,_)] rfl rfl (Give.nil w) ?_
 refine q_ (g_ (o_ (bx1 fun b1=>?_)))
 refine o_ (bx1 fun b2=>?_)
 refine s_ av_ (z_ (n_ (q_ (g_ (js_ (Value.func (.func 164) #[] #[pB b1 0,pB b2 0]) (x_makeFunc rfl rfl) (s_ av_ (z_ (n_ (rt_ ?_)))))))))
 refine JX_rets [_] _ Tryz.results139 (fun w h=>⟨rfl,trivial⟩) rfl [Ent.blk b1 102 [vL listsA lists.length listsC],Ent.blk b2 138 [vL lA l.length lC]] (fun _ h=>(h.front 1 _ rfl).keep [true,true] rfl) ⟨b1,b2,?_,?_⟩
 ·rfl
 ·rfl
set_option maxHeartbeats 2000000 in
set_option maxRecDepth 20000 in
theorem f164_ok (yl:Nat) (X:Type) (I:List Bytes→X→Prop) (Lf:List Bytes→X→List Ent) (x0:X) (bp:Nat) (bq:Nat) (lists:List Rw) (listsA:Option Addr) (listsC:Nat) (l:List SortField) (lA:Option Addr) (lC:Nat) (w:World) (listsR:RO (Lown (Ent.blk bp 102 [vL listsA lists.length listsC]::Ent.blk bq 138 [vL lA l.length lC]::(Lf ([]:List Bytes) x0))) w listsA (lists.flatMap Rw.enc)) (listsN:∀ i:Nat,RO (Lown (Ent.blk bp 102 [vL listsA lists.length listsC]::Ent.blk bq 138 [vL lA l.length lC]::(Lf ([]:List Bytes) x0))) w (lists.getD i default).sA (((lists.getD i default).s).map vS)) (lR:RO (Lown (Ent.blk bp 102 [vL listsA lists.length listsC]::Ent.blk bq 138 [vL lA l.length lC]::(Lf ([]:List Bytes) x0))) w lA (l.flatMap SortField.enc)) (hY:YieldOk Tryz.prog yl (Lown (Ent.blk bp 102 [vL listsA lists.length listsC]::Ent.blk bq 138 [vL lA l.length lC]::(Lf ([]:List Bytes) x0))) w (fun a:Bytes=>[vS a]) I Lf (Srt.merge (R44.cmpL l) (lists.map Rw.s))) (hI0:I [] x0) (q2:lists.length≤1000000) (q3:∀ i j,((lists.getD i default).s.getD j []).length≤1000000) (q4:R44.valid l=true) (q5:∀ i,(lists.getD i default).s.length≤(lists.getD i default).sC) (hg:Give (Lown (Ent.blk bp 102 [vL listsA lists.length listsC]::Ent.blk bq 138 [vL lA l.length lC]::(Lf ([]:List Bytes) x0))) w (Ent.blk bp 102 [vL listsA lists.length listsC]::Ent.blk bq 138 [vL lA l.length lC]::(Lf ([]:List Bytes) x0))):Calls Tryz.prog 164 #[Value.func (.yield yl) #[] #[],pB bp 0,pB bq 0] w (Gives (Lown (Ent.blk bp 102 [vL listsA lists.length listsC]::Ent.blk bq 138 [vL lA l.length lC]::(Lf ([]:List Bytes) x0))) w fun v L=>∃ st:X,v=Value.tuple #[]∧L=((Lf (Srt.merge (R44.cmpL l) (lists.map Rw.s)) st))∧(I (Srt.merge (R44.cmpL l) (lists.map Rw.s)) st)):=by
 refine calls_J (Lown (Ent.blk bp 102 [vL listsA lists.length listsC]::Ent.blk bq 138 [vL lA l.length lC]::(Lf ([]:List Bytes) x0))) 61 Tryz.func164 rfl Tryz.ntmps164 [(0,_),(1,_),(2,_)] rfl rfl hg ?_
 refine q_ (g_ (r_ (ld_ 0 Ty.sc102) ?_))
 refine c1 (cl_ Ty.ca165) (fun w hS=>f165_ok _ _ _ w (rno listsR hS) (fun i=>(listsN i).on hS (fun _ h=>by cases h)) hy_) ?_
 rintro _ _ ⟨e1,e2,rfl,rfl⟩
 refine s_ av_ (z_ (n_ (k_ ?_)))
 refine J_loop (X:=(List Rw) × (Option Addr) × Nat × (List Bytes) × X) (fun (⟨rest,restA,restC,pre,st⟩:(List Rw) × (Option Addr) × Nat × (List Bytes) × X)=>(∀ i:Nat,RO (Lown (Ent.blk bp 102 [vL listsA lists.length listsC]::Ent.blk bq 138 [vL lA l.length lC]::(Lf ([]:List Bytes) x0))) w (rest.getD i default).sA ((rest.getD i default).s.map vS))∧(R44.MergeJ (R44.cmpL l) (lists.map Rw.s) pre (rest.map Rw.s))∧(I pre st)∧(rest.length=lists.length)∧(R44.Subs lists rest)∧(∀ i,(rest.getD i default).s.length≤(rest.getD i default).sC)) (fun (⟨rest,restA,restC,pre,st⟩:(List Rw) × (Option Addr) × Nat × (List Bytes) × X)=>[(0,Value.func (.yield yl) #[] #[]),(2,pB bq 0),(4,vL restA rest.length restC)]) (fun (⟨rest,restA,restC,pre,st⟩:(List Rw) × (Option Addr) × Nat × (List Bytes) × X)=>(Ent.blk bp 102 [vL listsA lists.length listsC]::Ent.blk bq 138 [vL lA l.length lC]::Ent.row (.slice restA rest.length restC) 25 1 rest.length (rest.flatMap Rw.enc)::(Lf pre st))) (fun (⟨rest,restA,restC,pre,st⟩:(List Rw) × (Option Addr) × Nat × (List Bytes) × X)=>(rest.map Rw.s).flatten.length) ((lists,e1,e2,([]:List Bytes),x0):(List Rw) × (Option Addr) × Nat × (List Bytes) × X) ?_ ⟨rfl,rfl,rfl,trivial⟩ (fun _ h=>((h.front 2 _ rfl).front 2 _ rfl).keepN 3 [true,true,true] rfl) ?_
 ·try dsimp only
  refine ⟨?_,?_,?_,?_,?_,?_⟩
  ·exact listsN
  ·exact R44.MergeJ.start
  ·exact hI0
  ·rfl
  ·exact R44.Subs.start
  ·exact q5
 rintro ⟨rest,restA,restC,pre,st⟩ hI1
 obtain ⟨i1_0,i1_1,i1_2,i1_3,i1_4,i1_5⟩:=hI1
 try dsimp only at i1_0
 try dsimp only at i1_1
 try dsimp only at i1_2
 try dsimp only at i1_3
 try dsimp only at i1_4
 try dsimp only at i1_5
 have hcv:=R44.cmpL_ok l
 try dsimp only
 have restN:=i1_0
 refine k_ (q_ (g_ (s_ av_ (z_ (n_ (q_ (q_ (g_ (s_ mv_ (s_ (lnS Tryz.underlying102) (s_ mv_ (z_ (n_ (k_ ?_))))))))))))))
 refine J_loop (X:=Nat × Int) (fun (⟨k,best⟩:Nat × Int)=>(k≤rest.length)∧(R44.BI (R44.cmpL l) (rest.map Rw.s) k best)) (fun (⟨k,best⟩:Nat × Int)=>[(0,Value.func (.yield yl) #[] #[]),(2,pB bq 0),(4,vL restA rest.length restC),(5,vI best),(10,vL restA rest.length restC),(11,vI ((rest.length:Nat):Int)),(12,vI ((k:Nat):Int))]) (fun (⟨k,best⟩:Nat × Int)=>(Ent.blk bp 102 [vL listsA lists.length listsC]::Ent.blk bq 138 [vL lA l.length lC]::Ent.row (.slice restA rest.length restC) 25 1 rest.length (rest.flatMap Rw.enc)::(Lf pre st))) (fun (⟨k,best⟩:Nat × Int)=>rest.length-k) ((0,(-1)):Nat × Int) ?_ ⟨rfl,rfl,rfl,rfl,rfl,rfl,rfl,trivial⟩ (fun _ h=>h) ?_
 ·try dsimp only
  refine ⟨?_,?_⟩
  ·first | rfl | omega | (simp_all;done) | (simp_all;omega)
  ·exact R44.BI.zero
 rintro ⟨k,best⟩ hI2
 obtain ⟨i2_0,i2_1⟩:=hI2
 try dsimp only at i2_0
 try dsimp only at i2_1
 have hps:=R44.posS i2_1 hcv i2_0
 have hcb:=i1_5 best.toNat
 have hq1:=i1_4.short q3 k 0
 have hq2:=i1_4.short q3 best.toNat 0
 try dsimp only
 refine q_ (g_ (s_ (x_lss_i rfl rfl) (z_ (n_ (q_ ?_)))))
 refine ifd (fun h3w h3=>?_) (fun h3w h3=>?_)
 ·refine sk_ (n_ (q_ (k_ (q_ (g_ (s_ mv_ (r_ (ixF Rw.enc_len (cells_row 2 rfl) Tryz.underlying102 Ty.sz25) (r_ (ldF0 Rw.enc_len (cells_row 2 rfl) Ty.sc25) (s_ av_ (s_ av_ (z_ (n_ (q_ ?_)))))))))))))
  refine drB [] 21 Ty.mixed ?_
  refine jp_ 0 rfl mv_ (jp_ 1 rfl (lnS Tryz.underlying25) (jp_ 2 rfl (x_gtr_i rfl rfl) (jp_ 3 rfl mv_ ?_)))
  refine jb_ 20 (fun h4=>?_) (fun h4=>?_)
  ·have h4:=of_decide_eq_true h4
   refine jp_ 4 rfl mv_ (jp_ 5 rfl (x_lss_i rfl rfl) (jp_ 6 rfl mv_ ?_ (hw:=⟨_,rfl,rfl⟩)) (hw:=⟨_,rfl,rfl⟩)) (hw:=⟨_,rfl,rfl⟩)
   refine jb_ 23 (fun h5=>?_) (fun h5=>?_)
   ·have h5:=of_decide_eq_true h5
    refine js2_ 7 rfl (js2_ 8 rfl (js2_ 9 rfl (js2_ 10 rfl (js2_ 11 rfl (js2_ 12 rfl (js2_ 13 rfl (js2_ 14 rfl (js2_ 15 rfl (js2_ 16 rfl ?_)))))))))
    refine js2_ 17 rfl (js2_ 18 rfl ?_)
    refine JA_take 19 (vB true) rfl (by kernel_rfl) (by kernel_rfl) (by kernel_rfl) rfl (fun _ _ _ h=>h) rfl ⟨_,rfl,rfl⟩ (fun _ _=>rfl) ?_
    refine jt_ 20 (vB true) rfl (fun _ _=>rfl) ?_
    refine JA_done (by kernel_rfl) gm_ ?_
    refine n_ (ift (g_ (s_ mv_ (s_ av_ (z_ (kx_ (n_ (g_ (s_ (x_add_n (a:=k) (b:=1) rfl rfl (by omega)) (s_ mv_ (z_ ?_)))))))))))
    refine JX_round ((k+1,((k:Nat):Int)):Nat × Int) ?_ ?_ ⟨rfl,rfl,rfl,rfl,rfl,rfl,rfl,trivial⟩ (fun _ h=>h)
    ·try dsimp only
     refine ⟨?_,?_⟩
     ·first | rfl | omega | (simp_all;done) | (simp_all;omega)
     ·exact c44i0_
    ·try dsimp only
     first | omega | (simp;omega) | (simp_all;omega)
   ·have h5:=of_decide_eq_false h5
    refine jp_ 7 rfl mv_ (jq_ 8 rfl (x_indexAddr_at (k:=0) (off:=0) (cells_ro (restN k)) Tryz.underlying25 Ty.sz9 rfl rfl lt_ c44i1_ rfl) (jq_ 9 rfl (ldM vS [] (cells_ro (restN k)) Ty.sc9) (jp_ 10 rfl mv_ (jp_ 11 rfl mv_ (jq_ 12 rfl (ixF (k:=(best).toNat) (hy:=(ix_nat rfl (by omega))) Rw.enc_len (cells_row 2 rfl) Tryz.underlying102 Ty.sz25) (jq_ 13 rfl (ldF0 Rw.enc_len (cells_row 2 rfl) Ty.sc25) (jq_ 14 rfl (x_indexAddr_at (k:=0) (off:=0) (cells_ro (restN ((best).toNat))) Tryz.underlying25 Ty.sz9 rfl rfl lt_ c44i1_ rfl) (jq_ 15 rfl (ldM vS [] (cells_ro (restN ((best).toNat))) Ty.sc9) (jq_ 16 rfl (ld_ 1 Ty.sc138) ?_ (hw:=⟨_,rfl,rfl⟩)) (hw:=⟨_,rfl,rfl⟩)) (hw:=⟨_,rfl,rfl⟩)) (hw:=⟨_,rfl,rfl⟩)) (hw:=⟨_,rfl,rfl⟩)) (hw:=⟨_,rfl,rfl⟩)) (hw:=⟨_,rfl,rfl⟩)) (hw:=⟨_,rfl,rfl⟩)) (hw:=⟨_,rfl,rfl⟩)) (hw:=⟨_,rfl,rfl⟩)
    refine j1_ 17 (jc0_ rfl (cl_ Ty.ca138) (fun w hS=>f138_ok _ _ l lA lC w (rno lR hS) hy_ hy_ hy_) ?_ (hw:=⟨_,rfl,rfl⟩)) gm_
    have ha6:=R44.cmpL_bd l (((rest.getD k default).s).getD 0 []) (((rest.getD ((best).toNat) default).s).getD 0 [])
    try simp only [List.length_cons,List.length_nil,Nat.zero_add,Nat.reduceAdd,Nat.reduceMul] at ha6
    refine jp_ 18 rfl (x_lss_i rfl rfl) ?_ (hw:=⟨_,rfl,rfl⟩)
    refine JA_take 19 (vB (decide (R44.cmpL l (((rest.getD k default).s).getD 0 []) (((rest.getD ((best).toNat) default).s).getD 0 [])<0))) rfl (by kernel_rfl) (by kernel_rfl) (by kernel_rfl) rfl (fun _ _ _ h=>h) rfl ⟨_,rfl,rfl⟩ (fun _ _=>rfl) ?_
    refine jt_ 20 (vB (decide (R44.cmpL l (((rest.getD k default).s).getD 0 []) (((rest.getD ((best).toNat) default).s).getD 0 [])<0))) rfl (fun _ _=>rfl) ?_
    refine JA_done (by kernel_rfl) gm_ ?_
    refine n_ ?_
    refine ifd (fun h7w h7=>?_) (fun h7w h7=>?_)
    ·refine g_ (s_ mv_ (s_ av_ (z_ (kx_ (n_ (g_ (s_ (x_add_n (a:=k) (b:=1) rfl rfl (by omega)) (s_ mv_ (z_ ?_)))))))))
     refine JX_round ((k+1,((k:Nat):Int)):Nat × Int) ?_ ?_ ⟨rfl,rfl,rfl,rfl,rfl,rfl,rfl,trivial⟩ (fun _ h=>h)
     ·try dsimp only
      refine ⟨?_,?_⟩
      ·first | rfl | omega | (simp_all;done) | (simp_all;omega)
      ·exact c44i0_
     ·try dsimp only
      first | omega | (simp;omega) | (simp_all;omega)
    ·refine sk_ (kx_ (n_ (g_ (s_ (x_add_n (a:=k) (b:=1) rfl rfl (by omega)) (s_ mv_ (z_ ?_))))))
     refine JX_round ((k+1,best):Nat × Int) ?_ ?_ ⟨rfl,rfl,rfl,rfl,rfl,rfl,rfl,trivial⟩ (fun _ h=>h)
     ·try dsimp only
      refine ⟨?_,?_⟩
      ·first | rfl | omega | (simp_all;done) | (simp_all;omega)
      ·exact c44i0_
     ·try dsimp only
      first | omega | (simp;omega) | (simp_all;omega)
  ·have h4:=of_decide_eq_false h4
   refine js2_ 4 rfl (js2_ 5 rfl (js2_ 6 rfl (ju_ 7 rfl (ju_ 8 rfl (ju_ 9 rfl (ju_ 10 rfl (ju_ 11 rfl (ju_ 12 rfl (ju_ 13 rfl ?_)))))))))
   refine ju_ 14 rfl (ju_ 15 rfl (ju_ 16 rfl (ju_ 17 rfl (ju_ 18 rfl (js2_ 19 rfl ?_)))))
   refine jt_ 20 (vB false) rfl (fun _ _=>rfl) ?_
   refine JA_done (by kernel_rfl) gm_ ?_
   refine n_ (iff_ (sk_ (kx_ (n_ (g_ (s_ (x_add_n (a:=k) (b:=1) rfl rfl (by omega)) (s_ mv_ (z_ ?_))))))))
   refine JX_round ((k+1,best):Nat × Int) ?_ ?_ ⟨rfl,rfl,rfl,rfl,rfl,rfl,rfl,trivial⟩ (fun _ h=>h)
   ·try dsimp only
    refine ⟨?_,?_⟩
    ·first | rfl | omega | (simp_all;done) | (simp_all;omega)
    ·exact c44i0_
   ·try dsimp only
    first | omega | (simp;omega) | (simp_all;omega)
 ·refine J_exit (ne_ (re_ (kh_ (n_ (q_ ?_)))))
  refine q_ (g_ (s_ mv_ (s_ (x_lss_i rfl rfl) (s_ mv_ ?_))))
  rcases Bool.eq_false_or_eq_true (decide (best<0)) with g8 | g8
  ·have g8r:=g8
   have g8r:=of_decide_eq_true g8r
   refine sh_ g8 (sh_ g8 (sh_ g8 (sh_ g8 (sh_ g8 (sh_ g8 (sh_ g8 (sh_ g8 (sh_ g8 (js_ (vB true) (x_pick_t rfl g8 rfl) ?_)))))))))
   refine z_ (xk_ [0,2,4,5,52] ?_)
   refine n_ (ift (rt_ (nr_ (kq_ (rr_ (kq_ ?_))))))
   refine JX_ret0 Tryz.results164 ((Lf pre st)) (fun _ h=>h.keepN 3 [false,false,false] rfl) ⟨st,?_,?_,?_⟩
   ·rfl
   ·rw [R44.mj_done i1_1 i2_1 (by omega) (by omega)]
   ·rw [← R44.mj_done i1_1 i2_1 (by omega) (by omega)];assumption
  ·have g8r:=g8
   have g8r:=of_decide_eq_false g8r
   refine sg_ g8 mv_ (sg_ g8 mv_ (sg_ g8 mv_ (rg_ g8 (ixF (k:=(best).toNat) (hy:=(ix_nat rfl (by omega))) Rw.enc_len (cells_row 2 rfl) Tryz.underlying102 Ty.sz25) (rg_ g8 (ldF0 Rw.enc_len (cells_row 2 rfl) Ty.sc25) (rg_ g8 (x_indexAddr_at (k:=0) (off:=0) (cells_ro (restN ((best).toNat))) Tryz.underlying25 Ty.sz9 rfl rfl lt_ c44i1_ rfl) (rg_ g8 (ldM vS [] (cells_ro (restN ((best).toNat))) Ty.sc9) ?_))))))
   refine JO_yield hY (pre:=pre) (a:=(((rest.getD ((best).toNat) default).s).getD 0 [])) (st:=st) (R44.mj_yield i1_1 i2_1 (by omega) (by omega) (by omega)) i1_2 [Ent.blk bp 102 [vL listsA lists.length listsC],Ent.blk bq 138 [vL lA l.length lC],Ent.row (.slice restA rest.length restC) 25 1 rest.length (rest.flatMap Rw.enc)] rfl ⟨_,rfl,g8⟩ rfl rfl (fun _ h=>h) (fun st9 hI10=>?_)
   refine jg_ g8 (vB false) (rfl) (js_ (vB false) (x_pick_f rfl g8 rfl) (z_ (xk_ [0,2,4,5,52] ?_)))
   refine n_ (iff_ (sk_ (n_ (g_ (s_ mv_ (s_ mv_ (s_ mv_ (s_ mv_ (r_ (ixF (k:=(best).toNat) (hy:=(ix_nat rfl (by omega))) Rw.enc_len (cells_row 2 rfl) Tryz.underlying102 Ty.sz25) (r_ (ldF0 Rw.enc_len (cells_row 2 rfl) Ty.sc25) (s_ (x_subrow (lo:=1) (hi:=(rest.getD ((best).toNat) default).s.length) rfl Tryz.underlying25 Ty.sz9 (.inl rfl) (.inr ⟨rfl,rfl⟩) lt_ lt_) ?_)))))))))))
   have hro11:=RO.subM (restN ((best).toNat)) ((rest.getD ((best).toNat) default).sC) 1 (((rest.getD ((best).toNat) default).s.length)-1) lt_
   rw [show ((rest.getD ((best).toNat) default).s.length)-1=(((rest.getD ((best).toNat) default).s).drop 1).length from List.length_drop.symm,List.take_length] at hro11
   refine JO_weaken (E':=[(0,Value.func (.yield yl) #[] #[]),(2,pB bq 0),(4,vL restA rest.length restC),(5,vI best),(52,vB false),(53,vL restA rest.length restC),(54,vI best),(55,vL restA rest.length restC),(56,vI best),(57,pA restA (((best).toNat)*1)),(58,vL ((rest.getD ((best).toNat) default).sA) ((rest.getD ((best).toNat) default).s.length) ((rest.getD ((best).toNat) default).sC)),(59,vL (subA (rest.getD ((best).toNat) default).sA ((rest.getD ((best).toNat) default).sC) 1 1) ((((rest.getD ((best).toNat) default).s).drop 1).length) (((rest.getD ((best).toNat) default).sC)-1))]) (L':=(Ent.blk bp 102 [vL listsA lists.length listsC]::Ent.blk bq 138 [vL lA l.length lC]::Ent.row (.slice restA rest.length restC) 25 1 rest.length (rest.flatMap Rw.enc)::(Lf (pre++[(((rest.getD ((best).toNat) default).s).getD 0 [])]) st9))) ⟨rfl,rfl,rfl,rfl,rfl,rfl,rfl,rfl,rfl,rfl,rfl,(congrArg (fun n:Nat=>some (Value.slice (subA (rest.getD ((best).toNat) default).sA ((rest.getD ((best).toNat) default).sC) 1 1) n (((rest.getD ((best).toNat) default).sC)-1))) (by exact List.length_drop.symm)),trivial⟩ (fun _ h=>h) ?_
   refine r_ (ixF (k:=(best).toNat) (hy:=(ix_nat rfl (by omega))) Rw.enc_len (cells_row 2 rfl) Tryz.underlying102 Ty.sz25) ?_
   refine o_ (O_store_row_g (a:=(Rw.mk (((rest.getD ((best).toNat) default).s).drop 1) (subA (rest.getD ((best).toNat) default).sA ((rest.getD ((best).toNat) default).sC) 1 1) (((rest.getD ((best).toNat) default).sC)-1))) (xs:=rest) (k:=(best).toNat) 2 Rw.enc (Ent.blk bp 102 [vL listsA lists.length listsC]::Ent.blk bq 138 [vL lA l.length lC]::Ent.row (.slice restA (rest.set ((best).toNat) (Rw.mk (((rest.getD ((best).toNat) default).s).drop 1) (subA (rest.getD ((best).toNat) default).sA ((rest.getD ((best).toNat) default).sC) 1 1) (((rest.getD ((best).toNat) default).sC)-1))).length restC) 25 1 (rest.set ((best).toNat) (Rw.mk (((rest.getD ((best).toNat) default).s).drop 1) (subA (rest.getD ((best).toNat) default).sA ((rest.getD ((best).toNat) default).sC) 1 1) (((rest.getD ((best).toNat) default).sC)-1))).length ((rest.set ((best).toNat) (Rw.mk (((rest.getD ((best).toNat) default).s).drop 1) (subA (rest.getD ((best).toNat) default).sA ((rest.getD ((best).toNat) default).sC) 1 1) (((rest.getD ((best).toNat) default).sC)-1))).flatMap Rw.enc)::(Lf (pre++[(((rest.getD ((best).toNat) default).s).getD 0 [])]) st9)) rfl rfl rfl rfl Ty.sz25 Rw.enc_len Rw.enc_one lt_ rfl ?_)
   refine JO_weaken (E':=[(0,Value.func (.yield yl) #[] #[]),(2,pB bq 0),(4,vL restA ((rest.set ((best).toNat) (Rw.mk (((rest.getD ((best).toNat) default).s).drop 1) (subA (rest.getD ((best).toNat) default).sA ((rest.getD ((best).toNat) default).sC) 1 1) (((rest.getD ((best).toNat) default).sC)-1))).length) restC),(5,vI best),(52,vB false),(53,vL restA ((rest.set ((best).toNat) (Rw.mk (((rest.getD ((best).toNat) default).s).drop 1) (subA (rest.getD ((best).toNat) default).sA ((rest.getD ((best).toNat) default).sC) 1 1) (((rest.getD ((best).toNat) default).sC)-1))).length) restC),(54,vI best),(55,vL restA ((rest.set ((best).toNat) (Rw.mk (((rest.getD ((best).toNat) default).s).drop 1) (subA (rest.getD ((best).toNat) default).sA ((rest.getD ((best).toNat) default).sC) 1 1) (((rest.getD ((best).toNat) default).sC)-1))).length) restC),(56,vI best),(57,pA restA (((best).toNat)*1)),(58,vL ((rest.getD ((best).toNat) default).sA) ((rest.getD ((best).toNat) default).s.length) ((rest.getD ((best).toNat) default).sC)),(59,vL (subA (rest.getD ((best).toNat) default).sA ((rest.getD ((best).toNat) default).sC) 1 1) ((((rest.getD ((best).toNat) default).s).drop 1).length) (((rest.getD ((best).toNat) default).sC)-1)),(60,pA restA (((best).toNat)*1))]) (L':=(Ent.blk bp 102 [vL listsA lists.length listsC]::Ent.blk bq 138 [vL lA l.length lC]::Ent.row (.slice restA (rest.set ((best).toNat) (Rw.mk (((rest.getD ((best).toNat) default).s).drop 1) (subA (rest.getD ((best).toNat) default).sA ((rest.getD ((best).toNat) default).sC) 1 1) (((rest.getD ((best).toNat) default).sC)-1))).length restC) 25 1 (rest.set ((best).toNat) (Rw.mk (((rest.getD ((best).toNat) default).s).drop 1) (subA (rest.getD ((best).toNat) default).sA ((rest.getD ((best).toNat) default).sC) 1 1) (((rest.getD ((best).toNat) default).sC)-1))).length ((rest.set ((best).toNat) (Rw.mk (((rest.getD ((best).toNat) default).s).drop 1) (subA (rest.getD ((best).toNat) default).sA ((rest.getD ((best).toNat) default).sC) 1 1) (((rest.getD ((best).toNat) default).sC)-1))).flatMap Rw.enc)::(Lf (pre++[(((rest.getD ((best).toNat) default).s).getD 0 [])]) st9))) ⟨rfl,rfl,(congrArg (fun n:Nat=>some (Value.slice restA n restC)) (set_len rest ((best).toNat) (Rw.mk (((rest.getD ((best).toNat) default).s).drop 1) (subA (rest.getD ((best).toNat) default).sA ((rest.getD ((best).toNat) default).sC) 1 1) (((rest.getD ((best).toNat) default).sC)-1))).symm),rfl,rfl,(congrArg (fun n:Nat=>some (Value.slice restA n restC)) (set_len rest ((best).toNat) (Rw.mk (((rest.getD ((best).toNat) default).s).drop 1) (subA (rest.getD ((best).toNat) default).sA ((rest.getD ((best).toNat) default).sC) 1 1) (((rest.getD ((best).toNat) default).sC)-1))).symm),rfl,(congrArg (fun n:Nat=>some (Value.slice restA n restC)) (set_len rest ((best).toNat) (Rw.mk (((rest.getD ((best).toNat) default).s).drop 1) (subA (rest.getD ((best).toNat) default).sA ((rest.getD ((best).toNat) default).sC) 1 1) (((rest.getD ((best).toNat) default).sC)-1))).symm),rfl,rfl,rfl,rfl,rfl,trivial⟩ (fun _ h=>h) ?_
   refine z_ (kx_ ?_)
   refine JX_round (((rest.set ((best).toNat) (Rw.mk (((rest.getD ((best).toNat) default).s).drop 1) (subA (rest.getD ((best).toNat) default).sA ((rest.getD ((best).toNat) default).sC) 1 1) (((rest.getD ((best).toNat) default).sC)-1))),restA,restC,(pre++[(((rest.getD ((best).toNat) default).s).getD 0 [])]),st9):(List Rw) × (Option Addr) × Nat × (List Bytes) × X) ?_ ?_ ⟨rfl,rfl,rfl,trivial⟩ (fun _ h=>h)
   ·try dsimp only
    refine ⟨?_,?_,?_,?_,?_,?_⟩
    ·exact R44.ron_set i1_0 (by assumption)
    ·exact R44.mj_step hcv i1_1 i2_1 (by omega) (by omega)
    ·assumption
    ·rw [List.length_set];exact i1_3
    ·exact i1_4.step _ _ _
    ·exact R44.cap_set i1_5
   ·try dsimp only
    exact R44.mj_less (by omega) hps.2.2
end Go.Proofs.YtggobegaiijhhaaGreatDoor
namespace Go.Proofs.YtggobegaiijhhaaGreatDoor
open Go.GV
set_option linter.unusedVariables false
set_option linter.unusedSimpArgs false
set_option maxRecDepth 20000 in
theorem f79_ok (bp:Nat) (bq:Nat) (lists:List Rw) (listsA:Option Addr) (listsC:Nat) (l:List SortField) (lA:Option Addr) (lC:Nat) (w:World) (listsR:RO [bp,bq] w listsA (lists.flatMap Rw.enc)) (listsN:∀ i:Nat,RO [bp,bq] w (lists.getD i default).sA (((lists.getD i default).s).map vS)) (lR:RO [bp,bq] w lA (l.flatMap SortField.enc)) (q0:lists.length≤1000000) (q1:∀ i j,((lists.getD i default).s.getD j []).length≤1000000) (q2:R44.valid l=true) (q3:∀ i,(lists.getD i default).s.length≤(lists.getD i default).sC) (q4:(lists.map Rw.s).flatten.length≤1000000) (hg:Give [bp,bq] w [Ent.blk bp 102 [vL listsA lists.length listsC],Ent.blk bq 138 [vL lA l.length lC]]):Calls Tryz.prog 79 #[vL none 0 0,Value.func (.func 164) #[] #[pB bp 0,pB bq 0]] w (Gives [bp,bq] w fun v L=>∃ A2:Option Addr,∃ c2:Nat,v=vL A2 ((Srt.merge (R44.cmpL l) (lists.map Rw.s)).length) c2∧L=[Ent.row (.slice A2 (Srt.merge (R44.cmpL l) (lists.map Rw.s)).length c2) 9 1 (Srt.merge (R44.cmpL l) (lists.map Rw.s)).length ((Srt.merge (R44.cmpL l) (lists.map Rw.s)).map vS)]):=by
 refine calls_JNG [bp,bq] 13 Tryz.func79 rfl Tryz.ntmps79 [(0,_),(1,_)] rfl rfl hg ?_
 refine q_ (g_ (o_ (bx1 fun b1=>?_)))
 refine s_ av_ (z_ (n_ (q_ (q_ (g_ (s_ mv_ (z_ (n_ (k_ ?_)))))))))
 refine J_rangeFunc (n:=_) (gf:=164) (lb:=[pB bp 0,pB bq 0]) (enc:=(fun a:Bytes=>[vS a])) (xs:=(Srt.merge (R44.cmpL l) (lists.map Rw.s))) (fun (pre:List Bytes) (⟨out,outA,outC⟩:(List Bytes) × (Option Addr) × Nat)=>(out=pre)) (fun (_:List Bytes) (⟨out,outA,outC⟩:(List Bytes) × (Option Addr) × Nat)=>[Ent.blk b1 25 [vL outA out.length outC],Ent.row (.slice outA out.length outC) 9 1 out.length (out.map vS)]) ((([]:List Bytes),none,0):(List Bytes) × (Option Addr) × Nat) [Ent.blk bp 102 [vL listsA lists.length listsC],Ent.blk bq 138 [vL lA l.length lC]] rfl rfl rfl Ty.ca164 (ps_ rfl) (fun _=>rfl) (fun _ h=>((((h.nilrow 9 1).front 1 _ rfl).front 3 _ rfl).front 3 _ rfl).keep [true,true,true,true] rfl) ?_ ?_ ?_
 ·intro wi3 li4 di5 ri6 hold7 hg8 hY9
  refine it_done (I:=(fun (pre:List Bytes) (⟨out,outA,outC⟩:(List Bytes) × (Option Addr) × Nat)=>(out=pre))) (Lf:=LF li4 di5 ri6 (fun (_:List Bytes) (⟨out,outA,outC⟩:(List Bytes) × (Option Addr) × Nat)=>[Ent.blk b1 25 [vL outA out.length outC],Ent.row (.slice outA out.length outC) 9 1 out.length (out.map vS)])) ?_
  exact f164_ok li4 _ _ _ _ bp bq lists listsA listsC l lA lC _ (listsR.old hold7) (fun i=>(listsN i).old hold7) (lR.old hold7) hY9 rfl q0 q1 q2 q3 hg8
 ·rintro wi10 li4 di5 ri6 pre a11 rest12 ⟨out,outA,outC⟩ hp13 hI14 hold7
  have i1_0:=hI14
  try dsimp only at i1_0
  have listsR:=listsR.old hold7
  have lR:=lR.old hold7
  have listsN:=fun i=>(listsN i).old hold7
  have hpl:pre.length<1000000:=R44.merge_pre (R44.cmpL_ok l) q4 hp13
  refine J_weaken (E':=[(2,pB b1 0),(7,vS a11)]) (L':=[Ent.obj li4 (lp ri6 .ready),dfr di5,Ent.blk b1 25 [vL outA out.length outC],Ent.row (.slice outA out.length outC) 9 1 out.length (out.map vS)]) ⟨rfl,rfl,trivial⟩ (fun _ h=>h) ?_
  refine g_ (s_ av_ (z_ (JX_begin (k_ (g_ (r_ (ld_ 2 Ty.sc25) (s_ mv_ (o_ (O_buildSlice (cs:=[vS a11]) Tryz.underlying25 Ty.sz9 Ty.ze9 (by decide) (by decide) (by kernel_rfl) fun b15=>?_)))))))))
  refine o_ (O_append_m 4 vS out [a11] Tryz.underlying25 Ty.sz9 Ty.by9 Ty.ze9 rfl rfl rfl rfl rfl (fun _=>rfl) (cells_blk 0 (off:=0) (m:=1) rfl rfl) lt_ lt_ fun A16 c17=>?_)
  refine o_ (st1 3 Ty.sz25 ?_)
  refine z_ (kx_ ?_)
  refine JX_end [dfr di5,Ent.blk b1 25 [vL A16 ((out++[a11]).length) c17],Ent.row (.slice A16 (out++[a11]).length c17) 9 1 (out++[a11]).length ((out++[a11]).map vS)] (fun _ h=>h.keep [false,true,true,true,true] rfl) (fun w hS=>⟨rfl,((out++[a11],A16,c17):(List Bytes) × (Option Addr) × Nat),?_,hS⟩)
  try dsimp only
  rw [i1_0]
 ·rintro D18 ⟨out,outA,outC⟩ hI14
  have i1_0:=hI14
  try dsimp only at i1_0
  try dsimp only
  refine kx_ (n_ (q_ (g_ (r_ (ld_ 1 Ty.sc25) (s_ av_ (z_ (n_ (rt_ ?_))))))))
  refine JX_retsMG (D18::([]:List Nat)) [_] _ rfl Tryz.results79 [Ent.blk b1 25 [vL outA out.length outC],Ent.row (.slice outA out.length outC) 9 1 out.length (out.map vS)] (fun _ h=>h) (fun w h=>⟨rfl,trivial⟩) rfl [Ent.row (.slice outA out.length outC) 9 1 out.length (out.map vS)] (fun _ h=>h.keep [false,true] rfl) (fun _ _ h=>h) ⟨outA,outC,?_,?_⟩
  ·have e_x0:(out.length:Nat)=((Srt.merge (R44.cmpL l) (lists.map Rw.s)).length):=by rw [i1_0]
   exact congrArg (fun (x0:Nat)=>vL outA x0 outC) e_x0
  ·have e_y0:(out:List Bytes)=(Srt.merge (R44.cmpL l) (lists.map Rw.s)):=by
    exact i1_0
   have e_all:=(congrArg (fun (y0:List Bytes)=>[Ent.row (.slice outA y0.length outC) 9 1 y0.length (y0.map vS)]) e_y0)
   exact e_all
set_option maxRecDepth 20000 in
theorem f40_ok (bp:Nat) (bq:Nat) (lists:List Rw) (listsA:Option Addr) (listsC:Nat) (l:List SortField) (lA:Option Addr) (lC:Nat) (w:World) (listsR:RO [bp,bq] w listsA (lists.flatMap Rw.enc)) (listsN:∀ i:Nat,RO [bp,bq] w (lists.getD i default).sA (((lists.getD i default).s).map vS)) (lR:RO [bp,bq] w lA (l.flatMap SortField.enc)) (q0:lists.length≤1000000) (q1:∀ i j,((lists.getD i default).s.getD j []).length≤1000000) (q2:R44.valid l=true) (q3:∀ i,(lists.getD i default).s.length≤(lists.getD i default).sC) (q4:(lists.map Rw.s).flatten.length≤1000000) (hg:Give [bp,bq] w [Ent.blk bp 102 [vL listsA lists.length listsC],Ent.blk bq 138 [vL lA l.length lC]]):Calls Tryz.prog 40 #[Value.func (.func 164) #[] #[pB bp 0,pB bq 0]] w (Gives [bp,bq] w fun v L=>∃ A2:Option Addr,∃ c2:Nat,v=vL A2 ((Srt.merge (R44.cmpL l) (lists.map Rw.s)).length) c2∧L=[Ent.row (.slice A2 (Srt.merge (R44.cmpL l) (lists.map Rw.s)).length c2) 9 1 (Srt.merge (R44.cmpL l) (lists.map Rw.s)).length ((Srt.merge (R44.cmpL l) (lists.map Rw.s)).map vS)]):=by
 refine calls_J [bp,bq] 5 Tryz.func40 rfl Tryz.ntmps40 [(0,_)] rfl rfl hg ?_
 refine q_ (g_ (s_ av_ (z_ (n_ (q_ (g_ (s_ mv_ ?_)))))))
 refine JO_call [bp,bq] [Ent.blk bp 102 [vL listsA lists.length listsC],Ent.blk bq 138 [vL lA l.length lC]] [] rfl trivial (fun _=>x_call Ty.ca79 rfl) (fun _ h=>h) (own_mem rfl) (fun w hS=>f79_ok bp bq lists listsA listsC l lA lC w (listsR.on hS (own_mem rfl)) (fun i=>(listsN i).on hS (own_mem rfl)) (lR.on hS (own_mem rfl)) hy_ hy_ hy_ hy_ hy_ (hS.give (own_in rfl))) ?_
 rintro _ _ ⟨e1,e2,rfl,rfl⟩
 refine s_ av_ (z_ (n_ (rt_ ?_)))
 refine JX_rets [_] _ Tryz.results40 (fun w h=>⟨rfl,trivial⟩) rfl _ (fun _ h=>h) ⟨e1,e2,?_,?_⟩
 ·rfl
 ·rfl
set_option maxRecDepth 20000 in
theorem f100_ok (lists:List Rw) (listsA:Option Addr) (listsC:Nat) (l:List SortField) (lA:Option Addr) (lC:Nat) (w:World) (listsR:RO [] w listsA (lists.flatMap Rw.enc)) (listsN:∀ i:Nat,RO [] w (lists.getD i default).sA (((lists.getD i default).s).map vS)) (lR:RO [] w lA (l.flatMap SortField.enc)) (q0:lists.length≤1000000) (q1:∀ i j,((lists.getD i default).s.getD j []).length≤1000000) (q2:∀ i,(lists.getD i default).s.length≤(lists.getD i default).sC) (q3:(lists.map Rw.s).flatten.length≤1000000) (q4:l.length≤9223372036854775807):Calls Tryz.prog 100 #[vL listsA lists.length listsC,vL lA l.length lC] w (Gives [] w fun v L=>∃ A2:Option Addr,∃ c2:Nat,v=vL A2 ((R44.mergeV l (lists.map Rw.s)).length) c2∧L=[Ent.row (.slice A2 (R44.mergeV l (lists.map Rw.s)).length c2) 9 1 (R44.mergeV l (lists.map Rw.s)).length ((R44.mergeV l (lists.map Rw.s)).map vS)]):=by
 refine calls_J [] 12 Tryz.func100 rfl Tryz.ntmps100 [(0,_),(1,_)] rfl rfl (Give.nil w) ?_
 refine q_ (g_ (s_ av_ (z_ (n_ (q_ (q_ (g_ (s_ mv_ (c0 (cl_ Ty.ca137) (fun w hS=>f137_ok l lA lC w (rno lR hS) hy_) (s_ (x_not rfl) (z_ (n_ ?_))))))))))))
 refine if_ (fun h1=>?_) (fun h1=>?_)
 ·have h1w:=h1
  have h1:(R44.valid l)=false:=bnot_true h1
  refine q_ (g_ (s_ av_ (z_ (n_ (rt_ (nr_ ?_))))))
  refine JX_rets [_] _ Tryz.results100 (fun w h=>⟨rfl,trivial⟩) rfl [Ent.row (.slice none ([]:List Bytes).length 0) 9 1 ([]:List Bytes).length (([]:List Bytes).map vS)] (fun _ h=>(h.nilrow 9 1).keep [true] rfl) ⟨none,0,?_,?_⟩
  ·have e_x0:(0:Nat)=((R44.mergeV l (lists.map Rw.s)).length):=by first | exact congrArg List.length (R44.mergeV_no (by simp_all)) | exact congrArg List.length (R44.mergeV_yes (by assumption))
   exact congrArg (fun (x0:Nat)=>vL none x0 0) e_x0
  ·have e_y0:(([]:List Bytes):List Bytes)=(R44.mergeV l (lists.map Rw.s)):=by
    first | exact R44.mergeV_no (by simp_all) | exact R44.mergeV_yes (by assumption)
   have e_all:=(congrArg (fun (y0:List Bytes)=>[Ent.row (.slice none y0.length 0) 9 1 y0.length (y0.map vS)]) e_y0)
   exact e_all
 ·have h1w:=h1
  have h1:(R44.valid l)=true:=bnot_false h1
  have hi2:=R44.valid_facts h1
  refine sk_ (n_ (q_ (g_ (s_ mv_ (s_ mv_ ?_)))))
  refine c1 (cl_ Ty.ca139) (fun w hS=>f139_ok _ _ _ l lA lC w (rno listsR hS) (fun i=>(listsN i).on hS (fun _ h=>by cases h)) (rno lR hS)) ?_
  rintro _ _ ⟨bp3,bq4,rfl,rfl⟩
  refine JO_call [bp3,bq4] [Ent.blk bp3 102 [vL listsA lists.length listsC],Ent.blk bq4 138 [vL lA l.length lC]] [] rfl trivial (fun _=>x_call Ty.ca40 rfl) (fun _ h=>h) (own_mem rfl) (fun w hS=>f40_ok bp3 bq4 lists listsA listsC l lA lC w (listsR.on hS (own_mem rfl)) (fun i=>(listsN i).on hS (own_mem rfl)) (lR.on hS (own_mem rfl)) hy_ hy_ hy_ hy_ hy_ (hS.give (own_in rfl))) ?_
  rintro _ _ ⟨e5,e6,rfl,rfl⟩
  refine s_ av_ (z_ (n_ (rt_ ?_)))
  refine JX_rets [_] _ Tryz.results100 (fun w h=>⟨rfl,trivial⟩) rfl _ (fun _ h=>h) ⟨e5,e6,?_,?_⟩
  ·have e_x0:((Srt.merge (R44.cmpL l) (lists.map Rw.s)).length:Nat)=((R44.mergeV l (lists.map Rw.s)).length):=by first | exact congrArg List.length (R44.mergeV_no (by simp_all)) | exact congrArg List.length (R44.mergeV_yes (by assumption))
   exact congrArg (fun (x0:Nat)=>vL e5 x0 e6) e_x0
  ·have e_y0:((Srt.merge (R44.cmpL l) (lists.map Rw.s)):List Bytes)=(R44.mergeV l (lists.map Rw.s)):=by
    first | exact R44.mergeV_no (by simp_all) | exact R44.mergeV_yes (by assumption)
   have e_all:=(congrArg (fun (y0:List Bytes)=>[Ent.row (.slice e5 y0.length e6) 9 1 y0.length (y0.map vS)]) e_y0)
   exact e_all
end Go.Proofs.YtggobegaiijhhaaGreatDoor
namespace Go.Proofs.YtggobegaiijhhaaGreatDoor
open Go.GV
set_option linter.unusedVariables false
set_option linter.unusedSimpArgs false
theorem c44k0_ {p:Prop} (h:p:=by first | exact R44.ix_yes (by omega) (by omega) | exact R44.ix_no (fun i hi=>i1_1 i (by omega))):p:=h
set_option maxRecDepth 20000 in
theorem f142_ok (s:Bytes) (w:World) (q0:s.length≤9223372036854775807):Calls Tryz.prog 142 #[vS s] w (Gives [] w fun v L=>v=vB (decide ((1000:Int)<((s.length:Nat):Int)))∧L=[]):=by
 refine calls_J [] 6 Tryz.func142 rfl Tryz.ntmps142 [(0,_)] rfl rfl (Give.nil w) ?_
 refine q_ (g_ (s_ av_ (z_ (n_ (q_ (g_ (s_ mv_ (s_ (x_len_s rfl Tryz.underlying9) (s_ (x_gtr_i rfl rfl) (s_ av_ (z_ (n_ (rt_ ?_)))))))))))))
 exact p1 Tryz.results142 rfl ⟨rfl,rfl⟩
set_option maxRecDepth 20000 in
theorem f166_ok (rs:List Bytes) (rsA:Option Addr) (rsC:Nat) (w:World) (rsR:RO [] w rsA (rs.map vS)) (q0:rs.length≤9223372036854775807) (q1:∀ i,(rs.getD i []).length≤9223372036854775807):Calls Tryz.prog 166 #[vL rsA rs.length rsC,Value.func (.func 142) #[] #[]] w (Gives [] w fun v L=>∃ r:Int,v=vI r∧L=[]∧(-1≤r)∧(decide (0≤r)=R44.long rs)):=by
 refine calls_J [] 19 Tryz.func166 rfl Tryz.ntmps166 [(0,_),(1,_)] rfl rfl (Give.nil w) ?_
 refine q_ (g_ (s_ av_ (z_ (n_ (q_ (q_ (g_ (s_ mv_ (s_ (lnS Tryz.underlying25) (s_ mv_ (z_ (n_ (k_ ?_)))))))))))))
 refine J_loop (X:=Nat) (fun (k:Nat)=>(k≤rs.length)∧(∀ i,i<k→(rs.getD i []).length≤1000)) (fun (k:Nat)=>[(0,vL rsA rs.length rsC),(1,Value.func (.func 142) #[] #[]),(7,vI ((rs.length:Nat):Int)),(8,vI ((k:Nat):Int))]) (fun (k:Nat)=>[]) (fun (k:Nat)=>rs.length-k) (0:Nat) ?_ ⟨rfl,rfl,rfl,rfl,trivial⟩ (fun _ h=>h) ?_
 ·try dsimp only
  refine ⟨?_,?_⟩
  ·first | rfl | omega | (simp_all;done) | (simp_all;omega)
  ·intro i hi;omega
 intro k hI1
 obtain ⟨i1_0,i1_1⟩:=hI1
 try dsimp only at i1_0
 try dsimp only at i1_1
 have hqk:=q1 k
 try dsimp only
 refine q_ (g_ (s_ (x_lss_i rfl rfl) (z_ (n_ (q_ ?_)))))
 refine ifd (fun h1w h1=>?_) (fun h1w h1=>?_)
 ·refine sk_ (n_ (q_ (k_ (q_ (g_ (s_ mv_ (s_ av_ (z_ (n_ (q_ (g_ (s_ mv_ (s_ mv_ (s_ mv_ (r_ (ixM (cells_ro rsR) Tryz.underlying25 Ty.sz9) (r_ (ldM vS [] (cells_ro rsR) Ty.sc9) (c0 (x_callv (first:=[]) (caps:=[]) rfl Ty.ca142 rfl) (fun w hS=>f142_ok _ w hy_) ?_)))))))))))))))))
  refine z_ (n_ ?_)
  refine ifd (fun h2w h2=>?_) (fun h2w h2=>?_)
  ·refine q_ (g_ (s_ mv_ (s_ av_ (z_ (n_ (rt_ (kq_ (nr_ (rr_ (kq_ (nr_ ?_)))))))))))
   refine JX_rets [_] _ Tryz.results166 (fun w h=>⟨rfl,trivial⟩) rfl _ (fun _ h=>h) ⟨((k:Nat):Int),?_,?_,?_,?_⟩
   ·rfl
   ·rfl
   ·omega
   ·exact c44k0_
  ·refine sk_ (kx_ (n_ (g_ (s_ (x_add_n (a:=k) (b:=1) rfl rfl (by omega)) (s_ mv_ (z_ ?_))))))
   refine JX_round (k+1:Nat) ?_ ?_ ⟨rfl,rfl,rfl,rfl,trivial⟩ (fun _ h=>h)
   ·try dsimp only
    refine ⟨?_,?_⟩
    ·first | rfl | omega | (simp_all;done) | (simp_all;omega)
    ·intro i hi
     by_cases hik:i=k
     ·subst hik;omega
     ·exact i1_1 i (by omega)
   ·try dsimp only
    first | omega | (simp;omega) | (simp_all;omega)
 ·refine J_exit (ne_ (re_ (kh_ (n_ (q_ ?_)))))
  refine g_ (s_ av_ (z_ (n_ (rt_ ?_))))
  refine JX_rets [_] _ Tryz.results166 (fun w h=>⟨rfl,trivial⟩) rfl _ (fun _ h=>h) ⟨(-1),?_,?_,?_,?_⟩
  ·rfl
  ·rfl
  ·omega
  ·exact c44k0_
set_option maxRecDepth 20000 in
theorem f141_ok (rs:List Bytes) (rsA:Option Addr) (rsC:Nat) (w:World) (rsR:RO [] w rsA (rs.map vS)) (q0:rs.length≤9223372036854775807) (q1:∀ i,(rs.getD i []).length≤9223372036854775807):Calls Tryz.prog 141 #[vL rsA rs.length rsC,Value.func (.func 142) #[] #[]] w (Gives [] w fun v L=>v=vB (R44.long rs)∧L=[]):=by
 refine calls_J [] 9 Tryz.func141 rfl Tryz.ntmps141 [(0,_),(1,_)] rfl rfl (Give.nil w) ?_
 refine q_ (g_ (s_ av_ (z_ (n_ (q_ (g_ (s_ mv_ (s_ mv_ ?_))))))))
 refine c1 (cl_ Ty.ca166) (fun w hS=>f166_ok rs rsA rsC w (rno rsR hS) hy_ hy_) ?_
 rintro _ _ ⟨r1,rfl,rfl,hf2,hf3⟩
 refine s_ (x_geq_i rfl rfl) (s_ av_ (z_ (n_ (rt_ ?_))))
 exact p1 Tryz.results141 rfl ⟨(eB (by assumption)),rfl⟩
set_option maxRecDepth 20000 in
theorem f143_ok (rs:List Bytes) (rsA:Option Addr) (rsC:Nat) (w:World) (rsR:RO [] w rsA (rs.map vS)) (q0:rs.length≤1000000) (q1:∀ i,(rs.getD i []).length≤1000000):Calls Tryz.prog 143 #[vL rsA rs.length rsC,Value.nilFunc] w (Gives [] w fun v L=>∃ A2:Option Addr,∃ c2:Nat,v=Value.tuple #[vL A2 rs.length c2,vI 0,vI 0]∧L=[Ent.row (.slice A2 rs.length c2) 9 1 rs.length (rs.map vS)]):=by
 refine calls_J [] 44 Tryz.func143 rfl Tryz.ntmps143 [(0,_),(1,_)] rfl rfl (Give.nil w) ?_
 refine q_ (g_ (s_ av_ (s_ av_ (s_ av_ (z_ (n_ (q_ (q_ (g_ (s_ mv_ (s_ (x_eql_nil rfl rfl Tryz.underlying152) (z_ (n_ (ift (q_ (g_ (s_ mv_ ?_)))))))))))))))))
 refine c1 (cl_ Ty.ca24) (fun w hS=>f24_okS rs rsA rsC w (rno rsR hS) hy_) ?_
 rintro _ _ ⟨e1,e2,rfl,rfl⟩
 refine s_ av_ (s_ av_ (s_ av_ (z_ (n_ (rt_ (nr_ ?_))))))
 refine JX_rets [_,_,_] (Value.tuple #[_,_,_]) Tryz.results143 (fun w h=>⟨rfl,rfl,rfl,trivial⟩) rfl _ (fun _ h=>h) ⟨e1,e2,?_,?_⟩
 ·rfl
 ·rfl
set_option maxRecDepth 20000 in
theorem f146_ok (rs:List Bytes) (rsA:Option Addr) (rsC:Nat) (l:List SortField) (lA:Option Addr) (lC:Nat) (w:World) (rsR:RO [] w rsA (rs.map vS)) (lR:RO [] w lA (l.flatMap SortField.enc)):Calls Tryz.prog 146 #[vL rsA rs.length rsC,vL lA l.length lC,Value.nilFunc] w (Gives [] w fun v L=>v=Value.tuple #[vL rsA rs.length rsC,vI 0]∧L=[]):=by
 refine calls_J [] 67 Tryz.func146 rfl Tryz.ntmps146 [(0,_),(1,_),(2,_)] rfl rfl (Give.nil w) ?_
 refine q_ (g_ (s_ av_ (s_ av_ (z_ (n_ (q_ (q_ (g_ (s_ mv_ (s_ (x_eql_nil rfl rfl Tryz.underlying153) (z_ (n_ (ift (q_ (g_ (s_ mv_ (s_ av_ (s_ av_ ?_))))))))))))))))))
 refine z_ (n_ (rt_ (nr_ ?_)))
 exact p2 Tryz.results146 rfl rfl ⟨rfl,rfl⟩
end Go.Proofs.YtggobegaiijhhaaGreatDoor
namespace Go.Proofs.YtggobegaiijhhaaGreatDoor
open Go.GV
set_option linter.unusedVariables false
set_option linter.unusedSimpArgs false
set_option maxRecDepth 20000 in
theorem f145_ok (rws:List Rw) (rwsA:Option Addr) (rwsC:Nat) (n:Nat) (w:World) (rwsR:RO [] w rwsA (rws.flatMap Rw.enc)) (rwsN:∀ i:Nat,RO [] w (rws.getD i default).sA (((rws.getD i default).s).map vS)) (q0:1≤n) (q1:n≤1000000):Calls Tryz.prog 145 #[vL rwsA rws.length rwsC,vI ((n:Nat):Int)] w (Gives [] w fun v L=>∃ bp:Nat,∃ bq:Nat,v=Value.func (.func 170) #[] #[pB bp 0,pB bq 0]∧L=[Ent.blk bp 102 [vL rwsA rws.length rwsC],Ent.blk bq 3 [vI ((n:Nat):Int)]]):=by
 refine calls_J [] 9 Tryz.func145 rfl Tryz.ntmps145 [(0,_),(1,_)] rfl rfl (Give.nil w) ?_
 refine q_ (g_ (o_ (bx1 fun b1=>?_)))
 refine o_ (bx1 fun b2=>?_)
 refine s_ av_ (z_ (n_ (q_ (q_ (g_ (r_ (ld_ 0 Ty.sc3) (s_ (x_lss_i rfl rfl) (z_ (n_ ?_)))))))))
 refine ifd (fun h3w h3=>?_) (fun h3w h3=>?_)
 ·exfalso;omega
 ·refine sk_ (n_ (q_ (g_ (js_ (Value.func (.func 170) #[] #[pB b1 0,pB b2 0]) (x_makeFunc rfl rfl) (s_ av_ (z_ (n_ (rt_ ?_))))))))
  refine JX_rets [_] _ Tryz.results145 (fun w h=>⟨rfl,trivial⟩) rfl [Ent.blk b1 102 [vL rwsA rws.length rwsC],Ent.blk b2 3 [vI ((n:Nat):Int)]] (fun _ h=>(h.front 1 _ rfl).keep [true,true] rfl) ⟨b1,b2,?_,?_⟩
  ·rfl
  ·rfl
set_option maxRecDepth 20000 in
theorem f170_ok (yl:Nat) (X:Type) (I:List Part→X→Prop) (Lf:List Part→X→List Ent) (x0:X) (bp:Nat) (bq:Nat) (rws:List Rw) (rwsA:Option Addr) (rwsC:Nat) (n:Nat) (w:World) (rwsR:RO (Lown (Ent.blk bp 102 [vL rwsA rws.length rwsC]::Ent.blk bq 3 [vI ((n:Nat):Int)]::(Lf ([]:List Part) x0))) w rwsA (rws.flatMap Rw.enc)) (rwsN:∀ i:Nat,RO (Lown (Ent.blk bp 102 [vL rwsA rws.length rwsC]::Ent.blk bq 3 [vI ((n:Nat):Int)]::(Lf ([]:List Part) x0))) w (rws.getD i default).sA (((rws.getD i default).s).map vS)) (hY:YieldOk Tryz.prog yl (Lown (Ent.blk bp 102 [vL rwsA rws.length rwsC]::Ent.blk bq 3 [vI ((n:Nat):Int)]::(Lf ([]:List Part) x0))) w Part.enc I Lf (R44.parts n rws rwsA)) (hI0:I [] x0) (q2:1≤n) (q3:n≤1000000) (q4:rws.length≤1000000) (q5:rws.length≤rwsC) (hg:Give (Lown (Ent.blk bp 102 [vL rwsA rws.length rwsC]::Ent.blk bq 3 [vI ((n:Nat):Int)]::(Lf ([]:List Part) x0))) w (Ent.blk bp 102 [vL rwsA rws.length rwsC]::Ent.blk bq 3 [vI ((n:Nat):Int)]::(Lf ([]:List Part) x0))):Calls Tryz.prog 170 #[Value.func (.yield yl) #[] #[],pB bp 0,pB bq 0] w (Gives (Lown (Ent.blk bp 102 [vL rwsA rws.length rwsC]::Ent.blk bq 3 [vI ((n:Nat):Int)]::(Lf ([]:List Part) x0))) w fun v L=>∃ st:X,v=Value.tuple #[]∧L=((Lf (R44.parts n rws rwsA) st))∧(I (R44.parts n rws rwsA) st)):=by
 refine calls_J (Lown (Ent.blk bp 102 [vL rwsA rws.length rwsC]::Ent.blk bq 3 [vI ((n:Nat):Int)]::(Lf ([]:List Part) x0))) 31 Tryz.func170 rfl Tryz.ntmps170 [(0,_),(1,_),(2,_)] rfl rfl hg ?_
 refine q_ (g_ (s_ av_ (z_ (n_ (k_ ?_)))))
 refine J_loop (X:=Nat × (List Part) × X) (fun (⟨lo,pre,st⟩:Nat × (List Part) × X)=>(R44.PartJ n rws rwsA pre lo)∧(I pre st)∧(lo≤rws.length+n)) (fun (⟨lo,pre,st⟩:Nat × (List Part) × X)=>[(0,Value.func (.yield yl) #[] #[]),(1,pB bp 0),(2,pB bq 0),(4,vI ((lo:Nat):Int))]) (fun (⟨lo,pre,st⟩:Nat × (List Part) × X)=>(Ent.blk bp 102 [vL rwsA rws.length rwsC]::Ent.blk bq 3 [vI ((n:Nat):Int)]::(Lf pre st))) (fun (⟨lo,pre,st⟩:Nat × (List Part) × X)=>rws.length+n-lo) ((0,([]:List Part),x0):Nat × (List Part) × X) ?_ ⟨rfl,rfl,rfl,rfl,trivial⟩ (fun _ h=>h) ?_
 ·try dsimp only
  refine ⟨?_,?_,?_⟩
  ·exact R44.PartJ.start
  ·exact hI0
  ·first | rfl | omega | (simp_all;done) | (simp_all;omega)
 rintro ⟨lo,pre,st⟩ hI1
 obtain ⟨i1_0,i1_1,i1_2⟩:=hI1
 try dsimp only at i1_0
 try dsimp only at i1_1
 try dsimp only at i1_2
 try dsimp only
 refine q_ (q_ (g_ (s_ mv_ (r_ (ld_ 0 Ty.sc102) (s_ (lnS Tryz.underlying102) (s_ (x_lss_i rfl rfl) (z_ (n_ ?_))))))))
 refine ifd (fun h1w h1=>?_) (fun h1w h1=>?_)
 ·refine sk_ (n_ (q_ (k_ (q_ ?_))))
  refine drB [] 7 Ty.mixed ?_
  refine jq_ 0 rfl (ld_ 1 Ty.sc3) (jq_ 1 rfl (ld_ 0 Ty.sc102) (jp_ 2 rfl mv_ (jp_ 3 rfl (x_subrow (lo:=lo) (hi:=rws.length) rfl Tryz.underlying102 Ty.sz25 (.inl rfl) (.inr ⟨rfl,rfl⟩) lt_ lt_) (jp_ 4 rfl (lnS Tryz.underlying102) (jp_ 5 rfl (x_min_n (a:=n) (b:=rws.length-lo) rfl rfl) (jp_ 6 rfl av_ ?_))))))
  refine JA_done (by kernel_rfl) gm_ ?_
  refine n_ (q_ (g_ (s_ mv_ (r_ (ld_ 0 Ty.sc102) (s_ mv_ (s_ mv_ (s_ mv_ (s_ (x_add_n (a:=lo) (b:=min n (rws.length-lo)) rfl rfl (by omega)) (s_ mv_ (s_ mv_ (s_ (x_add_n (a:=lo) (b:=min n (rws.length-lo)) rfl rfl (by omega)) ?_)))))))))))
  refine s_ (x_subrow3 (lo:=lo) (hi:=lo+(min n (rws.length-lo))) (mx:=lo+(min n (rws.length-lo))) rfl Tryz.underlying102 Ty.sz25 rfl rfl rfl lt_ lt_ lt_) ?_
  refine JO_weaken (E':=[(0,Value.func (.yield yl) #[] #[]),(1,pB bp 0),(2,pB bq 0),(4,vI ((lo:Nat):Int)),(6,vI ((lo:Nat):Int)),(7,vL rwsA rws.length rwsC),(8,vI ((rws.length:Nat):Int)),(9,vB (decide (((lo:Nat):Int)<((rws.length:Nat):Int)))),(13,vI ((n:Nat):Int)),(14,vL rwsA rws.length rwsC),(15,vI ((lo:Nat):Int)),(16,vL (subA rwsA rwsC lo 1) (rws.length-lo) (rwsC-lo)),(17,vI ((rws.length-lo:Nat):Int)),(18,vI ((min n (rws.length-lo):Nat):Int)),(5,vI ((min n (rws.length-lo):Nat):Int)),(19,Value.func (.yield yl) #[] #[]),(20,vL rwsA rws.length rwsC),(21,vI ((lo:Nat):Int)),(22,vI ((lo:Nat):Int)),(23,vI ((min n (rws.length-lo):Nat):Int)),(24,vI ((lo+(min n (rws.length-lo)):Nat):Int)),(25,vI ((lo:Nat):Int)),(26,vI ((min n (rws.length-lo):Nat):Int)),(27,vI ((lo+(min n (rws.length-lo)):Nat):Int)),(28,vL (subA rwsA (lo+(min n (rws.length-lo))) lo 1) (min n (rws.length-lo)) (min n (rws.length-lo)))]) (L':=(Ent.blk bp 102 [vL rwsA rws.length rwsC]::Ent.blk bq 3 [vI ((n:Nat):Int)]::(Lf pre st))) ⟨rfl,rfl,rfl,rfl,rfl,rfl,rfl,rfl,rfl,rfl,rfl,rfl,rfl,rfl,rfl,rfl,rfl,rfl,rfl,rfl,rfl,rfl,rfl,rfl,(sl_ lt_ lt_),trivial⟩ (fun _ h=>h) ?_
  refine JO_yield hY (pre:=pre) (a:=(Part.mk ((rws.drop lo).take (min n (rws.length-lo))) (subA rwsA (lo+(min n (rws.length-lo))) lo 1) (min n (rws.length-lo)))) (st:=st) (i1_0.yield q2 (by omega)) i1_1 [Ent.blk bp 102 [vL rwsA rws.length rwsC],Ent.blk bq 3 [vI ((n:Nat):Int)]] rfl trivial rfl R44.part_enc (fun _ h=>h) (fun st2 hI3=>?_)
  refine jr_ (vB false) (z_ (xk_ [0,1,2,4,30] ?_))
  refine n_ (iff_ (sk_ (kx_ (n_ (g_ (s_ mv_ (r_ (ld_ 1 Ty.sc3) (s_ (x_add_n (a:=lo) (b:=n) rfl rfl (by omega)) (s_ av_ (z_ ?_))))))))))
  refine JX_round ((lo+n,(pre++[(Part.mk ((rws.drop lo).take (min n (rws.length-lo))) (subA rwsA (lo+(min n (rws.length-lo))) lo 1) (min n (rws.length-lo)))]),st2):Nat × (List Part) × X) ?_ ?_ ⟨rfl,rfl,rfl,rfl,trivial⟩ (fun _ h=>h)
  ·try dsimp only
   refine ⟨?_,?_,?_⟩
   ·exact i1_0.step q2 (by omega)
   ·assumption
   ·first | rfl | omega | (simp_all;done) | (simp_all;omega)
  ·try dsimp only
   first | omega | (simp;omega) | (simp_all;omega)
 ·refine J_exit (ne_ (re_ (kh_ ?_)))
  refine JX_end0 Tryz.results170 ((Lf pre st)) (fun _ h=>h.keepN 2 [false,false] rfl) ⟨st,?_,?_,?_⟩
  ·rfl
  ·rw [i1_0.done (by omega)]
  ·rw [← i1_0.done (by omega)];assumption
end Go.Proofs.YtggobegaiijhhaaGreatDoor
