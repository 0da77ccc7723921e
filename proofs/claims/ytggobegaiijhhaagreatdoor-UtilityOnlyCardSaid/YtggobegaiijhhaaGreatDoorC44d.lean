/- contracts C44d -/
import Derived.Test.YtggobegaiijhhaaGreatDoorC44c
set_option linter.unusedVariables false
set_option linter.unusedSimpArgs false
set_option maxRecDepth 20000
namespace Go.Proofs.YtggobegaiijhhaaGreatDoor
open Go.GV Go.Proofs.Tryz Ty
open Go.GV.Ent (blk row mp)
theorem c44d0_ {p:Prop} (h:p:=by first | exact Hp.kid_a hec om_ as_ | exact Hp.kid_b hec as_ | exact Hp.kid_c hec om_):p:=h
theorem c44d1_ {p:Prop} (h:p:=by rw [flat_length element.enc 3 element.enc_len];first | omega | (simp only [List.length_append,List.length_cons,List.length_nil];omega) | (simp;omega) | (simp_all;omega) | (simp_all;done)):p:=h
set_option maxHeartbeats 1000000 in
theorem f169_ok (h:Nat) (l:List SortField) (lA:OA_) (lC:Nat) (xs:List element) (xsA:OA_) (xsC:Nat) (xsN:Nat) (w:World) (lR:RO (Lown [blk h 221 [vL xsA xsN xsC,Value.func (.func 167) #[vG [vL lA l.length lC]] #[]],row (.slice xsA xsN xsC) 224 3 xsN (xs.flatMap element.enc)]) w lA (l.flatMap SortField.enc)) (xsQ:xsN=xs.length) (q0:R44.valid l=true) (q1:Hp.Heap (Hp.ec l) default xs) (q2:Hp.Rok xs) (q3:xs.length≤1000000) (q4:0<xs.length) (hg:Give (Lown [blk h 221 [vL xsA xsN xsC,Value.func (.func 167) #[vG [vL lA l.length lC]] #[]],row (.slice xsA xsN xsC) 224 3 xsN (xs.flatMap element.enc)]) w [blk h 221 [vL xsA xsN xsC,Value.func (.func 167) #[vG [vL lA l.length lC]] #[]],row (.slice xsA xsN xsC) 224 3 xsN (xs.flatMap element.enc)]):Calls prog 169 #[pB h 0] w (Gives (Lown [blk h 221 [vL xsA xsN xsC,Value.func (.func 167) #[vG [vL lA l.length lC]] #[]],row (.slice xsA xsN xsC) 224 3 xsN (xs.flatMap element.enc)]) w fun v L=>∃ ys:List element,∃ ysA:OA_,∃ ysC:Nat,v=vG [vI ((g0_ xs).run),vI ((g0_ xs).no),vS ((g0_ xs).record)]∧L=[blk h 221 [vL ysA ys.length ysC,Value.func (.func 167) #[vG [vL lA l.length lC]] #[]],row (.slice ysA ys.length ysC) 224 3 ys.length (ys.flatMap element.enc)]∧(Hp.Heap (Hp.ec l) default ys)∧(((g0_ xs)::ys).Perm xs)∧(Hp.Rok ys)∧(ys.length+1=xs.length)):=by
 subst xsQ
 refine calls_J (Lown [blk h 221 [vL xsA xs.length xsC,Value.func (.func 167) #[vG [vL lA l.length lC]] #[]],row (.slice xsA xs.length xsC) 224 3 xs.length (xs.flatMap element.enc)]) 124 func169 rfl ntmps169 [(0,_)] rfl rfl hg ?_
 refine q_ (g_ (o_ (al_ ze224 fun b1=>?_)))
 refine z_ (n_ (q_ (g_ (s_ mv_ (s_ (x_nilCheck rfl) (s_ (fA 0 fi221_0) (r_ (ld_ 1 sc219) (r_ (ixF (k:=0) element.enc_len (cells_row 2 rfl) underlying219 sz224) (r_ (ldFN (k:=0) element.enc_len (cells_row 2 rfl) ag224 sz224) (o_ (al_ ze224 fun b2=>?_)))))))))))
 refine o_ (stG 0 sz224 ?_)
 refine z_ (n_ (q_ (g_ (s_ mv_ (s_ (x_nilCheck rfl) (s_ (fA 0 fi221_0) (r_ (ld_ 2 sc219) (s_ (lnS underlying219) (s_ (x_sub_i (a:=((xs.length:Nat):Int)) (b:=1) rfl rfl om_ om_) ?_)))))))))
 refine sn_ (b:=((xs.length-1:Nat):Int)) lt_ ?_
 refine s_ av_ (z_ (n_ (q_ ?_)))
 refine drU [] [12] 13 mixed ?_
 refine jp_ 0 rfl mv_ (jp_ 1 rfl (x_nilCheck rfl) (jp_ 2 rfl (fA 0 fi221_0) ?_))
 refine je_ 3 (vL xsA xs.length xsC) rfl (x_load 2 rfl rfl sc219 rfl) ?_
 refine jp_ 4 rfl mv_ (jp_ 5 rfl (x_nilCheck rfl) (jp_ 6 rfl (fA 0 fi221_0) ?_))
 refine je_ 7 (vL xsA xs.length xsC) rfl (x_load 2 rfl rfl sc219 rfl) ?_
 refine jp_ 8 rfl mv_ ?_
 refine je_ 9 (pA xsA ((xs.length-1)*3)) rfl (x_indexAddr_at (k:=xs.length-1) (off:=(xs.length-1)*3) (cells_row 3 rfl) underlying219 sz224 rfl rfl lt_ c44d1_ rfl) ?_
 refine je_ 10 (vG [vI ((xs.getD (xs.length-1) default).run),vI ((xs.getD (xs.length-1) default).no),vS ((xs.getD (xs.length-1) default).record)]) rfl (x_loadN_at [vI ((xs.getD (xs.length-1) default).run),vI ((xs.getD (xs.length-1) default).no),vS ((xs.getD (xs.length-1) default).record)] (cells_row 3 rfl) rfl ag224 sz224 (flat_drop element.enc 3 element.enc_len xs default (xs.length-1) lt_)) ?_
 refine je_ 11 (pA xsA 0) rfl (x_indexAddr_at (k:=0) (off:=0) (cells_row 3 rfl) underlying219 sz224 rfl rfl lt_ c44d1_ rfl) ?_
 refine j1_ 12 (jio_ rfl (O_store_row_f (a:=(xs.getD (xs.length-1) default)) (xs:=xs) (k:=0) 3 element.enc [blk b2 224 [vI ((g0_ xs).run),vI ((g0_ xs).no),vS ((g0_ xs).record)],blk b1 224 [vI 0,vI 0,vS []],blk h 221 [vL xsA xs.length xsC,Value.func (.func 167) #[vG [vL lA l.length lC]] #[]],row (.slice xsA (xs.set 0 (xs.getD (xs.length-1) default)).length xsC) 224 3 (xs.set 0 (xs.getD (xs.length-1) default)).length ((xs.set 0 (xs.getD (xs.length-1) default)).flatMap element.enc)] rfl rfl rfl sz224 element.enc_len element.enc_one lt_ rfl ?_)) (fun _ h=>⟨h.keep [F_,F_,F_,F_] rfl,fun _=>h⟩)
 refine JA_weaken (E':=[(0,pB h 0),(2,pB b1 0),(7,pB h 0),(8,pB h 0),(9,pB h 0),(10,vL xsA ((xs.set 0 (xs.getD (xs.length-1) default)).length) xsC),(11,pA xsA 0),(12,vG [vI ((g0_ xs).run),vI ((g0_ xs).no),vS ((g0_ xs).record)]),(3,pB b2 0),(13,pB h 0),(14,pB h 0),(15,pB h 0),(16,vL xsA ((xs.set 0 (xs.getD (xs.length-1) default)).length) xsC),(17,vN xs.length),(18,vI ((xs.length-1:Nat):Int)),(4,vI ((xs.length-1:Nat):Int)),(19,pB h 0),(20,pB h 0),(21,pB h 0),(22,vL xsA ((xs.set 0 (xs.getD (xs.length-1) default)).length) xsC),(23,pB h 0),(24,pB h 0),(25,pB h 0),(26,vL xsA ((xs.set 0 (xs.getD (xs.length-1) default)).length) xsC),(27,vI ((xs.length-1:Nat):Int)),(28,pA xsA ((xs.length-1)*3)),(29,vG [vI ((xs.getD (xs.length-1) default).run),vI ((xs.getD (xs.length-1) default).no),vS ((xs.getD (xs.length-1) default).record)]),(30,pA xsA 0)]) (L':=[blk b2 224 [vI ((g0_ xs).run),vI ((g0_ xs).no),vS ((g0_ xs).record)],blk b1 224 [vI 0,vI 0,vS []],blk h 221 [vL xsA ((xs.set 0 (xs.getD (xs.length-1) default)).length) xsC,Value.func (.func 167) #[vG [vL lA l.length lC]] #[]],row (.slice xsA (xs.set 0 (xs.getD (xs.length-1) default)).length xsC) 224 3 (xs.set 0 (xs.getD (xs.length-1) default)).length ((xs.set 0 (xs.getD (xs.length-1) default)).flatMap element.enc)]) ⟨rfl,rfl,rfl,rfl,rfl,(congrArg (fun n:Nat=>some (Value.slice xsA n xsC)) (set_len xs 0 (xs.getD (xs.length-1) default)).symm),rfl,rfl,rfl,rfl,rfl,rfl,(congrArg (fun n:Nat=>some (Value.slice xsA n xsC)) (set_len xs 0 (xs.getD (xs.length-1) default)).symm),rfl,rfl,rfl,rfl,rfl,rfl,(congrArg (fun n:Nat=>some (Value.slice xsA n xsC)) (set_len xs 0 (xs.getD (xs.length-1) default)).symm),rfl,rfl,rfl,(congrArg (fun n:Nat=>some (Value.slice xsA n xsC)) (set_len xs 0 (xs.getD (xs.length-1) default)).symm),rfl,rfl,rfl,rfl,trivial⟩ (fun _ h=>by rw [set_len xs 0 (xs.getD (xs.length-1) default)] at h ⊢;exact h) ?_
 refine JA_done kf_ (gl_ rfl (fun _ h=>h.keep [F_,F_,F_,F_] rfl)) ?_
 refine n_ (q_ (g_ (s_ mv_ (s_ mv_ (s_ (x_nilCheck rfl) (s_ (fA 0 fi221_0) (r_ (ld_ 2 sc219) (s_ mv_ (r_ (x_head_row 3 rfl rfl underlying219 sz224 rfl lt_) ?_)))))))))
 refine JO_weaken (E':=[(0,pB h 0),(2,pB b1 0),(7,pB h 0),(8,pB h 0),(9,pB h 0),(11,pA xsA 0),(12,vG [vI ((g0_ xs).run),vI ((g0_ xs).no),vS ((g0_ xs).record)]),(3,pB b2 0),(13,pB h 0),(14,pB h 0),(15,pB h 0),(17,vN xs.length),(18,vI ((xs.length-1:Nat):Int)),(4,vI ((xs.length-1:Nat):Int)),(19,pB h 0),(20,pB h 0),(21,pB h 0),(23,pB h 0),(24,pB h 0),(25,pB h 0),(27,vI ((xs.length-1:Nat):Int)),(28,pA xsA ((xs.length-1)*3)),(29,vG [vI ((xs.getD (xs.length-1) default).run),vI ((xs.getD (xs.length-1) default).no),vS ((xs.getD (xs.length-1) default).record)]),(30,pA xsA 0),(31,pB h 0),(32,pB h 0),(33,pB h 0),(34,pB h 0),(36,vI ((xs.length-1:Nat):Int)),(37,vL xsA (((xs.set 0 (xs.getD (xs.length-1) default)).take (xs.length-1)).length) xsC)]) (L':=[blk b2 224 [vI ((g0_ xs).run),vI ((g0_ xs).no),vS ((g0_ xs).record)],blk b1 224 [vI 0,vI 0,vS []],blk h 221 [vL xsA ((xs.set 0 (xs.getD (xs.length-1) default)).length) xsC,Value.func (.func 167) #[vG [vL lA l.length lC]] #[]],row (.slice xsA ((xs.set 0 (xs.getD (xs.length-1) default)).take (xs.length-1)).length xsC) 224 3 ((xs.set 0 (xs.getD (xs.length-1) default)).take (xs.length-1)).length (((xs.set 0 (xs.getD (xs.length-1) default)).take (xs.length-1)).flatMap element.enc)]) ⟨rfl,rfl,rfl,rfl,rfl,rfl,rfl,rfl,rfl,rfl,rfl,rfl,rfl,rfl,rfl,rfl,rfl,rfl,rfl,rfl,rfl,rfl,rfl,rfl,rfl,rfl,rfl,rfl,rfl,(congrArg (fun n:Nat=>some (Value.slice xsA n xsC)) (take_len lt_)),trivial⟩ (fun _ h=>truncL h 3 rfl rfl lt_ (take_flat element.enc 3 element.enc_len _ _) (take_len lt_)) ?_
 refine s_ (x_nilCheck rfl) (s_ (fA 0 fi221_0) (o_ (st1 2 sz219 ?_)))
 refine z_ (xk_ [0,2,3,4] ?_)
 refine n_ (q_ (g_ (s_ av_ (z_ (n_ (k_ ?_))))))
 refine J_loop (X:=Nat × (List element) × (OA_) × Nat) (fun (⟨i,ys,ysA,ysC⟩:Nat × (List element) × (OA_) × Nat)=>(Hp.Down (Hp.ec l) default ys i)∧(((g0_ xs)::ys).Perm xs)∧(ys.length=xs.length-1)∧(i≤ys.length)) (fun (⟨i,ys,ysA,ysC⟩:Nat × (List element) × (OA_) × Nat)=>[(0,pB h 0),(2,pB b1 0),(3,pB b2 0),(4,vI ((xs.length-1:Nat):Int)),(5,vN i)]) (fun (⟨i,ys,ysA,ysC⟩:Nat × (List element) × (OA_) × Nat)=>[blk b2 224 [vI ((g0_ xs).run),vI ((g0_ xs).no),vS ((g0_ xs).record)],blk b1 224 [vI 0,vI 0,vS []],blk h 221 [vL ysA ys.length ysC,Value.func (.func 167) #[vG [vL lA l.length lC]] #[]],row (.slice ysA ys.length ysC) 224 3 ys.length (ys.flatMap element.enc)]) (fun (⟨i,ys,ysA,ysC⟩:Nat × (List element) × (OA_) × Nat)=>ys.length-i) ((0,((xs.set 0 (xs.getD (xs.length-1) default)).take (xs.length-1)),xsA,xsC):Nat × (List element) × (OA_) × Nat) ?_ se_ i_ ?_
 ·try dsimp only
  refine ⟨?_,?_,?_,?_⟩
  ·exact Hp.down_start q1 om_
  ·exact Hp.pop_perm om_
  ·rw [List.length_take,List.length_set];omega
  ·exact Nat.zero_le _
 rintro ⟨i,ys,ysA,ysC⟩ hI1
 obtain ⟨i1_0,i1_1,i1_2,i1_3⟩:=hI1
 try dsimp only at i1_0
 try dsimp only at i1_1
 try dsimp only at i1_2
 try dsimp only at i1_3
 have hec:=Hp.ec_ok l
 have hrk:=q2.tail i1_1
 have hr0:=fun h=>hrk.at_ (i:=i) h
 have hr1:=fun h=>hrk.at_ (i:=2*i+1) h
 have hr2:=fun h=>hrk.at_ (i:=2*i+1+1) h
 try dsimp only
 refine k_ (q_ (g_ (s_ mv_ (s_ (x_mul_n (a:=2) (b:=i) rfl rfl om_) (s_ (x_add_n (a:=2*i) (b:=1) rfl rfl om_) (s_ av_ (z_ (n_ (q_ (q_ ?_))))))))))
 refine drB [] 26 mixed ?_
 refine jp_ 0 rfl mv_ (jp_ 1 rfl (x_add_n (a:=(2*i)+1) (b:=1) rfl rfl om_) (jp_ 2 rfl mv_ (jp_ 3 rfl (x_lss_i rfl rfl) (jp_ 4 rfl mv_ ?_))))
 refine jb_ 47 (fun h3=>?_) (fun h3=>?_)
 ·have h3:=ot_ h3
  refine jp_ 5 rfl mv_ (jp_ 6 rfl (x_nilCheck rfl) (jp_ 7 rfl (fA 1 fi221_1) (jq_ 8 rfl (ld_ 2 sc216) (jp_ 9 rfl mv_ (jp_ 10 rfl (x_nilCheck rfl) (jp_ 11 rfl (fA 0 fi221_0) (jq_ 12 rfl (ld_ 2 sc219) (jp_ 13 rfl mv_ (jp_ 14 rfl (x_add_n (a:=(2*i)+1) (b:=1) rfl rfl om_) ?_ (hw:=w_)) (hw:=w_)) (hw:=w_)) (hw:=w_)) (hw:=w_)) (hw:=w_)) (hw:=w_)) (hw:=w_)) (hw:=w_)) (hw:=w_)
  refine jq_ 15 rfl (ixF element.enc_len (cells_row 3 rfl) underlying219 sz224) (jq_ 16 rfl (ldFN element.enc_len (cells_row 3 rfl) ag224 sz224) (jp_ 17 rfl mv_ (jp_ 18 rfl (x_nilCheck rfl) (jp_ 19 rfl (fA 0 fi221_0) (jq_ 20 rfl (ld_ 2 sc219) (jp_ 21 rfl mv_ (jq_ 22 rfl (ixF element.enc_len (cells_row 3 rfl) underlying219 sz224) (jq_ 23 rfl (ldFN element.enc_len (cells_row 3 rfl) ag224 sz224) (j1_ 24 ?_ gm_) (hw:=w_)) (hw:=w_)) (hw:=w_)) (hw:=w_)) (hw:=w_)) (hw:=w_)) (hw:=w_)) (hw:=w_)) (hw:=w_)
  refine jc0_ rfl (x_callv (first:=[vG [vL lA l.length lC]]) (caps:=[]) rfl ca167 rfl) (fun w hS=>f167_ok l lA lC _ _ w (rno lR hS) hy_ hy_ hy_) ?_ (hw:=w_)
  refine jt_ 25 (vB (decide (Hp.ec l (ys.getD (((2*i)+1)+1) default) (ys.getD ((2*i)+1) default)<0))) rfl (fun _ _=>rfl) ?_
  refine JA_done kf_ gm_ ?_
  refine n_ ?_
  refine ifd (fun h4w h4=>?_) (fun h4w h4=>?_)
  ·refine g_ (s_ mv_ (s_ (x_add_n (a:=(2*i)+1) (b:=1) rfl rfl om_) (s_ av_ (z_ (xk_ [0,2,3,4,5,6] ?_)))))
   refine n_ (q_ (q_ ?_))
   refine drB [] 25 mixed ?_
   refine jp_ 0 rfl mv_ (jp_ 1 rfl mv_ (jp_ 2 rfl (x_geq_i rfl rfl) (jp_ 3 rfl mv_ ?_)))
   refine jb_ 74 (fun h5=>?_) (fun h5=>?_)
   ·have h5:=ot_ h5
    refine js2_ 4 rfl (js2_ 5 rfl (js2_ 6 rfl (js2_ 7 rfl (js2_ 8 rfl (js2_ 9 rfl (js2_ 10 rfl (js2_ 11 rfl (js2_ 12 rfl (js2_ 13 rfl ?_)))))))))
    refine js2_ 14 rfl (js2_ 15 rfl (js2_ 16 rfl (js2_ 17 rfl (js2_ 18 rfl (js2_ 19 rfl (js2_ 20 rfl (js2_ 21 rfl (js2_ 22 rfl (js2_ 23 rfl ?_)))))))))
    refine jt_ 24 (vB true) rfl (fun _ _=>rfl) ?_
    refine JA_done kf_ gm_ ?_
    refine n_ (ift (q_ (g_ (r_ (ldN 0 [vI ((g0_ xs).run),vI ((g0_ xs).no),vS ((g0_ xs).record)] ag224 sz224) (o_ (stG 1 sz224 ?_))))))
    refine z_ (xk_ [0,2,3,4,5,6] ?_)
    refine n_ (rt_ (nr_ (kq_ (rr_ (kq_ ?_)))))
    refine JX_rets [_] _ results169 (fun w h=>⟨⟨_,rfl,load_blkN 1 [vI ((g0_ xs).run),vI ((g0_ xs).no),vS ((g0_ xs).record)] h rfl ag224 sz224 rfl⟩,trivial⟩) rfl _ (fun _ h=>h.keep [F_,F_,T_,T_] rfl) ⟨ys,ysA,ysC,?_,?_,?_,?_,?_,?_⟩
    ·rfl
    ·rfl
    ·first | (refine Hp.down_none i1_0 ?_ c44d0_;omega) | (refine Hp.down_stop hec i1_0 ?_ c44d0_;assumption)
    ·exact i1_1
    ·exact hrk
    ·omega
   ·have h5:=of_ h5
    refine jp_ 4 rfl mv_ (jp_ 5 rfl (x_nilCheck rfl) (jp_ 6 rfl (fA 1 fi221_1) (jq_ 7 rfl (ld_ 2 sc216) (jp_ 8 rfl mv_ (jp_ 9 rfl (x_nilCheck rfl) (jp_ 10 rfl (fA 0 fi221_0) (jq_ 11 rfl (ld_ 2 sc219) (jp_ 12 rfl mv_ (jq_ 13 rfl (ixF element.enc_len (cells_row 3 rfl) underlying219 sz224) ?_ (hw:=w_)) (hw:=w_)) (hw:=w_)) (hw:=w_)) (hw:=w_)) (hw:=w_)) (hw:=w_)) (hw:=w_)) (hw:=w_)) (hw:=w_)
    refine jq_ 14 rfl (ldFN element.enc_len (cells_row 3 rfl) ag224 sz224) (jp_ 15 rfl mv_ (jp_ 16 rfl (x_nilCheck rfl) (jp_ 17 rfl (fA 0 fi221_0) (jq_ 18 rfl (ld_ 2 sc219) (jp_ 19 rfl mv_ (jq_ 20 rfl (ixF element.enc_len (cells_row 3 rfl) underlying219 sz224) (jq_ 21 rfl (ldFN element.enc_len (cells_row 3 rfl) ag224 sz224) (j1_ 22 (jc0_ rfl (x_callv (first:=[vG [vL lA l.length lC]]) (caps:=[]) rfl ca167 rfl) (fun w hS=>f167_ok l lA lC _ _ w (rno lR hS) hy_ hy_ hy_) ?_ (hw:=w_)) gm_) (hw:=w_)) (hw:=w_)) (hw:=w_)) (hw:=w_)) (hw:=w_)) (hw:=w_)) (hw:=w_)) (hw:=w_)
    refine jp_ 23 rfl (x_not rfl) ?_ (hw:=w_)
    refine jt_ 24 (vB (!(decide (Hp.ec l (ys.getD (((2*i)+1)+1) default) (ys.getD i default)<0)))) rfl (fun _ _=>rfl) ?_
    refine JA_done kf_ gm_ ?_
    refine n_ ?_
    refine if_ (fun h6=>?_) (fun h6=>?_)
    ·have h6w:=h6
     have h6:(decide (Hp.ec l (ys.getD (((2*i)+1)+1) default) (ys.getD i default)<0))=false:=bnot_true h6
     have h6:=of_ h6
     refine q_ (g_ (r_ (ldN 0 [vI ((g0_ xs).run),vI ((g0_ xs).no),vS ((g0_ xs).record)] ag224 sz224) (o_ (stG 1 sz224 ?_))))
     refine z_ (xk_ [0,2,3,4,5,6] ?_)
     refine n_ (rt_ (nr_ (kq_ (rr_ (kq_ ?_)))))
     refine JX_rets [_] _ results169 (fun w h=>⟨⟨_,rfl,load_blkN 1 [vI ((g0_ xs).run),vI ((g0_ xs).no),vS ((g0_ xs).record)] h rfl ag224 sz224 rfl⟩,trivial⟩) rfl _ (fun _ h=>h.keep [F_,F_,T_,T_] rfl) ⟨ys,ysA,ysC,?_,?_,?_,?_,?_,?_⟩
     ·rfl
     ·rfl
     ·first | (refine Hp.down_none i1_0 ?_ c44d0_;omega) | (refine Hp.down_stop hec i1_0 ?_ c44d0_;assumption)
     ·exact i1_1
     ·exact hrk
     ·omega
    ·have h6w:=h6
     have h6:(decide (Hp.ec l (ys.getD (((2*i)+1)+1) default) (ys.getD i default)<0))=true:=bnot_false h6
     have h6:=ot_ h6
     refine sk_ (n_ (q_ ?_))
     refine drU [] [25,27] 28 mixed ?_
     refine jp_ 0 rfl mv_ (jp_ 1 rfl (x_nilCheck rfl) (jp_ 2 rfl (fA 0 fi221_0) ?_))
     refine je_ 3 (vL ysA ys.length ysC) rfl (x_load 2 rfl rfl sc219 rfl) ?_
     refine jp_ 4 rfl mv_ (jp_ 5 rfl mv_ (jp_ 6 rfl (x_nilCheck rfl) (jp_ 7 rfl (fA 0 fi221_0) ?_)))
     refine je_ 8 (vL ysA ys.length ysC) rfl (x_load 2 rfl rfl sc219 rfl) ?_
     refine jp_ 9 rfl mv_ (jp_ 10 rfl mv_ (jp_ 11 rfl (x_nilCheck rfl) (jp_ 12 rfl (fA 0 fi221_0) ?_)))
     refine je_ 13 (vL ysA ys.length ysC) rfl (x_load 2 rfl rfl sc219 rfl) ?_
     refine jp_ 14 rfl mv_ ?_
     refine je_ 15 (pA ysA ((((2*i)+1)+1)*3)) rfl (x_indexAddr_at (k:=((2*i)+1)+1) (off:=(((2*i)+1)+1)*3) (cells_row 3 rfl) underlying219 sz224 rfl rfl lt_ c44d1_ rfl) ?_
     refine je_ 16 (vG [vI ((ys.getD (((2*i)+1)+1) default).run),vI ((ys.getD (((2*i)+1)+1) default).no),vS ((ys.getD (((2*i)+1)+1) default).record)]) rfl (x_loadN_at [vI ((ys.getD (((2*i)+1)+1) default).run),vI ((ys.getD (((2*i)+1)+1) default).no),vS ((ys.getD (((2*i)+1)+1) default).record)] (cells_row 3 rfl) rfl ag224 sz224 (flat_drop element.enc 3 element.enc_len ys default (((2*i)+1)+1) lt_)) ?_
     refine jp_ 17 rfl mv_ (jp_ 18 rfl (x_nilCheck rfl) (jp_ 19 rfl (fA 0 fi221_0) ?_))
     refine je_ 20 (vL ysA ys.length ysC) rfl (x_load 2 rfl rfl sc219 rfl) ?_
     refine jp_ 21 rfl mv_ (j1_ 22 (jir_ rfl (ixF element.enc_len (cells_row 3 rfl) underlying219 sz224) ?_) (fun _ h=>⟨h.keep [F_,F_,F_,F_] rfl,fun _=>h⟩))
     refine je_ 23 (vG [vI ((ys.getD i default).run),vI ((ys.getD i default).no),vS ((ys.getD i default).record)]) rfl (x_loadN_at [vI ((ys.getD i default).run),vI ((ys.getD i default).no),vS ((ys.getD i default).record)] (cells_row 3 rfl) rfl ag224 sz224 (flat_drop element.enc 3 element.enc_len ys default i lt_)) ?_
     refine je_ 24 (pA ysA (i*3)) rfl (x_indexAddr_at (k:=i) (off:=i*3) (cells_row 3 rfl) underlying219 sz224 rfl rfl lt_ c44d1_ rfl) ?_
     refine j1_ 25 (jio_ rfl (O_store_row_f (a:=(ys.getD (((2*i)+1)+1) default)) (xs:=ys) (k:=i) 3 element.enc [blk b2 224 [vI ((g0_ xs).run),vI ((g0_ xs).no),vS ((g0_ xs).record)],blk b1 224 [vI 0,vI 0,vS []],blk h 221 [vL ysA ys.length ysC,Value.func (.func 167) #[vG [vL lA l.length lC]] #[]],row (.slice ysA (ys.set i (ys.getD (((2*i)+1)+1) default)).length ysC) 224 3 (ys.set i (ys.getD (((2*i)+1)+1) default)).length ((ys.set i (ys.getD (((2*i)+1)+1) default)).flatMap element.enc)] rfl rfl rfl sz224 element.enc_len element.enc_one lt_ rfl ?_)) (fun _ h=>⟨h.keep [F_,F_,F_,F_] rfl,fun _=>h⟩)
     refine JA_weaken (E':=[(0,pB h 0),(2,pB b1 0),(3,pB b2 0),(4,vI ((xs.length-1:Nat):Int)),(5,vN i),(6,vI ((((2*i)+1)+1:Nat):Int)),(71,vI ((((2*i)+1)+1:Nat):Int)),(72,vI ((xs.length-1:Nat):Int)),(73,vB (decide (((xs.length-1:Nat):Int)≤((((2*i)+1)+1:Nat):Int)))),(74,vB false),(75,pB h 0),(76,pB h 0),(77,pB h 1),(78,Value.func (.func 167) #[vG [vL lA l.length lC]] #[]),(79,pB h 0),(80,pB h 0),(81,pB h 0),(82,vL ysA ((ys.set i (ys.getD (((2*i)+1)+1) default)).length) ysC),(83,vI ((((2*i)+1)+1:Nat):Int)),(84,pA ysA ((((2*i)+1)+1)*3)),(85,vG [vI ((ys.getD (((2*i)+1)+1) default).run),vI ((ys.getD (((2*i)+1)+1) default).no),vS ((ys.getD (((2*i)+1)+1) default).record)]),(86,pB h 0),(87,pB h 0),(88,pB h 0),(89,vL ysA ((ys.set i (ys.getD (((2*i)+1)+1) default)).length) ysC),(90,vN i),(91,pA ysA (i*3)),(92,vG [vI ((ys.getD i default).run),vI ((ys.getD i default).no),vS ((ys.getD i default).record)]),(93,vB (decide (Hp.ec l (ys.getD (((2*i)+1)+1) default) (ys.getD i default)<0))),(94,vB (!(decide (Hp.ec l (ys.getD (((2*i)+1)+1) default) (ys.getD i default)<0)))),(95,vB (!(decide (Hp.ec l (ys.getD (((2*i)+1)+1) default) (ys.getD i default)<0)))),(97,pB h 0),(98,pB h 0),(99,pB h 0),(100,vL ysA ((ys.set i (ys.getD (((2*i)+1)+1) default)).length) ysC),(101,vN i),(102,pB h 0),(103,pB h 0),(104,pB h 0),(105,vL ysA ((ys.set i (ys.getD (((2*i)+1)+1) default)).length) ysC),(106,vI ((((2*i)+1)+1:Nat):Int)),(107,pB h 0),(108,pB h 0),(109,pB h 0),(110,vL ysA ((ys.set i (ys.getD (((2*i)+1)+1) default)).length) ysC),(111,vI ((((2*i)+1)+1:Nat):Int)),(112,pA ysA ((((2*i)+1)+1)*3)),(113,vG [vI ((ys.getD (((2*i)+1)+1) default).run),vI ((ys.getD (((2*i)+1)+1) default).no),vS ((ys.getD (((2*i)+1)+1) default).record)]),(114,pB h 0),(115,pB h 0),(116,pB h 0),(117,vL ysA ((ys.set i (ys.getD (((2*i)+1)+1) default)).length) ysC),(118,vN i),(119,pA ysA (i*3)),(120,vG [vI ((ys.getD i default).run),vI ((ys.getD i default).no),vS ((ys.getD i default).record)]),(121,pA ysA (i*3))]) (L':=[blk b2 224 [vI ((g0_ xs).run),vI ((g0_ xs).no),vS ((g0_ xs).record)],blk b1 224 [vI 0,vI 0,vS []],blk h 221 [vL ysA ((ys.set i (ys.getD (((2*i)+1)+1) default)).length) ysC,Value.func (.func 167) #[vG [vL lA l.length lC]] #[]],row (.slice ysA (ys.set i (ys.getD (((2*i)+1)+1) default)).length ysC) 224 3 (ys.set i (ys.getD (((2*i)+1)+1) default)).length ((ys.set i (ys.getD (((2*i)+1)+1) default)).flatMap element.enc)]) ⟨rfl,rfl,rfl,rfl,rfl,rfl,rfl,rfl,rfl,rfl,rfl,rfl,rfl,rfl,rfl,rfl,rfl,(congrArg (fun n:Nat=>some (Value.slice ysA n ysC)) (set_len ys i (ys.getD (((2*i)+1)+1) default)).symm),rfl,rfl,rfl,rfl,rfl,rfl,(congrArg (fun n:Nat=>some (Value.slice ysA n ysC)) (set_len ys i (ys.getD (((2*i)+1)+1) default)).symm),rfl,rfl,rfl,rfl,rfl,rfl,rfl,rfl,rfl,(congrArg (fun n:Nat=>some (Value.slice ysA n ysC)) (set_len ys i (ys.getD (((2*i)+1)+1) default)).symm),rfl,rfl,rfl,rfl,(congrArg (fun n:Nat=>some (Value.slice ysA n ysC)) (set_len ys i (ys.getD (((2*i)+1)+1) default)).symm),rfl,rfl,rfl,rfl,(congrArg (fun n:Nat=>some (Value.slice ysA n ysC)) (set_len ys i (ys.getD (((2*i)+1)+1) default)).symm),rfl,rfl,rfl,rfl,rfl,rfl,(congrArg (fun n:Nat=>some (Value.slice ysA n ysC)) (set_len ys i (ys.getD (((2*i)+1)+1) default)).symm),rfl,rfl,rfl,rfl,trivial⟩ (fun _ h=>by rw [set_len ys i (ys.getD (((2*i)+1)+1) default)] at h ⊢;exact h) ?_
     refine j1_ 26 (jir_ rfl (ixF element.enc_len (cells_row 3 rfl) underlying219 sz224) (j1_ 27 ?_ (gl_ rfl (fun _ h=>h.keep [F_,F_,F_,F_] rfl)))) (gl_ rfl (fun _ h=>h.keep [F_,F_,F_,F_] rfl))
     refine jio_ rfl (O_store_row_f (a:=(ys.getD i default)) (xs:=(ys.set i (ys.getD (((2*i)+1)+1) default))) (k:=((2*i)+1)+1) 3 element.enc [blk b2 224 [vI ((g0_ xs).run),vI ((g0_ xs).no),vS ((g0_ xs).record)],blk b1 224 [vI 0,vI 0,vS []],blk h 221 [vL ysA ((ys.set i (ys.getD (((2*i)+1)+1) default)).length) ysC,Value.func (.func 167) #[vG [vL lA l.length lC]] #[]],row (.slice ysA ((ys.set i (ys.getD (((2*i)+1)+1) default)).set (((2*i)+1)+1) (ys.getD i default)).length ysC) 224 3 ((ys.set i (ys.getD (((2*i)+1)+1) default)).set (((2*i)+1)+1) (ys.getD i default)).length (((ys.set i (ys.getD (((2*i)+1)+1) default)).set (((2*i)+1)+1) (ys.getD i default)).flatMap element.enc)] rfl rfl rfl sz224 element.enc_len element.enc_one lt_ rfl ?_)
     refine JA_weaken (E':=[(0,pB h 0),(2,pB b1 0),(3,pB b2 0),(4,vI ((xs.length-1:Nat):Int)),(5,vN i),(6,vI ((((2*i)+1)+1:Nat):Int)),(71,vI ((((2*i)+1)+1:Nat):Int)),(72,vI ((xs.length-1:Nat):Int)),(73,vB (decide (((xs.length-1:Nat):Int)≤((((2*i)+1)+1:Nat):Int)))),(74,vB false),(75,pB h 0),(76,pB h 0),(77,pB h 1),(78,Value.func (.func 167) #[vG [vL lA l.length lC]] #[]),(79,pB h 0),(80,pB h 0),(81,pB h 0),(82,vL ysA (((ys.set i (ys.getD (((2*i)+1)+1) default)).set (((2*i)+1)+1) (ys.getD i default)).length) ysC),(83,vI ((((2*i)+1)+1:Nat):Int)),(84,pA ysA ((((2*i)+1)+1)*3)),(85,vG [vI ((ys.getD (((2*i)+1)+1) default).run),vI ((ys.getD (((2*i)+1)+1) default).no),vS ((ys.getD (((2*i)+1)+1) default).record)]),(86,pB h 0),(87,pB h 0),(88,pB h 0),(89,vL ysA (((ys.set i (ys.getD (((2*i)+1)+1) default)).set (((2*i)+1)+1) (ys.getD i default)).length) ysC),(90,vN i),(91,pA ysA (i*3)),(92,vG [vI ((ys.getD i default).run),vI ((ys.getD i default).no),vS ((ys.getD i default).record)]),(93,vB (decide (Hp.ec l (ys.getD (((2*i)+1)+1) default) (ys.getD i default)<0))),(94,vB (!(decide (Hp.ec l (ys.getD (((2*i)+1)+1) default) (ys.getD i default)<0)))),(95,vB (!(decide (Hp.ec l (ys.getD (((2*i)+1)+1) default) (ys.getD i default)<0)))),(97,pB h 0),(98,pB h 0),(99,pB h 0),(100,vL ysA (((ys.set i (ys.getD (((2*i)+1)+1) default)).set (((2*i)+1)+1) (ys.getD i default)).length) ysC),(101,vN i),(102,pB h 0),(103,pB h 0),(104,pB h 0),(105,vL ysA (((ys.set i (ys.getD (((2*i)+1)+1) default)).set (((2*i)+1)+1) (ys.getD i default)).length) ysC),(106,vI ((((2*i)+1)+1:Nat):Int)),(107,pB h 0),(108,pB h 0),(109,pB h 0),(110,vL ysA (((ys.set i (ys.getD (((2*i)+1)+1) default)).set (((2*i)+1)+1) (ys.getD i default)).length) ysC),(111,vI ((((2*i)+1)+1:Nat):Int)),(112,pA ysA ((((2*i)+1)+1)*3)),(113,vG [vI ((ys.getD (((2*i)+1)+1) default).run),vI ((ys.getD (((2*i)+1)+1) default).no),vS ((ys.getD (((2*i)+1)+1) default).record)]),(114,pB h 0),(115,pB h 0),(116,pB h 0),(117,vL ysA (((ys.set i (ys.getD (((2*i)+1)+1) default)).set (((2*i)+1)+1) (ys.getD i default)).length) ysC),(118,vN i),(119,pA ysA (i*3)),(120,vG [vI ((ys.getD i default).run),vI ((ys.getD i default).no),vS ((ys.getD i default).record)]),(121,pA ysA (i*3)),(122,pA ysA ((((2*i)+1)+1)*3))]) (L':=[blk b2 224 [vI ((g0_ xs).run),vI ((g0_ xs).no),vS ((g0_ xs).record)],blk b1 224 [vI 0,vI 0,vS []],blk h 221 [vL ysA (((ys.set i (ys.getD (((2*i)+1)+1) default)).set (((2*i)+1)+1) (ys.getD i default)).length) ysC,Value.func (.func 167) #[vG [vL lA l.length lC]] #[]],row (.slice ysA ((ys.set i (ys.getD (((2*i)+1)+1) default)).set (((2*i)+1)+1) (ys.getD i default)).length ysC) 224 3 ((ys.set i (ys.getD (((2*i)+1)+1) default)).set (((2*i)+1)+1) (ys.getD i default)).length (((ys.set i (ys.getD (((2*i)+1)+1) default)).set (((2*i)+1)+1) (ys.getD i default)).flatMap element.enc)]) ⟨rfl,rfl,rfl,rfl,rfl,rfl,rfl,rfl,rfl,rfl,rfl,rfl,rfl,rfl,rfl,rfl,rfl,(congrArg (fun n:Nat=>some (Value.slice ysA n ysC)) (set_len (ys.set i (ys.getD (((2*i)+1)+1) default)) (((2*i)+1)+1) (ys.getD i default)).symm),rfl,rfl,rfl,rfl,rfl,rfl,(congrArg (fun n:Nat=>some (Value.slice ysA n ysC)) (set_len (ys.set i (ys.getD (((2*i)+1)+1) default)) (((2*i)+1)+1) (ys.getD i default)).symm),rfl,rfl,rfl,rfl,rfl,rfl,rfl,rfl,rfl,(congrArg (fun n:Nat=>some (Value.slice ysA n ysC)) (set_len (ys.set i (ys.getD (((2*i)+1)+1) default)) (((2*i)+1)+1) (ys.getD i default)).symm),rfl,rfl,rfl,rfl,(congrArg (fun n:Nat=>some (Value.slice ysA n ysC)) (set_len (ys.set i (ys.getD (((2*i)+1)+1) default)) (((2*i)+1)+1) (ys.getD i default)).symm),rfl,rfl,rfl,rfl,(congrArg (fun n:Nat=>some (Value.slice ysA n ysC)) (set_len (ys.set i (ys.getD (((2*i)+1)+1) default)) (((2*i)+1)+1) (ys.getD i default)).symm),rfl,rfl,rfl,rfl,rfl,rfl,(congrArg (fun n:Nat=>some (Value.slice ysA n ysC)) (set_len (ys.set i (ys.getD (((2*i)+1)+1) default)) (((2*i)+1)+1) (ys.getD i default)).symm),rfl,rfl,rfl,rfl,rfl,trivial⟩ (fun _ h=>by rw [set_len (ys.set i (ys.getD (((2*i)+1)+1) default)) (((2*i)+1)+1) (ys.getD i default)] at h ⊢;exact h) ?_
     refine JA_done kf_ (gl_ rfl (fun _ h=>h.keep [F_,F_,F_,F_] rfl)) ?_
     refine n_ (g_ (s_ mv_ (s_ av_ (z_ (kx_ ?_)))))
     refine JX_round ((((2*i)+1)+1,((ys.set i (ys.getD (((2*i)+1)+1) default)).set (((2*i)+1)+1) (ys.getD i default)),ysA,ysC):Nat × (List element) × (OA_) × Nat) ?_ ?_ se_ i_
     ·try dsimp only
      refine ⟨?_,?_,?_,?_⟩
      ·exact Hp.down_kid i1_0 om_ as_ c44d0_
      ·exact Hp.swap_perm3 om_ om_ i1_1
      ·rw [Hp.swap_len2];exact i1_2
      ·rw [Hp.swap_len2];omega
     ·try dsimp only
      rw [Hp.swap_len2];omega
  ·refine sk_ (n_ (q_ (q_ ?_)))
   refine drB [] 25 mixed ?_
   refine jp_ 0 rfl mv_ (jp_ 1 rfl mv_ (jp_ 2 rfl (x_geq_i rfl rfl) (jp_ 3 rfl mv_ ?_)))
   refine jb_ 74 (fun h7=>?_) (fun h7=>?_)
   ·have h7:=ot_ h7
    refine js2_ 4 rfl (js2_ 5 rfl (js2_ 6 rfl (js2_ 7 rfl (js2_ 8 rfl (js2_ 9 rfl (js2_ 10 rfl (js2_ 11 rfl (js2_ 12 rfl (js2_ 13 rfl ?_)))))))))
    refine js2_ 14 rfl (js2_ 15 rfl (js2_ 16 rfl (js2_ 17 rfl (js2_ 18 rfl (js2_ 19 rfl (js2_ 20 rfl (js2_ 21 rfl (js2_ 22 rfl (js2_ 23 rfl ?_)))))))))
    refine jt_ 24 (vB true) rfl (fun _ _=>rfl) ?_
    refine JA_done kf_ gm_ ?_
    refine n_ (ift (q_ (g_ (r_ (ldN 0 [vI ((g0_ xs).run),vI ((g0_ xs).no),vS ((g0_ xs).record)] ag224 sz224) (o_ (stG 1 sz224 ?_))))))
    refine z_ (xk_ [0,2,3,4,5,6] ?_)
    refine n_ (rt_ (nr_ (kq_ (rr_ (kq_ ?_)))))
    refine JX_rets [_] _ results169 (fun w h=>⟨⟨_,rfl,load_blkN 1 [vI ((g0_ xs).run),vI ((g0_ xs).no),vS ((g0_ xs).record)] h rfl ag224 sz224 rfl⟩,trivial⟩) rfl _ (fun _ h=>h.keep [F_,F_,T_,T_] rfl) ⟨ys,ysA,ysC,?_,?_,?_,?_,?_,?_⟩
    ·rfl
    ·rfl
    ·first | (refine Hp.down_none i1_0 ?_ c44d0_;omega) | (refine Hp.down_stop hec i1_0 ?_ c44d0_;assumption)
    ·exact i1_1
    ·exact hrk
    ·omega
   ·have h7:=of_ h7
    refine jp_ 4 rfl mv_ (jp_ 5 rfl (x_nilCheck rfl) (jp_ 6 rfl (fA 1 fi221_1) (jq_ 7 rfl (ld_ 2 sc216) (jp_ 8 rfl mv_ (jp_ 9 rfl (x_nilCheck rfl) (jp_ 10 rfl (fA 0 fi221_0) (jq_ 11 rfl (ld_ 2 sc219) (jp_ 12 rfl mv_ (jq_ 13 rfl (ixF element.enc_len (cells_row 3 rfl) underlying219 sz224) ?_ (hw:=w_)) (hw:=w_)) (hw:=w_)) (hw:=w_)) (hw:=w_)) (hw:=w_)) (hw:=w_)) (hw:=w_)) (hw:=w_)) (hw:=w_)
    refine jq_ 14 rfl (ldFN element.enc_len (cells_row 3 rfl) ag224 sz224) (jp_ 15 rfl mv_ (jp_ 16 rfl (x_nilCheck rfl) (jp_ 17 rfl (fA 0 fi221_0) (jq_ 18 rfl (ld_ 2 sc219) (jp_ 19 rfl mv_ (jq_ 20 rfl (ixF element.enc_len (cells_row 3 rfl) underlying219 sz224) (jq_ 21 rfl (ldFN element.enc_len (cells_row 3 rfl) ag224 sz224) (j1_ 22 (jc0_ rfl (x_callv (first:=[vG [vL lA l.length lC]]) (caps:=[]) rfl ca167 rfl) (fun w hS=>f167_ok l lA lC _ _ w (rno lR hS) hy_ hy_ hy_) ?_ (hw:=w_)) gm_) (hw:=w_)) (hw:=w_)) (hw:=w_)) (hw:=w_)) (hw:=w_)) (hw:=w_)) (hw:=w_)) (hw:=w_)
    refine jp_ 23 rfl (x_not rfl) ?_ (hw:=w_)
    refine jt_ 24 (vB (!(decide (Hp.ec l (ys.getD ((2*i)+1) default) (ys.getD i default)<0)))) rfl (fun _ _=>rfl) ?_
    refine JA_done kf_ gm_ ?_
    refine n_ ?_
    refine if_ (fun h8=>?_) (fun h8=>?_)
    ·have h8w:=h8
     have h8:(decide (Hp.ec l (ys.getD ((2*i)+1) default) (ys.getD i default)<0))=false:=bnot_true h8
     have h8:=of_ h8
     refine q_ (g_ (r_ (ldN 0 [vI ((g0_ xs).run),vI ((g0_ xs).no),vS ((g0_ xs).record)] ag224 sz224) (o_ (stG 1 sz224 ?_))))
     refine z_ (xk_ [0,2,3,4,5,6] ?_)
     refine n_ (rt_ (nr_ (kq_ (rr_ (kq_ ?_)))))
     refine JX_rets [_] _ results169 (fun w h=>⟨⟨_,rfl,load_blkN 1 [vI ((g0_ xs).run),vI ((g0_ xs).no),vS ((g0_ xs).record)] h rfl ag224 sz224 rfl⟩,trivial⟩) rfl _ (fun _ h=>h.keep [F_,F_,T_,T_] rfl) ⟨ys,ysA,ysC,?_,?_,?_,?_,?_,?_⟩
     ·rfl
     ·rfl
     ·first | (refine Hp.down_none i1_0 ?_ c44d0_;omega) | (refine Hp.down_stop hec i1_0 ?_ c44d0_;assumption)
     ·exact i1_1
     ·exact hrk
     ·omega
    ·have h8w:=h8
     have h8:(decide (Hp.ec l (ys.getD ((2*i)+1) default) (ys.getD i default)<0))=true:=bnot_false h8
     have h8:=ot_ h8
     refine sk_ (n_ (q_ ?_))
     refine drU [] [25,27] 28 mixed ?_
     refine jp_ 0 rfl mv_ (jp_ 1 rfl (x_nilCheck rfl) (jp_ 2 rfl (fA 0 fi221_0) ?_))
     refine je_ 3 (vL ysA ys.length ysC) rfl (x_load 2 rfl rfl sc219 rfl) ?_
     refine jp_ 4 rfl mv_ (jp_ 5 rfl mv_ (jp_ 6 rfl (x_nilCheck rfl) (jp_ 7 rfl (fA 0 fi221_0) ?_)))
     refine je_ 8 (vL ysA ys.length ysC) rfl (x_load 2 rfl rfl sc219 rfl) ?_
     refine jp_ 9 rfl mv_ (jp_ 10 rfl mv_ (jp_ 11 rfl (x_nilCheck rfl) (jp_ 12 rfl (fA 0 fi221_0) ?_)))
     refine je_ 13 (vL ysA ys.length ysC) rfl (x_load 2 rfl rfl sc219 rfl) ?_
     refine jp_ 14 rfl mv_ ?_
     refine je_ 15 (pA ysA (((2*i)+1)*3)) rfl (x_indexAddr_at (k:=(2*i)+1) (off:=((2*i)+1)*3) (cells_row 3 rfl) underlying219 sz224 rfl rfl lt_ c44d1_ rfl) ?_
     refine je_ 16 (vG [vI ((ys.getD ((2*i)+1) default).run),vI ((ys.getD ((2*i)+1) default).no),vS ((ys.getD ((2*i)+1) default).record)]) rfl (x_loadN_at [vI ((ys.getD ((2*i)+1) default).run),vI ((ys.getD ((2*i)+1) default).no),vS ((ys.getD ((2*i)+1) default).record)] (cells_row 3 rfl) rfl ag224 sz224 (flat_drop element.enc 3 element.enc_len ys default ((2*i)+1) lt_)) ?_
     refine jp_ 17 rfl mv_ (jp_ 18 rfl (x_nilCheck rfl) (jp_ 19 rfl (fA 0 fi221_0) ?_))
     refine je_ 20 (vL ysA ys.length ysC) rfl (x_load 2 rfl rfl sc219 rfl) ?_
     refine jp_ 21 rfl mv_ (j1_ 22 (jir_ rfl (ixF element.enc_len (cells_row 3 rfl) underlying219 sz224) ?_) (fun _ h=>⟨h.keep [F_,F_,F_,F_] rfl,fun _=>h⟩))
     refine je_ 23 (vG [vI ((ys.getD i default).run),vI ((ys.getD i default).no),vS ((ys.getD i default).record)]) rfl (x_loadN_at [vI ((ys.getD i default).run),vI ((ys.getD i default).no),vS ((ys.getD i default).record)] (cells_row 3 rfl) rfl ag224 sz224 (flat_drop element.enc 3 element.enc_len ys default i lt_)) ?_
     refine je_ 24 (pA ysA (i*3)) rfl (x_indexAddr_at (k:=i) (off:=i*3) (cells_row 3 rfl) underlying219 sz224 rfl rfl lt_ c44d1_ rfl) ?_
     refine j1_ 25 (jio_ rfl (O_store_row_f (a:=(ys.getD ((2*i)+1) default)) (xs:=ys) (k:=i) 3 element.enc [blk b2 224 [vI ((g0_ xs).run),vI ((g0_ xs).no),vS ((g0_ xs).record)],blk b1 224 [vI 0,vI 0,vS []],blk h 221 [vL ysA ys.length ysC,Value.func (.func 167) #[vG [vL lA l.length lC]] #[]],row (.slice ysA (ys.set i (ys.getD ((2*i)+1) default)).length ysC) 224 3 (ys.set i (ys.getD ((2*i)+1) default)).length ((ys.set i (ys.getD ((2*i)+1) default)).flatMap element.enc)] rfl rfl rfl sz224 element.enc_len element.enc_one lt_ rfl ?_)) (fun _ h=>⟨h.keep [F_,F_,F_,F_] rfl,fun _=>h⟩)
     refine JA_weaken (E':=[(0,pB h 0),(2,pB b1 0),(3,pB b2 0),(4,vI ((xs.length-1:Nat):Int)),(5,vN i),(40,vN i),(41,vI ((2*i:Nat):Int)),(42,vI (((2*i)+1:Nat):Int)),(6,vI (((2*i)+1:Nat):Int)),(43,vI (((2*i)+1:Nat):Int)),(44,vI ((((2*i)+1)+1:Nat):Int)),(45,vI ((xs.length-1:Nat):Int)),(46,vB (decide (((((2*i)+1)+1:Nat):Int)<((xs.length-1:Nat):Int)))),(47,vB true),(48,pB h 0),(49,pB h 0),(50,pB h 1),(51,Value.func (.func 167) #[vG [vL lA l.length lC]] #[]),(52,pB h 0),(53,pB h 0),(54,pB h 0),(55,vL ysA ((ys.set i (ys.getD ((2*i)+1) default)).length) ysC),(56,vI (((2*i)+1:Nat):Int)),(57,vI ((((2*i)+1)+1:Nat):Int)),(58,pA ysA ((((2*i)+1)+1)*3)),(59,vG [vI ((ys.getD (((2*i)+1)+1) default).run),vI ((ys.getD (((2*i)+1)+1) default).no),vS ((ys.getD (((2*i)+1)+1) default).record)]),(60,pB h 0),(61,pB h 0),(62,pB h 0),(63,vL ysA ((ys.set i (ys.getD ((2*i)+1) default)).length) ysC),(64,vI (((2*i)+1:Nat):Int)),(65,pA ysA (((2*i)+1)*3)),(66,vG [vI ((ys.getD ((2*i)+1) default).run),vI ((ys.getD ((2*i)+1) default).no),vS ((ys.getD ((2*i)+1) default).record)]),(67,vB (decide (Hp.ec l (ys.getD (((2*i)+1)+1) default) (ys.getD ((2*i)+1) default)<0))),(68,vB (decide (Hp.ec l (ys.getD (((2*i)+1)+1) default) (ys.getD ((2*i)+1) default)<0))),(71,vI (((2*i)+1:Nat):Int)),(72,vI ((xs.length-1:Nat):Int)),(73,vB (decide (((xs.length-1:Nat):Int)≤(((2*i)+1:Nat):Int)))),(74,vB false),(75,pB h 0),(76,pB h 0),(77,pB h 1),(78,Value.func (.func 167) #[vG [vL lA l.length lC]] #[]),(79,pB h 0),(80,pB h 0),(81,pB h 0),(82,vL ysA ((ys.set i (ys.getD ((2*i)+1) default)).length) ysC),(83,vI (((2*i)+1:Nat):Int)),(84,pA ysA (((2*i)+1)*3)),(85,vG [vI ((ys.getD ((2*i)+1) default).run),vI ((ys.getD ((2*i)+1) default).no),vS ((ys.getD ((2*i)+1) default).record)]),(86,pB h 0),(87,pB h 0),(88,pB h 0),(89,vL ysA ((ys.set i (ys.getD ((2*i)+1) default)).length) ysC),(90,vN i),(91,pA ysA (i*3)),(92,vG [vI ((ys.getD i default).run),vI ((ys.getD i default).no),vS ((ys.getD i default).record)]),(93,vB (decide (Hp.ec l (ys.getD ((2*i)+1) default) (ys.getD i default)<0))),(94,vB (!(decide (Hp.ec l (ys.getD ((2*i)+1) default) (ys.getD i default)<0)))),(95,vB (!(decide (Hp.ec l (ys.getD ((2*i)+1) default) (ys.getD i default)<0)))),(97,pB h 0),(98,pB h 0),(99,pB h 0),(100,vL ysA ((ys.set i (ys.getD ((2*i)+1) default)).length) ysC),(101,vN i),(102,pB h 0),(103,pB h 0),(104,pB h 0),(105,vL ysA ((ys.set i (ys.getD ((2*i)+1) default)).length) ysC),(106,vI (((2*i)+1:Nat):Int)),(107,pB h 0),(108,pB h 0),(109,pB h 0),(110,vL ysA ((ys.set i (ys.getD ((2*i)+1) default)).length) ysC),(111,vI (((2*i)+1:Nat):Int)),(112,pA ysA (((2*i)+1)*3)),(113,vG [vI ((ys.getD ((2*i)+1) default).run),vI ((ys.getD ((2*i)+1) default).no),vS ((ys.getD ((2*i)+1) default).record)]),(114,pB h 0),(115,pB h 0),(116,pB h 0),(117,vL ysA ((ys.set i (ys.getD ((2*i)+1) default)).length) ysC),(118,vN i),(119,pA ysA (i*3)),(120,vG [vI ((ys.getD i default).run),vI ((ys.getD i default).no),vS ((ys.getD i default).record)]),(121,pA ysA (i*3))]) (L':=[blk b2 224 [vI ((g0_ xs).run),vI ((g0_ xs).no),vS ((g0_ xs).record)],blk b1 224 [vI 0,vI 0,vS []],blk h 221 [vL ysA ((ys.set i (ys.getD ((2*i)+1) default)).length) ysC,Value.func (.func 167) #[vG [vL lA l.length lC]] #[]],row (.slice ysA (ys.set i (ys.getD ((2*i)+1) default)).length ysC) 224 3 (ys.set i (ys.getD ((2*i)+1) default)).length ((ys.set i (ys.getD ((2*i)+1) default)).flatMap element.enc)]) ⟨rfl,rfl,rfl,rfl,rfl,rfl,rfl,rfl,rfl,rfl,rfl,rfl,rfl,rfl,rfl,rfl,rfl,rfl,rfl,rfl,rfl,(congrArg (fun n:Nat=>some (Value.slice ysA n ysC)) (set_len ys i (ys.getD ((2*i)+1) default)).symm),rfl,rfl,rfl,rfl,rfl,rfl,rfl,(congrArg (fun n:Nat=>some (Value.slice ysA n ysC)) (set_len ys i (ys.getD ((2*i)+1) default)).symm),rfl,rfl,rfl,rfl,rfl,rfl,rfl,rfl,rfl,rfl,rfl,rfl,rfl,rfl,rfl,rfl,(congrArg (fun n:Nat=>some (Value.slice ysA n ysC)) (set_len ys i (ys.getD ((2*i)+1) default)).symm),rfl,rfl,rfl,rfl,rfl,rfl,(congrArg (fun n:Nat=>some (Value.slice ysA n ysC)) (set_len ys i (ys.getD ((2*i)+1) default)).symm),rfl,rfl,rfl,rfl,rfl,rfl,rfl,rfl,rfl,(congrArg (fun n:Nat=>some (Value.slice ysA n ysC)) (set_len ys i (ys.getD ((2*i)+1) default)).symm),rfl,rfl,rfl,rfl,(congrArg (fun n:Nat=>some (Value.slice ysA n ysC)) (set_len ys i (ys.getD ((2*i)+1) default)).symm),rfl,rfl,rfl,rfl,(congrArg (fun n:Nat=>some (Value.slice ysA n ysC)) (set_len ys i (ys.getD ((2*i)+1) default)).symm),rfl,rfl,rfl,rfl,rfl,rfl,(congrArg (fun n:Nat=>some (Value.slice ysA n ysC)) (set_len ys i (ys.getD ((2*i)+1) default)).symm),rfl,rfl,rfl,rfl,trivial⟩ (fun _ h=>by rw [set_len ys i (ys.getD ((2*i)+1) default)] at h ⊢;exact h) ?_
     refine j1_ 26 (jir_ rfl (ixF element.enc_len (cells_row 3 rfl) underlying219 sz224) (j1_ 27 ?_ (gl_ rfl (fun _ h=>h.keep [F_,F_,F_,F_] rfl)))) (gl_ rfl (fun _ h=>h.keep [F_,F_,F_,F_] rfl))
     refine jio_ rfl (O_store_row_f (a:=(ys.getD i default)) (xs:=(ys.set i (ys.getD ((2*i)+1) default))) (k:=(2*i)+1) 3 element.enc [blk b2 224 [vI ((g0_ xs).run),vI ((g0_ xs).no),vS ((g0_ xs).record)],blk b1 224 [vI 0,vI 0,vS []],blk h 221 [vL ysA ((ys.set i (ys.getD ((2*i)+1) default)).length) ysC,Value.func (.func 167) #[vG [vL lA l.length lC]] #[]],row (.slice ysA ((ys.set i (ys.getD ((2*i)+1) default)).set ((2*i)+1) (ys.getD i default)).length ysC) 224 3 ((ys.set i (ys.getD ((2*i)+1) default)).set ((2*i)+1) (ys.getD i default)).length (((ys.set i (ys.getD ((2*i)+1) default)).set ((2*i)+1) (ys.getD i default)).flatMap element.enc)] rfl rfl rfl sz224 element.enc_len element.enc_one lt_ rfl ?_)
     refine JA_weaken (E':=[(0,pB h 0),(2,pB b1 0),(3,pB b2 0),(4,vI ((xs.length-1:Nat):Int)),(5,vN i),(40,vN i),(41,vI ((2*i:Nat):Int)),(42,vI (((2*i)+1:Nat):Int)),(6,vI (((2*i)+1:Nat):Int)),(43,vI (((2*i)+1:Nat):Int)),(44,vI ((((2*i)+1)+1:Nat):Int)),(45,vI ((xs.length-1:Nat):Int)),(46,vB (decide (((((2*i)+1)+1:Nat):Int)<((xs.length-1:Nat):Int)))),(47,vB true),(48,pB h 0),(49,pB h 0),(50,pB h 1),(51,Value.func (.func 167) #[vG [vL lA l.length lC]] #[]),(52,pB h 0),(53,pB h 0),(54,pB h 0),(55,vL ysA (((ys.set i (ys.getD ((2*i)+1) default)).set ((2*i)+1) (ys.getD i default)).length) ysC),(56,vI (((2*i)+1:Nat):Int)),(57,vI ((((2*i)+1)+1:Nat):Int)),(58,pA ysA ((((2*i)+1)+1)*3)),(59,vG [vI ((ys.getD (((2*i)+1)+1) default).run),vI ((ys.getD (((2*i)+1)+1) default).no),vS ((ys.getD (((2*i)+1)+1) default).record)]),(60,pB h 0),(61,pB h 0),(62,pB h 0),(63,vL ysA (((ys.set i (ys.getD ((2*i)+1) default)).set ((2*i)+1) (ys.getD i default)).length) ysC),(64,vI (((2*i)+1:Nat):Int)),(65,pA ysA (((2*i)+1)*3)),(66,vG [vI ((ys.getD ((2*i)+1) default).run),vI ((ys.getD ((2*i)+1) default).no),vS ((ys.getD ((2*i)+1) default).record)]),(67,vB (decide (Hp.ec l (ys.getD (((2*i)+1)+1) default) (ys.getD ((2*i)+1) default)<0))),(68,vB (decide (Hp.ec l (ys.getD (((2*i)+1)+1) default) (ys.getD ((2*i)+1) default)<0))),(71,vI (((2*i)+1:Nat):Int)),(72,vI ((xs.length-1:Nat):Int)),(73,vB (decide (((xs.length-1:Nat):Int)≤(((2*i)+1:Nat):Int)))),(74,vB false),(75,pB h 0),(76,pB h 0),(77,pB h 1),(78,Value.func (.func 167) #[vG [vL lA l.length lC]] #[]),(79,pB h 0),(80,pB h 0),(81,pB h 0),(82,vL ysA (((ys.set i (ys.getD ((2*i)+1) default)).set ((2*i)+1) (ys.getD i default)).length) ysC),(83,vI (((2*i)+1:Nat):Int)),(84,pA ysA (((2*i)+1)*3)),(85,vG [vI ((ys.getD ((2*i)+1) default).run),vI ((ys.getD ((2*i)+1) default).no),vS ((ys.getD ((2*i)+1) default).record)]),(86,pB h 0),(87,pB h 0),(88,pB h 0),(89,vL ysA (((ys.set i (ys.getD ((2*i)+1) default)).set ((2*i)+1) (ys.getD i default)).length) ysC),(90,vN i),(91,pA ysA (i*3)),(92,vG [vI ((ys.getD i default).run),vI ((ys.getD i default).no),vS ((ys.getD i default).record)]),(93,vB (decide (Hp.ec l (ys.getD ((2*i)+1) default) (ys.getD i default)<0))),(94,vB (!(decide (Hp.ec l (ys.getD ((2*i)+1) default) (ys.getD i default)<0)))),(95,vB (!(decide (Hp.ec l (ys.getD ((2*i)+1) default) (ys.getD i default)<0)))),(97,pB h 0),(98,pB h 0),(99,pB h 0),(100,vL ysA (((ys.set i (ys.getD ((2*i)+1) default)).set ((2*i)+1) (ys.getD i default)).length) ysC),(101,vN i),(102,pB h 0),(103,pB h 0),(104,pB h 0),(105,vL ysA (((ys.set i (ys.getD ((2*i)+1) default)).set ((2*i)+1) (ys.getD i default)).length) ysC),(106,vI (((2*i)+1:Nat):Int)),(107,pB h 0),(108,pB h 0),(109,pB h 0),(110,vL ysA (((ys.set i (ys.getD ((2*i)+1) default)).set ((2*i)+1) (ys.getD i default)).length) ysC),(111,vI (((2*i)+1:Nat):Int)),(112,pA ysA (((2*i)+1)*3)),(113,vG [vI ((ys.getD ((2*i)+1) default).run),vI ((ys.getD ((2*i)+1) default).no),vS ((ys.getD ((2*i)+1) default).record)]),(114,pB h 0),(115,pB h 0),(116,pB h 0),(117,vL ysA (((ys.set i (ys.getD ((2*i)+1) default)).set ((2*i)+1) (ys.getD i default)).length) ysC),(118,vN i),(119,pA ysA (i*3)),(120,vG [vI ((ys.getD i default).run),vI ((ys.getD i default).no),vS ((ys.getD i default).record)]),(121,pA ysA (i*3)),(122,pA ysA (((2*i)+1)*3))]) (L':=[blk b2 224 [vI ((g0_ xs).run),vI ((g0_ xs).no),vS ((g0_ xs).record)],blk b1 224 [vI 0,vI 0,vS []],blk h 221 [vL ysA (((ys.set i (ys.getD ((2*i)+1) default)).set ((2*i)+1) (ys.getD i default)).length) ysC,Value.func (.func 167) #[vG [vL lA l.length lC]] #[]],row (.slice ysA ((ys.set i (ys.getD ((2*i)+1) default)).set ((2*i)+1) (ys.getD i default)).length ysC) 224 3 ((ys.set i (ys.getD ((2*i)+1) default)).set ((2*i)+1) (ys.getD i default)).length (((ys.set i (ys.getD ((2*i)+1) default)).set ((2*i)+1) (ys.getD i default)).flatMap element.enc)]) ⟨rfl,rfl,rfl,rfl,rfl,rfl,rfl,rfl,rfl,rfl,rfl,rfl,rfl,rfl,rfl,rfl,rfl,rfl,rfl,rfl,rfl,(congrArg (fun n:Nat=>some (Value.slice ysA n ysC)) (set_len (ys.set i (ys.getD ((2*i)+1) default)) ((2*i)+1) (ys.getD i default)).symm),rfl,rfl,rfl,rfl,rfl,rfl,rfl,(congrArg (fun n:Nat=>some (Value.slice ysA n ysC)) (set_len (ys.set i (ys.getD ((2*i)+1) default)) ((2*i)+1) (ys.getD i default)).symm),rfl,rfl,rfl,rfl,rfl,rfl,rfl,rfl,rfl,rfl,rfl,rfl,rfl,rfl,rfl,rfl,(congrArg (fun n:Nat=>some (Value.slice ysA n ysC)) (set_len (ys.set i (ys.getD ((2*i)+1) default)) ((2*i)+1) (ys.getD i default)).symm),rfl,rfl,rfl,rfl,rfl,rfl,(congrArg (fun n:Nat=>some (Value.slice ysA n ysC)) (set_len (ys.set i (ys.getD ((2*i)+1) default)) ((2*i)+1) (ys.getD i default)).symm),rfl,rfl,rfl,rfl,rfl,rfl,rfl,rfl,rfl,(congrArg (fun n:Nat=>some (Value.slice ysA n ysC)) (set_len (ys.set i (ys.getD ((2*i)+1) default)) ((2*i)+1) (ys.getD i default)).symm),rfl,rfl,rfl,rfl,(congrArg (fun n:Nat=>some (Value.slice ysA n ysC)) (set_len (ys.set i (ys.getD ((2*i)+1) default)) ((2*i)+1) (ys.getD i default)).symm),rfl,rfl,rfl,rfl,(congrArg (fun n:Nat=>some (Value.slice ysA n ysC)) (set_len (ys.set i (ys.getD ((2*i)+1) default)) ((2*i)+1) (ys.getD i default)).symm),rfl,rfl,rfl,rfl,rfl,rfl,(congrArg (fun n:Nat=>some (Value.slice ysA n ysC)) (set_len (ys.set i (ys.getD ((2*i)+1) default)) ((2*i)+1) (ys.getD i default)).symm),rfl,rfl,rfl,rfl,rfl,trivial⟩ (fun _ h=>by rw [set_len (ys.set i (ys.getD ((2*i)+1) default)) ((2*i)+1) (ys.getD i default)] at h ⊢;exact h) ?_
     refine JA_done kf_ (gl_ rfl (fun _ h=>h.keep [F_,F_,F_,F_] rfl)) ?_
     refine n_ (g_ (s_ mv_ (s_ av_ (z_ (kx_ ?_)))))
     refine JX_round (((2*i)+1,((ys.set i (ys.getD ((2*i)+1) default)).set ((2*i)+1) (ys.getD i default)),ysA,ysC):Nat × (List element) × (OA_) × Nat) ?_ ?_ se_ i_
     ·try dsimp only
      refine ⟨?_,?_,?_,?_⟩
      ·exact Hp.down_kid i1_0 om_ as_ c44d0_
      ·exact Hp.swap_perm3 om_ om_ i1_1
      ·rw [Hp.swap_len2];exact i1_2
      ·rw [Hp.swap_len2];omega
     ·try dsimp only
      rw [Hp.swap_len2];omega
 ·have h3:=of_ h3
  refine js2_ 5 rfl (js2_ 6 rfl (js2_ 7 rfl (js2_ 8 rfl (js2_ 9 rfl (js2_ 10 rfl (js2_ 11 rfl (js2_ 12 rfl (js2_ 13 rfl (js2_ 14 rfl ?_)))))))))
  refine js2_ 15 rfl (js2_ 16 rfl (js2_ 17 rfl (js2_ 18 rfl (js2_ 19 rfl (js2_ 20 rfl (js2_ 21 rfl (js2_ 22 rfl (js2_ 23 rfl (js2_ 24 rfl ?_)))))))))
  refine jt_ 25 (vB false) rfl (fun _ _=>rfl) ?_
  refine JA_done kf_ gm_ ?_
  refine n_ (iff_ (sk_ (n_ (q_ (q_ ?_)))))
  refine drB [] 25 mixed ?_
  refine jp_ 0 rfl mv_ (jp_ 1 rfl mv_ (jp_ 2 rfl (x_geq_i rfl rfl) (jp_ 3 rfl mv_ ?_)))
  refine jb_ 74 (fun h9=>?_) (fun h9=>?_)
  ·have h9:=ot_ h9
   refine js2_ 4 rfl (js2_ 5 rfl (js2_ 6 rfl (js2_ 7 rfl (js2_ 8 rfl (js2_ 9 rfl (js2_ 10 rfl (js2_ 11 rfl (js2_ 12 rfl (js2_ 13 rfl ?_)))))))))
   refine js2_ 14 rfl (js2_ 15 rfl (js2_ 16 rfl (js2_ 17 rfl (js2_ 18 rfl (js2_ 19 rfl (js2_ 20 rfl (js2_ 21 rfl (js2_ 22 rfl (js2_ 23 rfl ?_)))))))))
   refine jt_ 24 (vB true) rfl (fun _ _=>rfl) ?_
   refine JA_done kf_ gm_ ?_
   refine n_ (ift (q_ (g_ (r_ (ldN 0 [vI ((g0_ xs).run),vI ((g0_ xs).no),vS ((g0_ xs).record)] ag224 sz224) (o_ (stG 1 sz224 ?_))))))
   refine z_ (xk_ [0,2,3,4,5,6] ?_)
   refine n_ (rt_ (nr_ (kq_ (rr_ (kq_ ?_)))))
   refine JX_rets [_] _ results169 (fun w h=>⟨⟨_,rfl,load_blkN 1 [vI ((g0_ xs).run),vI ((g0_ xs).no),vS ((g0_ xs).record)] h rfl ag224 sz224 rfl⟩,trivial⟩) rfl _ (fun _ h=>h.keep [F_,F_,T_,T_] rfl) ⟨ys,ysA,ysC,?_,?_,?_,?_,?_,?_⟩
   ·rfl
   ·rfl
   ·first | (refine Hp.down_none i1_0 ?_ c44d0_;omega) | (refine Hp.down_stop hec i1_0 ?_ c44d0_;assumption)
   ·exact i1_1
   ·exact hrk
   ·omega
  ·have h9:=of_ h9
   refine jp_ 4 rfl mv_ (jp_ 5 rfl (x_nilCheck rfl) (jp_ 6 rfl (fA 1 fi221_1) (jq_ 7 rfl (ld_ 2 sc216) (jp_ 8 rfl mv_ (jp_ 9 rfl (x_nilCheck rfl) (jp_ 10 rfl (fA 0 fi221_0) (jq_ 11 rfl (ld_ 2 sc219) (jp_ 12 rfl mv_ (jq_ 13 rfl (ixF element.enc_len (cells_row 3 rfl) underlying219 sz224) ?_ (hw:=w_)) (hw:=w_)) (hw:=w_)) (hw:=w_)) (hw:=w_)) (hw:=w_)) (hw:=w_)) (hw:=w_)) (hw:=w_)) (hw:=w_)
   refine jq_ 14 rfl (ldFN element.enc_len (cells_row 3 rfl) ag224 sz224) (jp_ 15 rfl mv_ (jp_ 16 rfl (x_nilCheck rfl) (jp_ 17 rfl (fA 0 fi221_0) (jq_ 18 rfl (ld_ 2 sc219) (jp_ 19 rfl mv_ (jq_ 20 rfl (ixF element.enc_len (cells_row 3 rfl) underlying219 sz224) (jq_ 21 rfl (ldFN element.enc_len (cells_row 3 rfl) ag224 sz224) (j1_ 22 (jc0_ rfl (x_callv (first:=[vG [vL lA l.length lC]]) (caps:=[]) rfl ca167 rfl) (fun w hS=>f167_ok l lA lC _ _ w (rno lR hS) hy_ hy_ hy_) ?_ (hw:=w_)) gm_) (hw:=w_)) (hw:=w_)) (hw:=w_)) (hw:=w_)) (hw:=w_)) (hw:=w_)) (hw:=w_)) (hw:=w_)
   refine jp_ 23 rfl (x_not rfl) ?_ (hw:=w_)
   refine jt_ 24 (vB (!(decide (Hp.ec l (ys.getD ((2*i)+1) default) (ys.getD i default)<0)))) rfl (fun _ _=>rfl) ?_
   refine JA_done kf_ gm_ ?_
   refine n_ ?_
   refine if_ (fun h10=>?_) (fun h10=>?_)
   ·have h10w:=h10
    have h10:(decide (Hp.ec l (ys.getD ((2*i)+1) default) (ys.getD i default)<0))=false:=bnot_true h10
    have h10:=of_ h10
    refine q_ (g_ (r_ (ldN 0 [vI ((g0_ xs).run),vI ((g0_ xs).no),vS ((g0_ xs).record)] ag224 sz224) (o_ (stG 1 sz224 ?_))))
    refine z_ (xk_ [0,2,3,4,5,6] ?_)
    refine n_ (rt_ (nr_ (kq_ (rr_ (kq_ ?_)))))
    refine JX_rets [_] _ results169 (fun w h=>⟨⟨_,rfl,load_blkN 1 [vI ((g0_ xs).run),vI ((g0_ xs).no),vS ((g0_ xs).record)] h rfl ag224 sz224 rfl⟩,trivial⟩) rfl _ (fun _ h=>h.keep [F_,F_,T_,T_] rfl) ⟨ys,ysA,ysC,?_,?_,?_,?_,?_,?_⟩
    ·rfl
    ·rfl
    ·first | (refine Hp.down_none i1_0 ?_ c44d0_;omega) | (refine Hp.down_stop hec i1_0 ?_ c44d0_;assumption)
    ·exact i1_1
    ·exact hrk
    ·omega
   ·have h10w:=h10
    have h10:(decide (Hp.ec l (ys.getD ((2*i)+1) default) (ys.getD i default)<0))=true:=bnot_false h10
    have h10:=ot_ h10
    refine sk_ (n_ (q_ ?_))
    refine drU [] [25,27] 28 mixed ?_
    refine jp_ 0 rfl mv_ (jp_ 1 rfl (x_nilCheck rfl) (jp_ 2 rfl (fA 0 fi221_0) ?_))
    refine je_ 3 (vL ysA ys.length ysC) rfl (x_load 2 rfl rfl sc219 rfl) ?_
    refine jp_ 4 rfl mv_ (jp_ 5 rfl mv_ (jp_ 6 rfl (x_nilCheck rfl) (jp_ 7 rfl (fA 0 fi221_0) ?_)))
    refine je_ 8 (vL ysA ys.length ysC) rfl (x_load 2 rfl rfl sc219 rfl) ?_
    refine jp_ 9 rfl mv_ (jp_ 10 rfl mv_ (jp_ 11 rfl (x_nilCheck rfl) (jp_ 12 rfl (fA 0 fi221_0) ?_)))
    refine je_ 13 (vL ysA ys.length ysC) rfl (x_load 2 rfl rfl sc219 rfl) ?_
    refine jp_ 14 rfl mv_ ?_
    refine je_ 15 (pA ysA (((2*i)+1)*3)) rfl (x_indexAddr_at (k:=(2*i)+1) (off:=((2*i)+1)*3) (cells_row 3 rfl) underlying219 sz224 rfl rfl lt_ c44d1_ rfl) ?_
    refine je_ 16 (vG [vI ((ys.getD ((2*i)+1) default).run),vI ((ys.getD ((2*i)+1) default).no),vS ((ys.getD ((2*i)+1) default).record)]) rfl (x_loadN_at [vI ((ys.getD ((2*i)+1) default).run),vI ((ys.getD ((2*i)+1) default).no),vS ((ys.getD ((2*i)+1) default).record)] (cells_row 3 rfl) rfl ag224 sz224 (flat_drop element.enc 3 element.enc_len ys default ((2*i)+1) lt_)) ?_
    refine jp_ 17 rfl mv_ (jp_ 18 rfl (x_nilCheck rfl) (jp_ 19 rfl (fA 0 fi221_0) ?_))
    refine je_ 20 (vL ysA ys.length ysC) rfl (x_load 2 rfl rfl sc219 rfl) ?_
    refine jp_ 21 rfl mv_ (j1_ 22 (jir_ rfl (ixF element.enc_len (cells_row 3 rfl) underlying219 sz224) ?_) (fun _ h=>⟨h.keep [F_,F_,F_,F_] rfl,fun _=>h⟩))
    refine je_ 23 (vG [vI ((ys.getD i default).run),vI ((ys.getD i default).no),vS ((ys.getD i default).record)]) rfl (x_loadN_at [vI ((ys.getD i default).run),vI ((ys.getD i default).no),vS ((ys.getD i default).record)] (cells_row 3 rfl) rfl ag224 sz224 (flat_drop element.enc 3 element.enc_len ys default i lt_)) ?_
    refine je_ 24 (pA ysA (i*3)) rfl (x_indexAddr_at (k:=i) (off:=i*3) (cells_row 3 rfl) underlying219 sz224 rfl rfl lt_ c44d1_ rfl) ?_
    refine j1_ 25 (jio_ rfl (O_store_row_f (a:=(ys.getD ((2*i)+1) default)) (xs:=ys) (k:=i) 3 element.enc [blk b2 224 [vI ((g0_ xs).run),vI ((g0_ xs).no),vS ((g0_ xs).record)],blk b1 224 [vI 0,vI 0,vS []],blk h 221 [vL ysA ys.length ysC,Value.func (.func 167) #[vG [vL lA l.length lC]] #[]],row (.slice ysA (ys.set i (ys.getD ((2*i)+1) default)).length ysC) 224 3 (ys.set i (ys.getD ((2*i)+1) default)).length ((ys.set i (ys.getD ((2*i)+1) default)).flatMap element.enc)] rfl rfl rfl sz224 element.enc_len element.enc_one lt_ rfl ?_)) (fun _ h=>⟨h.keep [F_,F_,F_,F_] rfl,fun _=>h⟩)
    refine JA_weaken (E':=[(0,pB h 0),(2,pB b1 0),(3,pB b2 0),(4,vI ((xs.length-1:Nat):Int)),(5,vN i),(40,vN i),(41,vI ((2*i:Nat):Int)),(42,vI (((2*i)+1:Nat):Int)),(6,vI (((2*i)+1:Nat):Int)),(43,vI (((2*i)+1:Nat):Int)),(44,vI ((((2*i)+1)+1:Nat):Int)),(45,vI ((xs.length-1:Nat):Int)),(46,vB (decide (((((2*i)+1)+1:Nat):Int)<((xs.length-1:Nat):Int)))),(47,vB false),(48,undef),(49,undef),(50,undef),(51,undef),(52,undef),(53,undef),(54,undef),(55,undef),(56,undef),(57,undef),(58,undef),(59,undef),(60,undef),(61,undef),(62,undef),(63,undef),(64,undef),(65,undef),(66,undef),(67,undef),(68,vB false),(71,vI (((2*i)+1:Nat):Int)),(72,vI ((xs.length-1:Nat):Int)),(73,vB (decide (((xs.length-1:Nat):Int)≤(((2*i)+1:Nat):Int)))),(74,vB false),(75,pB h 0),(76,pB h 0),(77,pB h 1),(78,Value.func (.func 167) #[vG [vL lA l.length lC]] #[]),(79,pB h 0),(80,pB h 0),(81,pB h 0),(82,vL ysA ((ys.set i (ys.getD ((2*i)+1) default)).length) ysC),(83,vI (((2*i)+1:Nat):Int)),(84,pA ysA (((2*i)+1)*3)),(85,vG [vI ((ys.getD ((2*i)+1) default).run),vI ((ys.getD ((2*i)+1) default).no),vS ((ys.getD ((2*i)+1) default).record)]),(86,pB h 0),(87,pB h 0),(88,pB h 0),(89,vL ysA ((ys.set i (ys.getD ((2*i)+1) default)).length) ysC),(90,vN i),(91,pA ysA (i*3)),(92,vG [vI ((ys.getD i default).run),vI ((ys.getD i default).no),vS ((ys.getD i default).record)]),(93,vB (decide (Hp.ec l (ys.getD ((2*i)+1) default) (ys.getD i default)<0))),(94,vB (!(decide (Hp.ec l (ys.getD ((2*i)+1) default) (ys.getD i default)<0)))),(95,vB (!(decide (Hp.ec l (ys.getD ((2*i)+1) default) (ys.getD i default)<0)))),(97,pB h 0),(98,pB h 0),(99,pB h 0),(100,vL ysA ((ys.set i (ys.getD ((2*i)+1) default)).length) ysC),(101,vN i),(102,pB h 0),(103,pB h 0),(104,pB h 0),(105,vL ysA ((ys.set i (ys.getD ((2*i)+1) default)).length) ysC),(106,vI (((2*i)+1:Nat):Int)),(107,pB h 0),(108,pB h 0),(109,pB h 0),(110,vL ysA ((ys.set i (ys.getD ((2*i)+1) default)).length) ysC),(111,vI (((2*i)+1:Nat):Int)),(112,pA ysA (((2*i)+1)*3)),(113,vG [vI ((ys.getD ((2*i)+1) default).run),vI ((ys.getD ((2*i)+1) default).no),vS ((ys.getD ((2*i)+1) default).record)]),(114,pB h 0),(115,pB h 0),(116,pB h 0),(117,vL ysA ((ys.set i (ys.getD ((2*i)+1) default)).length) ysC),(118,vN i),(119,pA ysA (i*3)),(120,vG [vI ((ys.getD i default).run),vI ((ys.getD i default).no),vS ((ys.getD i default).record)]),(121,pA ysA (i*3))]) (L':=[blk b2 224 [vI ((g0_ xs).run),vI ((g0_ xs).no),vS ((g0_ xs).record)],blk b1 224 [vI 0,vI 0,vS []],blk h 221 [vL ysA ((ys.set i (ys.getD ((2*i)+1) default)).length) ysC,Value.func (.func 167) #[vG [vL lA l.length lC]] #[]],row (.slice ysA (ys.set i (ys.getD ((2*i)+1) default)).length ysC) 224 3 (ys.set i (ys.getD ((2*i)+1) default)).length ((ys.set i (ys.getD ((2*i)+1) default)).flatMap element.enc)]) ⟨rfl,rfl,rfl,rfl,rfl,rfl,rfl,rfl,rfl,rfl,rfl,rfl,rfl,rfl,rfl,rfl,rfl,rfl,rfl,rfl,rfl,rfl,rfl,rfl,rfl,rfl,rfl,rfl,rfl,rfl,rfl,rfl,rfl,rfl,rfl,rfl,rfl,rfl,rfl,rfl,rfl,rfl,rfl,rfl,rfl,rfl,(congrArg (fun n:Nat=>some (Value.slice ysA n ysC)) (set_len ys i (ys.getD ((2*i)+1) default)).symm),rfl,rfl,rfl,rfl,rfl,rfl,(congrArg (fun n:Nat=>some (Value.slice ysA n ysC)) (set_len ys i (ys.getD ((2*i)+1) default)).symm),rfl,rfl,rfl,rfl,rfl,rfl,rfl,rfl,rfl,(congrArg (fun n:Nat=>some (Value.slice ysA n ysC)) (set_len ys i (ys.getD ((2*i)+1) default)).symm),rfl,rfl,rfl,rfl,(congrArg (fun n:Nat=>some (Value.slice ysA n ysC)) (set_len ys i (ys.getD ((2*i)+1) default)).symm),rfl,rfl,rfl,rfl,(congrArg (fun n:Nat=>some (Value.slice ysA n ysC)) (set_len ys i (ys.getD ((2*i)+1) default)).symm),rfl,rfl,rfl,rfl,rfl,rfl,(congrArg (fun n:Nat=>some (Value.slice ysA n ysC)) (set_len ys i (ys.getD ((2*i)+1) default)).symm),rfl,rfl,rfl,rfl,trivial⟩ (fun _ h=>by rw [set_len ys i (ys.getD ((2*i)+1) default)] at h ⊢;exact h) ?_
    refine j1_ 26 (jir_ rfl (ixF element.enc_len (cells_row 3 rfl) underlying219 sz224) (j1_ 27 ?_ (gl_ rfl (fun _ h=>h.keep [F_,F_,F_,F_] rfl)))) (gl_ rfl (fun _ h=>h.keep [F_,F_,F_,F_] rfl))
    refine jio_ rfl (O_store_row_f (a:=(ys.getD i default)) (xs:=(ys.set i (ys.getD ((2*i)+1) default))) (k:=(2*i)+1) 3 element.enc [blk b2 224 [vI ((g0_ xs).run),vI ((g0_ xs).no),vS ((g0_ xs).record)],blk b1 224 [vI 0,vI 0,vS []],blk h 221 [vL ysA ((ys.set i (ys.getD ((2*i)+1) default)).length) ysC,Value.func (.func 167) #[vG [vL lA l.length lC]] #[]],row (.slice ysA ((ys.set i (ys.getD ((2*i)+1) default)).set ((2*i)+1) (ys.getD i default)).length ysC) 224 3 ((ys.set i (ys.getD ((2*i)+1) default)).set ((2*i)+1) (ys.getD i default)).length (((ys.set i (ys.getD ((2*i)+1) default)).set ((2*i)+1) (ys.getD i default)).flatMap element.enc)] rfl rfl rfl sz224 element.enc_len element.enc_one lt_ rfl ?_)
    refine JA_weaken (E':=[(0,pB h 0),(2,pB b1 0),(3,pB b2 0),(4,vI ((xs.length-1:Nat):Int)),(5,vN i),(40,vN i),(41,vI ((2*i:Nat):Int)),(42,vI (((2*i)+1:Nat):Int)),(6,vI (((2*i)+1:Nat):Int)),(43,vI (((2*i)+1:Nat):Int)),(44,vI ((((2*i)+1)+1:Nat):Int)),(45,vI ((xs.length-1:Nat):Int)),(46,vB (decide (((((2*i)+1)+1:Nat):Int)<((xs.length-1:Nat):Int)))),(47,vB false),(48,undef),(49,undef),(50,undef),(51,undef),(52,undef),(53,undef),(54,undef),(55,undef),(56,undef),(57,undef),(58,undef),(59,undef),(60,undef),(61,undef),(62,undef),(63,undef),(64,undef),(65,undef),(66,undef),(67,undef),(68,vB false),(71,vI (((2*i)+1:Nat):Int)),(72,vI ((xs.length-1:Nat):Int)),(73,vB (decide (((xs.length-1:Nat):Int)≤(((2*i)+1:Nat):Int)))),(74,vB false),(75,pB h 0),(76,pB h 0),(77,pB h 1),(78,Value.func (.func 167) #[vG [vL lA l.length lC]] #[]),(79,pB h 0),(80,pB h 0),(81,pB h 0),(82,vL ysA (((ys.set i (ys.getD ((2*i)+1) default)).set ((2*i)+1) (ys.getD i default)).length) ysC),(83,vI (((2*i)+1:Nat):Int)),(84,pA ysA (((2*i)+1)*3)),(85,vG [vI ((ys.getD ((2*i)+1) default).run),vI ((ys.getD ((2*i)+1) default).no),vS ((ys.getD ((2*i)+1) default).record)]),(86,pB h 0),(87,pB h 0),(88,pB h 0),(89,vL ysA (((ys.set i (ys.getD ((2*i)+1) default)).set ((2*i)+1) (ys.getD i default)).length) ysC),(90,vN i),(91,pA ysA (i*3)),(92,vG [vI ((ys.getD i default).run),vI ((ys.getD i default).no),vS ((ys.getD i default).record)]),(93,vB (decide (Hp.ec l (ys.getD ((2*i)+1) default) (ys.getD i default)<0))),(94,vB (!(decide (Hp.ec l (ys.getD ((2*i)+1) default) (ys.getD i default)<0)))),(95,vB (!(decide (Hp.ec l (ys.getD ((2*i)+1) default) (ys.getD i default)<0)))),(97,pB h 0),(98,pB h 0),(99,pB h 0),(100,vL ysA (((ys.set i (ys.getD ((2*i)+1) default)).set ((2*i)+1) (ys.getD i default)).length) ysC),(101,vN i),(102,pB h 0),(103,pB h 0),(104,pB h 0),(105,vL ysA (((ys.set i (ys.getD ((2*i)+1) default)).set ((2*i)+1) (ys.getD i default)).length) ysC),(106,vI (((2*i)+1:Nat):Int)),(107,pB h 0),(108,pB h 0),(109,pB h 0),(110,vL ysA (((ys.set i (ys.getD ((2*i)+1) default)).set ((2*i)+1) (ys.getD i default)).length) ysC),(111,vI (((2*i)+1:Nat):Int)),(112,pA ysA (((2*i)+1)*3)),(113,vG [vI ((ys.getD ((2*i)+1) default).run),vI ((ys.getD ((2*i)+1) default).no),vS ((ys.getD ((2*i)+1) default).record)]),(114,pB h 0),(115,pB h 0),(116,pB h 0),(117,vL ysA (((ys.set i (ys.getD ((2*i)+1) default)).set ((2*i)+1) (ys.getD i default)).length) ysC),(118,vN i),(119,pA ysA (i*3)),(120,vG [vI ((ys.getD i default).run),vI ((ys.getD i default).no),vS ((ys.getD i default).record)]),(121,pA ysA (i*3)),(122,pA ysA (((2*i)+1)*3))]) (L':=[blk b2 224 [vI ((g0_ xs).run),vI ((g0_ xs).no),vS ((g0_ xs).record)],blk b1 224 [vI 0,vI 0,vS []],blk h 221 [vL ysA (((ys.set i (ys.getD ((2*i)+1) default)).set ((2*i)+1) (ys.getD i default)).length) ysC,Value.func (.func 167) #[vG [vL lA l.length lC]] #[]],row (.slice ysA ((ys.set i (ys.getD ((2*i)+1) default)).set ((2*i)+1) (ys.getD i default)).length ysC) 224 3 ((ys.set i (ys.getD ((2*i)+1) default)).set ((2*i)+1) (ys.getD i default)).length (((ys.set i (ys.getD ((2*i)+1) default)).set ((2*i)+1) (ys.getD i default)).flatMap element.enc)]) ⟨rfl,rfl,rfl,rfl,rfl,rfl,rfl,rfl,rfl,rfl,rfl,rfl,rfl,rfl,rfl,rfl,rfl,rfl,rfl,rfl,rfl,rfl,rfl,rfl,rfl,rfl,rfl,rfl,rfl,rfl,rfl,rfl,rfl,rfl,rfl,rfl,rfl,rfl,rfl,rfl,rfl,rfl,rfl,rfl,rfl,rfl,(congrArg (fun n:Nat=>some (Value.slice ysA n ysC)) (set_len (ys.set i (ys.getD ((2*i)+1) default)) ((2*i)+1) (ys.getD i default)).symm),rfl,rfl,rfl,rfl,rfl,rfl,(congrArg (fun n:Nat=>some (Value.slice ysA n ysC)) (set_len (ys.set i (ys.getD ((2*i)+1) default)) ((2*i)+1) (ys.getD i default)).symm),rfl,rfl,rfl,rfl,rfl,rfl,rfl,rfl,rfl,(congrArg (fun n:Nat=>some (Value.slice ysA n ysC)) (set_len (ys.set i (ys.getD ((2*i)+1) default)) ((2*i)+1) (ys.getD i default)).symm),rfl,rfl,rfl,rfl,(congrArg (fun n:Nat=>some (Value.slice ysA n ysC)) (set_len (ys.set i (ys.getD ((2*i)+1) default)) ((2*i)+1) (ys.getD i default)).symm),rfl,rfl,rfl,rfl,(congrArg (fun n:Nat=>some (Value.slice ysA n ysC)) (set_len (ys.set i (ys.getD ((2*i)+1) default)) ((2*i)+1) (ys.getD i default)).symm),rfl,rfl,rfl,rfl,rfl,rfl,(congrArg (fun n:Nat=>some (Value.slice ysA n ysC)) (set_len (ys.set i (ys.getD ((2*i)+1) default)) ((2*i)+1) (ys.getD i default)).symm),rfl,rfl,rfl,rfl,rfl,trivial⟩ (fun _ h=>by rw [set_len (ys.set i (ys.getD ((2*i)+1) default)) ((2*i)+1) (ys.getD i default)] at h ⊢;exact h) ?_
    refine JA_done kf_ (gl_ rfl (fun _ h=>h.keep [F_,F_,F_,F_] rfl)) ?_
    refine n_ (g_ (s_ mv_ (s_ av_ (z_ (kx_ ?_)))))
    refine JX_round (((2*i)+1,((ys.set i (ys.getD ((2*i)+1) default)).set ((2*i)+1) (ys.getD i default)),ysA,ysC):Nat × (List element) × (OA_) × Nat) ?_ ?_ se_ i_
    ·try dsimp only
     refine ⟨?_,?_,?_,?_⟩
     ·exact Hp.down_kid i1_0 om_ as_ c44d0_
     ·exact Hp.swap_perm3 om_ om_ i1_1
     ·rw [Hp.swap_len2];exact i1_2
     ·rw [Hp.swap_len2];omega
    ·try dsimp only
     rw [Hp.swap_len2];omega
end Go.Proofs.YtggobegaiijhhaaGreatDoor
