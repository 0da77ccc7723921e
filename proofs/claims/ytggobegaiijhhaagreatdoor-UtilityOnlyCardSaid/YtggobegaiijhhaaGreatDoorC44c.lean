/- contracts C44c -/
import Derived.Test.YtggobegaiijhhaaGreatDoorUtilityOnly24
set_option linter.unusedVariables false
set_option linter.unusedSimpArgs false
set_option maxRecDepth 20000
namespace Go.Proofs.YtggobegaiijhhaaGreatDoor
open Go.GV Go.Proofs.Tryz Ty
open Go.GV.Ent (blk row mp)
theorem c44c0_ {p:Prop} (h:p:=by first | exact Hp.or_hit om_ i1_1 om_ | exact Hp.or_end om_ i1_1):p:=h
theorem c44c1_ {p:Prop} (h:p:=by rw [flat_length element.enc 3 element.enc_len];first | omega | (simp only [List.length_append,List.length_cons,List.length_nil];omega) | (simp;omega) | (simp_all;omega) | (simp_all;done)):p:=h
theorem c44c3_ {p:Prop} (h:p:=by exact Hp.up_end hec i1_0 (fun hk0=>by first | (exfalso;omega) | assumption | simp_all)):p:=h
theorem f182_ok (xs:List Int) (xsA:OA_) (xsC:Nat) (w:World) (xsR:RO [] w xsA (xs.map vI)) (q0:xs.length≤9223372036854775807):Calls prog 182 #[vL xsA xs.length xsC] w (Gives [] w fun v L=>v=vI (Hp.orL xs)∧L=[]):=by
 refine calls_J [] 18 func182 rfl ntmps182 [(0,_)] rfl rfl (Give.nil w) ?_
 refine q_ (g_ (s_ av_ (z_ (n_ (q_ (g_ (s_ av_ (z_ (n_ (q_ (q_ (g_ (s_ mv_ (s_ (lnS underlying28) (s_ mv_ (z_ (n_ (k_ ?_))))))))))))))))))
 refine J_loop (X:=Nat) (fun (k:Nat)=>(k≤xs.length)∧(Hp.orL (xs.drop k)=Hp.orL xs)) (fun (k:Nat)=>[(3,vI 0),(6,vL xsA xs.length xsC),(7,vN xs.length),(8,vN k)]) (fun (k:Nat)=>[]) (fun (k:Nat)=>xs.length-k) (0:Nat) ?_ se_ i_ ?_
 ·try dsimp only
  refine ⟨?_,?_⟩
  ·exact df_
  ·rfl
 intro k hI1
 obtain ⟨i1_0,i1_1⟩:=hI1
 try dsimp only at i1_0
 try dsimp only at i1_1
 try dsimp only
 refine q_ (g_ (s_ (x_lss_i rfl rfl) (z_ (n_ (q_ ?_)))))
 refine ifd (fun h1w h1=>?_) (fun h1w h1=>?_)
 ·refine sk_ (n_ (q_ (k_ (q_ (g_ (r_ (ixM (cells_ro xsR) underlying28 sz3) (r_ (ldM vI 0 (cells_ro xsR) sc3) (s_ av_ (z_ (n_ (q_ (g_ (s_ mv_ (s_ mv_ (s_ (x_neq_i rfl rfl) (z_ (n_ ?_)))))))))))))))))
  refine ifd (fun h2w h2=>?_) (fun h2w h2=>?_)
  ·refine q_ (g_ (s_ mv_ (s_ av_ (z_ (n_ (rt_ (kq_ (nr_ (rr_ (kq_ (nr_ ?_)))))))))))
   exact p1 results182 rfl ⟨(eI c44c0_),rfl⟩
  ·refine sk_ (kx_ (n_ (g_ (s_ (x_add_n (a:=k) (b:=1) rfl rfl om_) (s_ mv_ (z_ ?_))))))
   refine JX_round (k+1:Nat) ?_ ?_ se_ i_
   ·try dsimp only
    refine ⟨?_,?_⟩
    ·exact df_
    ·exact Hp.or_go om_ i1_1 om_
   ·try dsimp only
    first | omega | (simp;omega) | (simp_all;omega)
 ·refine J_exit (ne_ (re_ (kh_ (n_ (q_ ?_)))))
  refine g_ (s_ mv_ (s_ av_ (z_ (n_ (rt_ ?_)))))
  exact p1 results182 rfl ⟨(eI c44c0_),rfl⟩
theorem f167_ok (l:List SortField) (lA:OA_) (lC:Nat) (p:element) (q:element) (w:World) (lR:RO [] w lA (l.flatMap SortField.enc)) (q0:R44.valid l=true) (q1:p.record.length≤1000000000) (q2:q.record.length≤1000000000):Calls prog 167 #[vG [vL lA l.length lC],vG [vI p.run,vI p.no,vS p.record],vG [vI q.run,vI q.no,vS q.record]] w (Gives [] w fun v L=>v=vB (decide (Hp.ec l p q<0))∧L=[]):=by
 have hb1:=R44.cmpI_bd p.run q.run
 have hb2:=R44.cmpL_bd l p.record q.record
 have hb3:=R44.cmpI_bd p.no q.no
 refine calls_J [] 27 func167 rfl ntmps167 [(0,_),(1,_),(2,_)] rfl rfl (Give.nil w) ?_
 refine q_ (g_ (o_ (bxG fun b1=>?_)))
 refine o_ (bxG fun b2=>?_)
 refine o_ (bxG fun b3=>?_)
 refine s_ av_ (z_ (n_ (q_ ?_)))
 refine drB [] 21 mixed ?_
 refine jp_ 0 rfl (fA 0 fi224_0) (jq_ 1 rfl (ld_ 1 sc3) (jp_ 2 rfl (fA 0 fi224_0) (jq_ 3 rfl (ld_ 0 sc3) (jp_ 5 rfl (fA 2 fi224_2) (jq_ 6 rfl (ld_ 1 sc9) (jp_ 7 rfl (fA 2 fi224_2) (jq_ 8 rfl (ld_ 0 sc9) (jp_ 9 rfl (fA 0 fi218_0) (jq_ 10 rfl (ld_ 2 sc138) ?_)))))))))
 refine jp_ 12 rfl (fA 1 fi224_1) (jq_ 13 rfl (ld_ 1 sc3) (jp_ 14 rfl (fA 1 fi224_1) (jq_ 15 rfl (ld_ 0 sc3) (j1_ 4 (jc0_ rfl (cl_ ca183) (fun w hS=>f183_ok _ _ w) ?_) gm_))))
 have ha4:=R44.cmpI_bd p.run q.run
 refine j1_ 11 (jc0_ rfl (cl_ ca138) (fun w hS=>f138_ok _ _ l lA lC w (rno lR hS) hy_ hy_ hy_) ?_) gm_
 have ha5:=R44.cmpL_bd l p.record q.record
 refine j1_ 16 (jc0_ rfl (cl_ ca183) (fun w hS=>f183_ok p.no q.no w) ?_) gm_
 have ha6:=R44.cmpI_bd p.no q.no
 refine j1_ 17 (jio_ rfl (O_buildSlice (cs:=[vI (R44.cmpI p.run q.run),vI (R44.cmpL l p.record q.record),vI (R44.cmpI p.no q.no)]) underlying28 sz3 ze3 dd_ dd_ kf_ fun b8=>?_)) gm_
 refine j1_ 18 (jc0_ rfl (cl_ ca182) (fun w hS=>f182_ok [R44.cmpI p.run q.run,R44.cmpL l p.record q.record,R44.cmpI p.no q.no] _ 3 w (RO.of_blk hS 0 (off:=0) (m:=3) rfl rfl) hy_) (jp_ 19 rfl (x_lss_i rfl rfl) (jp_ 20 rfl av_ ?_))) (fun _ h=>⟨h.keep [F_,T_,T_,T_] rfl,fun _=>h.keep [F_,T_,T_,T_] rfl⟩)
 refine JA_done kf_ (fun _ h=>⟨h.keep [F_,T_,T_,T_] rfl,fun _=>h.keep [F_,T_,T_,T_] rfl⟩) ?_
 refine n_ (rt_ ?_)
 exact p1 results167 rfl ⟨(eB (by rfl)),rfl⟩
theorem f168_ok (h:Nat) (l:List SortField) (lA:OA_) (lC:Nat) (xs:List element) (xsA:OA_) (xsC:Nat) (xsN:Nat) (x:element) (w:World) (lR:RO (Lown [blk h 221 [vL xsA xsN xsC,Value.func (.func 167) #[vG [vL lA l.length lC]] #[]],row (.slice xsA xsN xsC) 224 3 xsN (xs.flatMap element.enc)]) w lA (l.flatMap SortField.enc)) (xsQ:xsN=xs.length) (q0:R44.valid l=true) (q1:Hp.Heap (Hp.ec l) default xs) (q2:Hp.Rok xs) (q3:xs.length≤1000000) (q4:x.record.length≤1000000000) (hg:Give (Lown [blk h 221 [vL xsA xsN xsC,Value.func (.func 167) #[vG [vL lA l.length lC]] #[]],row (.slice xsA xsN xsC) 224 3 xsN (xs.flatMap element.enc)]) w [blk h 221 [vL xsA xsN xsC,Value.func (.func 167) #[vG [vL lA l.length lC]] #[]],row (.slice xsA xsN xsC) 224 3 xsN (xs.flatMap element.enc)]):Calls prog 168 #[pB h 0,vG [vI x.run,vI x.no,vS x.record]] w (Gives (Lown [blk h 221 [vL xsA xsN xsC,Value.func (.func 167) #[vG [vL lA l.length lC]] #[]],row (.slice xsA xsN xsC) 224 3 xsN (xs.flatMap element.enc)]) w fun v L=>∃ ys:List element,∃ ysA:OA_,∃ ysC:Nat,v=Value.tuple #[]∧L=[blk h 221 [vL ysA ys.length ysC,Value.func (.func 167) #[vG [vL lA l.length lC]] #[]],row (.slice ysA ys.length ysC) 224 3 ys.length (ys.flatMap element.enc)]∧(Hp.Heap (Hp.ec l) default ys)∧(ys.Perm (xs++[x]))∧(Hp.Rok ys)∧(ys.length=xs.length+1)):=by
 subst xsQ
 refine calls_J (Lown [blk h 221 [vL xsA xs.length xsC,Value.func (.func 167) #[vG [vL lA l.length lC]] #[]],row (.slice xsA xs.length xsC) 224 3 xs.length (xs.flatMap element.enc)]) 79 func168 rfl ntmps168 [(0,_),(1,_)] rfl rfl hg ?_
 refine q_ (g_ (o_ (bxG fun b1=>?_)))
 refine z_ (n_ (q_ ?_))
 refine drU [] [7,10] 11 mixed ?_
 refine jp_ 0 rfl mv_ (jp_ 1 rfl mv_ (jp_ 2 rfl (x_nilCheck rfl) (jp_ 3 rfl (fA 0 fi221_0) ?_)))
 refine je_ 4 (vL xsA xs.length xsC) rfl (x_load 1 rfl rfl sc219 rfl) ?_
 refine j1_ 5 (jir_ rfl (ldN 0 [vI x.run,vI x.no,vS x.record] ag224 sz224) (j1_ 6 (jio_ rfl (O_buildSlice (cs:=[vI x.run,vI x.no,vS x.record]) underlying219 sz224 ze224 dd_ dd_ kf_ fun b3=>?_)) (fun _ h=>⟨h.keep [F_,F_,F_] rfl,fun _=>h⟩))) (fun _ h=>⟨h.keep [F_,F_,F_] rfl,fun _=>h⟩)
 refine j1_ 7 (jio_ rfl (O_append_f 3 element.enc 3 xs [x] underlying219 sz224 by224 ze224 rfl dd_ rfl rfl rfl rfl element.enc_len element.enc_one (cells_blk 0 (off:=0) (m:=3) rfl rfl) lt_ lt_ fun A6 c7=>?_)) (fun _ h=>⟨h.keep [F_,F_,F_,F_] rfl,fun _=>h.keep [F_,T_,T_,T_] rfl⟩)
 refine jp_ 8 rfl (x_nilCheck rfl) (jp_ 9 rfl (fA 0 fi221_0) (j1_ 10 (jio_ rfl (st1 2 sz219 ?_)) (gl_ rfl (fun _ h=>h.keep [F_,F_,F_,F_] rfl))))
 refine JA_done kf_ (gl_ rfl (fun _ h=>h.keep [F_,F_,F_,F_] rfl)) ?_
 refine n_ (q_ (g_ (s_ mv_ (s_ (x_nilCheck rfl) (s_ (fA 0 fi221_0) (r_ (ld_ 2 sc219) (s_ (lnS underlying219) (s_ (x_sub_i (a:=(((xs++[x]).length:Nat):Int)) (b:=1) rfl rfl lt_ lt_) (s_ av_ (z_ (n_ (k_ ?_))))))))))))
 refine J_loop (X:=Nat × (List element) × (OA_) × Nat) (fun (⟨k,ys,ysA,ysC⟩:Nat × (List element) × (OA_) × Nat)=>(Hp.Up (Hp.ec l) default ys k)∧(ys.Perm (xs++[x]))) (fun (⟨k,ys,ysA,ysC⟩:Nat × (List element) × (OA_) × Nat)=>[(0,pB h 0),(4,vN k)]) (fun (⟨k,ys,ysA,ysC⟩:Nat × (List element) × (OA_) × Nat)=>[blk h 221 [vL ysA ys.length ysC,Value.func (.func 167) #[vG [vL lA l.length lC]] #[]],row (.slice ysA ys.length ysC) 224 3 ys.length (ys.flatMap element.enc)]) (fun (⟨k,ys,ysA,ysC⟩:Nat × (List element) × (OA_) × Nat)=>k) ((xs.length,xs++[x],A6,c7):Nat × (List element) × (OA_) × Nat) ?_ ⟨rfl,(sE_ (by first | omega | (simp;done) | (simp;omega))),trivial⟩ (fun _ h=>h.keep [F_,F_,T_,T_] rfl) ?_
 ·try dsimp only
  refine ⟨?_,?_⟩
  ·exact Hp.up_start q1 x
  ·exact .refl _
 rintro ⟨k,ys,ysA,ysC⟩ hI1
 obtain ⟨i1_0,i1_1⟩:=hI1
 try dsimp only at i1_0
 try dsimp only at i1_1
 have hec:=Hp.ec_ok l
 have hlt:=i1_0.lt
 have hle:=i1_1.length_eq
 simp only [List.length_append,List.length_cons,List.length_nil] at hle
 have hrk:=(q2.snoc q4).perm i1_1
 have hr1:=hrk.at_ (i:=k) om_
 have hr2:=hrk.at_ (i:=(k-1) / 2) om_
 try dsimp only
 refine q_ (q_ ?_)
 refine drB [] 25 mixed ?_
 refine jp_ 0 rfl mv_ (jp_ 1 rfl (x_gtr_i rfl rfl) (jp_ 2 rfl mv_ ?_))
 refine jb_ 23 (fun h8=>?_) (fun h8=>?_)
 ·have h8:=ot_ h8
  refine jp_ 3 rfl mv_ (jp_ 4 rfl (x_nilCheck rfl) (jp_ 5 rfl (fA 1 fi221_1) (jq_ 6 rfl (ld_ 0 sc216) (jp_ 7 rfl mv_ (jp_ 8 rfl (x_nilCheck rfl) (jp_ 9 rfl (fA 0 fi221_0) (jq_ 10 rfl (ld_ 0 sc219) (jp_ 11 rfl mv_ (jq_ 12 rfl (ixF element.enc_len (cells_row 1 rfl) underlying219 sz224) ?_ (hw:=w_)) (hw:=w_)) (hw:=w_)) (hw:=w_)) (hw:=w_)) (hw:=w_)) (hw:=w_)) (hw:=w_)) (hw:=w_)) (hw:=w_)
  refine jq_ 13 rfl (ldFN element.enc_len (cells_row 1 rfl) ag224 sz224) (jp_ 14 rfl mv_ (jp_ 15 rfl (x_nilCheck rfl) (jp_ 16 rfl (fA 0 fi221_0) (jq_ 17 rfl (ld_ 0 sc219) (jp_ 18 rfl mv_ (jp_ 19 rfl (x_sub_i (a:=((k:Nat):Int)) (b:=1) rfl rfl om_ om_) (jp_ 20 rfl (x_quo_i (a:=((k:Nat):Int)-1) (b:=2) rfl rfl om_ om_ om_) (jq_ 21 rfl (ixF (k:=((k-1) / 2)) (hy:=(ix_nat rfl om_)) element.enc_len (cells_row 1 rfl) underlying219 sz224) (jq_ 22 rfl (ldFN element.enc_len (cells_row 1 rfl) ag224 sz224) ?_ (hw:=w_)) (hw:=w_)) (hw:=w_)) (hw:=w_)) (hw:=w_)) (hw:=w_)) (hw:=w_)) (hw:=w_)) (hw:=w_)) (hw:=w_)
  refine j1_ 23 (jc0_ rfl (x_callv (first:=[vG [vL lA l.length lC]]) (caps:=[]) rfl ca167 rfl) (fun w hS=>f167_ok l lA lC _ _ w (rno lR hS) hy_ hy_ hy_) ?_ (hw:=w_)) gm_
  refine jt_ 24 (vB (decide (Hp.ec l (ys.getD k default) (ys.getD ((k-1) / 2) default)<0))) rfl (fun _ _=>rfl) ?_
  refine JA_done kf_ gm_ ?_
  refine n_ ?_
  refine ifd (fun h9w h9=>?_) (fun h9w h9=>?_)
  ·refine sk_ (n_ (q_ (k_ ?_)))
   refine drU [] [29,31] 32 mixed ?_
   refine jp_ 0 rfl mv_ (jp_ 1 rfl (x_nilCheck rfl) (jp_ 2 rfl (fA 0 fi221_0) ?_))
   refine je_ 3 (vL ysA ys.length ysC) rfl (x_load 0 rfl rfl sc219 rfl) ?_
   refine jp_ 4 rfl mv_ (jp_ 5 rfl mv_ (jp_ 6 rfl (x_nilCheck rfl) (jp_ 7 rfl (fA 0 fi221_0) ?_)))
   refine je_ 8 (vL ysA ys.length ysC) rfl (x_load 0 rfl rfl sc219 rfl) ?_
   refine jp_ 9 rfl mv_ (jp_ 10 rfl (x_sub_i (a:=((k:Nat):Int)) (b:=1) rfl rfl om_ om_) (jp_ 11 rfl (x_quo_i (a:=((k:Nat):Int)-1) (b:=2) rfl rfl om_ om_ om_) (jp_ 12 rfl mv_ (jp_ 13 rfl (x_nilCheck rfl) (jp_ 14 rfl (fA 0 fi221_0) ?_)))))
   refine je_ 15 (vL ysA ys.length ysC) rfl (x_load 0 rfl rfl sc219 rfl) ?_
   refine jp_ 16 rfl mv_ (jp_ 17 rfl (x_sub_i (a:=((k:Nat):Int)) (b:=1) rfl rfl om_ om_) (jp_ 18 rfl (x_quo_i (a:=((k:Nat):Int)-1) (b:=2) rfl rfl om_ om_ om_) ?_))
   refine je_ 19 (pA ysA (((k-1) / 2)*3)) rfl (x_indexAddr_at (k:=((k-1) / 2)) (off:=((k-1) / 2)*3) (cells_row 1 rfl) underlying219 sz224 rfl (ix_nat rfl om_) lt_ c44c1_ rfl) ?_
   refine je_ 20 (vG [vI ((ys.getD ((k-1) / 2) default).run),vI ((ys.getD ((k-1) / 2) default).no),vS ((ys.getD ((k-1) / 2) default).record)]) rfl (x_loadN_at [vI ((ys.getD ((k-1) / 2) default).run),vI ((ys.getD ((k-1) / 2) default).no),vS ((ys.getD ((k-1) / 2) default).record)] (cells_row 1 rfl) rfl ag224 sz224 (flat_drop element.enc 3 element.enc_len ys default ((k-1) / 2) lt_)) ?_
   refine jp_ 21 rfl mv_ (jp_ 22 rfl (x_nilCheck rfl) (jp_ 23 rfl (fA 0 fi221_0) ?_))
   refine je_ 24 (vL ysA ys.length ysC) rfl (x_load 0 rfl rfl sc219 rfl) ?_
   refine jp_ 25 rfl mv_ (j1_ 26 (jir_ rfl (ixF element.enc_len (cells_row 1 rfl) underlying219 sz224) ?_) (fun _ h=>⟨h.keep [F_,F_] rfl,fun _=>h⟩))
   refine je_ 27 (vG [vI ((ys.getD k default).run),vI ((ys.getD k default).no),vS ((ys.getD k default).record)]) rfl (x_loadN_at [vI ((ys.getD k default).run),vI ((ys.getD k default).no),vS ((ys.getD k default).record)] (cells_row 1 rfl) rfl ag224 sz224 (flat_drop element.enc 3 element.enc_len ys default k lt_)) ?_
   refine je_ 28 (pA ysA (k*3)) rfl (x_indexAddr_at (k:=k) (off:=k*3) (cells_row 1 rfl) underlying219 sz224 rfl rfl lt_ c44c1_ rfl) ?_
   refine j1_ 29 (jio_ rfl (O_store_row_f (a:=(ys.getD ((k-1) / 2) default)) (xs:=ys) (k:=k) 1 element.enc [blk h 221 [vL ysA ys.length ysC,Value.func (.func 167) #[vG [vL lA l.length lC]] #[]],row (.slice ysA (ys.set k (ys.getD ((k-1) / 2) default)).length ysC) 224 3 (ys.set k (ys.getD ((k-1) / 2) default)).length ((ys.set k (ys.getD ((k-1) / 2) default)).flatMap element.enc)] rfl rfl rfl sz224 element.enc_len element.enc_one lt_ rfl ?_)) (fun _ h=>⟨h.keep [F_,F_] rfl,fun _=>h⟩)
   refine JA_weaken (E':=[(0,pB h 0),(4,vN k),(21,vN k),(22,vB (decide ((0:Int)<((k:Nat):Int)))),(23,vB true),(24,pB h 0),(25,pB h 0),(26,pB h 1),(27,Value.func (.func 167) #[vG [vL lA l.length lC]] #[]),(28,pB h 0),(29,pB h 0),(30,pB h 0),(31,vL ysA ((ys.set k (ys.getD ((k-1) / 2) default)).length) ysC),(32,vN k),(33,pA ysA (k*3)),(34,vG [vI ((ys.getD k default).run),vI ((ys.getD k default).no),vS ((ys.getD k default).record)]),(35,pB h 0),(36,pB h 0),(37,pB h 0),(38,vL ysA ((ys.set k (ys.getD ((k-1) / 2) default)).length) ysC),(39,vN k),(40,vI (((k:Nat):Int)-1)),(41,vI ((((k:Nat):Int)-1) / 2)),(42,pA ysA (((k-1) / 2)*3)),(43,vG [vI ((ys.getD ((k-1) / 2) default).run),vI ((ys.getD ((k-1) / 2) default).no),vS ((ys.getD ((k-1) / 2) default).record)]),(44,vB (decide (Hp.ec l (ys.getD k default) (ys.getD ((k-1) / 2) default)<0))),(45,vB (decide (Hp.ec l (ys.getD k default) (ys.getD ((k-1) / 2) default)<0))),(49,pB h 0),(50,pB h 0),(51,pB h 0),(52,vL ysA ((ys.set k (ys.getD ((k-1) / 2) default)).length) ysC),(53,vN k),(54,pB h 0),(55,pB h 0),(56,pB h 0),(57,vL ysA ((ys.set k (ys.getD ((k-1) / 2) default)).length) ysC),(58,vN k),(59,vI (((k:Nat):Int)-1)),(60,vI ((((k:Nat):Int)-1) / 2)),(61,pB h 0),(62,pB h 0),(63,pB h 0),(64,vL ysA ((ys.set k (ys.getD ((k-1) / 2) default)).length) ysC),(65,vN k),(66,vI (((k:Nat):Int)-1)),(67,vI ((((k:Nat):Int)-1) / 2)),(68,pA ysA (((k-1) / 2)*3)),(69,vG [vI ((ys.getD ((k-1) / 2) default).run),vI ((ys.getD ((k-1) / 2) default).no),vS ((ys.getD ((k-1) / 2) default).record)]),(70,pB h 0),(71,pB h 0),(72,pB h 0),(73,vL ysA ((ys.set k (ys.getD ((k-1) / 2) default)).length) ysC),(74,vN k),(75,pA ysA (k*3)),(76,vG [vI ((ys.getD k default).run),vI ((ys.getD k default).no),vS ((ys.getD k default).record)]),(77,pA ysA (k*3))]) (L':=[blk h 221 [vL ysA ((ys.set k (ys.getD ((k-1) / 2) default)).length) ysC,Value.func (.func 167) #[vG [vL lA l.length lC]] #[]],row (.slice ysA (ys.set k (ys.getD ((k-1) / 2) default)).length ysC) 224 3 (ys.set k (ys.getD ((k-1) / 2) default)).length ((ys.set k (ys.getD ((k-1) / 2) default)).flatMap element.enc)]) ⟨rfl,rfl,rfl,rfl,rfl,rfl,rfl,rfl,rfl,rfl,rfl,rfl,(congrArg (fun n:Nat=>some (Value.slice ysA n ysC)) (set_len ys k (ys.getD ((k-1) / 2) default)).symm),rfl,rfl,rfl,rfl,rfl,rfl,(congrArg (fun n:Nat=>some (Value.slice ysA n ysC)) (set_len ys k (ys.getD ((k-1) / 2) default)).symm),rfl,rfl,rfl,rfl,rfl,rfl,rfl,rfl,rfl,rfl,(congrArg (fun n:Nat=>some (Value.slice ysA n ysC)) (set_len ys k (ys.getD ((k-1) / 2) default)).symm),rfl,rfl,rfl,rfl,(congrArg (fun n:Nat=>some (Value.slice ysA n ysC)) (set_len ys k (ys.getD ((k-1) / 2) default)).symm),rfl,rfl,rfl,rfl,rfl,rfl,(congrArg (fun n:Nat=>some (Value.slice ysA n ysC)) (set_len ys k (ys.getD ((k-1) / 2) default)).symm),rfl,rfl,rfl,rfl,rfl,rfl,rfl,rfl,(congrArg (fun n:Nat=>some (Value.slice ysA n ysC)) (set_len ys k (ys.getD ((k-1) / 2) default)).symm),rfl,rfl,rfl,rfl,trivial⟩ (fun _ h=>by rw [set_len ys k (ys.getD ((k-1) / 2) default)] at h ⊢;exact h) ?_
   refine j1_ 30 (jir_ rfl (ixF (k:=((k-1) / 2)) (hy:=(ix_nat rfl om_)) element.enc_len (cells_row 1 rfl) underlying219 sz224) (j1_ 31 ?_ (gl_ rfl (fun _ h=>h.keep [F_,F_] rfl)))) (gl_ rfl (fun _ h=>h.keep [F_,F_] rfl))
   refine jio_ rfl (O_store_row_f (a:=(ys.getD k default)) (xs:=(ys.set k (ys.getD ((k-1) / 2) default))) (k:=((k-1) / 2)) 1 element.enc [blk h 221 [vL ysA ((ys.set k (ys.getD ((k-1) / 2) default)).length) ysC,Value.func (.func 167) #[vG [vL lA l.length lC]] #[]],row (.slice ysA ((ys.set k (ys.getD ((k-1) / 2) default)).set ((k-1) / 2) (ys.getD k default)).length ysC) 224 3 ((ys.set k (ys.getD ((k-1) / 2) default)).set ((k-1) / 2) (ys.getD k default)).length (((ys.set k (ys.getD ((k-1) / 2) default)).set ((k-1) / 2) (ys.getD k default)).flatMap element.enc)] rfl rfl rfl sz224 element.enc_len element.enc_one lt_ rfl ?_)
   refine JA_weaken (E':=[(0,pB h 0),(4,vN k),(21,vN k),(22,vB (decide ((0:Int)<((k:Nat):Int)))),(23,vB true),(24,pB h 0),(25,pB h 0),(26,pB h 1),(27,Value.func (.func 167) #[vG [vL lA l.length lC]] #[]),(28,pB h 0),(29,pB h 0),(30,pB h 0),(31,vL ysA (((ys.set k (ys.getD ((k-1) / 2) default)).set ((k-1) / 2) (ys.getD k default)).length) ysC),(32,vN k),(33,pA ysA (k*3)),(34,vG [vI ((ys.getD k default).run),vI ((ys.getD k default).no),vS ((ys.getD k default).record)]),(35,pB h 0),(36,pB h 0),(37,pB h 0),(38,vL ysA (((ys.set k (ys.getD ((k-1) / 2) default)).set ((k-1) / 2) (ys.getD k default)).length) ysC),(39,vN k),(40,vI (((k:Nat):Int)-1)),(41,vI ((((k:Nat):Int)-1) / 2)),(42,pA ysA (((k-1) / 2)*3)),(43,vG [vI ((ys.getD ((k-1) / 2) default).run),vI ((ys.getD ((k-1) / 2) default).no),vS ((ys.getD ((k-1) / 2) default).record)]),(44,vB (decide (Hp.ec l (ys.getD k default) (ys.getD ((k-1) / 2) default)<0))),(45,vB (decide (Hp.ec l (ys.getD k default) (ys.getD ((k-1) / 2) default)<0))),(49,pB h 0),(50,pB h 0),(51,pB h 0),(52,vL ysA (((ys.set k (ys.getD ((k-1) / 2) default)).set ((k-1) / 2) (ys.getD k default)).length) ysC),(53,vN k),(54,pB h 0),(55,pB h 0),(56,pB h 0),(57,vL ysA (((ys.set k (ys.getD ((k-1) / 2) default)).set ((k-1) / 2) (ys.getD k default)).length) ysC),(58,vN k),(59,vI (((k:Nat):Int)-1)),(60,vI ((((k:Nat):Int)-1) / 2)),(61,pB h 0),(62,pB h 0),(63,pB h 0),(64,vL ysA (((ys.set k (ys.getD ((k-1) / 2) default)).set ((k-1) / 2) (ys.getD k default)).length) ysC),(65,vN k),(66,vI (((k:Nat):Int)-1)),(67,vI ((((k:Nat):Int)-1) / 2)),(68,pA ysA (((k-1) / 2)*3)),(69,vG [vI ((ys.getD ((k-1) / 2) default).run),vI ((ys.getD ((k-1) / 2) default).no),vS ((ys.getD ((k-1) / 2) default).record)]),(70,pB h 0),(71,pB h 0),(72,pB h 0),(73,vL ysA (((ys.set k (ys.getD ((k-1) / 2) default)).set ((k-1) / 2) (ys.getD k default)).length) ysC),(74,vN k),(75,pA ysA (k*3)),(76,vG [vI ((ys.getD k default).run),vI ((ys.getD k default).no),vS ((ys.getD k default).record)]),(77,pA ysA (k*3)),(78,pA ysA (((k-1) / 2)*3))]) (L':=[blk h 221 [vL ysA (((ys.set k (ys.getD ((k-1) / 2) default)).set ((k-1) / 2) (ys.getD k default)).length) ysC,Value.func (.func 167) #[vG [vL lA l.length lC]] #[]],row (.slice ysA ((ys.set k (ys.getD ((k-1) / 2) default)).set ((k-1) / 2) (ys.getD k default)).length ysC) 224 3 ((ys.set k (ys.getD ((k-1) / 2) default)).set ((k-1) / 2) (ys.getD k default)).length (((ys.set k (ys.getD ((k-1) / 2) default)).set ((k-1) / 2) (ys.getD k default)).flatMap element.enc)]) ⟨rfl,rfl,rfl,rfl,rfl,rfl,rfl,rfl,rfl,rfl,rfl,rfl,(congrArg (fun n:Nat=>some (Value.slice ysA n ysC)) (set_len (ys.set k (ys.getD ((k-1) / 2) default)) ((k-1) / 2) (ys.getD k default)).symm),rfl,rfl,rfl,rfl,rfl,rfl,(congrArg (fun n:Nat=>some (Value.slice ysA n ysC)) (set_len (ys.set k (ys.getD ((k-1) / 2) default)) ((k-1) / 2) (ys.getD k default)).symm),rfl,rfl,rfl,rfl,rfl,rfl,rfl,rfl,rfl,rfl,(congrArg (fun n:Nat=>some (Value.slice ysA n ysC)) (set_len (ys.set k (ys.getD ((k-1) / 2) default)) ((k-1) / 2) (ys.getD k default)).symm),rfl,rfl,rfl,rfl,(congrArg (fun n:Nat=>some (Value.slice ysA n ysC)) (set_len (ys.set k (ys.getD ((k-1) / 2) default)) ((k-1) / 2) (ys.getD k default)).symm),rfl,rfl,rfl,rfl,rfl,rfl,(congrArg (fun n:Nat=>some (Value.slice ysA n ysC)) (set_len (ys.set k (ys.getD ((k-1) / 2) default)) ((k-1) / 2) (ys.getD k default)).symm),rfl,rfl,rfl,rfl,rfl,rfl,rfl,rfl,(congrArg (fun n:Nat=>some (Value.slice ysA n ysC)) (set_len (ys.set k (ys.getD ((k-1) / 2) default)) ((k-1) / 2) (ys.getD k default)).symm),rfl,rfl,rfl,rfl,rfl,trivial⟩ (fun _ h=>by rw [set_len (ys.set k (ys.getD ((k-1) / 2) default)) ((k-1) / 2) (ys.getD k default)] at h ⊢;exact h) ?_
   refine JA_done kf_ (gl_ rfl (fun _ h=>h.keep [F_,F_] rfl)) ?_
   refine kx_ (n_ (g_ (s_ mv_ (s_ (x_sub_i (a:=((k:Nat):Int)) (b:=1) rfl rfl om_ om_) (s_ (x_quo_i (a:=((k:Nat):Int)-1) (b:=2) rfl rfl om_ om_ om_) (s_ av_ (z_ ?_)))))))
   refine JX_round (((k-1) / 2,((ys.set k (ys.getD ((k-1) / 2) default)).set ((k-1) / 2) (ys.getD k default)),ysA,ysC):Nat × (List element) × (OA_) × Nat) ?_ ?_ ⟨rfl,(sE_ (by first | omega | (simp;done) | (simp;omega))),trivial⟩ i_
   ·try dsimp only
    refine ⟨?_,?_⟩
    ·exact Hp.up_swap hec i1_0 om_ as_
    ·exact Hp.swap_perm2 om_ om_ i1_1
   ·try dsimp only
    first | omega | (simp;omega) | (simp_all;omega)
  ·refine J_exit (ne_ (re_ (kh_ ?_)))
   refine JX_end0 results168 [blk h 221 [vL ysA ys.length ysC,Value.func (.func 167) #[vG [vL lA l.length lC]] #[]],row (.slice ysA ys.length ysC) 224 3 ys.length (ys.flatMap element.enc)] i_ ⟨ys,ysA,ysC,?_,?_,?_,?_,?_,?_⟩
   ·rfl
   ·rfl
   ·exact c44c3_
   ·exact i1_1
   ·exact hrk
   ·omega
 ·have h8:=of_ h8
  refine js2_ 3 rfl (js2_ 4 rfl (js2_ 5 rfl (js2_ 6 rfl (js2_ 7 rfl (js2_ 8 rfl (js2_ 9 rfl (js2_ 10 rfl (js2_ 11 rfl (js2_ 12 rfl ?_)))))))))
  refine js2_ 13 rfl (js2_ 14 rfl (js2_ 15 rfl (js2_ 16 rfl (js2_ 17 rfl (js2_ 18 rfl (js2_ 19 rfl (js2_ 20 rfl (js2_ 21 rfl (js2_ 22 rfl ?_)))))))))
  refine js2_ 23 rfl ?_
  refine jt_ 24 (vB false) rfl (fun _ _=>rfl) ?_
  refine JA_done kf_ gm_ ?_
  refine n_ (iff_ (J_exit (ne_ (re_ (kh_ ?_)))))
  refine JX_end0 results168 [blk h 221 [vL ysA ys.length ysC,Value.func (.func 167) #[vG [vL lA l.length lC]] #[]],row (.slice ysA ys.length ysC) 224 3 ys.length (ys.flatMap element.enc)] i_ ⟨ys,ysA,ysC,?_,?_,?_,?_,?_,?_⟩
  ·rfl
  ·rfl
  ·exact c44c3_
  ·exact i1_1
  ·exact hrk
  ·omega
end Go.Proofs.YtggobegaiijhhaaGreatDoor
