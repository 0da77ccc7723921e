/- C44s, C44b in one text. -/
import Derived.Test.YtggobegaiijhhaaGreatDoorUtilityOnly23
set_option linter.unusedVariables false
set_option linter.unusedSimpArgs false
set_option maxRecDepth 20000
namespace Go.Proofs.YtggobegaiijhhaaGreatDoor
open Go.GV Go.Proofs.Tryz Ty
open Go.GV.Ent (blk row mp)
theorem c44s0_ {p:Prop} (h:p:=by first | exact R44.parse_none (R44.eq_of as_ om_) | exact i1_1.bad (R44.ne_of as_ om_) om_ (R44.fw_of as_ (R44.fw_short om_)) | exact i1_1.bad (R44.ne_of as_ om_) om_ (R44.fw_of as_ (R44.fw_no3 as_ as_ (R44.kind_t as_) (R44.desc_t as_) as_)) | exact i1_1.bad (R44.ne_of as_ om_) om_ (R44.fw_of as_ (R44.fw_no3 as_ as_ (R44.kind_t as_) (R44.desc_f as_) as_)) | exact i1_1.bad (R44.ne_of as_ om_) om_ (R44.fw_of as_ (R44.fw_no3 as_ as_ (R44.kind_f as_) (R44.desc_t as_) as_)) | exact i1_1.bad (R44.ne_of as_ om_) om_ (R44.fw_of as_ (R44.fw_no3 as_ as_ (R44.kind_f as_) (R44.desc_f as_) as_)) | exact i1_1.yes (R44.ne_of as_ om_) om_ as_ | exact i1_1.no (R44.ne_of as_ om_) om_ (by simp_all)):p:=h
theorem c44s1_ {p:Prop} (h:p:=by exact congrArg (fun (x0:Nat)=>Value.tuple #[vL none x0 0,vI 3]) e_x0):p:=h
theorem c44s2_ {p:Prop} (h:p:=by first | exact i1_1.add om_ (R44.fw_of as_ (R44.fw_go om_ as_ as_ as_ as_ (R44.kind_t as_) (R44.desc_t as_) om_)) | exact i1_1.add om_ (R44.fw_of as_ (R44.fw_go om_ as_ as_ as_ as_ (R44.kind_t as_) (R44.desc_f as_) om_)) | exact i1_1.add om_ (R44.fw_of as_ (R44.fw_go om_ as_ as_ as_ as_ (R44.kind_f as_) (R44.desc_t as_) om_)) | exact i1_1.add om_ (R44.fw_of as_ (R44.fw_go om_ as_ as_ as_ as_ (R44.kind_f as_) (R44.desc_f as_) om_))):p:=h
set_option maxHeartbeats 4000000 in
theorem f95_ok (s:Bytes) (w:World) (hT:Tab [] w) (q0:s.length≤1000000):Calls prog 95 #[vS s] w (Gives [] w fun v L=>∃ out:List SortField,∃ outA:OA_,∃ outC:Nat,∃ e:Int,v=Value.tuple #[vL outA out.length outC,vI e]∧L=[row (.slice outA out.length outC) 179 4 out.length (out.flatMap SortField.enc)]∧((out,e)=R44.parseV s)):=by
 refine calls_J [] 103 func95 rfl ntmps95 [(0,_)] rfl rfl (Give.nil w) ?_
 refine q_ (g_ (s_ av_ (s_ av_ (z_ (n_ (q_ (q_ (g_ (s_ mv_ ?_)))))))))
 refine JO_callB [] [] [] rfl trivial (fun _=>x_call ca132 rfl) i_ (fun _ h=>by cases h) (fun w hS=>f132_ok s w hy_) ?_
 rintro wc _ _ wbhB2 ⟨rout,routA,routC,rfl,rfl,routR,routL,hf1⟩ hc0 hB2
 have hT:=hT.again hB2
 have routR:=routR.mono (lown_range hc0)
 have ha3:=R44.rw_bd as_
 refine s_ (lnS underlying25) (s_ (x_eql_i rfl rfl) (z_ (n_ ?_)))
 refine ifd (fun h4w h4=>?_) (fun h4w h4=>?_)
 ·refine q_ (g_ (s_ av_ (s_ av_ (z_ (n_ (rt_ (nr_ ?_)))))))
  refine JX_retsC [_,_] (Value.tuple #[_,_]) results95 (fun w h=>⟨rfl,rfl,trivial⟩) rfl [row (.slice none ([]:List SortField).length 0) 179 4 ([]:List SortField).length (([]:List SortField).flatMap SortField.enc)] (fun _ h=>(h.nilrow 179 4).keep [T_] rfl) (fun _ _ h=>(hB2.back _ _ h)) ⟨([]:List SortField),none,0,0,?_,?_,?_⟩
  ·have e_x0:(0:Nat)=(([]:List SortField).length):=by exact df_
   exact congrArg (fun (x0:Nat)=>Value.tuple #[vL none x0 0,vI 0]) e_x0
  ·rfl
  ·exact c44s0_
 ·refine sk_ (n_ (q_ (g_ (o_ (O_buildSlice (cs:=[vS [116,101,120,116],vS [110,117,109,98,101,114],vS [98,105,110,97,114,121]]) underlying25 sz9 ze9 dd_ dd_ kf_ fun b5=>?_)))))
  refine s_ av_ (z_ (n_ (q_ (g_ (s_ av_ (z_ (n_ (q_ (q_ (g_ (s_ mv_ ?_)))))))))))
  refine c1 (cl_ ca133) (fun w hS=>split_ok s w (hT.on hS (fun _ h=>by cases h)) hy_) ?_
  rintro _ _ ⟨e6,e7,rfl,rfl⟩
  have ha8:=R44.splitC_count 44 s
  refine s_ (lnS underlying25) (s_ mv_ (z_ (n_ (k_ ?_))))
  refine J_loop (X:=Nat × (List SortField) × (OA_) × Nat) (fun (⟨k,out,outA,outC⟩:Nat × (List SortField) × (OA_) × Nat)=>(k≤(R44.splitC 44 s).length)∧(R44.FldJ (R44.splitC 44 s) k out)∧(out.length≤k)) (fun (⟨k,out,outA,outC⟩:Nat × (List SortField) × (OA_) × Nat)=>[(4,vL (some ⟨b5,0,none⟩) 3 3),(5,vL outA out.length outC),(20,vL e6 ((R44.splitC 44 s).length) e7),(21,vI (((R44.splitC 44 s).length:Nat):Int)),(22,vN k)]) (fun (⟨k,out,outA,outC⟩:Nat × (List SortField) × (OA_) × Nat)=>[row (.slice e6 (R44.splitC 44 s).length e7) 9 1 (R44.splitC 44 s).length ((R44.splitC 44 s).map vS),blk b5 9 [vS [116,101,120,116],vS [110,117,109,98,101,114],vS [98,105,110,97,114,121]],row (.slice outA out.length outC) 179 4 out.length (out.flatMap SortField.enc)]) (fun (⟨k,out,outA,outC⟩:Nat × (List SortField) × (OA_) × Nat)=>(R44.splitC 44 s).length-k) ((0,([]:List SortField),none,0):Nat × (List SortField) × (OA_) × Nat) ?_ se_ (fun _ h=>(((h.nilrow 179 4).front 2 _ rfl).front 2 _ rfl).keep [T_,T_,T_] rfl) ?_
  ·try dsimp only
   refine ⟨?_,?_,?_⟩
   ·exact df_
   ·exact R44.FldJ.start
   ·exact Nat.zero_le _
  rintro ⟨k,out,outA,outC⟩ hI1
  obtain ⟨i1_0,i1_1,i1_2⟩:=hI1
  try dsimp only at i1_0
  try dsimp only at i1_1
  try dsimp only at i1_2
  have hpl:=R44.splitC_len 44 s k
  try dsimp only
  refine q_ (g_ (s_ (x_lss_i rfl rfl) (z_ (n_ (q_ ?_)))))
  refine ifd (fun h9w h9=>?_) (fun h9w h9=>?_)
  ·refine sk_ (n_ (q_ (k_ (q_ (g_ (r_ (ixM (cells_row 0 rfl) underlying25 sz9) (r_ (ldM vS [] (cells_row 0 rfl) sc9) (s_ av_ (z_ (n_ (q_ (g_ (s_ mv_ ?_)))))))))))))
   refine JO_callB [] [] [row (.slice e6 (R44.splitC 44 s).length e7) 9 1 (R44.splitC 44 s).length ((R44.splitC 44 s).map vS),blk b5 9 [vS [116,101,120,116],vS [110,117,109,98,101,114],vS [98,105,110,97,114,121]],row (.slice outA out.length outC) 179 4 out.length (out.flatMap SortField.enc)] rfl trivial (fun _=>x_call ca132 rfl) i_ (fun _ h=>by cases h) (fun w hS=>f132_ok ((R44.splitC 44 s).getD k []) w hy_) ?_
   rintro wc _ _ wbhB12 ⟨rout10,rout10A,rout10C,rfl,rfl,rout10R,rout10L,hf11⟩ hc0 hB12
   have routR:=routR.again hB12
   have hT:=hT.again hB12
   have rout10R:=rout10R.mono (lown_range hc0)
   have ha13:=R44.rw_bd as_
   refine s_ av_ (z_ (n_ (q_ (q_ (g_ (s_ mv_ (s_ (lnS underlying25) (s_ (x_lss_i rfl rfl) (z_ (n_ ?_))))))))))
   refine ifd (fun h14w h14=>?_) (fun h14w h14=>?_)
   ·refine q_ (g_ (s_ av_ (s_ av_ (z_ (n_ (rt_ (nr_ (kq_ (nr_ (JX_roundA_ret (kq_ (nr_ ?_))))))))))))
    refine JX_retsC [_,_] (Value.tuple #[_,_]) results95 (fun w h=>⟨rfl,rfl,trivial⟩) rfl [row (.slice none ([]:List SortField).length 0) 179 4 ([]:List SortField).length (([]:List SortField).flatMap SortField.enc)] (fun _ h=>(h.nilrow 179 4).keep [T_,F_,F_,F_] rfl) (fun _ _ h=>(hB2.back _ _ (hB12.back _ _ h))) ⟨([]:List SortField),none,0,3,?_,?_,?_⟩
    ·have e_x0:(0:Nat)=(([]:List SortField).length):=by exact df_
     exact c44s1_
    ·rfl
    ·exact c44s0_
   ·refine sk_ (n_ (q_ (g_ (s_ mv_ (r_ (ixM (k:=0) (cells_ro rout10R) underlying25 sz9) (r_ (ldM vS [] (cells_ro rout10R) sc9) ?_))))))
    refine c1 (cl_ ca134) (fun w hS=>f134_ok _ w (hT.on hS (fun _ h=>by cases h)) hy_) ?_
    rintro _ _ ⟨n15,ok16,rfl,rfl,hf17⟩
    refine s_ mv_ (s_ (ex_ 0) (s_ (ex_ 1) (s_ av_ (s_ av_ (z_ (xk_ [4,5,20,21,22,8,9,10] ?_))))))
    refine n_ (q_ (g_ (s_ mv_ (r_ (ixM (k:=1) (cells_ro rout10R) underlying25 sz9) (r_ (ldM vS [] (cells_ro rout10R) sc9) ?_)))))
    refine c1 (cl_ ca134) (fun w hS=>f134_ok _ w (hT.on hS (fun _ h=>by cases h)) hy_) ?_
    rintro _ _ ⟨n18,ok19,rfl,rfl,hf20⟩
    refine s_ mv_ (s_ (ex_ 0) (s_ (ex_ 1) (s_ av_ (s_ av_ (z_ (n_ (q_ (g_ (s_ mv_ (s_ mv_ (js_ (vG [vI n15,vI n18,vI 0,vB false]) (x_build kf_) (o_ (al_ ze179 fun b21=>?_)))))))))))))
    refine o_ (stG 0 sz179 ?_)
    refine z_ (xk_ [4,5,20,21,22,8,10,12,13] ?_)
    refine n_ (q_ (g_ (s_ mv_ (s_ (x_subrow (lo:=2) (hi:=rout10.length) rfl underlying25 sz9 (.inl rfl) (.inr ⟨rfl,rfl⟩) lt_ lt_) ?_))))
    have hro22:=RO.subM rout10R rout10C 2 (rout10.length-2) lt_
    rw [show rout10.length-2=(rout10.drop 2).length from List.length_drop.symm,List.take_length] at hro22
    refine JO_weaken (E':=[(4,vL (some ⟨b5,0,none⟩) 3 3),(5,vL outA out.length outC),(20,vL e6 ((R44.splitC 44 s).length) e7),(21,vI (((R44.splitC 44 s).length:Nat):Int)),(22,vN k),(8,vL rout10A rout10.length rout10C),(10,vB ok16),(12,vB ok19),(13,pB b21 0),(48,vL rout10A rout10.length rout10C),(49,vL (subA rout10A rout10C 2 1) ((rout10.drop 2).length) (rout10C-2))]) (L':=[blk b21 179 [vI n15,vI n18,vI 0,vB false],row (.slice e6 (R44.splitC 44 s).length e7) 9 1 (R44.splitC 44 s).length ((R44.splitC 44 s).map vS),blk b5 9 [vS [116,101,120,116],vS [110,117,109,98,101,114],vS [98,105,110,97,114,121]],row (.slice outA out.length outC) 179 4 out.length (out.flatMap SortField.enc)]) ⟨rfl,rfl,rfl,rfl,rfl,rfl,rfl,rfl,rfl,rfl,(congrArg (fun n:Nat=>some (Value.slice (subA rout10A rout10C 2 1) n (rout10C-2))) (by exact List.length_drop.symm)),trivial⟩ i_ ?_
    refine s_ av_ (z_ (n_ (q_ (q_ (g_ (s_ mv_ (s_ (lnS underlying25) (s_ (x_gtr_i rfl rfl) (s_ mv_ ?_)))))))))
    refine and_ 5 (decide (0≤R44.ixOf [[116,101,120,116],[110,117,109,98,101,114],[98,105,110,97,114,121]] ((rout10.drop 2).getD 0 []))) (fun g23=>?_) ?_
    ·have g23r:=g23
     have g23r:=ot_ g23r
     refine sg_ g23 mv_ (sg_ g23 mv_ (rg_ g23 (ixM (k:=0) (cells_ro hro22) underlying25 sz9) (rg_ g23 (ldM vS [] (cells_ro hro22) sc9) (c0g g23 (cl_ ca135) (fun w hS=>f135_ok [[116,101,120,116],[110,117,109,98,101,114],[98,105,110,97,114,121]] _ 3 _ w (RO.of_blk hS 2 (off:=0) (m:=3) rfl rfl) hy_) ?_))))
     exact cr_
    refine z_ (n_ ?_)
    refine if_ (fun h24=>?_) (fun h24=>?_)
    ·have h24w:=h24
     have ⟨h24,h25⟩:=band_true h24
     have h24:=ot_ h24
     have h25:=ot_ h25
     refine q_ (g_ (o_ (O_buildSlice (cs:=[vI 0,vI 1,vI 2]) underlying28 sz3 ze3 dd_ dd_ kf_ fun b26=>?_)))
     refine s_ mv_ (s_ mv_ (r_ (ixM (k:=0) (cells_ro hro22) underlying25 sz9) (r_ (ldM vS [] (cells_ro hro22) sc9) (c0 (cl_ ca136) (fun w hS=>f136_ok [[116,101,120,116],[110,117,109,98,101,114],[98,105,110,97,114,121]] _ 3 _ w (RO.of_blk hS 3 (off:=0) (m:=3) rfl rfl) hy_) ?_))))
     have ha27:=R44.ixOf_bd [[116,101,120,116],[110,117,109,98,101,114],[98,105,110,97,114,121]] ((rout10.drop 2).getD 0 [])
     try simp only [List.length_cons,List.length_nil,Nat.zero_add,Nat.reduceAdd,Nat.reduceMul] at ha27
     refine s_ (x_indexAddr_sl (k:=(R44.ixOf [[116,101,120,116],[110,117,109,98,101,114],[98,105,110,97,114,121]] ((rout10.drop 2).getD 0 [])).toNat) underlying28 sz3 rfl (ix_nat rfl om_) lt_ (add_0k1 _ _)) (r_ (x_load_arr 0 (xs:=([0,1,2]:List Int)) vI 0 rfl rfl sc3 lt_) (s_ (fA 2 fi179_2) (o_ (st1 1 sz3 ?_))))
     refine z_ (xk_ [4,5,20,21,22,8,10,12,13] ?_)
     refine n_ (g_ (s_ mv_ (s_ (x_subrow (lo:=1) (hi:=(rout10.drop 2).length) rfl underlying25 sz9 (.inl rfl) (.inr ⟨rfl,rfl⟩) lt_ lt_) ?_)))
     have hro28:=RO.subM hro22 (rout10C-2) 1 (((rout10.drop 2).length)-1) lt_
     rw [show ((rout10.drop 2).length)-1=((rout10.drop 2).drop 1).length from List.length_drop.symm,List.take_length] at hro28
     refine JO_weaken (E':=[(4,vL (some ⟨b5,0,none⟩) 3 3),(5,vL outA out.length outC),(20,vL e6 ((R44.splitC 44 s).length) e7),(21,vI (((R44.splitC 44 s).length:Nat):Int)),(22,vN k),(8,vL (subA rout10A rout10C 2 1) ((rout10.drop 2).length) (rout10C-2)),(10,vB ok16),(12,vB ok19),(13,pB b21 0),(69,vL (subA rout10A rout10C 2 1) ((rout10.drop 2).length) (rout10C-2)),(70,vL (subA (subA rout10A rout10C 2 1) (rout10C-2) 1 1) (((rout10.drop 2).drop 1).length) ((rout10C-2)-1))]) (L':=[blk b26 3 [vI 0,vI 1,vI 2],blk b21 179 [vI n15,vI n18,vI (([0,1,2]:List Int).getD ((R44.ixOf [[116,101,120,116],[110,117,109,98,101,114],[98,105,110,97,114,121]] ((rout10.drop 2).getD 0 [])).toNat) 0),vB false],row (.slice e6 (R44.splitC 44 s).length e7) 9 1 (R44.splitC 44 s).length ((R44.splitC 44 s).map vS),blk b5 9 [vS [116,101,120,116],vS [110,117,109,98,101,114],vS [98,105,110,97,114,121]],row (.slice outA out.length outC) 179 4 out.length (out.flatMap SortField.enc)]) ⟨rfl,rfl,rfl,rfl,rfl,rfl,rfl,rfl,rfl,rfl,(congrArg (fun n:Nat=>some (Value.slice (subA (subA rout10A rout10C 2 1) (rout10C-2) 1 1) n ((rout10C-2)-1))) (by exact List.length_drop.symm)),trivial⟩ i_ ?_
     refine s_ av_ (z_ (n_ (q_ (q_ (g_ (s_ mv_ (s_ (lnS underlying25) (s_ (x_gtr_i rfl rfl) (s_ mv_ ?_)))))))))
     refine and_ 4 (decide ((((rout10.drop 2).drop 1).getD 0 [])=([100,101,115,99,101,110,100,105,110,103]:Bytes))) (fun g29=>?_) ?_
     ·have g29r:=g29
      have g29r:=ot_ g29r
      refine sg_ g29 mv_ (rg_ g29 (ixM (k:=0) (cells_ro hro28) underlying25 sz9) (rg_ g29 (ldM vS [] (cells_ro hro28) sc9) (jg_ g29 (vB (decide ((((rout10.drop 2).drop 1).getD 0 [])=([100,101,115,99,101,110,100,105,110,103]:Bytes)))) (x_eql_s rfl rfl) ?_)))
      exact cr_
     refine z_ (n_ ?_)
     refine if_ (fun h30=>?_) (fun h30=>?_)
     ·have h30w:=h30
      have ⟨h30,h31⟩:=band_true h30
      have h30:=ot_ h30
      have h31:=ot_ h31
      refine q_ (g_ (s_ (fA 3 fi179_3) (o_ (st1 1 sz4 ?_))))
      refine z_ (n_ (g_ (s_ mv_ (s_ (x_subrow (lo:=1) (hi:=((rout10.drop 2).drop 1).length) rfl underlying25 sz9 (.inl rfl) (.inr ⟨rfl,rfl⟩) lt_ lt_) ?_))))
      have hro32:=RO.subM hro28 ((rout10C-2)-1) 1 ((((rout10.drop 2).drop 1).length)-1) lt_
      rw [show (((rout10.drop 2).drop 1).length)-1=(((rout10.drop 2).drop 1).drop 1).length from List.length_drop.symm,List.take_length] at hro32
      refine JO_weaken (E':=[(4,vL (some ⟨b5,0,none⟩) 3 3),(5,vL outA out.length outC),(20,vL e6 ((R44.splitC 44 s).length) e7),(21,vI (((R44.splitC 44 s).length:Nat):Int)),(22,vN k),(8,vL (subA (subA rout10A rout10C 2 1) (rout10C-2) 1 1) (((rout10.drop 2).drop 1).length) ((rout10C-2)-1)),(10,vB ok16),(12,vB ok19),(13,pB b21 0),(69,vL (subA rout10A rout10C 2 1) ((rout10.drop 2).length) (rout10C-2)),(70,vL (subA (subA rout10A rout10C 2 1) (rout10C-2) 1 1) (((rout10.drop 2).drop 1).length) ((rout10C-2)-1)),(71,vL (subA (subA rout10A rout10C 2 1) (rout10C-2) 1 1) (((rout10.drop 2).drop 1).length) ((rout10C-2)-1)),(72,vI ((((rout10.drop 2).drop 1).length:Nat):Int)),(73,vB (decide ((0:Int)<((((rout10.drop 2).drop 1).length:Nat):Int)))),(74,vB (decide ((0:Int)<((((rout10.drop 2).drop 1).length:Nat):Int)))),(79,vB ((decide ((0:Int)<((((rout10.drop 2).drop 1).length:Nat):Int)))&&(decide ((((rout10.drop 2).drop 1).getD 0 [])=([100,101,115,99,101,110,100,105,110,103]:Bytes))))),(80,pB b21 3),(81,vL (subA (subA rout10A rout10C 2 1) (rout10C-2) 1 1) (((rout10.drop 2).drop 1).length) ((rout10C-2)-1)),(82,vL (subA (subA (subA rout10A rout10C 2 1) (rout10C-2) 1 1) ((rout10C-2)-1) 1 1) ((((rout10.drop 2).drop 1).drop 1).length) (((rout10C-2)-1)-1))]) (L':=[blk b26 3 [vI 0,vI 1,vI 2],blk b21 179 [vI n15,vI n18,vI (([0,1,2]:List Int).getD ((R44.ixOf [[116,101,120,116],[110,117,109,98,101,114],[98,105,110,97,114,121]] ((rout10.drop 2).getD 0 [])).toNat) 0),vB true],row (.slice e6 (R44.splitC 44 s).length e7) 9 1 (R44.splitC 44 s).length ((R44.splitC 44 s).map vS),blk b5 9 [vS [116,101,120,116],vS [110,117,109,98,101,114],vS [98,105,110,97,114,121]],row (.slice outA out.length outC) 179 4 out.length (out.flatMap SortField.enc)]) ⟨rfl,rfl,rfl,rfl,rfl,rfl,rfl,rfl,rfl,rfl,rfl,rfl,rfl,rfl,rfl,rfl,rfl,rfl,(congrArg (fun n:Nat=>some (Value.slice (subA (subA (subA rout10A rout10C 2 1) (rout10C-2) 1 1) ((rout10C-2)-1) 1 1) n (((rout10C-2)-1)-1))) (by exact List.length_drop.symm)),trivial⟩ i_ ?_
      refine s_ av_ (z_ (n_ (q_ (q_ (g_ (s_ mv_ (s_ (x_not rfl) (s_ mv_ ?_))))))))
      refine or_ 2 (!ok19) (fun g33=>?_) ?_
      ·have g33r:=g33
       have g33r:(ok16)=true:=bnot_false g33r
       refine sg_ g33 mv_ (sg_ g33 (x_not rfl) ?_)
       exact cr_
      refine s_ mv_ ?_
      refine or_ 3 (decide ((0:Int)<(((((rout10.drop 2).drop 1).drop 1).length:Nat):Int))) (fun g34=>?_) ?_
      ·have g34r:=g34
       have ⟨g34r,h35⟩:=bor_false g34r
       have g34r:(ok16)=true:=bnot_false g34r
       have h35:(ok19)=true:=bnot_false h35
       refine sg_ g34 mv_ (sg_ g34 (lnS underlying25) (sg_ g34 (x_gtr_i rfl rfl) ?_))
       exact cr_
      refine z_ (xk_ [4,5,20,21,22,13,93] ?_)
      refine n_ ?_
      refine if_ (fun h36=>?_) (fun h36=>?_)
      ·have h36w:=h36
       simp only [Bool.and_eq_true,Bool.or_eq_true,Bool.and_eq_false_iff,Bool.or_eq_false_iff,Bool.not_eq_true',Bool.not_eq_false',decide_eq_true_eq,decide_eq_false_iff_not] at h36
       refine q_ (g_ (s_ av_ (s_ av_ (z_ (n_ (rt_ (nr_ (kq_ (nr_ (JX_roundA_ret (kq_ (nr_ ?_))))))))))))
       refine JX_retsC [_,_] (Value.tuple #[_,_]) results95 (fun w h=>⟨rfl,rfl,trivial⟩) rfl [row (.slice none ([]:List SortField).length 0) 179 4 ([]:List SortField).length (([]:List SortField).flatMap SortField.enc)] (fun _ h=>(h.nilrow 179 4).keep [T_,F_,F_,F_,F_,F_] rfl) (fun _ _ h=>(hB2.back _ _ (hB12.back _ _ h))) ⟨([]:List SortField),none,0,3,?_,?_,?_⟩
       ·have e_x0:(0:Nat)=(([]:List SortField).length):=by exact df_
        exact c44s1_
       ·rfl
       ·exact c44s0_
      ·have h36w:=h36
       have ⟨h36,h37⟩:=bor_false h36
       have ⟨h36,h38⟩:=bor_false h36
       have h36:(ok16)=true:=bnot_false h36
       have h38:(ok19)=true:=bnot_false h38
       have h37:=of_ h37
       refine sk_ (n_ (g_ (s_ mv_ (r_ (ldN 1 [vI n15,vI n18,vI (([0,1,2]:List Int).getD ((R44.ixOf [[116,101,120,116],[110,117,109,98,101,114],[98,105,110,97,114,121]] ((rout10.drop 2).getD 0 [])).toNat) 0),vB true] ag179 sz179) (o_ (O_buildSlice (cs:=[vI n15,vI n18,vI (([0,1,2]:List Int).getD ((R44.ixOf [[116,101,120,116],[110,117,109,98,101,114],[98,105,110,97,114,121]] ((rout10.drop 2).getD 0 [])).toNat) 0),vB true]) underlying138 sz179 ze179 dd_ dd_ kf_ fun b39=>?_))))))
       refine o_ (O_append_f 5 SortField.enc 4 out [(SortField.mk n15 n18 (([0,1,2]:List Int).getD ((R44.ixOf [[116,101,120,116],[110,117,109,98,101,114],[98,105,110,97,114,121]] ((rout10.drop 2).getD 0 [])).toNat) 0) true)] underlying138 sz179 by179 ze179 rfl dd_ rfl rfl rfl rfl SortField.enc_len SortField.enc_one (cells_blk 0 (off:=0) (m:=4) rfl rfl) lt_ lt_ fun A40 c41=>?_)
       refine s_ av_ (z_ (kx_ (n_ (g_ (s_ (x_add_n (a:=k) (b:=1) rfl rfl om_) (s_ mv_ (z_ ?_)))))))
       refine JX_roundA ((k+1,out++[(SortField.mk n15 n18 (([0,1,2]:List Int).getD ((R44.ixOf [[116,101,120,116],[110,117,109,98,101,114],[98,105,110,97,114,121]] ((rout10.drop 2).getD 0 [])).toNat) 0) true)],A40,c41):Nat × (List SortField) × (OA_) × Nat) ?_ ?_ se_ (fun _ _ h=>(hB12.back _ _ h)) (fun _ h=>h.keep [F_,F_,F_,T_,T_,T_] rfl)
       ·try dsimp only
        refine ⟨?_,?_,?_⟩
        ·exact df_
        ·exact c44s2_
        ·rw [List.length_append,List.length_singleton];omega
       ·try dsimp only
        first | omega | (simp;omega) | (simp_all;omega)
     ·have h30w:=h30
      simp only [Bool.and_eq_true,Bool.or_eq_true,Bool.and_eq_false_iff,Bool.or_eq_false_iff,Bool.not_eq_true',Bool.not_eq_false',decide_eq_true_eq,decide_eq_false_iff_not] at h30
      refine sk_ (n_ (q_ (q_ (g_ (s_ mv_ (s_ (x_not rfl) (s_ mv_ ?_)))))))
      refine or_ 2 (!ok19) (fun g42=>?_) ?_
      ·have g42r:=g42
       have g42r:(ok16)=true:=bnot_false g42r
       refine sg_ g42 mv_ (sg_ g42 (x_not rfl) ?_)
       exact cr_
      refine s_ mv_ ?_
      refine or_ 3 (decide ((0:Int)<((((rout10.drop 2).drop 1).length:Nat):Int))) (fun g43=>?_) ?_
      ·have g43r:=g43
       have ⟨g43r,h44⟩:=bor_false g43r
       have g43r:(ok16)=true:=bnot_false g43r
       have h44:(ok19)=true:=bnot_false h44
       refine sg_ g43 mv_ (sg_ g43 (lnS underlying25) (sg_ g43 (x_gtr_i rfl rfl) ?_))
       exact cr_
      refine z_ (xk_ [4,5,20,21,22,13,93] ?_)
      refine n_ ?_
      refine if_ (fun h45=>?_) (fun h45=>?_)
      ·have h45w:=h45
       simp only [Bool.and_eq_true,Bool.or_eq_true,Bool.and_eq_false_iff,Bool.or_eq_false_iff,Bool.not_eq_true',Bool.not_eq_false',decide_eq_true_eq,decide_eq_false_iff_not] at h45
       refine q_ (g_ (s_ av_ (s_ av_ (z_ (n_ (rt_ (nr_ (kq_ (nr_ (JX_roundA_ret (kq_ (nr_ ?_))))))))))))
       refine JX_retsC [_,_] (Value.tuple #[_,_]) results95 (fun w h=>⟨rfl,rfl,trivial⟩) rfl [row (.slice none ([]:List SortField).length 0) 179 4 ([]:List SortField).length (([]:List SortField).flatMap SortField.enc)] (fun _ h=>(h.nilrow 179 4).keep [T_,F_,F_,F_,F_,F_] rfl) (fun _ _ h=>(hB2.back _ _ (hB12.back _ _ h))) ⟨([]:List SortField),none,0,3,?_,?_,?_⟩
       ·have e_x0:(0:Nat)=(([]:List SortField).length):=by exact df_
        exact c44s1_
       ·rfl
       ·exact c44s0_
      ·have h45w:=h45
       have ⟨h45,h46⟩:=bor_false h45
       have ⟨h45,h47⟩:=bor_false h45
       have h45:(ok16)=true:=bnot_false h45
       have h47:(ok19)=true:=bnot_false h47
       have h46:=of_ h46
       refine sk_ (n_ (g_ (s_ mv_ (r_ (ldN 1 [vI n15,vI n18,vI (([0,1,2]:List Int).getD ((R44.ixOf [[116,101,120,116],[110,117,109,98,101,114],[98,105,110,97,114,121]] ((rout10.drop 2).getD 0 [])).toNat) 0),vB false] ag179 sz179) (o_ (O_buildSlice (cs:=[vI n15,vI n18,vI (([0,1,2]:List Int).getD ((R44.ixOf [[116,101,120,116],[110,117,109,98,101,114],[98,105,110,97,114,121]] ((rout10.drop 2).getD 0 [])).toNat) 0),vB false]) underlying138 sz179 ze179 dd_ dd_ kf_ fun b48=>?_))))))
       refine o_ (O_append_f 5 SortField.enc 4 out [(SortField.mk n15 n18 (([0,1,2]:List Int).getD ((R44.ixOf [[116,101,120,116],[110,117,109,98,101,114],[98,105,110,97,114,121]] ((rout10.drop 2).getD 0 [])).toNat) 0) false)] underlying138 sz179 by179 ze179 rfl dd_ rfl rfl rfl rfl SortField.enc_len SortField.enc_one (cells_blk 0 (off:=0) (m:=4) rfl rfl) lt_ lt_ fun A49 c50=>?_)
       refine s_ av_ (z_ (kx_ (n_ (g_ (s_ (x_add_n (a:=k) (b:=1) rfl rfl om_) (s_ mv_ (z_ ?_)))))))
       refine JX_roundA ((k+1,out++[(SortField.mk n15 n18 (([0,1,2]:List Int).getD ((R44.ixOf [[116,101,120,116],[110,117,109,98,101,114],[98,105,110,97,114,121]] ((rout10.drop 2).getD 0 [])).toNat) 0) false)],A49,c50):Nat × (List SortField) × (OA_) × Nat) ?_ ?_ se_ (fun _ _ h=>(hB12.back _ _ h)) (fun _ h=>h.keep [F_,F_,F_,T_,T_,T_] rfl)
       ·try dsimp only
        refine ⟨?_,?_,?_⟩
        ·exact df_
        ·exact c44s2_
        ·rw [List.length_append,List.length_singleton];omega
       ·try dsimp only
        first | omega | (simp;omega) | (simp_all;omega)
    ·have h24w:=h24
     simp only [Bool.and_eq_true,Bool.or_eq_true,Bool.and_eq_false_iff,Bool.or_eq_false_iff,Bool.not_eq_true',Bool.not_eq_false',decide_eq_true_eq,decide_eq_false_iff_not] at h24
     refine sk_ (n_ (q_ (q_ (g_ (s_ mv_ (s_ (lnS underlying25) (s_ (x_gtr_i rfl rfl) (s_ mv_ ?_))))))))
     refine and_ 4 (decide (((rout10.drop 2).getD 0 [])=([100,101,115,99,101,110,100,105,110,103]:Bytes))) (fun g51=>?_) ?_
     ·have g51r:=g51
      have g51r:=ot_ g51r
      refine sg_ g51 mv_ (rg_ g51 (ixM (k:=0) (cells_ro hro22) underlying25 sz9) (rg_ g51 (ldM vS [] (cells_ro hro22) sc9) (jg_ g51 (vB (decide (((rout10.drop 2).getD 0 [])=([100,101,115,99,101,110,100,105,110,103]:Bytes)))) (x_eql_s rfl rfl) ?_)))
      exact cr_
     refine z_ (xk_ [4,5,20,21,22,8,10,12,13,79] ?_)
     refine n_ ?_
     refine if_ (fun h52=>?_) (fun h52=>?_)
     ·have h52w:=h52
      have ⟨h52,h53⟩:=band_true h52
      have h52:=ot_ h52
      have h53:=ot_ h53
      refine q_ (g_ (s_ (fA 3 fi179_3) (o_ (st1 0 sz4 ?_))))
      refine z_ (n_ (g_ (s_ mv_ (s_ (x_subrow (lo:=1) (hi:=(rout10.drop 2).length) rfl underlying25 sz9 (.inl rfl) (.inr ⟨rfl,rfl⟩) lt_ lt_) ?_))))
      have hro54:=RO.subM hro22 (rout10C-2) 1 (((rout10.drop 2).length)-1) lt_
      rw [show ((rout10.drop 2).length)-1=((rout10.drop 2).drop 1).length from List.length_drop.symm,List.take_length] at hro54
      refine JO_weaken (E':=[(4,vL (some ⟨b5,0,none⟩) 3 3),(5,vL outA out.length outC),(20,vL e6 ((R44.splitC 44 s).length) e7),(21,vI (((R44.splitC 44 s).length:Nat):Int)),(22,vN k),(8,vL (subA rout10A rout10C 2 1) ((rout10.drop 2).length) (rout10C-2)),(10,vB ok16),(12,vB ok19),(13,pB b21 0),(79,vB ((decide ((0:Int)<(((rout10.drop 2).length:Nat):Int)))&&(decide (((rout10.drop 2).getD 0 [])=([100,101,115,99,101,110,100,105,110,103]:Bytes))))),(80,pB b21 3),(81,vL (subA rout10A rout10C 2 1) ((rout10.drop 2).length) (rout10C-2)),(82,vL (subA (subA rout10A rout10C 2 1) (rout10C-2) 1 1) (((rout10.drop 2).drop 1).length) ((rout10C-2)-1))]) (L':=[blk b21 179 [vI n15,vI n18,vI 0,vB true],row (.slice e6 (R44.splitC 44 s).length e7) 9 1 (R44.splitC 44 s).length ((R44.splitC 44 s).map vS),blk b5 9 [vS [116,101,120,116],vS [110,117,109,98,101,114],vS [98,105,110,97,114,121]],row (.slice outA out.length outC) 179 4 out.length (out.flatMap SortField.enc)]) ⟨rfl,rfl,rfl,rfl,rfl,rfl,rfl,rfl,rfl,rfl,rfl,rfl,(congrArg (fun n:Nat=>some (Value.slice (subA (subA rout10A rout10C 2 1) (rout10C-2) 1 1) n ((rout10C-2)-1))) (by exact List.length_drop.symm)),trivial⟩ i_ ?_
      refine s_ av_ (z_ (n_ (q_ (q_ (g_ (s_ mv_ (s_ (x_not rfl) (s_ mv_ ?_))))))))
      refine or_ 2 (!ok19) (fun g55=>?_) ?_
      ·have g55r:=g55
       have g55r:(ok16)=true:=bnot_false g55r
       refine sg_ g55 mv_ (sg_ g55 (x_not rfl) ?_)
       exact cr_
      refine s_ mv_ ?_
      refine or_ 3 (decide ((0:Int)<((((rout10.drop 2).drop 1).length:Nat):Int))) (fun g56=>?_) ?_
      ·have g56r:=g56
       have ⟨g56r,h57⟩:=bor_false g56r
       have g56r:(ok16)=true:=bnot_false g56r
       have h57:(ok19)=true:=bnot_false h57
       refine sg_ g56 mv_ (sg_ g56 (lnS underlying25) (sg_ g56 (x_gtr_i rfl rfl) ?_))
       exact cr_
      refine z_ (n_ ?_)
      refine if_ (fun h58=>?_) (fun h58=>?_)
      ·have h58w:=h58
       simp only [Bool.and_eq_true,Bool.or_eq_true,Bool.and_eq_false_iff,Bool.or_eq_false_iff,Bool.not_eq_true',Bool.not_eq_false',decide_eq_true_eq,decide_eq_false_iff_not] at h58
       refine q_ (g_ (s_ av_ (s_ av_ (z_ (xk_ [4,5,20,21,22,13,2,3] ?_)))))
       refine n_ (rt_ (nr_ (kq_ (nr_ (JX_roundA_ret (kq_ (nr_ ?_)))))))
       refine JX_retsC [_,_] (Value.tuple #[_,_]) results95 (fun w h=>⟨rfl,rfl,trivial⟩) rfl [row (.slice none ([]:List SortField).length 0) 179 4 ([]:List SortField).length (([]:List SortField).flatMap SortField.enc)] (fun _ h=>(h.nilrow 179 4).keep [T_,F_,F_,F_,F_] rfl) (fun _ _ h=>(hB2.back _ _ (hB12.back _ _ h))) ⟨([]:List SortField),none,0,3,?_,?_,?_⟩
       ·have e_x0:(0:Nat)=(([]:List SortField).length):=by exact df_
        exact c44s1_
       ·rfl
       ·exact c44s0_
      ·have h58w:=h58
       have ⟨h58,h59⟩:=bor_false h58
       have ⟨h58,h60⟩:=bor_false h58
       have h58:(ok16)=true:=bnot_false h58
       have h60:(ok19)=true:=bnot_false h60
       have h59:=of_ h59
       refine sk_ (n_ (g_ (s_ mv_ (r_ (ldN 0 [vI n15,vI n18,vI 0,vB true] ag179 sz179) (o_ (O_buildSlice (cs:=[vI n15,vI n18,vI 0,vB true]) underlying138 sz179 ze179 dd_ dd_ kf_ fun b61=>?_))))))
       refine o_ (O_append_f 4 SortField.enc 4 out [(SortField.mk n15 n18 0 true)] underlying138 sz179 by179 ze179 rfl dd_ rfl rfl rfl rfl SortField.enc_len SortField.enc_one (cells_blk 0 (off:=0) (m:=4) rfl rfl) lt_ lt_ fun A62 c63=>?_)
       refine s_ av_ (z_ (kx_ (n_ (g_ (s_ (x_add_n (a:=k) (b:=1) rfl rfl om_) (s_ mv_ (z_ ?_)))))))
       refine JX_roundA ((k+1,out++[(SortField.mk n15 n18 0 true)],A62,c63):Nat × (List SortField) × (OA_) × Nat) ?_ ?_ se_ (fun _ _ h=>(hB12.back _ _ h)) (fun _ h=>h.keep [F_,F_,T_,T_,T_] rfl)
       ·try dsimp only
        refine ⟨?_,?_,?_⟩
        ·exact df_
        ·exact c44s2_
        ·rw [List.length_append,List.length_singleton];omega
       ·try dsimp only
        first | omega | (simp;omega) | (simp_all;omega)
     ·have h52w:=h52
      simp only [Bool.and_eq_true,Bool.or_eq_true,Bool.and_eq_false_iff,Bool.or_eq_false_iff,Bool.not_eq_true',Bool.not_eq_false',decide_eq_true_eq,decide_eq_false_iff_not] at h52
      refine sk_ (n_ (q_ (q_ (g_ (s_ mv_ (s_ (x_not rfl) (s_ mv_ ?_)))))))
      refine or_ 2 (!ok19) (fun g64=>?_) ?_
      ·have g64r:=g64
       have g64r:(ok16)=true:=bnot_false g64r
       refine sg_ g64 mv_ (sg_ g64 (x_not rfl) ?_)
       exact cr_
      refine s_ mv_ ?_
      refine or_ 3 (decide ((0:Int)<(((rout10.drop 2).length:Nat):Int))) (fun g65=>?_) ?_
      ·have g65r:=g65
       have ⟨g65r,h66⟩:=bor_false g65r
       have g65r:(ok16)=true:=bnot_false g65r
       have h66:(ok19)=true:=bnot_false h66
       refine sg_ g65 mv_ (sg_ g65 (lnS underlying25) (sg_ g65 (x_gtr_i rfl rfl) ?_))
       exact cr_
      refine z_ (n_ ?_)
      refine if_ (fun h67=>?_) (fun h67=>?_)
      ·have h67w:=h67
       simp only [Bool.and_eq_true,Bool.or_eq_true,Bool.and_eq_false_iff,Bool.or_eq_false_iff,Bool.not_eq_true',Bool.not_eq_false',decide_eq_true_eq,decide_eq_false_iff_not] at h67
       refine q_ (g_ (s_ av_ (s_ av_ (z_ (n_ (rt_ (nr_ (kq_ (nr_ (JX_roundA_ret (kq_ (nr_ ?_))))))))))))
       refine JX_retsC [_,_] (Value.tuple #[_,_]) results95 (fun w h=>⟨rfl,rfl,trivial⟩) rfl [row (.slice none ([]:List SortField).length 0) 179 4 ([]:List SortField).length (([]:List SortField).flatMap SortField.enc)] (fun _ h=>(h.nilrow 179 4).keep [T_,F_,F_,F_,F_] rfl) (fun _ _ h=>(hB2.back _ _ (hB12.back _ _ h))) ⟨([]:List SortField),none,0,3,?_,?_,?_⟩
       ·have e_x0:(0:Nat)=(([]:List SortField).length):=by exact df_
        exact c44s1_
       ·rfl
       ·exact c44s0_
      ·have h67w:=h67
       have ⟨h67,h68⟩:=bor_false h67
       have ⟨h67,h69⟩:=bor_false h67
       have h67:(ok16)=true:=bnot_false h67
       have h69:(ok19)=true:=bnot_false h69
       have h68:=of_ h68
       refine sk_ (n_ (g_ (s_ mv_ (r_ (ldN 0 [vI n15,vI n18,vI 0,vB false] ag179 sz179) (o_ (O_buildSlice (cs:=[vI n15,vI n18,vI 0,vB false]) underlying138 sz179 ze179 dd_ dd_ kf_ fun b70=>?_))))))
       refine o_ (O_append_f 4 SortField.enc 4 out [(SortField.mk n15 n18 0 false)] underlying138 sz179 by179 ze179 rfl dd_ rfl rfl rfl rfl SortField.enc_len SortField.enc_one (cells_blk 0 (off:=0) (m:=4) rfl rfl) lt_ lt_ fun A71 c72=>?_)
       refine s_ av_ (z_ (kx_ (n_ (g_ (s_ (x_add_n (a:=k) (b:=1) rfl rfl om_) (s_ mv_ (z_ ?_)))))))
       refine JX_roundA ((k+1,out++[(SortField.mk n15 n18 0 false)],A71,c72):Nat × (List SortField) × (OA_) × Nat) ?_ ?_ se_ (fun _ _ h=>(hB12.back _ _ h)) (fun _ h=>h.keep [F_,F_,T_,T_,T_] rfl)
       ·try dsimp only
        refine ⟨?_,?_,?_⟩
        ·exact df_
        ·exact c44s2_
        ·rw [List.length_append,List.length_singleton];omega
       ·try dsimp only
        first | omega | (simp;omega) | (simp_all;omega)
  ·refine J_exit (ne_ (re_ (kh_ (n_ (q_ ?_)))))
   refine q_ (g_ (s_ mv_ (c0 (cl_ ca137) (fun w hS=>f137_ok out outA outC w (RO.of_row hS 2 rfl) hy_) (s_ (x_not rfl) (z_ (n_ ?_))))))
   refine if_ (fun h73=>?_) (fun h73=>?_)
   ·have h73w:=h73
    have h73:(R44.valid out)=false:=bnot_true h73
    refine q_ (g_ (s_ av_ (s_ av_ (z_ (n_ (rt_ (nr_ ?_)))))))
    refine JX_retsC [_,_] (Value.tuple #[_,_]) results95 (fun w h=>⟨rfl,rfl,trivial⟩) rfl [row (.slice none ([]:List SortField).length 0) 179 4 ([]:List SortField).length (([]:List SortField).flatMap SortField.enc)] (fun _ h=>(h.nilrow 179 4).keep [T_,F_,F_,F_] rfl) (fun _ _ h=>(hB2.back _ _ h)) ⟨([]:List SortField),none,0,1,?_,?_,?_⟩
    ·have e_x0:(0:Nat)=(([]:List SortField).length):=by exact df_
     exact congrArg (fun (x0:Nat)=>Value.tuple #[vL none x0 0,vI 1]) e_x0
    ·rfl
    ·exact c44s0_
   ·have h73w:=h73
    have h73:(R44.valid out)=true:=bnot_false h73
    have hi74:=R44.valid_facts h73
    refine sk_ (n_ (q_ (g_ (s_ mv_ (s_ av_ (s_ av_ (z_ (n_ (rt_ ?_)))))))))
    refine JX_retsC [_,_] (Value.tuple #[_,_]) results95 (fun w h=>⟨rfl,rfl,trivial⟩) rfl _ (fun _ h=>h.keep [F_,F_,T_] rfl) (fun _ _ h=>(hB2.back _ _ h)) ⟨out,outA,outC,0,?_,?_,?_⟩
    ·rfl
    ·rfl
    ·exact c44s0_
theorem c44b0_ {p:Prop} (h:p:=by first | exact R44.cf_ss as_ as_ as_ | exact R44.cf_2 as_ as_ | exact R44.cf_0 as_ as_ | exact R44.cf_lt as_ as_ as_ | exact R44.cf_gt as_ as_ as_ as_ | exact R44.cf_eq as_ as_ as_ (by simp_all) | exact R44.cf_sn as_ as_ (by simp_all) | exact R44.cf_ns as_ as_ as_ | exact R44.cf_nn as_ as_ as_):p:=h
theorem c44b2_ {p:Prop} (h:p:=by first | exact R44.cmpL_hit om_ i1_1 as_ | exact R44.cmpL_end om_ i1_1):p:=h
theorem c44b3_ {p:Prop} (h:p:=by unfold R44.cmpV;first | exact (if_pos as_).symm | exact (if_neg (by simp_all)).symm):p:=h
theorem f163_ok (a:Bytes) (b:Bytes) (f:SortField) (w:World) (q0:R44.fok f=true) (q1:a.length≤1000000000) (q2:b.length≤1000000000):Calls prog 163 #[vS a,vS b,vG (SortField.enc f)] w (Gives [] w fun v L=>v=vI (R44.cmpF f a b)∧L=[]):=by
 have hff:=R44.fok_facts q0
 have hfk:=R44.fok_kind q0
 have hfm:=R44.most_le f.Kind
 refine calls_J [] 53 func163 rfl ntmps163 [(0,_),(1,_),(2,_)] rfl rfl (Give.nil w) ?_
 refine q_ (g_ (o_ (bxG fun b1=>?_)))
 refine s_ av_ (z_ (n_ (q_ ?_)))
 refine drB [] 8 mixed ?_
 refine jp_ 0 rfl mv_ (jq_ 1 rfl (ldN 0 (SortField.enc f) ag179 sz179) (jp_ 3 rfl mv_ (jq_ 4 rfl (ldN 0 (SortField.enc f) ag179 sz179) (j1_ 2 (jc0_ rfl (cl_ ca177) (fun w hS=>f177_ok a f w hy_ hy_) ?_) gm_))))
 have ha2:=R44.fld_len a f
 refine j1_ 5 (jc0_ rfl (cl_ ca177) (fun w hS=>f177_ok b f w hy_ hy_) ?_) gm_
 have ha3:=R44.fld_len b f
 refine jp_ 6 rfl av_ (jp_ 7 rfl av_ ?_)
 refine JA_done kf_ gm_ ?_
 refine n_ (q_ (q_ (g_ (s_ (fA 2 fi179_2) (r_ (ld_ 0 sc3) (z_ (n_ (k_ (q_ (g_ (s_ (x_eql_i rfl rfl) (s_ av_ (z_ (n_ ?_))))))))))))))
 refine ifd (fun h4w h4=>?_) (fun h4w h4=>?_)
 ·refine q_ (g_ (s_ mv_ (c0 (cl_ ca178) (fun w hS=>f178_ok _ w hy_) (s_ mv_ (s_ (ex_ 0) (s_ (ex_ 1) (s_ av_ (s_ av_ (z_ (xk_ [0,1,6,7,8] ?_))))))))))
  refine n_ (q_ (g_ (s_ mv_ (c0 (cl_ ca178) (fun w hS=>f178_ok _ w hy_) (s_ mv_ (s_ (ex_ 0) (s_ (ex_ 1) (s_ av_ (s_ av_ (z_ (n_ (q_ (k_ (q_ (g_ (s_ mv_ ?_))))))))))))))))
  refine s_ mv_ ?_
  refine and_ 1 ((R44.dec (R44.fld b f)).isSome) (fun g5=>?_) ?_
  ·have g5r:=g5
   refine sg_ g5 mv_ ?_
   exact cr_
  refine s_ av_ (z_ (n_ ?_))
  refine if_ (fun h6=>?_) (fun h6=>?_)
  ·have ⟨h6,h7⟩:=band_true h6
   refine q_ (g_ (s_ mv_ (s_ mv_ (c0 (cl_ ca179) (fun w hS=>f179_ok _ _ w) ?_))))
   have ha8:=R44.cmpI_bd ((R44.dec (R44.fld a f)).getD 0) ((R44.dec (R44.fld b f)).getD 0)
   refine s_ av_ (z_ (n_ (rt_ (kq_ (nr_ (kq_ (nr_ ?_)))))))
   exact p1 results163 rfl ⟨(eI c44b0_),rfl⟩
  ·simp only [Bool.and_eq_true,Bool.or_eq_true,Bool.and_eq_false_iff,Bool.or_eq_false_iff,Bool.not_eq_true',Bool.not_eq_false',decide_eq_true_eq,decide_eq_false_iff_not] at h6
   refine q_ (g_ (s_ mv_ (s_ av_ (z_ (n_ ?_)))))
   refine if_ (fun h9=>?_) (fun h9=>?_)
   ·refine q_ (g_ (s_ av_ (z_ (n_ (rt_ (kq_ (nr_ (kq_ (nr_ ?_)))))))))
    exact p1 results163 rfl ⟨(eI c44b0_),rfl⟩
   ·refine q_ (g_ (s_ mv_ (s_ av_ (z_ (n_ ?_)))))
    refine if_ (fun h10=>?_) (fun h10=>?_)
    ·refine q_ (g_ (s_ av_ (z_ (n_ (rt_ (kq_ (nr_ (kq_ (nr_ ?_)))))))))
     exact p1 results163 rfl ⟨(eI c44b0_),rfl⟩
    ·refine sk_ (kx_ (n_ (q_ (g_ (s_ av_ (z_ (n_ (rt_ (kq_ (nr_ ?_))))))))))
     exact p1 results163 rfl ⟨(eI c44b0_),rfl⟩
 ·refine q_ (g_ (s_ (x_eql_i rfl rfl) (s_ av_ (z_ (n_ ?_)))))
  refine ifd (fun h11w h11=>?_) (fun h11w h11=>?_)
  ·refine q_ (g_ (s_ mv_ (c0 (cl_ ca180) (fun w hS=>f180_ok _ w hy_ hy_) (s_ mv_ (c0 (cl_ ca180) (fun w hS=>f180_ok _ w hy_ hy_) (c0 (cl_ ca179) (fun w hS=>f179_ok _ _ w) ?_))))))
   have ha12:=R44.cmpI_bd (R44.bin (R44.fld a f)) (R44.bin (R44.fld b f))
   refine s_ av_ (z_ (xk_ [0,1,6] ?_))
   refine n_ (rt_ (kq_ (nr_ ?_)))
   exact p1 results163 rfl ⟨(eI c44b0_),rfl⟩
  ·refine sk_ (kx_ (n_ (q_ (g_ (s_ mv_ (s_ mv_ (c0 (cl_ ca181) (fun w hS=>scmp_ok _ _ w) ?_)))))))
   have ha13:=R44.cmpS_tri (R44.fld a f) (R44.fld b f)
   refine s_ av_ (z_ (n_ (rt_ ?_)))
   exact p1 results163 rfl ⟨(eI c44b0_),rfl⟩
theorem f138_ok (a:Bytes) (b:Bytes) (l:List SortField) (lA:OA_) (lC:Nat) (w:World) (lR:RO [] w lA (l.flatMap SortField.enc)) (q0:R44.valid l=true) (q1:a.length≤1000000000) (q2:b.length≤1000000000):Calls prog 138 #[vS a,vS b,vL lA l.length lC] w (Gives [] w fun v L=>v=vI (R44.cmpL l a b)∧L=[]):=by
 have hv0:=R44.valid_facts q0
 refine calls_J [] 28 func138 rfl ntmps138 [(0,_),(1,_),(2,_)] rfl rfl (Give.nil w) ?_
 refine q_ (g_ (s_ av_ (z_ (n_ (q_ (q_ (g_ (s_ mv_ (s_ (lnS underlying138) (s_ mv_ (z_ (n_ (k_ ?_)))))))))))))
 refine J_loop (X:=Nat) (fun (k:Nat)=>(k≤l.length)∧(R44.cmpL (l.drop k) a b=R44.cmpL l a b)) (fun (k:Nat)=>[(0,vS a),(1,vS b),(10,vL lA l.length lC),(11,vN l.length),(12,vN k)]) (fun (k:Nat)=>[]) (fun (k:Nat)=>l.length-k) (0:Nat) ?_ se_ i_ ?_
 ·try dsimp only
  refine ⟨?_,?_⟩
  ·exact df_
  ·rfl
 intro k hI1
 obtain ⟨i1_0,i1_1⟩:=hI1
 try dsimp only at i1_0
 try dsimp only at i1_1
 have hfo:=hv0.2 k
 have hbd:=R44.cmpF_bd (l.getD k default) a b
 try dsimp only
 refine q_ (g_ (s_ (x_lss_i rfl rfl) (z_ (n_ (q_ ?_)))))
 refine ifd (fun h1w h1=>?_) (fun h1w h1=>?_)
 ·refine sk_ (n_ (q_ (k_ (q_ (g_ (r_ (ixF SortField.enc_len (cells_ro lR) underlying138 sz179) (r_ (ldFN SortField.enc_len (cells_ro lR) ag179 sz179) (o_ (al_ ze179 fun b2=>?_)))))))))
  refine o_ (stG 0 sz179 ?_)
  refine z_ (n_ (q_ (g_ (s_ mv_ (s_ mv_ (r_ (ldN 0 (SortField.enc (l.getD k default)) ag179 sz179) (c0 (cl_ ca163) (fun w hS=>f163_ok a b _ w hy_ hy_ hy_) ?_)))))))
  have ha3:=R44.cmpF_bd (l.getD k default) a b
  refine s_ av_ (z_ (n_ (q_ (q_ (g_ (s_ (fA 3 fi179_3) (r_ (ld_ 0 sc4) (z_ (n_ ?_)))))))))
  refine J_cutK (X:=Int) (fun (m4:Int)=>m4=(if ((l.getD k default).Descending)=true then -(R44.cmpF (l.getD k default) a b) else R44.cmpF (l.getD k default) a b)) (fun (m4:Int)=>[(0,vS a),(1,vS b),(10,vL lA l.length lC),(11,vN l.length),(12,vN k),(9,vI m4)]) (fun (m4:Int)=>[blk b2 179 (SortField.enc (l.getD k default))]) ?_ ?_
  ·refine if_ (fun h5=>?_) (fun h5=>?_)
   ·have h5r:=h5
    have h5:(((l.getD k default).Descending)=true):=by exact h5
    refine g_ (s_ mv_ (s_ (x_neg_i (a:=R44.cmpF (l.getD k default) a b) rfl om_ om_) (s_ av_ (z_ ?_))))
    exact JX_cut (-(R44.cmpF (l.getD k default) a b)) (if_pos h5).symm se_ i_
   ·have h5r:=h5
    have h5:¬ (((l.getD k default).Descending)=true):=by simp only [h5];decide
    refine sk_ ?_
    exact JX_cut (R44.cmpF (l.getD k default) a b) (if_neg h5).symm se_ i_
  rintro m4 rfl
  refine n_ (q_ (g_ (s_ mv_ (s_ (x_neq_i rfl rfl) (z_ (n_ ?_))))))
  refine ifd (fun h6w h6=>?_) (fun h6w h6=>?_)
  ·refine q_ (g_ (s_ mv_ (s_ av_ (z_ (n_ (rt_ (kq_ (nr_ (rr_ (kq_ (nr_ ?_)))))))))))
   exact p1 results138 rfl ⟨(eI c44b2_),rfl⟩
  ·refine sk_ (kx_ (n_ (g_ (s_ (x_add_n (a:=k) (b:=1) rfl rfl om_) (s_ mv_ (z_ ?_))))))
   refine JX_round (k+1:Nat) ?_ ?_ se_ (fun _ h=>h.keep [F_] rfl)
   ·try dsimp only
    refine ⟨?_,?_⟩
    ·exact df_
    ·exact R44.cmpL_go om_ i1_1 (Decidable.not_not.1 as_)
   ·try dsimp only
    first | omega | (simp;omega) | (simp_all;omega)
 ·refine J_exit (ne_ (re_ (kh_ (n_ (q_ ?_)))))
  refine g_ (s_ av_ (z_ (n_ (rt_ ?_))))
  exact p1 results138 rfl ⟨(eI c44b2_),rfl⟩
theorem f99_ok (a:Bytes) (b:Bytes) (l:List SortField) (lA:OA_) (lC:Nat) (w:World) (lR:RO [] w lA (l.flatMap SortField.enc)) (q0:l.length≤9223372036854775807) (q1:a.length≤1000000000) (q2:b.length≤1000000000):Calls prog 99 #[vS a,vS b,vL lA l.length lC] w (Gives [] w fun v L=>v=vI (R44.cmpV l a b)∧L=[]):=by
 refine calls_J [] 14 func99 rfl ntmps99 [(0,_),(1,_),(2,_)] rfl rfl (Give.nil w) ?_
 refine q_ (g_ (s_ av_ (z_ (n_ (q_ (q_ (g_ (s_ mv_ (c0 (cl_ ca137) (fun w hS=>f137_ok l lA lC w (rno lR hS) hy_) (s_ (x_not rfl) (z_ (n_ ?_))))))))))))
 refine if_ (fun h1=>?_) (fun h1=>?_)
 ·have h1:(R44.valid l)=false:=bnot_true h1
  refine q_ (g_ (s_ av_ (z_ (n_ (rt_ (nr_ ?_))))))
  exact p1 results99 rfl ⟨(eI c44b3_),rfl⟩
 ·have h1:(R44.valid l)=true:=bnot_false h1
  have hi2:=R44.valid_facts h1
  refine sk_ (n_ (q_ (g_ (s_ mv_ (s_ mv_ (s_ mv_ (c0 (cl_ ca138) (fun w hS=>f138_ok a b l lA lC w (rno lR hS) hy_ hy_ hy_) ?_)))))))
  have ha3:=R44.cmpL_bd l a b
  refine s_ av_ (z_ (n_ (rt_ ?_)))
  exact p1 results99 rfl ⟨(eI c44b3_),rfl⟩
end Go.Proofs.YtggobegaiijhhaaGreatDoor
