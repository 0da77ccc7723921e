/- Pl45q, C45t, C45e in one text. -/
import Derived.Test.YtggobegaiijhhaaGreatDoorUtilityOnly34
set_option linter.unusedVariables false
set_option linter.unusedSimpArgs false
set_option maxRecDepth 20000
namespace Go.GV
theorem GivesE.imp {S:List Nat} {w:World} {φ φ':Value→List Ent→Prop} {π π':List PanicEntry→List Ent→Prop} {e:Ending} {w':World} (h:GivesE S w φ π e w') (h1:∀ v L,φ v L→φ' v L) (h2:∀ c L,π c L→π' c L):GivesE S w φ' π' e w':=by
  cases e with
  | returned v=>obtain ⟨L',h,k⟩:=h;exact ⟨L',h1 _ _ h,k⟩
  | panicked c=>obtain ⟨L',h,k⟩:=h;exact ⟨L',h2 _ _ h,k⟩
  | outgrown=>exact h
end Go.GV
namespace Go.Proofs.YtggobegaiijhhaaGreatDoor
open Go.GV
namespace R45
theorem only_t {l:List Binding} {fd:Bool} {cd:Int} {ch:List Change} {ln:List Bytes} (h:RunR (fun cd ch _=>OnlyF l cd ch) True fd cd ch ln) (hf:fd=true):cd=0∧ch.length=0∧ln.length=1:=by
  rcases h with ⟨h,_⟩ | ⟨_,h1,rfl,_,rfl,_⟩
  · rw [h] at hf;cases hf
  · exact ⟨h1,rfl,rfl⟩
theorem only_f {l:List Binding} {fd:Bool} {cd:Int} {ch:List Change} {ln:List Bytes} (h:RunR (fun cd ch _=>OnlyF l cd ch) True fd cd ch ln) (hf:fd=false):OnlyF l cd ch:=by
  rcases h with ⟨_,h⟩ | ⟨h,_⟩
  · exact h
  · rw [h] at hf;cases hf
theorem only_at {l:List Binding} {cd:Int} {ch:List Change} {j:Nat} (h:OnlyF l cd ch) (hj:j<ch.length):(ch.getD j default).Volume=[]∧(ch.getD j default).Kind≤3∧0≤findI OUT l∧(ch.getD j default).Id=(setV (bd l OUT)).Id:=h.2.2.2 _ (getD_mem hj)
theorem id_new {l:List Binding} {k:Nat} (h:(k:Int)=findI OUT l) (hc:(l.getD k default).Create=true):(setV (bd l OUT)).Id=(l.getD k default).Set.Id:=by
  unfold bd;rw [← h,Int.toNat_natCast,← set_t hc]
theorem id_old {l:List Binding} {k:Nat} (h:(k:Int)=findI OUT l) (hc:(l.getD k default).Create=false):(setV (bd l OUT)).Id=(l.getD k default).EData.Id:=by
  unfold bd;rw [← h,Int.toNat_natCast,← set_f hc]
theorem only_bad {l:List Binding} {cd:Int} {ch:List Change} {j:Nat} {id:Int} (h:OnlyF l cd ch) (hj:j<ch.length) (hid:0≤findI OUT l→(setV (bd l OUT)).Id=id) (hb:((decide ((ch.getD j default).Id≠id)||decide ((ch.getD j default).Volume≠([]:Bytes)))||decide ((3:Int)<(ch.getD j default).Kind))=true):False:=by
  obtain ⟨h1,h2,h3,h4⟩:=only_at h hj
  rw [hid h3] at h4
  simp only [h1,h4,Bool.or_eq_true,decide_eq_true_eq,ne_eq,not_true_eq_false,false_or] at hb
  omega
theorem find_no {l:List Binding} (h:(-1:Int)=findI OUT l):¬ 0≤findI OUT l:=by omega
end R45
end Go.Proofs.YtggobegaiijhhaaGreatDoor
namespace Go.Proofs.YtggobegaiijhhaaGreatDoor
open Go.GV Go.Proofs.Tryz Ty
open Go.GV.Ent (blk row mp)
theorem perf_none (x:Nat) (s:Nat) (parm:Bytes) (m:Nat) (rows:List SRow) (rowsA:OA_) (rowsC:Nat) (calls:Nat) (l:List Binding) (lA:OA_) (lC:Nat) (name:Bytes) (w:World) (rowsR:RO [x,m,s] w rowsA (rows.flatMap SRow.enc)) (lR:RO [x,m,s] w lA (l.flatMap Binding.enc)) (lN:Kp [x,m,s] w (okL Binding.ok l)) (hT:Tab [x,m,s] w) (q0:name≠[97,98,101,110,100]) (q1:name≠[99,111,100,101]) (q2:name≠[99,111,109,112,97,114,101]) (q3:name≠[99,111,112,121]) (q4:name≠[99,111,117,110,116]) (q5:name≠[101,114,97,115,101]) (q6:name≠[103,101,110,101,114,97,116,101]) (q7:name≠[109,101,114,103,101]) (q8:name≠[112,114,105,110,116]) (q9:name≠[115,101,108,101,99,116]) (q10:name≠[115,111,114,116]) (hg:Give [x,m,s] w [x0_ x s parm m,mp vS m ([]:List (Bytes × Value)),sH_ s rowsA rows.length rowsC calls]):Calls prog 27 #[pB x 0,vS name,vL lA l.length lC] w (GivesE [x,m,s] w (fun v L=>False) (fun c L=>∃ line:Bytes,c=R45.pan line∧L=[]∧(True))):=by
 refine calls_JE [x,m,s] 110 func27 rfl ntmps27 [(0,_),(1,_),(2,_)] rfl rfl hg ?_
 refine q_ (g_ ?_)
 refine c1 (cl_ ca32) (fun w hS=>f32_ok w) ?_
 rintro _ _ ⟨pm1,tb2,rfl,rfl⟩
 refine s_ mv_ ?_
 refine JO_read (Value.tuple #[Value.nilFunc,vB false]) rfl trivial (x_lookup_ok 0 (f:=vS) (k:=name) rfl rfl rfl underlying89 (mapK_s underlying9) ze90 (lk_ne as_ (lk_ne as_ (lk_ne as_ (lk_ne as_ (lk_ne as_ (lk_ne as_ (lk_ne as_ (lk_ne as_ (lk_ne as_ (lk_ne as_ (lk_ne as_ lk_nil)))))))))))) ?_
 refine s_ mv_ (s_ (ex_ 0) (s_ (ex_ 1) (s_ av_ (s_ av_ (z_ (n_ (q_ (g_ (s_ mv_ ?_)))))))))
 refine JO_callP [] [] [mp vS pm1 [([97,98,101,110,100],(fC_ 44 tb2)),([99,111,100,101],(fN_ 47)),([99,111,109,112,97,114,101],(fC_ 51 tb2)),([99,111,112,121],(fC_ 54 tb2)),([99,111,117,110,116],(fC_ 57 tb2)),([101,114,97,115,101],(fC_ 61 tb2)),([103,101,110,101,114,97,116,101],(fN_ 64)),([109,101,114,103,101],(fN_ 65)),([112,114,105,110,116],(fC_ 66 tb2)),([115,101,108,101,99,116],(fN_ 69)),([115,111,114,116],(fN_ 70))],blk tb2 94 [(fN_ 43)],x0_ x s parm m,mp vS m ([]:List (Bytes × Value)),sH_ s rowsA rows.length rowsC calls] rfl trivial (fun _=>x_call ca33 rfl) i_ (fun _ h=>by cases h) (fun w hS=>f33_ok _ [110,111,32,112,114,111,103,114,97,109] w) ?_ ?_
 ·rintro _ _ ⟨rfl,rfl,hp3⟩
  refine JX_then_pan ?_
  refine JX_pan [] (fun _ h=>h.keep [F_,F_,F_,F_,F_] rfl) (fun _ _ h=>h) ⟨[110,111,32,112,114,111,103,114,97,109],rfl,?_,?_⟩
  ·rfl
  ·trivial
 rintro _ _ ⟨rfl,rfl,hf4⟩
 exact absurd hf4 dd_
theorem run_any (s:Nat) (name:Bytes) (parm:Bytes) (rows:List SRow) (rowsA:OA_) (rowsC:Nat) (calls:Nat) (l:List Binding) (lA:OA_) (lC:Nat) (w:World) (rowsR:RO [s] w rowsA (rows.flatMap SRow.enc)) (lR:RO [s] w lA (l.flatMap Binding.enc)) (lN:Kp [s] w (okL Binding.ok l)) (hT:Tab [s] w) (q0:rows.length≤500) (q1:calls≤890000) (q2:R45.Dist rows) (q3:∀ x∈rows,x.Key.length≤1000000) (q4:∀ x∈rows,x.Record.length≤1000000) (q5:parm.length≤1000) (q6:l.length≤1000) (q7:∀ i,(l.getD i default).Lines.length≤500) (q8:∀ i j,((l.getD i default).Lines.getD j []).length≤1000000) (hg:Give [s] w [sH_ s rowsA rows.length rowsC calls]):Calls prog 15 #[Value.iface 41 (pB s 0),vS name,vS parm,vL lA l.length lC] w (Gives [s] w fun v L=>∃ cd:Int,∃ fd:Bool,∃ ch:List Change,∃ chA:OA_,∃ chC:Nat,∃ ln:LB_,∃ lnA:OA_,∃ lnC:Nat,v=Value.tuple #[vG [vI cd,vB fd,vL chA ch.length chC,vL lnA ln.length lnC],vI 0]∧L=[row (.slice chA ch.length chC) 60 5 ch.length (ch.flatMap Change.enc),row (.slice lnA ln.length lnC) 9 1 ln.length (ln.map vS)]∧(R45.RunR (fun cd ch _=>R45.OnlyF l cd ch) True fd cd ch ln)):=by
 refine run_ok (s:=s) (name:=name) (parm:=parm) (rows:=rows) (rowsA:=rowsA) (rowsC:=rowsC) (calls:=calls) (l:=l) (lA:=lA) (lC:=lC) (Φ:=fun cd ch _=>R45.OnlyF l cd ch) (Ψ:=fun _=>True) (w:=w) (rowsR:=rowsR) (lR:=lR) (lN:=lN) (hT:=hT) (hP:=?_) (hg:=hg)
 ·intro x m w rowsR lR lN hT hg
  by_cases h0:name=[97,98,101,110,100]
  ·subst h0;exact perf_abend (x:=x) (s:=s) (parm:=parm) (m:=m) (rows:=rows) (rowsA:=rowsA) (rowsC:=rowsC) (calls:=calls) (l:=l) (lA:=lA) (lC:=lC) (w:=w) rowsR lR lN hT (Nat.le_trans q0 dd_) q1 q2 q3 q4 q5 q6 (fun i=>Nat.le_trans (q7 i) dd_) q8 hg
  by_cases h1:name=[99,111,100,101]
  ·subst h1;exact perf_code (x:=x) (s:=s) (parm:=parm) (m:=m) (rows:=rows) (rowsA:=rowsA) (rowsC:=rowsC) (calls:=calls) (l:=l) (lA:=lA) (lC:=lC) (w:=w) rowsR lR lN hT (Nat.le_trans q0 dd_) q1 q2 q3 q4 q5 q6 (fun i=>Nat.le_trans (q7 i) dd_) q8 hg
  by_cases h2:name=[99,111,109,112,97,114,101]
  ·subst h2;exact (perf_compare (x:=x) (s:=s) (parm:=parm) (m:=m) (rows:=rows) (rowsA:=rowsA) (rowsC:=rowsC) (calls:=calls) (l:=l) (lA:=lA) (lC:=lC) (w:=w) rowsR lR lN hT (Nat.le_trans q0 dd_) q1 q2 q3 q5 q6 (fun i=>Nat.le_trans (q7 i) dd_) hg).mono fun e w2 h=>GivesE.imp h (fun v L h=>by obtain ⟨cd,ch,chA,chC,ln,lnA,lnC,h1,h2,hf⟩:=h;exact ⟨cd,ch,chA,chC,ln,lnA,lnC,h1,h2,R45.only_cmp hf⟩) (fun c L h=>by obtain ⟨line,h1,h2,_⟩:=h;exact ⟨line,h1,h2,trivial⟩)
  by_cases h3:name=[99,111,112,121]
  ·subst h3;exact (perf_copy (x:=x) (s:=s) (parm:=parm) (m:=m) (rows:=rows) (rowsA:=rowsA) (rowsC:=rowsC) (calls:=calls) (l:=l) (lA:=lA) (lC:=lC) (w:=w) rowsR lR lN hT (Nat.le_trans q0 dd_) q1 q2 q3 q4 q5 q6 (fun i=>Nat.le_trans (q7 i) dd_) q8 hg).mono fun e w2 h=>GivesE.imp h (fun v L h=>by obtain ⟨cd,ch,chA,chC,ln,lnA,lnC,h1,h2,hf⟩:=h;exact ⟨cd,ch,chA,chC,ln,lnA,lnC,h1,h2,R45.only_cpy hf⟩) (fun c L h=>by obtain ⟨line,h1,h2,_⟩:=h;exact ⟨line,h1,h2,trivial⟩)
  by_cases h4:name=[99,111,117,110,116]
  ·subst h4;exact perf_count (x:=x) (s:=s) (parm:=parm) (m:=m) (rows:=rows) (rowsA:=rowsA) (rowsC:=rowsC) (calls:=calls) (l:=l) (lA:=lA) (lC:=lC) (w:=w) rowsR lR lN hT (Nat.le_trans q0 dd_) q1 q2 q3 q4 q5 q6 (fun i=>Nat.le_trans (q7 i) dd_) q8 hg
  by_cases h5:name=[101,114,97,115,101]
  ·subst h5;exact perf_erase (x:=x) (s:=s) (parm:=parm) (m:=m) (rows:=rows) (rowsA:=rowsA) (rowsC:=rowsC) (calls:=calls) (l:=l) (lA:=lA) (lC:=lC) (w:=w) rowsR lR lN hT (Nat.le_trans q0 dd_) q1 q2 q3 q4 q5 q6 (fun i=>Nat.le_trans (q7 i) dd_) q8 hg
  by_cases h6:name=[103,101,110,101,114,97,116,101]
  ·subst h6;exact (perf_generate (x:=x) (s:=s) (parm:=parm) (m:=m) (rows:=rows) (rowsA:=rowsA) (rowsC:=rowsC) (calls:=calls) (l:=l) (lA:=lA) (lC:=lC) (w:=w) rowsR lR lN hT (Nat.le_trans q0 dd_) q1 q2 q3 q4 q5 q6 (fun i=>Nat.le_trans (q7 i) dd_) q8 hg).mono fun e w2 h=>GivesE.imp h (fun v L h=>by obtain ⟨cd,ch,chA,chC,ln,lnA,lnC,h1,h2,hf⟩:=h;exact ⟨cd,ch,chA,chC,ln,lnA,lnC,h1,h2,R45.only_gen hf⟩) (fun c L h=>by obtain ⟨line,h1,h2,_⟩:=h;exact ⟨line,h1,h2,trivial⟩)
  by_cases h7:name=[109,101,114,103,101]
  ·subst h7;exact (perf_merge (x:=x) (s:=s) (parm:=parm) (m:=m) (rows:=rows) (rowsA:=rowsA) (rowsC:=rowsC) (calls:=calls) (l:=l) (lA:=lA) (lC:=lC) (w:=w) rowsR lR lN hT q0 q1 q2 q3 q4 q5 q6 q7 q8 hg).mono fun e w2 h=>GivesE.imp h (fun v L h=>by obtain ⟨cd,ch,chA,chC,ln,lnA,lnC,h1,h2,hf⟩:=h;exact ⟨cd,ch,chA,chC,ln,lnA,lnC,h1,h2,R45.only_mrg hf⟩) (fun c L h=>by obtain ⟨line,h1,h2,_⟩:=h;exact ⟨line,h1,h2,trivial⟩)
  by_cases h8:name=[112,114,105,110,116]
  ·subst h8;exact perf_print (x:=x) (s:=s) (parm:=parm) (m:=m) (rows:=rows) (rowsA:=rowsA) (rowsC:=rowsC) (calls:=calls) (l:=l) (lA:=lA) (lC:=lC) (w:=w) rowsR lR lN hT (Nat.le_trans q0 dd_) q1 q2 q3 q4 q5 q6 (fun i=>Nat.le_trans (q7 i) dd_) q8 hg
  by_cases h9:name=[115,101,108,101,99,116]
  ·subst h9;exact perf_select (x:=x) (s:=s) (parm:=parm) (m:=m) (rows:=rows) (rowsA:=rowsA) (rowsC:=rowsC) (calls:=calls) (l:=l) (lA:=lA) (lC:=lC) (w:=w) rowsR lR lN hT (Nat.le_trans q0 dd_) q1 q2 q3 q4 q5 q6 (fun i=>Nat.le_trans (q7 i) dd_) q8 hg
  by_cases h10:name=[115,111,114,116]
  ·subst h10;exact (perf_sort (x:=x) (s:=s) (parm:=parm) (m:=m) (rows:=rows) (rowsA:=rowsA) (rowsC:=rowsC) (calls:=calls) (l:=l) (lA:=lA) (lC:=lC) (w:=w) rowsR lR lN hT (Nat.le_trans q0 dd_) q1 q2 q3 q4 q5 q6 (fun i=>Nat.le_trans (q7 i) dd_) q8 hg).mono fun e w2 h=>GivesE.imp h (fun v L h=>by obtain ⟨cd,ch,chA,chC,ln,lnA,lnC,h1,h2,hf⟩:=h;exact ⟨cd,ch,chA,chC,ln,lnA,lnC,h1,h2,R45.only_srt hf⟩) (fun c L h=>by obtain ⟨line,h1,h2,_⟩:=h;exact ⟨line,h1,h2,trivial⟩)
  exact (perf_none (x:=x) (s:=s) (parm:=parm) (m:=m) (rows:=rows) (rowsA:=rowsA) (rowsC:=rowsC) (calls:=calls) (l:=l) (lA:=lA) (lC:=lC) (name:=name) (w:=w) rowsR lR lN hT h0 h1 h2 h3 h4 h5 h6 h7 h8 h9 h10 hg).mono fun e w2 h=>GivesE.imp h (fun _ _ h=>h.elim) (fun _ _ h=>h)
theorem c45e0_ {p:Prop} (h:p:=by first | rfl | (obtain ⟨h1,h2,h3,_⟩:=R45.only_f as_ as_;simp only [Bool.and_eq_true,decide_eq_true_eq];omega) | (obtain ⟨h1,h2,h3⟩:=R45.only_t as_ as_;simp only [Bool.and_eq_true,decide_eq_true_eq];omega)):p:=h
theorem c45e2_ {p:Prop} (h:p:=by first | exact fun _=>R45.id_new (i1_1.hit om_ as_) as_ | exact fun _=>R45.id_old (i1_1.hit om_ as_) as_ | exact fun h0=>absurd h0 (R45.find_no (i1_1.done om_))):p:=h
set_option maxHeartbeats 1000000 in
theorem f7_ok (rows:List SRow) (rowsA:OA_) (rowsC:Nat) (program:Bytes) (parm:Bytes) (l:List Binding) (lA:OA_) (lC:Nat) (w:World) (rowsR:RO [] w rowsA (rows.flatMap SRow.enc)) (lR:RO [] w lA (l.flatMap Binding.enc)) (lN:Kp [] w (okL Binding.ok l)) (hT:Tab [] w) (q0:rows.length≤9223372036854775807) (q1:l.length≤9223372036854775807) (q2:∀ i,(l.getD i default).Lines.length≤9223372036854775807) (q3:program.length≤9223372036854775807) (q4:parm.length≤9223372036854775807):Calls prog 7 #[vL rowsA rows.length rowsC,vS program,vS parm,vL lA l.length lC] w (Gives [] w fun v L=>v=vB true∧L=[]):=by
 refine calls_J [] 119 func7 rfl ntmps7 [(0,_),(1,_),(2,_),(3,_)] rfl rfl (Give.nil w) ?_
 refine q_ (g_ (s_ av_ (z_ (n_ (q_ (q_ (g_ (c0 (cl_ ca8) (fun w hS=>f8_ok w (hT.on hS (fun _ h=>by cases h))) (jr_ (vB false) (z_ (n_ (iff_ (sk_ (n_ (q_ (q_ (g_ (s_ mv_ (s_ mv_ ?_)))))))))))))))))))
 refine c1 (cl_ ca9) (fun w hS=>f9_ok rows _ _ l lA lC w (rno rowsR hS) (rno lR hS) (lN.on0 hS) hy_ hy_ hy_) ?_
 rintro _ _ ⟨z1,rfl,rfl,hf2⟩
 refine s_ (x_not rfl) (s_ mv_ ?_)
 refine or_ 3 (decide ((60:Int)<((program.length:Nat):Int))) (fun g3=>?_) ?_
 ·have g3r:=g3
  have g3r:(z1)=true:=bnot_false g3r
  refine sg_ g3 mv_ (sg_ g3 (x_len_s rfl underlying9) (sg_ g3 (x_gtr_i rfl rfl) ?_))
  exact cr_
 refine s_ mv_ ?_
 refine or_ 3 (decide ((100:Int)<((parm.length:Nat):Int))) (fun g4=>?_) ?_
 ·have g4r:=g4
  have ⟨g4r,h5⟩:=bor_false g4r
  have g4r:(z1)=true:=bnot_false g4r
  have h5:=of_ h5
  refine sg_ g4 mv_ (sg_ g4 (x_len_s rfl underlying9) (sg_ g4 (x_gtr_i rfl rfl) ?_))
  exact cr_
 refine z_ (n_ ?_)
 refine if_ (fun h6=>?_) (fun h6=>?_)
 ·have h6w:=h6
  simp only [Bool.and_eq_true,Bool.or_eq_true,Bool.and_eq_false_iff,Bool.or_eq_false_iff,Bool.not_eq_true',Bool.not_eq_false',decide_eq_true_eq,decide_eq_false_iff_not] at h6
  refine q_ (g_ (s_ av_ (z_ (n_ (rt_ (nr_ ?_))))))
  exact p1 results7 rfl ⟨rfl,rfl⟩
 ·have h6w:=h6
  have ⟨h6,h7⟩:=bor_false h6
  have ⟨h6,h8⟩:=bor_false h6
  have h6:(z1)=true:=bnot_false h6
  have h8:=of_ h8
  have h7:=of_ h7
  refine sk_ (n_ (q_ (g_ (s_ mv_ ?_))))
  refine c1 (cl_ ca10) (fun w hS=>f10_ok rows _ _ w (rno rowsR hS) (by have:=(R45.few_use as_ as_).1.1;omega)) ?_
  rintro _ _ ⟨out9,outA10,outC11,rfl,rfl,hf12⟩
  have ha13:=(R45.dist_use as_)
  have ha14:=(R45.few_use as_ as_).1
  have ha15:=(R45.few_use as_ as_).2
  refine s_ av_ (z_ (n_ (q_ (g_ (s_ mv_ ?_)))))
  refine c1 (cl_ ca12) (fun w hS=>f12_ok out9 _ _ w (RO.of_row hS 0 rfl)) ?_
  rintro _ _ ⟨s16,rfl,rfl⟩
  refine js_ (Value.iface 41 (pB s16 0)) (x_iface rfl kf_) (s_ mv_ (s_ mv_ (s_ mv_ ?_)))
  refine JO_call [s16] [blk s16 52 [vL outA10 out9.length outC11,vI 0,vI 0,vN 0]] [row (.slice outA10 out9.length outC11) 57 3 out9.length (out9.flatMap SRow.enc)] rfl trivial (fun _=>x_call ca15 rfl) i_ (own_mem rfl) (fun w hS=>run_any s16 program parm out9 outA10 outC11 0 l lA lC w (RO.of_rowS hS (own_mem rfl) 0 rfl) (lR.on hS (own_mem rfl)) (lN.on hS (own_mem rfl)) (hT.on hS (own_mem rfl)) om_ hy_ (by exact (R45.dist_use as_).1) (by exact fun x hx=>Nat.le_trans ((R45.few_use as_ as_).1.2 x ((R45.dist_use as_).2.2 x hx)).1 dd_) (by exact fun x hx=>Nat.le_trans ((R45.few_use as_ as_).1.2 x ((R45.dist_use as_).2.2 x hx)).2 dd_) hy_ (by have:=(R45.few_use as_ as_).2.1;omega) (by exact fun i=>Nat.le_trans ((R45.few_use as_ as_).2.2 i).1 dd_) (by exact fun i j=>Nat.le_trans (((R45.few_use as_ as_).2.2 i).2.2 j) dd_) (hS.give (own_in rfl))) ?_
  rintro _ _ ⟨cd17,fd18,ch19,chA20,chC21,ln22,lnA23,lnC24,rfl,rfl,hf25⟩
  refine s_ mv_ (s_ (ex_ 0) (s_ (ex_ 1) (o_ (al_ ze48 fun b26=>?_))))
  refine o_ (stG 0 sz48 ?_)
  refine s_ av_ (z_ (xk_ [3,8,9,10] ?_))
  refine n_ (q_ (q_ (g_ (s_ mv_ (jr_ (vB false) (z_ (n_ (iff_ (sk_ (n_ (q_ (q_ (g_ (s_ (fA 1 fi48_1) (r_ (ld_ 0 sc4) (z_ (n_ ?_)))))))))))))))))
  refine if_ (fun h27=>?_) (fun h27=>?_)
  ·have h27w:=h27
   refine q_ (g_ (s_ (fA 2 fi48_2) (r_ (ld_ 0 sc46) (s_ (lnS underlying46) (s_ (x_eql_i rfl rfl) (s_ mv_ ?_))))))
   refine and_ 4 (decide (((ln22.length:Nat):Int)=1)) (fun g28=>?_) ?_
   ·have g28r:=g28
    have g28r:=ot_ g28r
    refine sg_ g28 (fA 3 fi48_3) (rg_ g28 (ld_ 0 sc25) (sg_ g28 (lnS underlying25) (sg_ g28 (x_eql_i rfl rfl) ?_)))
    exact cr_
   refine s_ mv_ ?_
   refine and_ 3 (decide (cd17=0)) (fun g29=>?_) ?_
   ·have g29r:=g29
    have ⟨g29r,h30⟩:=band_true g29r
    have g29r:=ot_ g29r
    have h30:=ot_ h30
    refine sg_ g29 (fA 0 fi48_0) (rg_ g29 (ld_ 0 sc3) (sg_ g29 (x_eql_i rfl rfl) ?_))
    exact cr_
   refine s_ av_ (z_ (n_ (rt_ (nr_ ?_))))
   exact p1 results7 rfl ⟨(eB c45e0_),rfl⟩
  ·have h27w:=h27
   refine sk_ (n_ (q_ (g_ (s_ av_ (z_ (n_ (q_ (q_ (g_ (s_ mv_ (s_ (lnS underlying36) (s_ mv_ (z_ (n_ (k_ ?_)))))))))))))))
   refine J_loop (X:=Nat × Int) (fun (⟨k,id⟩:Nat × Int)=>(k≤l.length)∧(R45.FindJ R45.OUT l k)∧(id=0)) (fun (⟨k,id⟩:Nat × Int)=>[(8,vB false),(9,pB b26 0),(11,vI id),(63,vL lA l.length lC),(64,vN l.length),(65,vN k)]) (fun (⟨k,id⟩:Nat × Int)=>[blk b26 48 [vI cd17,vB fd18,vL chA20 ch19.length chC21,vL lnA23 ln22.length lnC24],row (.slice chA20 ch19.length chC21) 60 5 ch19.length (ch19.flatMap Change.enc),row (.slice lnA23 ln22.length lnC24) 9 1 ln22.length (ln22.map vS)]) (fun (⟨k,id⟩:Nat × Int)=>l.length-k) ((0,0):Nat × Int) ?_ se_ (fun _ h=>h.keep [T_,T_,T_,F_] rfl) ?_
   ·try dsimp only
    refine ⟨?_,?_,?_⟩
    ·exact df_
    ·exact R45.FindJ.start
    ·rfl
   rintro ⟨k,id⟩ hI1
   obtain ⟨i1_0,i1_1,i1_2⟩:=hI1
   try dsimp only at i1_0
   try dsimp only at i1_1
   try dsimp only at i1_2
   try dsimp only
   refine q_ (g_ (s_ (x_lss_i rfl rfl) (z_ (n_ (q_ ?_)))))
   refine ifd (fun h31w h31=>?_) (fun h31w h31=>?_)
   ·refine sk_ (n_ (q_ (k_ (q_ (g_ (r_ (ixF Binding.enc_len (cells_ro lR) underlying36 sz33) (r_ (ldFN Binding.enc_len (cells_ro lR) ag33 sz33) (o_ (al_ ze33 fun b32=>?_)))))))))
    refine o_ (stG 0 sz33 ?_)
    refine z_ (n_ (q_ (g_ (s_ (fA 0 fi33_0) (s_ (fA 0 fi27_0) (r_ (ld_ 0 sc9) (js_ (vB (decide ((l.getD k default).Name=([79,85,84]:Bytes)))) (x_eql_s rfl rfl) (z_ (n_ ?_)))))))))
    refine ifd (fun h33w h33=>?_) (fun h33w h33=>?_)
    ·refine q_ (g_ (s_ (fA 36 fi33_2) (s_ (fA 38 fi31_2) (s_ (fA 38 fi24_0) (r_ (ld_ 0 sc3) (s_ av_ (z_ (n_ (q_ (q_ (g_ (s_ (fA 69 fi33_3) (r_ (ld_ 0 sc4) (z_ (n_ ?_)))))))))))))))
     refine if_ (fun h34=>?_) (fun h34=>?_)
     ·have h34w:=h34
      refine g_ (s_ (fA 70 fi33_4) (s_ (fA 70 fi24_0) (r_ (ld_ 0 sc3) (s_ av_ (z_ (xk_ [8,9,11,63,64,65] ?_))))))
      refine n_ (J_exit ?_)
      refine JX_block_miss rfl ?_
      refine ne_ (re_ (kh_ (n_ (q_ (q_ (g_ (s_ (fA 2 fi48_2) (r_ (ld_ 1 sc46) (s_ (lnS underlying46) (s_ mv_ (z_ (n_ (k_ ?_)))))))))))))
      refine J_loop (X:=Nat) (fun (j:Nat)=>(j≤ch19.length)) (fun (j:Nat)=>[(9,pB b26 0),(11,vI (((l.getD k default).Set).Id)),(84,vL chA20 ch19.length chC21),(85,vN ch19.length),(86,vN j)]) (fun (j:Nat)=>[blk b26 48 [vI cd17,vB fd18,vL chA20 ch19.length chC21,vL lnA23 ln22.length lnC24],row (.slice chA20 ch19.length chC21) 60 5 ch19.length (ch19.flatMap Change.enc),row (.slice lnA23 ln22.length lnC24) 9 1 ln22.length (ln22.map vS)]) (fun (j:Nat)=>ch19.length-j) (0:Nat) ?_ se_ (fun _ h=>h.keep [F_,T_,T_,T_] rfl) ?_
      ·try dsimp only
       exact df_
      intro j hI2
      have i2_0:=hI2
      try dsimp only at i2_0
      have hcl:=(R45.only_f as_ as_).1
      try dsimp only
      refine q_ (g_ (s_ (x_lss_i rfl rfl) (z_ (n_ (q_ ?_)))))
      refine ifd (fun h35w h35=>?_) (fun h35w h35=>?_)
      ·refine sk_ (n_ (q_ (k_ (q_ (g_ (r_ (ixF Change.enc_len (cells_row 1 rfl) underlying46 sz60) (r_ (ldFN Change.enc_len (cells_row 1 rfl) ag60 sz60) (o_ (al_ ze60 fun b36=>?_)))))))))
       refine o_ (stG 0 sz60 ?_)
       refine z_ (n_ (q_ (g_ (s_ (fA 1 fi60_1) (r_ (ld_ 0 sc3) (s_ mv_ (s_ (x_neq_i rfl rfl) (s_ mv_ ?_))))))))
       refine or_ 3 (decide ((ch19.getD j default).Volume≠([]:Bytes))) (fun g37=>?_) ?_
       ·have g37r:=g37
        have g37r:=of_ g37r
        refine sg_ g37 (fA 4 fi60_4) (rg_ g37 (ld_ 0 sc9) (jg_ g37 (vB (decide ((ch19.getD j default).Volume≠([]:Bytes)))) (x_neq_s rfl rfl) ?_))
        exact cr_
       refine s_ mv_ ?_
       refine or_ 3 (decide ((3:Int)<(ch19.getD j default).Kind)) (fun g38=>?_) ?_
       ·have g38r:=g38
        have ⟨g38r,h39⟩:=bor_false g38r
        have g38r:=of_ g38r
        have h39:=of_ h39
        refine sg_ g38 (fA 0 fi60_0) (rg_ g38 (ld_ 0 sc3) (sg_ g38 (x_gtr_i rfl rfl) ?_))
        exact cr_
       refine z_ (n_ ?_)
       refine if_ (fun h40=>?_) (fun h40=>?_)
       ·have h40w:=h40
        simp only [Bool.and_eq_true,Bool.or_eq_true,Bool.and_eq_false_iff,Bool.or_eq_false_iff,Bool.not_eq_true',Bool.not_eq_false',decide_eq_true_eq,decide_eq_false_iff_not] at h40
        exact (R45.only_bad (j:=j) (R45.only_f as_ as_) om_ c45e2_ as_).elim
       ·have h40w:=h40
        have ⟨h40,h41⟩:=bor_false h40
        have ⟨h40,h42⟩:=bor_false h40
        have h40:=of_ h40
        have h42:=of_ h42
        have h41:=of_ h41
        refine sk_ (kx_ (n_ (g_ (s_ (x_add_n (a:=j) (b:=1) rfl rfl om_) (s_ mv_ (z_ ?_))))))
        refine JX_round (j+1:Nat) ?_ ?_ se_ (fun _ h=>h.keep [F_,T_,T_,T_] rfl)
        ·try dsimp only
         exact df_
        ·try dsimp only
         first | omega | (simp;omega) | (simp_all;omega)
      ·refine J_exit (ne_ (re_ (kh_ (n_ (q_ ?_)))))
       refine g_ (s_ (fA 2 fi48_2) (r_ (ld_ 0 sc46) (s_ (lnS underlying46) (s_ (x_leq_i rfl rfl) (s_ mv_ ?_)))))
       refine and_ 3 (decide ((0:Int)≤cd17)) (fun g43=>?_) ?_
       ·have g43r:=g43
        have g43r:=ot_ g43r
        refine sg_ g43 (fA 0 fi48_0) (rg_ g43 (ld_ 0 sc3) (sg_ g43 (x_geq_i rfl rfl) ?_))
        exact cr_
       refine s_ mv_ ?_
       refine and_ 3 (decide (cd17≤4095)) (fun g44=>?_) ?_
       ·have g44r:=g44
        have ⟨g44r,h45⟩:=band_true g44r
        have g44r:=ot_ g44r
        have h45:=ot_ h45
        refine sg_ g44 (fA 0 fi48_0) (rg_ g44 (ld_ 0 sc3) (sg_ g44 (x_leq_i rfl rfl) ?_))
        exact cr_
       refine s_ av_ (z_ (n_ (rt_ ?_)))
       exact p1 results7 rfl ⟨(eB c45e0_),rfl⟩
     ·have h34w:=h34
      refine sk_ (n_ (J_exit ?_))
      refine JX_block_miss rfl ?_
      refine ne_ (re_ (kh_ (n_ (q_ (q_ (g_ (s_ (fA 2 fi48_2) (r_ (ld_ 1 sc46) (s_ (lnS underlying46) (s_ mv_ (z_ (xk_ [8,9,11,84,85,86] ?_))))))))))))
      refine n_ (k_ ?_)
      refine J_loop (X:=Nat) (fun (j:Nat)=>(j≤ch19.length)) (fun (j:Nat)=>[(9,pB b26 0),(11,vI (((l.getD k default).EData).Id)),(84,vL chA20 ch19.length chC21),(85,vN ch19.length),(86,vN j)]) (fun (j:Nat)=>[blk b26 48 [vI cd17,vB fd18,vL chA20 ch19.length chC21,vL lnA23 ln22.length lnC24],row (.slice chA20 ch19.length chC21) 60 5 ch19.length (ch19.flatMap Change.enc),row (.slice lnA23 ln22.length lnC24) 9 1 ln22.length (ln22.map vS)]) (fun (j:Nat)=>ch19.length-j) (0:Nat) ?_ se_ (fun _ h=>h.keep [F_,T_,T_,T_] rfl) ?_
      ·try dsimp only
       exact df_
      intro j hI2
      have i2_0:=hI2
      try dsimp only at i2_0
      have hcl:=(R45.only_f as_ as_).1
      try dsimp only
      refine q_ (g_ (s_ (x_lss_i rfl rfl) (z_ (n_ (q_ ?_)))))
      refine ifd (fun h46w h46=>?_) (fun h46w h46=>?_)
      ·refine sk_ (n_ (q_ (k_ (q_ (g_ (r_ (ixF Change.enc_len (cells_row 1 rfl) underlying46 sz60) (r_ (ldFN Change.enc_len (cells_row 1 rfl) ag60 sz60) (o_ (al_ ze60 fun b47=>?_)))))))))
       refine o_ (stG 0 sz60 ?_)
       refine z_ (n_ (q_ (g_ (s_ (fA 1 fi60_1) (r_ (ld_ 0 sc3) (s_ mv_ (s_ (x_neq_i rfl rfl) (s_ mv_ ?_))))))))
       refine or_ 3 (decide ((ch19.getD j default).Volume≠([]:Bytes))) (fun g48=>?_) ?_
       ·have g48r:=g48
        have g48r:=of_ g48r
        refine sg_ g48 (fA 4 fi60_4) (rg_ g48 (ld_ 0 sc9) (jg_ g48 (vB (decide ((ch19.getD j default).Volume≠([]:Bytes)))) (x_neq_s rfl rfl) ?_))
        exact cr_
       refine s_ mv_ ?_
       refine or_ 3 (decide ((3:Int)<(ch19.getD j default).Kind)) (fun g49=>?_) ?_
       ·have g49r:=g49
        have ⟨g49r,h50⟩:=bor_false g49r
        have g49r:=of_ g49r
        have h50:=of_ h50
        refine sg_ g49 (fA 0 fi60_0) (rg_ g49 (ld_ 0 sc3) (sg_ g49 (x_gtr_i rfl rfl) ?_))
        exact cr_
       refine z_ (n_ ?_)
       refine if_ (fun h51=>?_) (fun h51=>?_)
       ·have h51w:=h51
        simp only [Bool.and_eq_true,Bool.or_eq_true,Bool.and_eq_false_iff,Bool.or_eq_false_iff,Bool.not_eq_true',Bool.not_eq_false',decide_eq_true_eq,decide_eq_false_iff_not] at h51
        exact (R45.only_bad (j:=j) (R45.only_f as_ as_) om_ c45e2_ as_).elim
       ·have h51w:=h51
        have ⟨h51,h52⟩:=bor_false h51
        have ⟨h51,h53⟩:=bor_false h51
        have h51:=of_ h51
        have h53:=of_ h53
        have h52:=of_ h52
        refine sk_ (kx_ (n_ (g_ (s_ (x_add_n (a:=j) (b:=1) rfl rfl om_) (s_ mv_ (z_ ?_))))))
        refine JX_round (j+1:Nat) ?_ ?_ se_ (fun _ h=>h.keep [F_,T_,T_,T_] rfl)
        ·try dsimp only
         exact df_
        ·try dsimp only
         first | omega | (simp;omega) | (simp_all;omega)
      ·refine J_exit (ne_ (re_ (kh_ (n_ (q_ ?_)))))
       refine g_ (s_ (fA 2 fi48_2) (r_ (ld_ 0 sc46) (s_ (lnS underlying46) (s_ (x_leq_i rfl rfl) (s_ mv_ ?_)))))
       refine and_ 3 (decide ((0:Int)≤cd17)) (fun g54=>?_) ?_
       ·have g54r:=g54
        have g54r:=ot_ g54r
        refine sg_ g54 (fA 0 fi48_0) (rg_ g54 (ld_ 0 sc3) (sg_ g54 (x_geq_i rfl rfl) ?_))
        exact cr_
       refine s_ mv_ ?_
       refine and_ 3 (decide (cd17≤4095)) (fun g55=>?_) ?_
       ·have g55r:=g55
        have ⟨g55r,h56⟩:=band_true g55r
        have g55r:=ot_ g55r
        have h56:=ot_ h56
        refine sg_ g55 (fA 0 fi48_0) (rg_ g55 (ld_ 0 sc3) (sg_ g55 (x_leq_i rfl rfl) ?_))
        exact cr_
       refine s_ av_ (z_ (n_ (rt_ ?_)))
       exact p1 results7 rfl ⟨(eB c45e0_),rfl⟩
    ·refine sk_ (kx_ (n_ (g_ (s_ (x_add_n (a:=k) (b:=1) rfl rfl om_) (s_ mv_ (z_ ?_))))))
     refine JX_round ((k+1,id):Nat × Int) ?_ ?_ se_ (fun _ h=>h.keep [F_,T_,T_,T_] rfl)
     ·try dsimp only
      refine ⟨?_,?_,?_⟩
      ·exact df_
      ·exact i1_1.step om_ as_
      ·assumption
     ·try dsimp only
      first | omega | (simp;omega) | (simp_all;omega)
   ·refine J_exit (ne_ (re_ (kh_ (n_ (q_ ?_)))))
    refine q_ (g_ (s_ (fA 2 fi48_2) (r_ (ld_ 0 sc46) (s_ (lnS underlying46) (s_ mv_ (z_ (n_ (k_ ?_))))))))
    refine J_loop (X:=Nat) (fun (j:Nat)=>(j≤ch19.length)) (fun (j:Nat)=>[(9,pB b26 0),(11,vI id),(84,vL chA20 ch19.length chC21),(85,vN ch19.length),(86,vN j)]) (fun (j:Nat)=>[blk b26 48 [vI cd17,vB fd18,vL chA20 ch19.length chC21,vL lnA23 ln22.length lnC24],row (.slice chA20 ch19.length chC21) 60 5 ch19.length (ch19.flatMap Change.enc),row (.slice lnA23 ln22.length lnC24) 9 1 ln22.length (ln22.map vS)]) (fun (j:Nat)=>ch19.length-j) (0:Nat) ?_ se_ i_ ?_
    ·try dsimp only
     exact df_
    intro j hI2
    have i2_0:=hI2
    try dsimp only at i2_0
    have hcl:=(R45.only_f as_ as_).1
    try dsimp only
    refine q_ (g_ (s_ (x_lss_i rfl rfl) (z_ (n_ (q_ ?_)))))
    refine ifd (fun h57w h57=>?_) (fun h57w h57=>?_)
    ·refine sk_ (n_ (q_ (k_ (q_ (g_ (r_ (ixF Change.enc_len (cells_row 1 rfl) underlying46 sz60) (r_ (ldFN Change.enc_len (cells_row 1 rfl) ag60 sz60) (o_ (al_ ze60 fun b58=>?_)))))))))
     refine o_ (stG 0 sz60 ?_)
     refine z_ (n_ (q_ (g_ (s_ (fA 1 fi60_1) (r_ (ld_ 0 sc3) (s_ mv_ (s_ (x_neq_i rfl rfl) (s_ mv_ ?_))))))))
     refine or_ 3 (decide ((ch19.getD j default).Volume≠([]:Bytes))) (fun g59=>?_) ?_
     ·have g59r:=g59
      have g59r:=of_ g59r
      refine sg_ g59 (fA 4 fi60_4) (rg_ g59 (ld_ 0 sc9) (jg_ g59 (vB (decide ((ch19.getD j default).Volume≠([]:Bytes)))) (x_neq_s rfl rfl) ?_))
      exact cr_
     refine s_ mv_ ?_
     refine or_ 3 (decide ((3:Int)<(ch19.getD j default).Kind)) (fun g60=>?_) ?_
     ·have g60r:=g60
      have ⟨g60r,h61⟩:=bor_false g60r
      have g60r:=of_ g60r
      have h61:=of_ h61
      refine sg_ g60 (fA 0 fi60_0) (rg_ g60 (ld_ 0 sc3) (sg_ g60 (x_gtr_i rfl rfl) ?_))
      exact cr_
     refine z_ (n_ ?_)
     refine if_ (fun h62=>?_) (fun h62=>?_)
     ·have h62w:=h62
      simp only [Bool.and_eq_true,Bool.or_eq_true,Bool.and_eq_false_iff,Bool.or_eq_false_iff,Bool.not_eq_true',Bool.not_eq_false',decide_eq_true_eq,decide_eq_false_iff_not] at h62
      exact (R45.only_bad (j:=j) (R45.only_f as_ as_) om_ c45e2_ as_).elim
     ·have h62w:=h62
      have ⟨h62,h63⟩:=bor_false h62
      have ⟨h62,h64⟩:=bor_false h62
      have h62:=of_ h62
      have h64:=of_ h64
      have h63:=of_ h63
      refine sk_ (kx_ (n_ (g_ (s_ (x_add_n (a:=j) (b:=1) rfl rfl om_) (s_ mv_ (z_ ?_))))))
      refine JX_round (j+1:Nat) ?_ ?_ se_ (fun _ h=>h.keep [F_,T_,T_,T_] rfl)
      ·try dsimp only
       exact df_
      ·try dsimp only
       first | omega | (simp;omega) | (simp_all;omega)
    ·refine J_exit (ne_ (re_ (kh_ (n_ (q_ ?_)))))
     refine g_ (s_ (fA 2 fi48_2) (r_ (ld_ 0 sc46) (s_ (lnS underlying46) (s_ (x_leq_i rfl rfl) (s_ mv_ ?_)))))
     refine and_ 3 (decide ((0:Int)≤cd17)) (fun g65=>?_) ?_
     ·have g65r:=g65
      have g65r:=ot_ g65r
      refine sg_ g65 (fA 0 fi48_0) (rg_ g65 (ld_ 0 sc3) (sg_ g65 (x_geq_i rfl rfl) ?_))
      exact cr_
     refine s_ mv_ ?_
     refine and_ 3 (decide (cd17≤4095)) (fun g66=>?_) ?_
     ·have g66r:=g66
      have ⟨g66r,h67⟩:=band_true g66r
      have g66r:=ot_ g66r
      have h67:=ot_ h67
      refine sg_ g66 (fA 0 fi48_0) (rg_ g66 (ld_ 0 sc3) (sg_ g66 (x_leq_i rfl rfl) ?_))
      exact cr_
     refine s_ av_ (z_ (n_ (rt_ ?_)))
     exact p1 results7 rfl ⟨(eB c45e0_),rfl⟩
end Go.Proofs.YtggobegaiijhhaaGreatDoor
