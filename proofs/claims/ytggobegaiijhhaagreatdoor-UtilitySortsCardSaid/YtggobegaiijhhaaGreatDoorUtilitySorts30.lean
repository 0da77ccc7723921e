/- C45r, Pl45h, C45s, Sh45b, Si45, C45x, Pl45i, Pl44o, Pl44q in one text. -/
import Derived.Test.YtggobegaiijhhaaGreatDoorUtilitySorts11
import Derived.Test.YtggobegaiijhhaaGreatDoorUtilitySorts14
import Derived.Test.YtggobegaiijhhaaGreatDoorUtilitySorts29
import Derived.Test.YtggobegaiijhhaaGreatDoorUtilitySorts27
import Derived.Shelf.SlIter.Nil
import Derived.Shelf.SortM.Plain
import Derived.Shelf.SortM.SortNone
import Derived.Ground.GgzProg
import Derived.Ground.SlgmProg
import Derived.Shelf.SlGeneric
import Derived.Test.YtggobegaiijhhaaGreatDoorProg
import Derived.Test.YtggobegaiijhhaaGreatDoorUtilitySorts4
import Derived.StringKeys
import Derived.Test.YtggobegaiijhhaaGreatDoorUtilitySorts10
import Derived.Test.YtggobegaiijhhaaGreatDoorUtilitySorts17
import Derived.Test.YtggobegaiijhhaaGreatDoorUtilitySorts25
set_option linter.unusedVariables false
set_option linter.unusedSimpArgs false
namespace Go.Proofs.YtggobegaiijhhaaGreatDoor
open Go.GV
set_option linter.unusedVariables false
set_option linter.unusedSimpArgs false
set_option maxRecDepth 20000 in
theorem catch_pan (o:Nat) (q:Nat) (line:Bytes) (cd:Int) (fd:Bool) (chA:Option Addr) (chN:Nat) (chC:Nat) (lnA:Option Addr) (lnN:Nat) (lnC:Nat) (z:Int) (w:World) (hg:Give [o,q] w [Ent.blk o 48 [vI cd,vB fd,vL chA chN chC,vL lnA lnN lnC],Ent.blk q 38 [vI z]]):CallsDIn Fence.wide 0 Tryz.prog 26 #[pB o 0,pB q 0] (FrameMode.panicking (R45.pan line)) w (fun e9 u9 w9=>u9=FrameMode.panicking [{ v:=Value.iface 77 (vG [vS line,vI 0]),recovered:=true }]∧Gives [o,q] w (fun v L=>∃ nb:Nat,v=Value.tuple #[]∧L=[Ent.blk o 48 [vI 0,vB true,vL none 0 0,vL (some ⟨nb,0,none⟩) 1 1],Ent.blk q 38 [vI z],Ent.blk nb 9 [vS line]]) e9 w9):=by
 refine calls_RC [o,q] 32 Tryz.func26 rfl Tryz.ntmps26 (.inr ⟨[],rfl,rfl⟩) rfl rfl [(0,_),(1,_)] rfl rfl (by decide) (by decide) rfl hg ?_
 refine q_ (g_ (s_ mv_ (s_ (x_assert_hit rfl Tryz.underlying77) (s_ mv_ (s_ (ex_ 0) (s_ (ex_ 1) (o_ (al_ Ty.ze77 fun b1=>?_))))))))
 refine o_ (stG 0 Ty.sz77 ?_)
 refine s_ av_ (z_ (n_ (q_ (q_ (g_ (s_ mv_ (s_ (x_neq_in rfl Tryz.underlying20) (s_ mv_ (sg_ rfl mv_ (jg_ rfl (vB false) (rfl) (jr_ (vB false) (z_ (n_ (iff_ (sk_ (n_ (q_ (g_ ?_))))))))))))))))))
 refine s_ mv_ (s_ mv_ (sg_ rfl (fA 1 Ty.fi77_1) (rg_ rfl (ld_ 0 Ty.sc38) (jg_ rfl (vB false) (rfl) (jr_ (vB false) (z_ (xk_ [0,1,3,4,23] ?_)))))))
 refine n_ (iff_ (q_ (g_ (s_ mv_ (z_ (n_ (ift (g_ (s_ (fA 0 Ty.fi77_0) (r_ (ld_ 0 Ty.sc9) (o_ (O_buildSlice (cs:=[vS line]) Tryz.underlying25 Ty.sz9 Ty.ze9 (by decide) (by decide) (by kernel_rfl) fun b2=>?_))))))))))))
 refine js_ (vG [vI 0,vB true,vL none 0 0,vL (some ⟨b2,0,none⟩) 1 1]) (x_build (by kernel_rfl)) (o_ (stG 2 Ty.sz48 ?_))
 refine z_ ?_
 refine JX_end0 Tryz.results26 [Ent.blk o 48 [vI 0,vB true,vL none 0 0,vL (some ⟨b2,0,none⟩) 1 1],Ent.blk q 38 [vI z],Ent.blk b2 9 [vS line]] (fun _ h=>((h.front 3 _ rfl).front 3 _ rfl).keep [true,true,true,false] rfl) ⟨b2,?_,?_⟩
 ·rfl
 ·rfl
set_option maxRecDepth 20000 in
theorem catch_ret (o:Nat) (q:Nat) (cd:Int) (fd:Bool) (chA:Option Addr) (chN:Nat) (chC:Nat) (lnA:Option Addr) (lnN:Nat) (lnC:Nat) (z:Int) (w:World) (hg:Give [o,q] w [Ent.blk o 48 [vI cd,vB fd,vL chA chN chC,vL lnA lnN lnC],Ent.blk q 38 [vI z]]):CallsDIn Fence.wide 0 Tryz.prog 26 #[pB o 0,pB q 0] (FrameMode.returning) w (fun e9 u9 w9=>u9=FrameMode.returning∧Gives [o,q] w (fun v L=>v=Value.tuple #[]∧L=[Ent.blk o 48 [vI cd,vB fd,vL chA chN chC,vL lnA lnN lnC],Ent.blk q 38 [vI z]]) e9 w9):=by
 refine calls_RC [o,q] 32 Tryz.func26 rfl Tryz.ntmps26 (.inl ⟨rfl,rfl,rfl⟩) rfl rfl [(0,_),(1,_)] rfl rfl (by decide) (by decide) rfl hg ?_
 refine q_ (g_ (s_ mv_ (s_ (x_assert_nil rfl Tryz.underlying77 Ty.ze77) (s_ mv_ (s_ (ex_ 0) (s_ (ex_ 1) (o_ (al_ Ty.ze77 fun b1=>?_))))))))
 refine o_ (stG 0 Ty.sz77 ?_)
 refine s_ av_ (z_ (n_ (q_ (q_ (g_ (s_ mv_ (s_ (x_neq_nn rfl Tryz.underlying20) (s_ mv_ (sh_ rfl (sh_ rfl (jr_ (vB false) (z_ (n_ (iff_ (sk_ (n_ (q_ (g_ ?_))))))))))))))))))
 refine s_ mv_ (s_ mv_ (sh_ rfl (sh_ rfl (sh_ rfl (jr_ (vB false) (z_ (xk_ [0,1,3,4,23] ?_)))))))
 refine n_ (iff_ (q_ (g_ (s_ mv_ (z_ (n_ (iff_ (sk_ ?_))))))))
 refine JX_end0 Tryz.results26 [Ent.blk o 48 [vI cd,vB fd,vL chA chN chC,vL lnA lnN lnC],Ent.blk q 38 [vI z]] (fun _ h=>h.keep [false,true,true] rfl) ⟨?_,?_⟩
 ·rfl
 ·rfl
set_option maxRecDepth 20000 in
theorem run_ok (s:Nat) (name:Bytes) (parm:Bytes) (rows:List SRow) (rowsA:Option Addr) (rowsC:Nat) (calls:Nat) (l:List Binding) (lA:Option Addr) (lC:Nat) (Φ:Int→List Change→List Bytes→Prop) (Ψ:Bytes→Prop) (w:World) (rowsR:RO [s] w rowsA (rows.flatMap SRow.enc)) (lR:RO [s] w lA (l.flatMap Binding.enc)) (lN:Kp [s] w (okL Binding.ok l)) (hT:Tab [s] w) (hP:∀ (x:Nat) (m:Nat) (w:World) (rowsR:RO [x,m,s] w rowsA (rows.flatMap SRow.enc)) (lR:RO [x,m,s] w lA (l.flatMap Binding.enc)) (lN:Kp [x,m,s] w (okL Binding.ok l)) (hT:Tab [x,m,s] w) (hg:Give [x,m,s] w [Ent.blk x 82 [Value.iface 41 (pB s 0),vS parm,Value.map (some m),vI 0,vB false,vL none 0 0,vL none 0 0],Ent.mp vS m ([]:List (Bytes × Value)),Ent.blk s 52 [vL rowsA rows.length rowsC,vI 0,vI 0,vI ((calls:Nat):Int)]]),Calls Tryz.prog 27 #[pB x 0,vS name,vL lA l.length lC] w (GivesE [x,m,s] w (fun v L=>∃ cd:Int,∃ ch:List Change,∃ chA:Option Addr,∃ chC:Nat,∃ ln:List Bytes,∃ lnA:Option Addr,∃ lnC:Nat,v=Value.tuple #[]∧L=[Ent.blk x 82 [Value.iface 41 (pB s 0),vS parm,Value.map (some m),vI cd,vB false,vL chA ch.length chC,vL lnA ln.length lnC],Ent.row (.slice chA ch.length chC) 60 5 ch.length (ch.flatMap Change.enc),Ent.row (.slice lnA ln.length lnC) 9 1 ln.length (ln.map vS)]∧(Φ cd ch ln)) (fun c L=>∃ line:Bytes,c=R45.pan line∧L=[]∧(Ψ line)))) (hg:Give [s] w [Ent.blk s 52 [vL rowsA rows.length rowsC,vI 0,vI 0,vI ((calls:Nat):Int)]]):Calls Tryz.prog 15 #[Value.iface 41 (pB s 0),vS name,vS parm,vL lA l.length lC] w (Gives [s] w fun v L=>∃ cd:Int,∃ fd:Bool,∃ ch:List Change,∃ chA:Option Addr,∃ chC:Nat,∃ ln:List Bytes,∃ lnA:Option Addr,∃ lnC:Nat,v=Value.tuple #[vG [vI cd,vB fd,vL chA ch.length chC,vL lnA ln.length lnC],vI 0]∧L=[Ent.row (.slice chA ch.length chC) 60 5 ch.length (ch.flatMap Change.enc),Ent.row (.slice lnA ln.length lnC) 9 1 ln.length (ln.map vS)]∧((fd=false∧Φ cd ch ln)∨(fd=true∧cd=0∧ch=[] ∧ ∃ line,ln=[line]∧Ψ line))):=by
 refine calls_JD [s] 25 Tryz.func15 rfl Tryz.ntmps15 [(0,_),(1,_),(2,_),(3,_)] rfl rfl hg ?_
 refine q_ (g_ (o_ (al_ Ty.ze48 fun b1=>?_)))
 refine o_ (al_ Ty.ze38 fun b2=>?_)
 refine z_ (n_ (q_ (g_ (js_ (Value.func (.func 26) #[] #[pB b1 0,pB b2 0]) (x_makeFunc rfl rfl) ?_))))
 refine JO_defer rfl rfl trivial ?_
 refine z_ (n_ (q_ (g_ (s_ mv_ (s_ mv_ (o_ (O_makeMap vS fun b3=>?_)))))))
 refine js_ (vG [Value.iface 41 (pB s 0),vS parm,Value.map (some b3),vI 0,vB false,vL none 0 0,vL none 0 0]) (x_build (by kernel_rfl)) (o_ (bxG fun b4=>?_))
 refine s_ av_ (z_ (n_ (q_ (g_ (s_ mv_ (s_ mv_ (s_ mv_ ?_)))))))
 refine JO_callP [b4,b3,s] [Ent.blk b4 82 [Value.iface 41 (pB s 0),vS parm,Value.map (some b3),vI 0,vB false,vL none 0 0,vL none 0 0],Ent.mp vS b3 ([]:List (Bytes × Value)),Ent.blk s 52 [vL rowsA rows.length rowsC,vI 0,vI 0,vI ((calls:Nat):Int)]] [Ent.blk b2 38 [vI 0],Ent.blk b1 48 [vI 0,vB false,vL none 0 0,vL none 0 0]] rfl trivial (fun _=>x_call Ty.ca27 rfl) (fun _ h=>(((((h.front 3 _ rfl).front 3 _ rfl).front 4 _ rfl).front 4 _ rfl).front 4 _ rfl).keep [true,true,true,true,true] rfl) (own_mem rfl) (fun w hS=>hP b4 b3 w (rowsR.on hS (own_mem rfl)) (lR.on hS (own_mem rfl)) (lN.on hS (own_mem rfl)) (hT.on hS (own_mem rfl)) (hS.give (own_in rfl))) ?_ ?_
 ·rintro _ _ ⟨line5,rfl,rfl,hp6⟩
  refine JX_then_pan ?_
  refine JX_door (Lc:=[Ent.blk b1 48 [vI 0,vB false,vL none 0 0,vL none 0 0],Ent.blk b2 38 [vI 0]]) (Lr:=[]) rfl (.inr ⟨_,rfl,rfl⟩) Ty.ca26 (fun _ h=>(h.front 1 _ rfl).keep [true,true] rfl) (own_mem rfl) (fun w hS=>(catch_pan (line:=line5) (w:=w) (cd:=0) (fd:=false) (chA:=none) (chN:=0) (chC:=0) (lnA:=none) (lnN:=0) (lnC:=0) (z:=0) (hg:=hS.give (own_in rfl))).mono (fun _ _ _ h=>⟨by rw [h.1];rfl,h.2⟩)) Tryz.results15 (fun _ _ h=>h) ?_
  rintro _ _ ⟨nb,rfl,rfl⟩
  exact ⟨[vG [vI 0,vB true,vL none 0 0,vL (some ⟨nb,0,none⟩) 1 1],vI 0],(Value.tuple #[vG [vI 0,vB true,vL none 0 0,vL (some ⟨nb,0,none⟩) 1 1],vI 0]),rfl,fun w h=>⟨⟨_,rfl,load_blkN 0 [vI 0,vB true,vL none 0 0,vL (some ⟨nb,0,none⟩) 1 1] h rfl Ty.ag48 Ty.sz48 rfl⟩,⟨_,rfl,load_blk 1 h rfl Ty.sc38 rfl⟩,trivial⟩,[Ent.row (.slice none ([]:List Change).length 0) 60 5 ([]:List Change).length (([]:List Change).flatMap Change.enc),Ent.row (.slice (some ⟨nb,0,none⟩) [line5].length 1) 9 1 [line5].length ([line5].map vS)],(fun _ h=>((St.torow (cs:=[vS line5]) (h.front 2 _ rfl) 1 1 rfl (by decide)).nilrow 60 5).keep [true,true,false,false] rfl),0,true,[],none,0,[line5],(some ⟨nb,0,none⟩),1,rfl,rfl,.inr ⟨rfl,rfl,rfl,line5,rfl,by assumption⟩⟩
 rintro _ _ ⟨cd7,ch8,chA9,chC10,ln11,lnA12,lnC13,rfl,rfl,hf14⟩
 refine z_ (n_ (q_ (g_ (s_ mv_ (s_ (x_nilCheck rfl) (s_ (fA 3 Ty.fi82_3) (r_ (ldN 0 [vI cd7,vB false,vL chA9 ch8.length chC10,vL lnA12 ln11.length lnC13] Ty.ag48 Ty.sz48) (o_ (stG 4 Ty.sz48 ?_)))))))))
 refine o_ (st1 3 Ty.sz38 ?_)
 refine z_ (xk_ [8,9] ?_)
 refine n_ (rt_ ?_)
 refine JX_door (Lc:=[Ent.blk b1 48 [vI cd7,vB false,vL chA9 ch8.length chC10,vL lnA12 ln11.length lnC13],Ent.blk b2 38 [vI 0]]) (Lr:=[Ent.row (.slice chA9 ch8.length chC10) 60 5 ch8.length (ch8.flatMap Change.enc),Ent.row (.slice lnA12 ln11.length lnC13) 9 1 ln11.length (ln11.map vS)]) rfl (.inl ⟨.inl rfl,rfl⟩) Ty.ca26 (fun _ h=>((((h.front 2 _ rfl).front 2 _ rfl).front 3 _ rfl).front 4 _ rfl).keep [true,true,true,true,false] rfl) (own_mem rfl) (fun w hS=>(catch_ret (w:=w) (cd:=cd7) (fd:=false) (chA:=chA9) (chN:=ch8.length) (chC:=chC10) (lnA:=lnA12) (lnN:=ln11.length) (lnC:=lnC13) (z:=0) (hg:=hS.give (own_in rfl))).mono (fun _ _ _ h=>⟨by rw [h.1];rfl,h.2⟩)) Tryz.results15 (fun _ _ h=>h) ?_
 rintro _ _ ⟨rfl,rfl⟩
 exact ⟨[vG [vI cd7,vB false,vL chA9 ch8.length chC10,vL lnA12 ln11.length lnC13],vI 0],(Value.tuple #[vG [vI cd7,vB false,vL chA9 ch8.length chC10,vL lnA12 ln11.length lnC13],vI 0]),rfl,fun w h=>⟨⟨_,rfl,load_blkN 0 [vI cd7,vB false,vL chA9 ch8.length chC10,vL lnA12 ln11.length lnC13] h rfl Ty.ag48 Ty.sz48 rfl⟩,⟨_,rfl,load_blk 1 h rfl Ty.sc38 rfl⟩,trivial⟩,[Ent.row (.slice chA9 ch8.length chC10) 60 5 ch8.length (ch8.flatMap Change.enc),Ent.row (.slice lnA12 ln11.length lnC13) 9 1 ln11.length (ln11.map vS)],(fun _ h=>h.keep [false,false,true,true] rfl),cd7,false,ch8,chA9,chC10,ln11,lnA12,lnC13,rfl,rfl,.inl ⟨rfl,by assumption⟩⟩
end Go.Proofs.YtggobegaiijhhaaGreatDoor
namespace Go.Proofs.YtggobegaiijhhaaGreatDoor
open Go.GV
namespace R45
def RunR (Φ:Int→List Change→List Bytes→Prop) (Ψ:Prop) (fd:Bool) (cd:Int) (ch:List Change) (ln:List Bytes):Prop:=(fd=false∧Φ cd ch ln)∨(fd=true∧cd=0∧ch=[] ∧ ∃ line,ln=[line]∧Ψ)
theorem RunR.ok {Φ:Int→List Change→List Bytes→Prop} {G:Prop} {fd:Bool} {cd:Int} {ch:List Change} {ln:List Bytes} (h:RunR Φ (¬ G) fd cd ch ln) (hg:G):fd=false∧Φ cd ch ln:=by
  rcases h with h | ⟨_,_,_,_,_,h⟩
  · exact h
  · exact absurd hg h
theorem seq_fresh (n:Bytes) (id:Int):SeqB (freshB n id):=by
  refine ⟨?_,?_⟩
  · show (0:Int)≠2;decide
  · show (0:Int)≠3;decide
theorem aw_okG:GenOk [50,32,65] [freshB OUT 200]:=by
  refine ⟨by decide,rfl,2,[65],by kernel_rfl,seq_fresh _ _,by decide⟩
theorem awG {fd:Bool} {cd:Int} {ch:List Change} {ln:List Bytes} (h:RunR (GenR [50,32,65] [freshB OUT 200]) (¬ GenOk [50,32,65] [freshB OUT 200]) fd cd ch ln):ch.length=2∧(ch.getD 1 default).Record=[65,48,48,48,50]:=by
  obtain ⟨_,_,_,n,t,hp,hw,_⟩:=h.ok aw_okG
  have hp2:parmG [50,32,65]=some (2,[65]):=by kernel_rfl
  rw [hp2] at hp
  injection hp with hp
  injection hp with h1 h2
  subst h1 h2
  have:=hw.2.2 (seq_fresh _ _)
  rw [this]
  exact ⟨by kernel_rfl,by kernel_rfl⟩
theorem awC {A B:Option Addr} {c d:Nat} {fd:Bool} {cd:Int} {ch:List Change} {ln:List Bytes} (h:RunR (CmpR [] [inlineB IN1 [[97],[98]] A c,inlineB IN2 [[97],[99]] B d]) (¬ CmpOk [inlineB IN1 [[97],[98]] A c,inlineB IN2 [[97],[99]] B d]) fd cd ch ln):cd=4∧ln.length=1∧ln.getD 0 []=[100,105,102,102,101,114,101,110,116,32,97,116,32,50]:=by
  obtain ⟨_,_,_,_,h1,h2⟩:=h.ok ⟨by show (0:Int)≤0;decide,by show (0:Int)≤1;decide⟩
  have e1:recV [] (bd [inlineB IN1 [[97],[98]] A c,inlineB IN2 [[97],[99]] B d] IN1)=[[97],[98]]:=rfl
  have e2:recV [] (bd [inlineB IN1 [[97],[98]] A c,inlineB IN2 [[97],[99]] B d] IN2)=[[97],[99]]:=rfl
  rw [e1,e2] at h1 h2
  rw [h1,h2]
  exact ⟨rfl,rfl,by kernel_rfl⟩
theorem lines_all {l:List Binding} {n:Nat} (h:∀ b∈l,b.Lines.length≤n) (i:Nat):(l.getD i default).Lines.length≤n:=by
  by_cases hi:i<l.length
  · exact h _ (getD_mem hi)
  · rw [List.getD_eq_getElem?_getD,List.getElem?_eq_none (by omega)];exact Nat.zero_le _
theorem lines_each {l:List Binding} {n:Nat} (h:∀ b∈l,∀ s∈b.Lines,s.length≤n) (i j:Nat):((l.getD i default).Lines.getD j []).length≤n:=by
  by_cases hi:i<l.length
  · by_cases hj:j<(l.getD i default).Lines.length
    · exact h _ (getD_mem hi) _ (getD_mem hj)
    · rw [List.getD_eq_getElem?_getD,List.getElem?_eq_none (by omega)];exact Nat.zero_le _
  · rw [List.getD_eq_getElem?_getD (l:=l),List.getElem?_eq_none (by omega)]
    show (([]:List Bytes).getD j []).length≤n
    simp
theorem aw_rec {o:List Bytes} {A:Option Addr} {c:Nat} (h:o=recV [] (inlineB [73,78] [[97]] A c)):o.length=1:=by rw [h];rfl
theorem dist_nil:Dist []:=List.Pairwise.nil
end R45
end Go.Proofs.YtggobegaiijhhaaGreatDoor
namespace Go.Proofs.YtggobegaiijhhaaGreatDoor
open Go.GV
set_option linter.unusedVariables false
set_option linter.unusedSimpArgs false
theorem run_generate (s:Nat) (parm:Bytes) (rows:List SRow) (rowsA:Option Addr) (rowsC:Nat) (calls:Nat) (l:List Binding) (lA:Option Addr) (lC:Nat) (w:World) (rowsR:RO [s] w rowsA (rows.flatMap SRow.enc)) (lR:RO [s] w lA (l.flatMap Binding.enc)) (lN:Kp [s] w (okL Binding.ok l)) (hT:Tab [s] w) (q0:rows.length≤1000) (q1:calls≤890000) (q2:R45.Dist rows) (q3:∀ x∈rows,x.Key.length≤1000000) (q4:∀ x∈rows,x.Record.length≤1000000) (q5:parm.length≤1000) (q6:l.length≤1000) (q7:∀ i,(l.getD i default).Lines.length≤1000) (q8:∀ i j,((l.getD i default).Lines.getD j []).length≤1000000) (hg:Give [s] w [Ent.blk s 52 [vL rowsA rows.length rowsC,vI 0,vI 0,vI ((calls:Nat):Int)]]):Calls Tryz.prog 15 #[Value.iface 41 (pB s 0),vS [103,101,110,101,114,97,116,101],vS parm,vL lA l.length lC] w (Gives [s] w fun v L=>∃ cd:Int,∃ fd:Bool,∃ ch:List Change,∃ chA:Option Addr,∃ chC:Nat,∃ ln:List Bytes,∃ lnA:Option Addr,∃ lnC:Nat,v=Value.tuple #[vG [vI cd,vB fd,vL chA ch.length chC,vL lnA ln.length lnC],vI 0]∧L=[Ent.row (.slice chA ch.length chC) 60 5 ch.length (ch.flatMap Change.enc),Ent.row (.slice lnA ln.length lnC) 9 1 ln.length (ln.map vS)]∧(R45.RunR (R45.GenR parm l) (¬ R45.GenOk parm l) fd cd ch ln)):=
 run_ok (s:=s) (name:=[103,101,110,101,114,97,116,101]) (parm:=parm) (rows:=rows) (rowsA:=rowsA) (rowsC:=rowsC) (calls:=calls) (l:=l) (lA:=lA) (lC:=lC) (Φ:=R45.GenR parm l) (Ψ:=fun _=>¬ R45.GenOk parm l) (w:=w) (rowsR:=rowsR) (lR:=lR) (lN:=lN) (hT:=hT) (hP:=fun x m w rowsR lR lN hT hg=>perf_generate (x:=x) (s:=s) (parm:=parm) (m:=m) (rows:=rows) (rowsA:=rowsA) (rowsC:=rowsC) (calls:=calls) (l:=l) (lA:=lA) (lC:=lC) (w:=w) rowsR lR lN hT q0 q1 q2 q3 q4 q5 q6 q7 q8 hg) (hg:=hg)
theorem run_compare (s:Nat) (parm:Bytes) (rows:List SRow) (rowsA:Option Addr) (rowsC:Nat) (calls:Nat) (l:List Binding) (lA:Option Addr) (lC:Nat) (w:World) (rowsR:RO [s] w rowsA (rows.flatMap SRow.enc)) (lR:RO [s] w lA (l.flatMap Binding.enc)) (lN:Kp [s] w (okL Binding.ok l)) (hT:Tab [s] w) (q0:rows.length≤1000) (q1:calls≤890000) (q2:R45.Dist rows) (q3:∀ x∈rows,x.Key.length≤1000000) (q4:parm.length≤1000) (q5:l.length≤1000) (q6:∀ i,(l.getD i default).Lines.length≤1000) (hg:Give [s] w [Ent.blk s 52 [vL rowsA rows.length rowsC,vI 0,vI 0,vI ((calls:Nat):Int)]]):Calls Tryz.prog 15 #[Value.iface 41 (pB s 0),vS [99,111,109,112,97,114,101],vS parm,vL lA l.length lC] w (Gives [s] w fun v L=>∃ cd:Int,∃ fd:Bool,∃ ch:List Change,∃ chA:Option Addr,∃ chC:Nat,∃ ln:List Bytes,∃ lnA:Option Addr,∃ lnC:Nat,v=Value.tuple #[vG [vI cd,vB fd,vL chA ch.length chC,vL lnA ln.length lnC],vI 0]∧L=[Ent.row (.slice chA ch.length chC) 60 5 ch.length (ch.flatMap Change.enc),Ent.row (.slice lnA ln.length lnC) 9 1 ln.length (ln.map vS)]∧(R45.RunR (R45.CmpR rows l) (¬ R45.CmpOk l) fd cd ch ln)):=
 run_ok (s:=s) (name:=[99,111,109,112,97,114,101]) (parm:=parm) (rows:=rows) (rowsA:=rowsA) (rowsC:=rowsC) (calls:=calls) (l:=l) (lA:=lA) (lC:=lC) (Φ:=R45.CmpR rows l) (Ψ:=fun _=>¬ R45.CmpOk l) (w:=w) (rowsR:=rowsR) (lR:=lR) (lN:=lN) (hT:=hT) (hP:=fun x m w rowsR lR lN hT hg=>perf_compare (x:=x) (s:=s) (parm:=parm) (m:=m) (rows:=rows) (rowsA:=rowsA) (rowsC:=rowsC) (calls:=calls) (l:=l) (lA:=lA) (lC:=lC) (w:=w) rowsR lR lN hT q0 q1 q2 q3 q4 q5 q6 hg) (hg:=hg)
end Go.Proofs.YtggobegaiijhhaaGreatDoor
namespace Go.Proofs
open Go.Shelf
def Tryz.keysA_ren:Go.Shelf.Ren:=⟨fun | 7=>31 | 10=>42 | n=>n,fun | 23=>89 | 26=>9 | 3=>90 | 28=>87 | 0=>0 | 27=>86 | 33=>106 | 4=>4 | n=>n,fun | n=>n⟩
theorem Tryz.keysA:Go.Proofs.SlLaysZ.n7 Tryz.prog Tryz.keysA_ren:={
  mixed:=by kernel_rfl
  f7:=⟨Tryz.f31.name,by decide,Tryz.func31.trans (congrArg some (by kernel_rfl))⟩
  f10:=⟨Tryz.f42.name,by decide,Tryz.func42.trans (congrArg some (by kernel_rfl))⟩
  t0:=Tryz.underlying0
  a0:=Tryz.isAgg0
  z0:=Tryz.sizeOf0
  v0:=Tryz.zeroValue0
  t4:=Tryz.underlying4
  a4:=Tryz.isAgg4
  z4:=Tryz.sizeOf4
  v4:=Tryz.zeroValue4
  t23:=Tryz.underlying89
  a23:=Tryz.isAgg89
  z23:=Tryz.sizeOf89
  v23:=Tryz.zeroValue89
  t26:=Tryz.underlying9
  a26:=Tryz.isAgg9
  z26:=Tryz.sizeOf9
  v26:=Tryz.zeroValue9
  t27:=Tryz.underlying86
  a27:=Tryz.isAgg86
  z27:=Tryz.sizeOf86
  v27:=Tryz.zeroValue86
  t28:=Tryz.underlying87
  a28:=Tryz.isAgg87
  z28:=Tryz.sizeOf87
  v28:=Tryz.zeroValue87
  t33:=Tryz.underlying106
  a33:=Tryz.isAgg106
  z33:=Tryz.sizeOf106
  v33:=Tryz.zeroValue106 }
def Tryz.sortedA_ren:Go.Shelf.Ren:=⟨fun | 6=>30 | 8=>40 | 9=>41 | 11=>79 | 13=>81 | 12=>80 | 23=>125 | 24=>110 | 14=>116 | 15=>117 | 16=>118 | 17=>119 | 18=>120 | 19=>121 | 20=>122 | 21=>123 | 22=>124 | 25=>149 | 26=>150 | 27=>151 | 28=>152 | 29=>153 | 30=>154 | 31=>171 | n=>n,fun | 26=>9 | 28=>87 | 24=>25 | 0=>0 | 3=>3 | 37=>122 | 48=>158 | 50=>114 | 4=>4 | 40=>165 | 39=>164 | 45=>108 | 5=>5 | 9=>9 | 51=>195 | 55=>199 | 57=>229 | 58=>230 | 33=>106 | n=>n,fun | n=>n⟩
theorem Tryz.sortedA:Go.Proofs.SlLaysZ.n6 Tryz.prog Tryz.sortedA_ren:={
  mixed:=by kernel_rfl
  f6:=⟨Tryz.f30.name,by decide,Tryz.func30.trans (congrArg some (by kernel_rfl))⟩
  f8:=⟨Tryz.f40.name,by decide,Tryz.func40.trans (congrArg some (by kernel_rfl))⟩
  f11:=⟨Tryz.f79.name,by decide,Tryz.func79.trans (congrArg some (by kernel_rfl))⟩
  t0:=Tryz.underlying0
  a0:=Tryz.isAgg0
  z0:=Tryz.sizeOf0
  v0:=Tryz.zeroValue0
  t24:=Tryz.underlying25
  a24:=Tryz.isAgg25
  z24:=Tryz.sizeOf25
  v24:=Tryz.zeroValue25
  t26:=Tryz.underlying9
  a26:=Tryz.isAgg9
  z26:=Tryz.sizeOf9
  v26:=Tryz.zeroValue9
  t28:=Tryz.underlying87
  a28:=Tryz.isAgg87
  z28:=Tryz.sizeOf87
  v28:=Tryz.zeroValue87
  i26:=by kernel_rfl }
def Tryz.sortA_ren:Go.Shelf.Ren:=⟨fun | 6=>41 | 8=>81 | 9=>80 | 19=>125 | 20=>110 | 21=>116 | 22=>117 | 23=>118 | 24=>119 | 25=>120 | 26=>121 | 27=>122 | 28=>123 | 29=>124 | 36=>149 | 31=>150 | 32=>151 | 37=>152 | 38=>153 | 39=>154 | 41=>171 | n=>n,fun | 27=>25 | 29=>9 | 3=>3 | 32=>122 | 26=>25 | 0=>0 | 44=>158 | 46=>114 | 4=>4 | 36=>165 | 35=>164 | 41=>108 | 5=>5 | 9=>9 | 53=>195 | 57=>199 | 63=>229 | 64=>230 | n=>n,fun | n=>n⟩
theorem Tryz.sortA:Go.Proofs.SlLaysM.n6 Tryz.prog Tryz.sortA_ren:={
  mixed:=by kernel_rfl
  f6:=⟨Tryz.f41.name,by decide,Tryz.func41.trans (congrArg some (by kernel_rfl))⟩
  f8:=Tryz.func81.trans (congrArg some (by kernel_rfl))
  f9:=⟨Tryz.f80.name,by decide,Tryz.func80.trans (congrArg some (by kernel_rfl))⟩
  f19:=Tryz.func125.trans (congrArg some (by kernel_rfl))
  f20:=Tryz.func110.trans (congrArg some (by kernel_rfl))
  f21:=⟨Tryz.f116.name,by decide,Tryz.func116.trans (congrArg some (by kernel_rfl))⟩
  f22:=⟨Tryz.f117.name,by decide,Tryz.func117.trans (congrArg some (by kernel_rfl))⟩
  f23:=⟨Tryz.f118.name,by decide,Tryz.func118.trans (congrArg some (by kernel_rfl))⟩
  f24:=⟨Tryz.f119.name,by decide,Tryz.func119.trans (congrArg some (by kernel_rfl))⟩
  f25:=⟨Tryz.f120.name,by decide,Tryz.func120.trans (congrArg some (by kernel_rfl))⟩
  f26:=⟨Tryz.f121.name,by decide,Tryz.func121.trans (congrArg some (by kernel_rfl))⟩
  f27:=⟨Tryz.f122.name,by decide,Tryz.func122.trans (congrArg some (by kernel_rfl))⟩
  f28:=⟨Tryz.f123.name,by decide,Tryz.func123.trans (congrArg some (by kernel_rfl))⟩
  f29:=⟨Tryz.f124.name,by decide,Tryz.func124.trans (congrArg some (by kernel_rfl))⟩
  f31:=Tryz.func150.trans (congrArg some (by kernel_rfl))
  f32:=Tryz.func151.trans (congrArg some (by kernel_rfl))
  f36:=⟨Tryz.f149.name,by decide,Tryz.func149.trans (congrArg some (by kernel_rfl))⟩
  f37:=⟨Tryz.f152.name,by decide,Tryz.func152.trans (congrArg some (by kernel_rfl))⟩
  f38:=⟨Tryz.f153.name,by decide,Tryz.func153.trans (congrArg some (by kernel_rfl))⟩
  f39:=⟨Tryz.f154.name,by decide,Tryz.func154.trans (congrArg some (by kernel_rfl))⟩
  f41:=⟨Tryz.f171.name,by decide,Tryz.func171.trans (congrArg some (by kernel_rfl))⟩
  t0:=Tryz.underlying0
  a0:=Tryz.isAgg0
  z0:=Tryz.sizeOf0
  v0:=Tryz.zeroValue0
  t3:=Tryz.underlying3
  a3:=Tryz.isAgg3
  z3:=Tryz.sizeOf3
  v3:=Tryz.zeroValue3
  t4:=Tryz.underlying4
  a4:=Tryz.isAgg4
  z4:=Tryz.sizeOf4
  v4:=Tryz.zeroValue4
  t5:=Tryz.underlying5
  a5:=Tryz.isAgg5
  z5:=Tryz.sizeOf5
  v5:=Tryz.zeroValue5
  t9:=Tryz.underlying9
  a9:=Tryz.isAgg9
  z9:=Tryz.sizeOf9
  v9:=Tryz.zeroValue9
  t26:=Tryz.underlying25
  a26:=Tryz.isAgg25
  z26:=Tryz.sizeOf25
  v26:=Tryz.zeroValue25
  t27:=Tryz.underlying25
  a27:=Tryz.isAgg25
  z27:=Tryz.sizeOf25
  v27:=Tryz.zeroValue25
  t29:=Tryz.underlying9
  a29:=Tryz.isAgg9
  z29:=Tryz.sizeOf9
  v29:=Tryz.zeroValue9
  t32:=Tryz.underlying122
  a32:=Tryz.isAgg122
  z32:=Tryz.sizeOf122
  v32:=Tryz.zeroValue122
  t35:=Tryz.underlying164
  a35:=Tryz.isAgg164
  z35:=Tryz.sizeOf164
  v35:=Tryz.zeroValue164
  t36:=Tryz.underlying165
  a36:=Tryz.isAgg165
  z36:=Tryz.sizeOf165
  v36:=Tryz.zeroValue165
  t41:=Tryz.underlying108
  a41:=Tryz.isAgg108
  z41:=Tryz.sizeOf108
  v41:=Tryz.zeroValue108
  t44:=Tryz.underlying158
  a44:=Tryz.isAgg158
  z44:=Tryz.sizeOf158
  v44:=Tryz.zeroValue158
  t46:=Tryz.underlying114
  a46:=Tryz.isAgg114
  z46:=Tryz.sizeOf114
  v46:=Tryz.zeroValue114
  t53:=Tryz.underlying195
  a53:=Tryz.isAgg195
  z53:=Tryz.sizeOf195
  v53:=Tryz.zeroValue195
  t57:=Tryz.underlying199
  a57:=Tryz.isAgg199
  z57:=Tryz.sizeOf199
  v57:=Tryz.zeroValue199
  t63:=Tryz.underlying229
  a63:=Tryz.isAgg229
  z63:=Tryz.sizeOf229
  v63:=Tryz.zeroValue229
  t64:=Tryz.underlying230
  a64:=Tryz.isAgg230
  z64:=Tryz.sizeOf230
  v64:=Tryz.zeroValue230 }
end Go.Proofs
namespace Go.Proofs.YtggobegaiijhhaaGreatDoor
open Go.GV Go.RowKit Go.Maps Go.Sort Go.Shelf Go.MapKept
def anyR:Value→Option (DataW Unit × List MemPlace):=fun _=>some (.nil,[])
theorem sortsA (m:Nat):AnyZ.SortsIn Tryz.prog Tryz.sortedA_ren Fence.wide m:=
  ⟨fun blk off cap ss W hH hblk hsz=>callsIn_wide.2 (AnyM.slices_Sort_string Tryz.sortA blk off cap ss W hH hblk hsz),
   fun p cap W=>callsIn_wide.2 (AnyM.slices_Sort_string_none Tryz.sortA p cap W)⟩
theorem keys_ok (m:Nat) (w:World):Calls Tryz.prog 31 #[Value.map (some m)] w (Gives [] w fun v L=>∃ p:Nat,v=Value.func (.func 42) #[] #[Value.pointer (some ⟨p,0,none⟩)]∧L=[Ent.blk p 89 [Value.map (some m)]]):=by
  refine (callsIn_wide (n:=6)).1 ?_
  refine (AnyZ.keys_in Tryz.keysA Fence.wide 6 trivial rfl (some m) w).mono ?_
  rintro e w' ⟨rfl,rfl⟩
  refine ⟨_,_,rfl,⟨w.heap.size,rfl,rfl⟩,?_⟩
  exact (St.nil (Fr.refl [] w)).alloc _ _ rfl ⟨rfl,.inl (Nat.le_refl _)⟩
theorem fit_of {es:Array MapEntry} {clock:Nat} {l:List (Bytes × Value)} (h:Holds' vS es l) (hb:Born es clock) (hn:(l.map (·.1)).Nodup) (hr:∀ p∈l,p.1.length≤maxLen) (hl:l.length≤maxLen) :
    WideElems.Fit Tryz.prog 9 anyR es clock ∧ ∀ x∈es.toList,∃ a:Bytes,x.key=vS a∧WideElems.rg Tryz.prog 9 anyR x=(Lit.string a,DataW.nil):=by
  have hk:∀ x∈es.toList,∃ p∈l,x.key=vS p.1:=fun x hx=>by
    have:(x.key,x.val)∈l.map (fun p=>(vS p.1,p.2)):=by rw [← h];exact List.mem_map.2 ⟨x,hx,rfl⟩
    obtain ⟨p,hp,e⟩:=List.mem_map.1 this
    simp only [Prod.mk.injEq] at e
    exact ⟨p,hp,e.1.symm⟩
  have hrd:∀ x∈es.toList,∃ a:Bytes,x.key=vS a∧WideElems.rd Tryz.prog 9 anyR x=some (Lit.string a,DataW.nil):=fun x hx=>by
    obtain ⟨p,hp,e⟩:=hk x hx
    refine ⟨p.1,e,?_⟩
    unfold WideElems.rd
    rw [e,show keyOf Tryz.prog 9 (vS p.1)=some (Lit.string p.1) from (Go.WideMaps.keyOf_string_mk (P:=Tryz.prog) (k:=9) Tryz.underlying9 (s:=⟨p.1.toArray⟩) (by have:=hr p hp;show p.1.toArray.size≤maxLen;simpa using this)).trans (by simp)]
    rfl
  have hkeys:es.toList.map (·.key)=(l.map (·.1)).map vS:=by
    have:=congrArg (List.map (·.1)) h
    simpa [List.map_map,Function.comp_def] using this
  have hsz:es.size=l.length:=by
    have:=congrArg List.length h
    simpa using this
  have hinj:∀ a b:Bytes,vS a=vS b→a=b:=fun a b e=>by
    have e2:(⟨a.toArray⟩:ByteArray)=⟨b.toArray⟩:=by simpa [vS] using e
    have:=congrArg (fun x:ByteArray=>x.data.toList) e2
    simpa using this
  refine ⟨⟨by omega,⟨hb.2,hb.1,?_⟩,fun x hx=>?_⟩,fun x hx=>?_⟩
  · rw [hkeys]
    exact List.Pairwise.map _ (fun a b hab e=>hab (hinj _ _ e)) hn
  · obtain ⟨a,_,e⟩:=hrd x hx
    exact ⟨_,e⟩
  · obtain ⟨a,e1,e⟩:=hrd x hx
    exact ⟨a,e1,by unfold WideElems.rg;rw [e];rfl⟩
theorem sorted_ok (m p:Nat) (l:List (Bytes × Value)) (w:World) (hn:(l.map (·.1)).Nodup) (hr:∀ k∈l.map (·.1),k.length≤maxLen) (hl:(l.map (·.1)).length≤1000000000)
    (hg:Give [m,p] w [Ent.mp vS m l,Ent.blk p 89 [Value.map (some m)]]) :
    Calls Tryz.prog 30 #[Value.func (.func 42) #[] #[Value.pointer (some ⟨p,0,none⟩)]] w (Gives [m,p] w fun v L=>∃ (A:Option Addr) (c:Nat) (ss:List Bytes),v=Value.slice A ss.length c∧L=[Ent.mp vS m l,Ent.blk p 89 [Value.map (some m)],Ent.row (.slice A ss.length c) 9 1 ss.length (ss.map vS)]∧ss.length=l.length):=by
  obtain ⟨es,clock,hb,hes,hborn⟩:=mp_at (hg.hold (Ent.mp vS m l) (by simp))
  have hp:=hg.hold (Ent.blk p 89 [Value.map (some m)]) (by simp)
  rw [List.length_map] at hl
  have hl':l.length≤maxLen:=Nat.le_trans hl (by decide)
  have hr:∀ x∈l,x.1.length≤maxLen:=fun x hx=>hr _ (List.mem_map.2 ⟨x,hx,rfl⟩)
  obtain ⟨F,_⟩:=fit_of hes hborn hn hr hl'
  generalize hD:DataW.map ((es.toList.map (WideElems.rg Tryz.prog 9 anyR)).foldr DataW.insert [])=D0
  have hsz:es.size=l.length:=by
    have:=congrArg List.length hes
    simpa using this
  have hown:w.ownsMap Tryz.prog 9 anyR m es.size D0:=⟨es,clock,hb,F,Nat.le_refl _,hD.symm⟩
  have hsize:Maps.size D0=l.length:=by
    rw [← hD]
    show ((es.toList.map (WideElems.rg Tryz.prog 9 anyR)).foldr DataW.insert []).length=_
    rw [(WideShapes.sorted_perm _).length_eq,List.length_map,Array.length_toList,hsz]
  have hkl:(strKeys D0).length=l.length:=by
    rw [← hD]
    show (((es.toList.map (WideElems.rg Tryz.prog 9 anyR)).foldr DataW.insert []).map _).length=_
    rw [List.length_map,(WideShapes.sorted_perm _).length_eq,List.length_map,Array.length_toList,hsz]
  have hpb:=hp.1
  have hpc:w.cell? ⟨p,0,none⟩=some (.map (some m)):=by
    obtain ⟨h1,_⟩:=blk_at hp
    simp [World.cell?,h1]
  have hplt:p<w.heap.size:=hp.2 p rfl
  have hmax:Maps.size D0≤maxLen:=by rw [hsize];exact hl'
  have hseq:SeqGives Fence.wide 2 Tryz.prog 42 #[.pointer (some ⟨p,0,none⟩)] encStr (fun ss=>ss.Perm (strKeys D0)) (Maps.size D0) w:=
    AnyZ.keys_gives (ρ:=Tryz.keysA_ren) { Tryz.keysA with } Fence.wide _ trivial rfl (by omega) p m es.size D0 w hplt hpc hown
  have cS:=AnyZ.sorted_in Tryz.sortedA Fence.wide 5 trivial trivial trivial trivial rfl (by omega) (sortsA _) (enters_of Tryz.func41 (by kernel_rfl) rfl) 42 #[.pointer (some ⟨p,0,none⟩)] trivial (enters_of Tryz.func42 (by kernel_rfl) rfl) _ _ hmax (by rw [hsize];omega) w hseq
  refine ((callsIn_wide (n:=5)).1 cS).mono ?_
  rintro e w' ⟨v,ss,rfl,hS,hrow,hnil,hbel⟩
  have hlen:ss.length=(ss.mergeSort fun x y=>decide (x≤y)).length:=(List.length_mergeSort ss).symm
  have hln:(ss.mergeSort fun x y=>decide (x≤y)).length=l.length:=by rw [← hlen,hS.length_eq,hkl]
  generalize (ss.mergeSort fun x y=>decide (x≤y))=ys at hrow hlen hln
  rw [hlen] at hrow
  have hrow:w'.ownsRow w.heap.size 9 1 v ys.length (ys.map vS):=hrow
  have hfr:Fr [] w w':=Fr.of_below hbel
  have hst:St [m,p] w w' [Ent.mp vS m l,Ent.blk p 89 [Value.map (some m)]]:=hg.start.step hfr
  have hrat:=owns_row hrow
  have hown2:∀ b,(Ent.row v 9 1 ys.length (ys.map vS)).own=some b→w.heap.size≤b:=fun b hb=>(hrow.lt b hb).1
  obtain ⟨A,c,hv⟩:∃ (A:Option Addr) (c:Nat),v=Value.slice A ys.length c:=by
    rcases hrow.2 with h2 | ⟨g,cap,cur,rfl,_⟩
    · exact ⟨none,0,by rw [h2.1,h2.2]⟩
    · exact ⟨_,_,rfl⟩
  subst hv
  refine ⟨_,_,rfl,⟨A,c,ys,rfl,rfl,hln⟩,hst.fr,?_,?_,?_⟩
  · intro x hx
    simp only [List.mem_cons,List.not_mem_nil,or_false] at hx
    rcases hx with rfl | rfl | rfl
    · exact hst.hold _ (by simp)
    · exact hst.hold _ (by simp)
    · exact hrat
  · have hd:=hst.dis
    refine List.pairwise_cons.2 ⟨fun y hy=>?_,List.pairwise_cons.2 ⟨fun y hy=>?_,List.pairwise_singleton _ _⟩⟩
    · simp only [List.mem_cons,List.not_mem_nil,or_false] at hy
      rcases hy with rfl | rfl
      · exact (List.pairwise_cons.1 hd).1 _ (by simp)
      · intro b hb hb2
        have h1:=hown2 b hb2
        have h3:=(hg.hold (Ent.mp vS m l) (by simp)).2 b hb
        omega
    · simp only [List.mem_cons,List.not_mem_nil,or_false] at hy
      subst hy
      intro b hb hb2
      have h1:=hown2 b hb2
      have h3:=hp.2 b hb
      omega
  · intro x hx b hb
    simp only [List.mem_cons,List.not_mem_nil,or_false] at hx
    rcases hx with rfl | rfl | rfl
    · exact .inl (hg.own _ (by simp) b hb)
    · exact .inl (hg.own _ (by simp) b hb)
    · exact .inr (hown2 b hb)
end Go.Proofs.YtggobegaiijhhaaGreatDoor
namespace Go.Proofs.YtggobegaiijhhaaGreatDoor
open Go.GV
set_option linter.unusedVariables false
set_option linter.unusedSimpArgs false
theorem c45x0_ {p:Prop} (h:p:=by first | exact R45.eq_len (by omega) | exact R45.eq_bad (i:=k) (by assumption) | exact R45.eq_end i1_1 (fun i hi=>i1_2 i (by omega))):p:=h
theorem aw_gen (s:Nat) (rows:List SRow) (rowsA:Option Addr) (rowsC:Nat) (calls:Nat) (l:List Binding) (lA:Option Addr) (lC:Nat) (w:World) (rowsR:RO [s] w rowsA (rows.flatMap SRow.enc)) (lR:RO [s] w lA (l.flatMap Binding.enc)) (lN:Kp [s] w (okL Binding.ok l)) (hT:Tab [s] w) (q0:rows=[]) (q1:calls≤890000) (q2:l=[R45.freshB [79,85,84] 200]) (hg:Give [s] w [Ent.blk s 52 [vL rowsA rows.length rowsC,vI 0,vI 0,vI ((calls:Nat):Int)]]):Calls Tryz.prog 15 #[Value.iface 41 (pB s 0),vS [103,101,110,101,114,97,116,101],vS [50,32,65],vL lA l.length lC] w (Gives [s] w fun v L=>∃ cd:Int,∃ fd:Bool,∃ ch:List Change,∃ chA:Option Addr,∃ chC:Nat,∃ ln:List Bytes,∃ lnA:Option Addr,∃ lnC:Nat,v=Value.tuple #[vG [vI cd,vB fd,vL chA ch.length chC,vL lnA ln.length lnC],vI 0]∧L=[Ent.row (.slice chA ch.length chC) 60 5 ch.length (ch.flatMap Change.enc),Ent.row (.slice lnA ln.length lnC) 9 1 ln.length (ln.map vS)]∧(ch.length=2)∧((ch.getD 1 default).Record=[65,48,48,48,50])):=by
 subst q0 q2
 refine (run_generate (s:=s) (parm:=[50,32,65]) (rows:=_) (rowsA:=rowsA) (rowsC:=rowsC) (calls:=calls) (l:=_) (lA:=lA) (lC:=lC) (w:=w) rowsR lR lN hT (by decide) q1 R45.dist_nil (by simp) (by simp) (by decide) (by decide) (R45.lines_all (by intro b hb;rw [List.mem_singleton.1 hb];exact Nat.zero_le _)) (R45.lines_each (by intro b hb;rw [List.mem_singleton.1 hb];intro s hs;cases hs)) hg).mono ?_
 rintro e w' ⟨v,L',h1,⟨cd,fd,ch,chA,chC,ln,lnA,lnC,hv,hL,hf⟩,hS⟩
 exact ⟨v,L',h1,⟨cd,fd,ch,chA,chC,ln,lnA,lnC,hv,hL,(R45.awG hf).1,(R45.awG hf).2⟩,hS⟩
theorem aw_cmp (s:Nat) (rows:List SRow) (rowsA:Option Addr) (rowsC:Nat) (calls:Nat) (l:List Binding) (lA:Option Addr) (lC:Nat) (w:World) (rowsR:RO [s] w rowsA (rows.flatMap SRow.enc)) (lR:RO [s] w lA (l.flatMap Binding.enc)) (lN:Kp [s] w (okL Binding.ok l)) (hT:Tab [s] w) (q0:rows=[]) (q1:calls≤890000) (q2:∃ A C c d,l=[R45.inlineB [73,78,49] [[97],[98]] A c,R45.inlineB [73,78,50] [[97],[99]] C d]) (hg:Give [s] w [Ent.blk s 52 [vL rowsA rows.length rowsC,vI 0,vI 0,vI ((calls:Nat):Int)]]):Calls Tryz.prog 15 #[Value.iface 41 (pB s 0),vS [99,111,109,112,97,114,101],vS [],vL lA l.length lC] w (Gives [s] w fun v L=>∃ cd:Int,∃ fd:Bool,∃ ch:List Change,∃ chA:Option Addr,∃ chC:Nat,∃ ln:List Bytes,∃ lnA:Option Addr,∃ lnC:Nat,v=Value.tuple #[vG [vI cd,vB fd,vL chA ch.length chC,vL lnA ln.length lnC],vI 0]∧L=[Ent.row (.slice chA ch.length chC) 60 5 ch.length (ch.flatMap Change.enc),Ent.row (.slice lnA ln.length lnC) 9 1 ln.length (ln.map vS)]∧(cd=4)∧(ln.length=1)∧(ln.getD 0 []=[100,105,102,102,101,114,101,110,116,32,97,116,32,50])):=by
 obtain ⟨A,C,c,d,rfl⟩:=q2
 subst q0
 refine (run_compare (s:=s) (parm:=[]) (rows:=_) (rowsA:=rowsA) (rowsC:=rowsC) (calls:=calls) (l:=_) (lA:=lA) (lC:=lC) (w:=w) rowsR lR lN hT (by decide) q1 R45.dist_nil (by simp) (by decide) (by show 2≤1000;decide) (R45.lines_all (by intro b hb;rcases List.mem_cons.1 hb with rfl | hb <;> first | exact (show 2≤1000 by decide) | (rw [List.mem_singleton.1 hb];exact (show 2≤1000 by decide)))) hg).mono ?_
 rintro e w' ⟨v,L',h1,⟨cd,fd,ch,chA,chC,ln,lnA,lnC,hv,hL,hf⟩,hS⟩
 exact ⟨v,L',h1,⟨cd,fd,ch,chA,chC,ln,lnA,lnC,hv,hL,(R45.awC hf).1,(R45.awC hf).2.1,(R45.awC hf).2.2⟩,hS⟩
set_option maxRecDepth 20000 in
theorem f22_ok (w:World):Calls Tryz.prog 22 #[] w (Gives [] w fun v L=>∃ A:Option Addr,∃ c:Nat,v=vL A 11 c∧L=[]):=by
 refine calls_J [] 4 Tryz.func22 rfl Tryz.ntmps22 [] rfl rfl (Give.nil w) ?_
 refine q_ (g_ (s_ av_ (z_ (n_ (q_ (g_ ?_))))))
 refine c1 (cl_ Ty.ca32) (fun w hS=>f32_ok w) ?_
 rintro _ _ ⟨pm1,tb2,rfl,rfl⟩
 refine c1 (cl_ Ty.ca31) (fun w hS=>keys_ok pm1 w) ?_
 rintro _ _ ⟨p3,rfl,rfl⟩
 refine JO_call [pm1,p3] [Ent.mp vS pm1 [([97,98,101,110,100],Value.func (.func 44) #[] #[pB tb2 0]),([99,111,100,101],Value.func (.func 47) #[] #[]),([99,111,109,112,97,114,101],Value.func (.func 51) #[] #[pB tb2 0]),([99,111,112,121],Value.func (.func 54) #[] #[pB tb2 0]),([99,111,117,110,116],Value.func (.func 57) #[] #[pB tb2 0]),([101,114,97,115,101],Value.func (.func 61) #[] #[pB tb2 0]),([103,101,110,101,114,97,116,101],Value.func (.func 64) #[] #[]),([109,101,114,103,101],Value.func (.func 65) #[] #[]),([112,114,105,110,116],Value.func (.func 66) #[] #[pB tb2 0]),([115,101,108,101,99,116],Value.func (.func 69) #[] #[]),([115,111,114,116],Value.func (.func 70) #[] #[])],Ent.blk p3 89 [Value.map (some pm1)]] [Ent.blk tb2 94 [Value.func (.func 43) #[] #[]]] rfl trivial (fun _=>x_call Ty.ca30 rfl) (fun _ h=>(((h.front 2 _ rfl).front 1 _ rfl).front 2 _ rfl).keep [true,true,true] rfl) (own_mem rfl) (fun w hS=>sorted_ok pm1 p3 [([97,98,101,110,100],Value.func (.func 44) #[] #[pB tb2 0]),([99,111,100,101],Value.func (.func 47) #[] #[]),([99,111,109,112,97,114,101],Value.func (.func 51) #[] #[pB tb2 0]),([99,111,112,121],Value.func (.func 54) #[] #[pB tb2 0]),([99,111,117,110,116],Value.func (.func 57) #[] #[pB tb2 0]),([101,114,97,115,101],Value.func (.func 61) #[] #[pB tb2 0]),([103,101,110,101,114,97,116,101],Value.func (.func 64) #[] #[]),([109,101,114,103,101],Value.func (.func 65) #[] #[]),([112,114,105,110,116],Value.func (.func 66) #[] #[pB tb2 0]),([115,101,108,101,99,116],Value.func (.func 69) #[] #[]),([115,111,114,116],Value.func (.func 70) #[] #[])] w (by simp only [List.map_cons,List.map_nil];decide) (by simp only [List.map_cons,List.map_nil];decide) (by simp only [List.map_cons,List.map_nil];decide) (hS.give (own_in rfl))) ?_
 rintro _ _ ⟨A4,c5,ss6,rfl,rfl,hf7⟩
 try simp only [List.length_cons,List.length_nil,Nat.zero_add,Nat.reduceAdd] at hf7
 refine s_ av_ (z_ (n_ (rt_ ?_)))
 refine p1 Tryz.results22 rfl ⟨A4,c5,?_,rfl⟩
 have e_x0:(ss6.length:Nat)=11:=by assumption
 exact congrArg (fun (x0:Nat)=>vL A4 x0 c5) e_x0
set_option maxRecDepth 20000 in
theorem f14_ok (a:List Bytes) (aA:Option Addr) (aC:Nat) (b:List Bytes) (bA:Option Addr) (bC:Nat) (w:World) (aR:RO [] w aA (a.map vS)) (bR:RO [] w bA (b.map vS)) (q0:a.length≤9223372036854775807) (q1:b.length≤9223372036854775807):Calls Tryz.prog 14 #[vL aA a.length aC,vL bA b.length bC] w (Gives [] w fun v L=>v=vB (decide (a=b))∧L=[]):=by
 refine calls_J [] 26 Tryz.func14 rfl Tryz.ntmps14 [(0,_),(1,_)] rfl rfl (Give.nil w) ?_
 refine q_ (g_ (s_ av_ (z_ (n_ (q_ (q_ (g_ (s_ mv_ (s_ (lnS Tryz.underlying25) (s_ mv_ (s_ (lnS Tryz.underlying25) (s_ (x_neq_i rfl rfl) (z_ (n_ ?_))))))))))))))
 refine ifd (fun h1w h1=>?_) (fun h1w h1=>?_)
 ·refine q_ (g_ (s_ av_ (z_ (n_ (rt_ (nr_ ?_))))))
  exact p1 Tryz.results14 rfl ⟨(eB c45x0_),rfl⟩
 ·refine sk_ (n_ (q_ (q_ (g_ (s_ av_ (z_ (n_ (k_ ?_))))))))
  refine J_loop (X:=Nat) (fun (k:Nat)=>(k≤a.length)∧(a.length=b.length)∧(∀ i,i<k→a.getD i []=b.getD i [])) (fun (k:Nat)=>[(0,vL aA a.length aC),(1,vL bA b.length bC),(5,vI ((k:Nat):Int))]) (fun (k:Nat)=>[]) (fun (k:Nat)=>a.length-k) (0:Nat) ?_ ⟨rfl,rfl,rfl,trivial⟩ (fun _ h=>h) ?_
  ·try dsimp only
   refine ⟨?_,?_,?_⟩
   ·first | rfl | omega | (simp_all;done) | (simp_all;omega)
   ·omega
   ·intro i hi;omega
  intro k hI1
  obtain ⟨i1_0,i1_1,i1_2⟩:=hI1
  try dsimp only at i1_0
  try dsimp only at i1_1
  try dsimp only at i1_2
  try dsimp only
  refine q_ (q_ (g_ (s_ mv_ (s_ mv_ (s_ (lnS Tryz.underlying25) (s_ (x_lss_i rfl rfl) (z_ (n_ ?_))))))))
  refine ifd (fun h2w h2=>?_) (fun h2w h2=>?_)
  ·refine sk_ (n_ (q_ (k_ (q_ ?_))))
   refine drB [] 9 Ty.mixed ?_
   refine jp_ 0 rfl mv_ (jp_ 1 rfl mv_ (jq_ 2 rfl (ixM (cells_ro aR) Tryz.underlying25 Ty.sz9) (jq_ 3 rfl (ldM vS [] (cells_ro aR) Ty.sc9) (jp_ 4 rfl mv_ (jp_ 5 rfl mv_ (jq_ 6 rfl (ixM (cells_ro bR) Tryz.underlying25 Ty.sz9) (jq_ 7 rfl (ldM vS [] (cells_ro bR) Ty.sc9) (jp_ 8 rfl (x_neq_s rfl rfl) ?_))))))))
   refine JA_done (by kernel_rfl) gm_ ?_
   refine n_ ?_
   refine ifd (fun h3w h3=>?_) (fun h3w h3=>?_)
   ·refine q_ (g_ (s_ av_ (z_ (n_ (rt_ (kq_ (nr_ (rr_ (kq_ (nr_ ?_))))))))))
    exact p1 Tryz.results14 rfl ⟨(eB c45x0_),rfl⟩
   ·refine sk_ (kx_ (n_ (g_ (s_ mv_ (s_ (x_add_n (a:=k) (b:=1) rfl rfl (by omega)) (s_ av_ (z_ ?_)))))))
    refine JX_round (k+1:Nat) ?_ ?_ ⟨rfl,rfl,rfl,trivial⟩ (fun _ h=>h)
    ·try dsimp only
     refine ⟨?_,?_,?_⟩
     ·first | rfl | omega | (simp_all;done) | (simp_all;omega)
     ·first | rfl | omega | (simp_all;done) | (simp_all;omega)
     ·intro i hi
      by_cases hik:i=k
      ·subst hik;simp_all
      ·exact i1_2 i (by omega)
    ·try dsimp only
     first | omega | (simp;omega) | (simp_all;omega)
  ·refine J_exit (ne_ (re_ (kh_ (n_ (q_ ?_)))))
   refine g_ (s_ av_ (z_ (n_ (rt_ ?_))))
   exact p1 Tryz.results14 rfl ⟨(eB c45x0_),rfl⟩
set_option maxRecDepth 20000 in
theorem f8_ok (w:World) (hT:Tab [] w):Calls Tryz.prog 8 #[] w (Gives [] w fun v L=>v=vB true∧L=[]):=by
 refine calls_J [] 86 Tryz.func8 rfl Tryz.ntmps8 [] rfl rfl (Give.nil w) ?_
 refine q_ (g_ (s_ av_ (z_ (n_ (q_ (g_ ?_))))))
 refine c1 (cl_ Ty.ca12) (fun w hS=>f12_ok ([]:List SRow) none 0 w RO.nil) ?_
 rintro _ _ ⟨s1,rfl,rfl⟩
 refine js_ (Value.iface 41 (pB s1 0)) (x_iface rfl (by kernel_rfl)) (c0 (cl_ Ty.ca17) (fun w hS=>f17_ok [79,85,84] 200 w) (o_ (O_buildSlice (cs:=(Binding.enc (R45.freshB [79,85,84] 200))) Tryz.underlying36 Ty.sz33 Ty.ze33 (by decide) (by decide) (by kernel_rfl) fun b2=>?_)))
 refine JO_call [s1] [Ent.blk s1 52 [vL none (([]:List SRow).length) 0,vI 0,vI 0,vI ((0:Nat):Int)]] [Ent.blk b2 33 (Binding.enc (R45.freshB [79,85,84] 200))] rfl trivial (fun _=>x_call Ty.ca15 rfl) (fun _ h=>(h.front 1 _ rfl).keep [true,true] rfl) (own_mem rfl) (fun w hS=>aw_gen s1 ([]:List SRow) none 0 0 [(R45.freshB [79,85,84] 200)] (some ⟨b2,0,none⟩) 1 w RO.nil (RO.of_blkS hS (own_mem rfl) 0 (off:=0) (m:=91) rfl rfl) (okL_cons (fresh_kp _ _) (Binding.ok_none)) (hT.on hS (own_mem rfl)) (by rfl) hy_ (by rfl) (hS.give (own_in rfl))) ?_
 rintro _ _ ⟨cd3,fd4,ch5,chA6,chC7,ln8,lnA9,lnC10,rfl,rfl,hf11,hf12⟩
 refine s_ mv_ (s_ (ex_ 0) (s_ (ex_ 1) (o_ (al_ Ty.ze48 fun b13=>?_))))
 refine o_ (stG 0 Ty.sz48 ?_)
 refine s_ av_ (z_ (n_ (q_ (g_ ?_))))
 refine c1 (cl_ Ty.ca12) (fun w hS=>f12_ok ([]:List SRow) none 0 w RO.nil) ?_
 rintro _ _ ⟨s14,rfl,rfl⟩
 refine js_ (Value.iface 41 (pB s14 0)) (x_iface rfl (by kernel_rfl)) (o_ (O_buildSlice (cs:=[vS [97],vS [98]]) Tryz.underlying25 Ty.sz9 Ty.ze9 (by decide) (by decide) (by kernel_rfl) fun b15=>?_))
 refine c0 (cl_ Ty.ca18) (fun w hS=>f18_ok [73,78,49] [[97],[98]] _ 2 w (RO.of_blk hS 0 (off:=0) (m:=2) rfl rfl)) (o_ (O_buildSlice (cs:=[vS [97],vS [99]]) Tryz.underlying25 Ty.sz9 Ty.ze9 (by decide) (by decide) (by kernel_rfl) fun b16=>?_))
 refine c0 (cl_ Ty.ca18) (fun w hS=>f18_ok [73,78,50] [[97],[99]] _ 2 w (RO.of_blk hS 0 (off:=0) (m:=2) rfl rfl)) (o_ (O_buildSlice (cs:=(Binding.enc (R45.inlineB [73,78,49] [[97],[98]] (some ⟨b15,0,none⟩) 2)++Binding.enc (R45.inlineB [73,78,50] [[97],[99]] (some ⟨b16,0,none⟩) 2))) Tryz.underlying36 Ty.sz33 Ty.ze33 (by decide) (by decide) (by kernel_rfl) fun b17=>?_))
 refine JO_call [s14] [Ent.blk s14 52 [vL none (([]:List SRow).length) 0,vI 0,vI 0,vI ((0:Nat):Int)]] [Ent.blk b17 33 (Binding.enc (R45.inlineB [73,78,49] [[97],[98]] (some ⟨b15,0,none⟩) 2)++Binding.enc (R45.inlineB [73,78,50] [[97],[99]] (some ⟨b16,0,none⟩) 2)),Ent.blk b16 9 [vS [97],vS [99]],Ent.blk b15 9 [vS [97],vS [98]],Ent.blk b13 48 [vI cd3,vB fd4,vL chA6 ch5.length chC7,vL lnA9 ln8.length lnC10],Ent.row (.slice chA6 ch5.length chC7) 60 5 ch5.length (ch5.flatMap Change.enc),Ent.row (.slice lnA9 ln8.length lnC10) 9 1 ln8.length (ln8.map vS),Ent.blk b2 33 (Binding.enc (R45.freshB [79,85,84] 200))] rfl trivial (fun _=>x_call Ty.ca15 rfl) (fun _ h=>((((((((h.front 7 _ rfl).front 7 _ rfl).front 7 _ rfl).front 7 _ rfl).front 6 _ rfl).front 6 _ rfl).front 6 _ rfl).front 7 _ rfl).keep [true,true,true,true,true,true,true,true] rfl) (own_mem rfl) (fun w hS=>aw_cmp s14 ([]:List SRow) none 0 0 [(R45.inlineB [73,78,49] [[97],[98]] (some ⟨b15,0,none⟩) 2),(R45.inlineB [73,78,50] [[97],[99]] (some ⟨b16,0,none⟩) 2)] (some ⟨b17,0,none⟩) 2 w RO.nil (RO.of_blkS hS (own_mem rfl) 0 (off:=0) (m:=182) rfl rfl) (okL_cons (inline_kp (RO.of_blkS hS (own_mem rfl) 2 (off:=0) (m:=2) rfl rfl)) (okL_cons (inline_kp (RO.of_blkS hS (own_mem rfl) 1 (off:=0) (m:=2) rfl rfl)) (Binding.ok_none))) (hT.on hS (own_mem rfl)) (by rfl) hy_ (by exact ⟨_,_,_,_,rfl⟩) (hS.give (own_in rfl))) ?_
 rintro _ _ ⟨cd18,fd19,ch20,chA21,chC22,ln23,lnA24,lnC25,rfl,rfl,hf26,hf27,hf28⟩
 refine s_ mv_ (s_ (ex_ 0) (s_ (ex_ 1) (o_ (al_ Ty.ze48 fun b29=>?_))))
 refine o_ (stG 0 Ty.sz48 ?_)
 refine s_ av_ (z_ (xk_ [0,1,2,3,4] ?_))
 refine n_ (q_ (g_ ?_))
 refine c1 (cl_ Ty.ca12) (fun w hS=>f12_ok ([]:List SRow) none 0 w RO.nil) ?_
 rintro _ _ ⟨s30,rfl,rfl⟩
 refine js_ (Value.iface 41 (pB s30 0)) (x_iface rfl (by kernel_rfl)) (o_ (O_buildSlice (cs:=[vS [97]]) Tryz.underlying25 Ty.sz9 Ty.ze9 (by decide) (by decide) (by kernel_rfl) fun b31=>?_))
 refine c0 (cl_ Ty.ca18) (fun w hS=>f18_ok [73,78] [[97]] _ 1 w (RO.of_blk hS 0 (off:=0) (m:=1) rfl rfl)) ?_
 refine JO_call [s30] [Ent.blk s30 52 [vL none (([]:List SRow).length) 0,vI 0,vI 0,vI ((0:Nat):Int)]] [Ent.blk b31 9 [vS [97]],Ent.blk b29 48 [vI cd18,vB fd19,vL chA21 ch20.length chC22,vL lnA24 ln23.length lnC25],Ent.row (.slice chA21 ch20.length chC22) 60 5 ch20.length (ch20.flatMap Change.enc),Ent.row (.slice lnA24 ln23.length lnC25) 9 1 ln23.length (ln23.map vS),Ent.blk b17 33 (Binding.enc (R45.inlineB [73,78,49] [[97],[98]] (some ⟨b15,0,none⟩) 2)++Binding.enc (R45.inlineB [73,78,50] [[97],[99]] (some ⟨b16,0,none⟩) 2)),Ent.blk b16 9 [vS [97],vS [99]],Ent.blk b15 9 [vS [97],vS [98]],Ent.blk b13 48 [vI cd3,vB fd4,vL chA6 ch5.length chC7,vL lnA9 ln8.length lnC10],Ent.row (.slice chA6 ch5.length chC7) 60 5 ch5.length (ch5.flatMap Change.enc),Ent.row (.slice lnA9 ln8.length lnC10) 9 1 ln8.length (ln8.map vS),Ent.blk b2 33 (Binding.enc (R45.freshB [79,85,84] 200))] rfl trivial (fun _=>x_call Ty.ca11 rfl) (fun _ h=>((((((((((((h.front 11 _ rfl).front 11 _ rfl).front 11 _ rfl).front 11 _ rfl).front 11 _ rfl).front 11 _ rfl).front 11 _ rfl).front 11 _ rfl).front 11 _ rfl).front 11 _ rfl).front 10 _ rfl).front 11 _ rfl).keep [true,true,true,true,true,true,true,true,true,true,true,true] rfl) (own_mem rfl) (fun w hS=>f11_ok s30 ([]:List SRow) none 0 0 (R45.inlineB [73,78] [[97]] (some ⟨b31,0,none⟩) 1) w RO.nil (inline_kp (RO.of_blkS hS (own_mem rfl) 0 (off:=0) (m:=1) rfl rfl)) hy_ hy_ (by exact R45.dist_nil) (by show 1≤1000;decide) (hS.give (own_in rfl))) ?_
 rintro _ _ ⟨out32,outA33,outC34,e35,rfl,rfl,hf36,hf37⟩
 try simp only [List.length_cons,List.length_nil,Nat.zero_add,Nat.reduceAdd] at hf37
 have ha38:=R45.aw_rec (by assumption)
 refine s_ mv_ (s_ (ex_ 0) (s_ (ex_ 1) (s_ av_ (s_ av_ (z_ (n_ (q_ (g_ (s_ mv_ (jr_ (vB true) (s_ mv_ (sg_ rfl (fA 2 Ty.fi48_2) ?_))))))))))))
 refine rg_ rfl (ld_ 9 Ty.sc46) (sg_ rfl (lnS Tryz.underlying46) (sg_ rfl (x_eql_i rfl rfl) (jr_ (vB (decide (((ch5.length:Nat):Int)=2))) (s_ mv_ ?_))))
 refine and_ 6 (decide ((ch5.getD 1 default).Record=([65,48,48,48,50]:Bytes))) (fun g39=>?_) ?_
 ·have g39r:=g39
  have g39r:=of_decide_eq_true g39r
  refine sg_ g39 (fA 2 Ty.fi48_2) (rg_ g39 (ld_ 9 Ty.sc46) (rg_ g39 (ixF (k:=1) Change.enc_len (cells_row 10 rfl) Tryz.underlying46 Ty.sz60) (sg_ g39 (x_fieldAddr Ty.fi60_3 rfl (adr_add _ _ _)) (rg_ g39 (ldF (k:=1) 3 Change.enc_len (cells_row 10 rfl) Ty.sc9) (jg_ g39 (vB (decide ((ch5.getD 1 default).Record=([65,48,48,48,50]:Bytes)))) (x_eql_s rfl rfl) ?_)))))
  exact cr_
 refine s_ mv_ ?_
 refine and_ 2 (true) (fun g40=>?_) ?_
 ·have g40r:=g40
  have ⟨g40r,h41⟩:=band_true g40r
  have g40r:=of_decide_eq_true g40r
  have h41:=of_decide_eq_true h41
  refine sg_ g40 mv_ (jg_ g40 (vB true) (rfl) ?_)
  exact cr_
 refine s_ mv_ ?_
 refine and_ 3 (decide (cd18=4)) (fun g42=>?_) ?_
 ·have g42r:=g42
  have ⟨g42r,h43⟩:=band_true g42r
  have ⟨g42r,h44⟩:=band_true g42r
  have g42r:=of_decide_eq_true g42r
  have h44:=of_decide_eq_true h44
  refine sg_ g42 (fA 0 Ty.fi48_0) (rg_ g42 (ld_ 3 Ty.sc3) (sg_ g42 (x_eql_i rfl rfl) ?_))
  exact cr_
 refine s_ mv_ ?_
 refine and_ 4 (decide (((ln23.length:Nat):Int)=1)) (fun g45=>?_) ?_
 ·have g45r:=g45
  have ⟨g45r,h46⟩:=band_true g45r
  have ⟨g45r,h47⟩:=band_true g45r
  have ⟨g45r,h48⟩:=band_true g45r
  have g45r:=of_decide_eq_true g45r
  have h48:=of_decide_eq_true h48
  have h46:=of_decide_eq_true h46
  refine sg_ g45 (fA 3 Ty.fi48_3) (rg_ g45 (ld_ 3 Ty.sc25) (sg_ g45 (lnS Tryz.underlying25) (sg_ g45 (x_eql_i rfl rfl) ?_)))
  exact cr_
 refine s_ mv_ ?_
 refine and_ 5 (decide ((ln23.getD 0 [])=([100,105,102,102,101,114,101,110,116,32,97,116,32,50]:Bytes))) (fun g49=>?_) ?_
 ·have g49r:=g49
  have ⟨g49r,h50⟩:=band_true g49r
  have ⟨g49r,h51⟩:=band_true g49r
  have ⟨g49r,h52⟩:=band_true g49r
  have ⟨g49r,h53⟩:=band_true g49r
  have g49r:=of_decide_eq_true g49r
  have h53:=of_decide_eq_true h53
  have h51:=of_decide_eq_true h51
  have h50:=of_decide_eq_true h50
  refine sg_ g49 (fA 3 Ty.fi48_3) (rg_ g49 (ld_ 3 Ty.sc25) (rg_ g49 (ixM (k:=0) (cells_row 5 rfl) Tryz.underlying25 Ty.sz9) (rg_ g49 (ldM vS [] (cells_row 5 rfl) Ty.sc9) (jg_ g49 (vB (decide ((ln23.getD 0 [])=([100,105,102,102,101,114,101,110,116,32,97,116,32,50]:Bytes)))) (x_eql_s rfl rfl) ?_))))
  exact cr_
 refine s_ mv_ ?_
 refine and_ 2 (true) (fun g54=>?_) ?_
 ·have g54r:=g54
  have ⟨g54r,h55⟩:=band_true g54r
  have ⟨g54r,h56⟩:=band_true g54r
  have ⟨g54r,h57⟩:=band_true g54r
  have ⟨g54r,h58⟩:=band_true g54r
  have ⟨g54r,h59⟩:=band_true g54r
  have g54r:=of_decide_eq_true g54r
  have h59:=of_decide_eq_true h59
  have h57:=of_decide_eq_true h57
  have h56:=of_decide_eq_true h56
  have h55:=of_decide_eq_true h55
  refine sg_ g54 mv_ (jg_ g54 (vB true) (rfl) ?_)
  exact cr_
 refine s_ mv_ ?_
 refine and_ 3 (decide (((out32.length:Nat):Int)=1)) (fun g60=>?_) ?_
 ·have g60r:=g60
  have ⟨g60r,h61⟩:=band_true g60r
  have ⟨g60r,h62⟩:=band_true g60r
  have ⟨g60r,h63⟩:=band_true g60r
  have ⟨g60r,h64⟩:=band_true g60r
  have ⟨g60r,h65⟩:=band_true g60r
  have ⟨g60r,h66⟩:=band_true g60r
  have g60r:=of_decide_eq_true g60r
  have h66:=of_decide_eq_true h66
  have h64:=of_decide_eq_true h64
  have h63:=of_decide_eq_true h63
  have h62:=of_decide_eq_true h62
  refine sg_ g60 mv_ (sg_ g60 (lnS Tryz.underlying25) (sg_ g60 (x_eql_i rfl rfl) ?_))
  exact cr_
 refine s_ mv_ ?_
 refine and_ 3 (true) (fun g67=>?_) ?_
 ·have g67r:=g67
  have ⟨g67r,h68⟩:=band_true g67r
  have ⟨g67r,h69⟩:=band_true g67r
  have ⟨g67r,h70⟩:=band_true g67r
  have ⟨g67r,h71⟩:=band_true g67r
  have ⟨g67r,h72⟩:=band_true g67r
  have ⟨g67r,h73⟩:=band_true g67r
  have ⟨g67r,h74⟩:=band_true g67r
  have g67r:=of_decide_eq_true g67r
  have h74:=of_decide_eq_true h74
  have h72:=of_decide_eq_true h72
  have h71:=of_decide_eq_true h71
  have h70:=of_decide_eq_true h70
  have h68:=of_decide_eq_true h68
  refine c1g g67 (cl_ Ty.ca22) (fun w hS=>f22_ok w) ?_
  rintro _ _ ⟨A75,c76,rfl,rfl⟩
  refine sg_ g67 (lnS Tryz.underlying25) (jg_ g67 (vB true) (rfl) ?_)
  exact cr_
 refine s_ av_ (z_ (xk_ [0] ?_))
 refine n_ (rt_ ?_)
 exact p1 Tryz.results8 rfl ⟨(eB (by first | rfl | omega | (simp_all;done) | (simp_all;omega))),rfl⟩
end Go.Proofs.YtggobegaiijhhaaGreatDoor
namespace Go.Proofs.YtggobegaiijhhaaGreatDoor
open Go.GV
namespace R45
def cpC (s:Bytes):Change:=⟨2,200,[],s,[]⟩
def cpO (xs:List Bytes):List Change:=[⟨3,200,[],[],[]⟩]++xs.map cpC
def oldB:Binding:={ (default:Binding) with Name:=OUT,Status:=1,Kind:=0,EName:=[65],EData:={ noSet with Id:=200 } }
theorem cp_at {xs:List Bytes} {j:Nat} (h:j<xs.length):(xs.map cpC).getD j default=cpC (xs.getD j []):=by
  rw [List.getD_eq_getElem?_getD,List.getElem?_eq_getElem (by rw [List.length_map];exact h),List.getD_eq_getElem?_getD,List.getElem?_eq_getElem h,Option.getD_some,List.getElem_map];rfl
theorem lines_two {a b:Binding} {n:Nat} (h:a.Lines.length≤n) (k:b.Lines.length≤n) (i:Nat):(([a,b]:List Binding).getD i default).Lines.length≤n:=
  lines_all (l:=[a,b]) (fun x hx=>(List.mem_cons.1 hx).elim (fun e=>by rw [e];exact h) (fun e=>by rw [List.mem_singleton.1 e];exact k)) i
theorem lines_each2 {a b:Binding} {n:Nat} (h:∀ i,(a.Lines.getD i []).length≤n) (k:∀ i,(b.Lines.getD i []).length≤n) (i j:Nat):((([a,b]:List Binding).getD i default).Lines.getD j []).length≤n:=by
  match i with
  | 0=>exact h j
  | 1=>exact k j
  | i+2=>show (([]:List Bytes).getD j []).length≤n;simp
theorem take_all {xs ys:List Bytes} {j:Nat} (h:ys=xs.take j) (hj:xs.length≤j):ys=xs:=by rw [h,List.take_of_length_le hj]
end R45
end Go.Proofs.YtggobegaiijhhaaGreatDoor
namespace Go.Proofs.YtggobegaiijhhaaGreatDoor
open Go.GV
namespace R44
theorem words_run {m:Bytes} (hm:∀ c∈m,c≠32) (hne:m≠[]) (r:Bytes):words (m++32::r)=m::words r:=by
  unfold words
  rw [wordsGo_run m [] (32::r) hm,List.nil_append,wordsGo,if_pos rfl,if_neg hne]
theorem words_last {m:Bytes} (hm:∀ c∈m,c≠32) (hne:m≠[]):words m=[m]:=by
  have:=wordsGo_run m [] [] hm
  rw [List.append_nil,List.nil_append] at this
  unfold words
  rw [this,wordsGo,if_neg hne]
theorem words_sp (r:Bytes):words (32::r)=words r:=by
  unfold words
  rw [wordsGo,if_pos rfl,if_pos rfl]
theorem dec_mem {n:Nat} {c:UInt8} (h:c∈Lib.decDigits n):c≠32∧c≠44:=by
  have:=List.all_eq_true.1 (dec_all n) c h
  unfold isD at this
  simp only [Bool.and_eq_true,decide_eq_true_eq] at this
  constructor <;> (rintro rfl;simp at this)
def tailW (k:Int) (d:Bool):List Bytes:=(if k=1 then [[110,117,109,98,101,114]] else if k=2 then [[98,105,110,97,114,121]] else [])++(if d=true then [DS] else [])
end R44
end Go.Proofs.YtggobegaiijhhaaGreatDoor
namespace Go.Proofs.YtggobegaiijhhaaGreatDoor
open Go.GV
open Srt (Cmp)
namespace R44
def turn (f:SortField):SortField:=SortField.mk f.At f.Length f.Kind (!f.Descending)
end R44
end Go.Proofs.YtggobegaiijhhaaGreatDoor
