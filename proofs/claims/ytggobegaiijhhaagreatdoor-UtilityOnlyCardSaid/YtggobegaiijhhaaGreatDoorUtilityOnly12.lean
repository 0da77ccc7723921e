/- Pl45d, C45c, Pl45k in one text. -/
import Derived.Test.YtggobegaiijhhaaGreatDoorUtilityOnly11
import Derived.Test.YtggobegaiijhhaaGreatDoorUtilityOnly8
set_option linter.unusedVariables false
set_option linter.unusedSimpArgs false
set_option maxRecDepth 20000
namespace Go.Proofs.YtggobegaiijhhaaGreatDoor
open Go.GV
theorem ronN {S:List Nat} {w:World} : ∀ i:Nat,RO S w (([]:List Rw).getD i default).sA ((([]:List Rw).getD i default).s.map vS):=fun _=>RO.nil
theorem ronS {S:List Nat} {w:World} {l:List Rw} {s:List Bytes} {A:Option Addr} {c:Nat} (h:∀ i:Nat,RO S w (l.getD i default).sA ((l.getD i default).s.map vS)) (h2:RO S w A (s.map vS)):∀ i:Nat,RO S w ((l++[Rw.mk s A c]).getD i default).sA (((l++[Rw.mk s A c]).getD i default).s.map vS):=fun i=>by
  rcases Nat.lt_trichotomy i l.length with hi | hi | hi
  · rw [List.getD_eq_getElem?_getD,List.getElem?_append_left hi,← List.getD_eq_getElem?_getD];exact h i
  · subst hi;simpa [List.getD_eq_getElem?_getD] using h2
  · rw [List.getD_eq_getElem?_getD,List.getElem?_eq_none (by rw [List.length_append];simp;omega)];exact RO.nil
namespace R45
def setV (b:Binding):DataSet:=if b.Create=true then b.Set else b.EData
theorem set_t {b:Binding} (h:b.Create=true):b.Set=setV b:=by unfold setV;rw [if_pos h]
theorem set_f {b:Binding} (h:b.Create=false):b.EData=setV b:=by unfold setV;rw [if_neg (by rw [h];decide)]
def wrV (name:Bytes) (b:Binding):Bool:=!(b.Inline||(decide (b.Status=2) && !b.Dummy))&&(decide (name≠[101,114,97,115,101])||((!b.Dummy && !b.Create)&&decide (b.EData.Org=3)))
theorem wr_no {name:Bytes} {b:Binding} (h:b.Inline=true∨b.Status=2∧b.Dummy=false):false=wrV name b:=by
  unfold wrV
  rcases h with h | ⟨h,h2⟩
  · rw [h];rfl
  · rw [h,h2];simp
theorem wr_yes {name:Bytes} {b:Binding} (h:(b.Inline||(decide (b.Status=2) && !b.Dummy))=false):(decide (name≠[101,114,97,115,101])||((!b.Dummy && !b.Create)&&decide (b.EData.Org=3)))=wrV name b:=by unfold wrV;rw [h];rfl
def bindE (p:Bytes × Binding):Bytes × Value:=(p.1,vG (Binding.enc p.2))
def outB (dds:List (Bytes × Binding)):Binding:=(lookK dds [79,85,84]).getD default
theorem look_out (dds:List (Bytes × Binding)):lk (dds.map bindE) [79,85,84]=(lookK dds [79,85,84]).map (fun b=>vG (Binding.enc b)):=lk_map (fun b=>vG (Binding.enc b)) [79,85,84] dds
theorem look_val (dds:List (Bytes × Binding)):((lookK dds [79,85,84]).map (fun b=>vG (Binding.enc b))).getD (vG (Binding.enc default))=vG (Binding.enc (outB dds)):=by unfold outB;cases lookK dds [79,85,84] <;> rfl
def findI (dd:Bytes):List Binding→Int
  | []=>-1
  | b::l=>if b.Name=dd then 0 else if findI dd l<0 then -1 else findI dd l+1
theorem findI_bd (dd:Bytes):∀ l:List Binding,-1≤findI dd l∧findI dd l<l.length
  | []=>by simp [findI]
  | b::l=>by
    have:=findI_bd dd l
    rw [findI];split
    · simp
    · split <;> simp <;> omega
def FindJ (dd:Bytes) (l:List Binding) (k:Nat):Prop:=findI dd l=if findI dd (l.drop k)<0 then -1 else findI dd (l.drop k)+k
theorem FindJ.start {dd:Bytes} {l:List Binding} : FindJ dd l 0:=by
  unfold FindJ
  have:=findI_bd dd l
  rw [List.drop_zero];split <;> omega
theorem FindJ.step {dd:Bytes} {l:List Binding} {k:Nat} (h:FindJ dd l k) (hk:k<l.length) (hn:¬ (l.getD k default).Name=dd):FindJ dd l (k+1):=by
  unfold FindJ at *
  rw [h,drop_cons (d:=default) hk,findI,if_neg hn]
  have:=findI_bd dd (l.drop (k+1))
  split <;> split <;> (try split at *) <;> omega
theorem FindJ.hit {dd:Bytes} {l:List Binding} {k:Nat} (h:FindJ dd l k) (hk:k<l.length) (hn:(l.getD k default).Name=dd):(k:Int)=findI dd l:=by
  unfold FindJ at h
  rw [h,drop_cons (d:=default) hk,findI,if_pos hn];simp
theorem FindJ.done {dd:Bytes} {l:List Binding} {k:Nat} (h:FindJ dd l k) (hk:l.length≤k) : -1=findI dd l:=by
  unfold FindJ at h
  rw [h,List.drop_of_length_le hk];simp [findI]
def countS (n:Nat):Bytes:=Lib.decDigits n++[32,114,101,99,111,114,100,115]
def wrongS (n:Nat):Bytes:=[119,114,111,110,103,32,114,101,99,111,114,100,32]++Lib.decDigits (n+1)
def diffS (n:Nat):Bytes:=[100,105,102,102,101,114,101,110,116,32,97,116,32]++Lib.decDigits (n+1)
theorem count_len (n:Nat) (h:n≤1000000):(countS n).length≤40:=by have:=R44.dec_len19 (n:=n) (by omega);unfold countS;rw [List.length_append];simp;omega
theorem wrong_len (n:Nat) (h:n≤1000000):(wrongS n).length≤40:=by have:=R44.dec_len19 (n:=n+1) (by omega);unfold wrongS;rw [List.length_append];simp;omega
def fd:List Bytes→List Bytes→Nat
  | x::a,y::b=>if x=y then fd a b+1 else 0
  | _,_=>0
def FdJ (a b:List Bytes) (i:Nat):Prop:=fd a b=i+fd (a.drop i) (b.drop i)
theorem FdJ.start {a b:List Bytes} : FdJ a b 0:=by unfold FdJ;simp
theorem FdJ.step {a b:List Bytes} {i:Nat} (h:FdJ a b i) (ha:i<a.length) (hb:i<b.length) (he:a.getD i []=b.getD i []):FdJ a b (i+1):=by
  unfold FdJ at *
  rw [h,drop_cons (d:=[]) ha,drop_cons (d:=[]) hb,fd,if_pos he];omega
theorem FdJ.done {a b:List Bytes} {i:Nat} (h:FdJ a b i) (hs:a.length≤i∨b.length≤i∨a.getD i []≠b.getD i []):i=fd a b:=by
  unfold FdJ at h
  rw [h]
  by_cases ha:a.length≤i
  · rw [List.drop_of_length_le ha];simp [fd]
  · by_cases hb:b.length≤i
    · rw [List.drop_of_length_le hb];cases a.drop i <;> simp [fd]
    · rw [drop_cons (d:=[]) (l:=a) (by omega),drop_cons (d:=[]) (l:=b) (by omega),fd,if_neg];· rfl
      rcases hs with h | h | h
      · exact absurd h ha
      · exact absurd h hb
      · exact h
def cmpC (a b:List Bytes):Int:=if a=b then 0 else 4
def cmpL (a b:List Bytes):List Bytes:=if a=b then [[101,113,117,97,108]] else [diffS (fd a b)]
theorem cmp_eq {a b:List Bytes} (h:a=b):(0:Int)=cmpC a b∧[[101,113,117,97,108]]=cmpL a b:=by unfold cmpC cmpL;rw [if_pos h,if_pos h];exact ⟨rfl,rfl⟩
theorem cmp_ne {a b:List Bytes} (h:¬ a=b) {i:Nat} (hi:i=fd a b):(4:Int)=cmpC a b∧[diffS i]=cmpL a b:=by unfold cmpC cmpL;rw [if_neg h,if_neg h,hi];exact ⟨rfl,rfl⟩
theorem eq_len {a b:List Bytes} (h:a.length≠b.length):false=decide (a=b):=by
  symm;exact decide_eq_false fun e=>h (congrArg List.length e)
theorem eq_bad {a b:List Bytes} {i:Nat} (h:a.getD i []≠b.getD i []):false=decide (a=b):=by
  symm;exact decide_eq_false fun e=>h (by rw [e])
theorem eq_end {a b:List Bytes} (h:a.length=b.length) (k:∀ i,i<a.length→a.getD i []=b.getD i []):true=decide (a=b):=by
  symm;refine decide_eq_true (List.ext_getElem h fun i h1 h2=>?_)
  have:=k i h1
  rwa [List.getD_eq_getElem?_getD,List.getD_eq_getElem?_getD,List.getElem?_eq_getElem h1,List.getElem?_eq_getElem h2] at this
theorem dec_lenI (n:Int) (h:n≤9223372036854775807):(Lib.decDigits n.toNat).length≤19:=R44.dec_len19 (by omega)
def wrC (d:DataSet) (s:Bytes):Change:=⟨2,d.Id,[],s,[]⟩
def wr0 (b:Binding):List Change:=if b.Create=true then [] else if b.Status≠3 then [⟨3,(setV b).Id,[],[],[]⟩] else []
def wrS (b:Binding) (l:List Bytes):List Change:=if b.Dummy=true then [] else wr0 b++l.map (wrC (setV b))
theorem wr_dummy {b:Binding} {l:List Bytes} (h:b.Dummy=true):[]=wrS b l:=by unfold wrS;rw [if_pos h]
theorem wr_done {b:Binding} {l:List Bytes} {k:Nat} {ch:List Change} (h:b.Dummy=false) (hc:ch=wr0 b++(l.take k).map (wrC (setV b))) (hk:l.length≤k):ch=wrS b l:=by unfold wrS;rw [if_neg (by rw [h];decide),hc,List.take_of_length_le hk]
theorem wr_step {b:Binding} {l:List Bytes} {k:Nat} (hk:k<l.length):(wr0 b++(l.take k).map (wrC (setV b)))++[⟨2,(setV b).Id,[],l.getD k [],[]⟩]=wr0 b++(l.take (k+1)).map (wrC (setV b)):=by
  rw [take_snoc (d:=[]) hk,List.map_append,List.append_assoc];rfl
theorem wr0_c {b:Binding} (h:b.Create=true):[]=wr0 b:=by unfold wr0;rw [if_pos h]
theorem wr0_e {b:Binding} (h:b.Create=false) (h2:b.Status≠3):[⟨3,(setV b).Id,[],[],[]⟩]=wr0 b:=by unfold wr0;rw [if_neg (by rw [h];decide),if_pos h2]
theorem wr0_m {b:Binding} (h:b.Create=false) (h2:¬ b.Status≠3):[]=wr0 b:=by unfold wr0;rw [if_neg (by rw [h];decide),if_neg h2]
def NumJ (s:Bytes) (most:Int) (n:Int) (ok:Bool):Prop:=∃ er,R44.AtoiJ s n er∧ok=(((er&&decide (0≤n))&&decide (n≤most))&&decide (Lib.decDigits n.toNat=s))
theorem NumJ.bd {s:Bytes} {most n:Int} {ok:Bool} (h:NumJ s most n ok):(ok=true→0≤n∧n≤most) ∧ -9223372036854775808≤n∧n≤9223372036854775807:=by
  obtain ⟨er,h1,h2⟩:=h
  refine ⟨fun h=>?_,R44.atoi_bd h1⟩
  rw [h2] at h
  simp only [Bool.and_eq_true,decide_eq_true_eq] at h
  omega
def GenJ (parm:Bytes) (n:Int) (t:Bytes) (ok:Bool):Prop:=∃ a o is,((o=true→cutB 32 parm=some (a,t))∧(o=false→cutB 32 parm=none))∧NumJ a 300 n is∧ok=(((((o&&is)&&decide (t≠[]))&&decide ((t.length:Int)≤20))) && !decide ((32:UInt8)∈t))
def genS (t:Bytes) (i:Nat):Bytes:=t++(Lib.decDigits (10001+i)).drop 1
end R45
end Go.Proofs.YtggobegaiijhhaaGreatDoor
namespace Go.Proofs.YtggobegaiijhhaaGreatDoor
open Go.GV Go.Proofs.Tryz Ty
open Go.GV.Ent (blk row mp)
theorem c45c0_ {p:Prop} (h:p:=by first | (left;omega) | (right;left;omega) | (right;right;assumption)):p:=h
theorem c45c1_ {p:Prop} (h:p:=by first | omega | (simp only [List.length_append,List.length_cons,List.length_nil];omega) | (simp;omega) | (simp_all;omega)):p:=h
theorem c45c4_ {p:Prop} (h:p:=by first | exact R45.eq_len om_ | exact R45.eq_bad (i:=k) as_ | exact R45.eq_end i1_1 (fun i hi=>i1_2 i om_)):p:=h
theorem f46_ok (line:Bytes) (w:World):Calls prog 46 #[vS line] w (GivesE [] w (fun v L=>False) (fun c L=>c=R45.pan line∧L=[])):=by
 refine calls_JE [] 5 func46 rfl ntmps46 [(0,_)] rfl rfl (Give.nil w) ?_
 refine g_ (s_ mv_ (js_ (vG [vS line,vI 0]) (x_build kf_) (js_ (Value.iface 77 (vG [vS line,vI 0])) (x_iface rfl kf_) ?_)))
 refine JO_pan (Value.iface 77 (vG [vS line,vI 0])) rfl trivial (x_panic rfl) ?_
 refine JX_pan [] i_ (fun _ _ h=>h) ⟨rfl,?_⟩
 ·rfl
theorem f33_ok (ok:Bool) (line:Bytes) (w:World):Calls prog 33 #[vB ok,vS line] w (GivesE [] w (fun v L=>v=Value.tuple #[]∧L=[]∧(ok=true)) (fun c L=>c=R45.pan line∧L=[]∧(ok=false))):=by
 refine calls_JE [] 8 func33 rfl ntmps33 [(0,_),(1,_)] rfl rfl (Give.nil w) ?_
 refine q_ (g_ (s_ mv_ (s_ (x_not rfl) (z_ (n_ ?_)))))
 refine if_ (fun h1=>?_) (fun h1=>?_)
 ·have h1:(ok)=false:=bnot_true h1
  refine g_ (s_ mv_ ?_)
  refine JO_callP [] [] [] rfl trivial (fun _=>x_call ca46 rfl) i_ (fun _ h=>by cases h) (fun w hS=>f46_ok line w) ?_ ?_
  ·rintro _ _ ⟨rfl,rfl⟩
   refine JX_pan [] i_ (fun _ _ h=>h) ⟨rfl,?_,?_⟩
   ·rfl
   ·assumption
  rintro _ _ ⟨⟩
 ·have h1:(ok)=true:=bnot_false h1
  refine sk_ (JX_En ?_)
  refine JX_end0 results33 [] i_ ⟨?_,?_,?_⟩
  ·rfl
  ·rfl
  ·simp_all
theorem f37_ok (e:Int) (w:World) (q0:e=0∨e=6):Calls prog 37 #[vI e] w (Gives [] w fun v L=>v=Value.tuple #[]∧L=[]):=by
 refine calls_J [] 11 func37 rfl ntmps37 [(0,_)] rfl rfl (Give.nil w) ?_
 refine q_ (g_ (s_ mv_ (s_ (x_neq_i rfl rfl) (s_ mv_ ?_))))
 refine and_ 2 (decide (e≠6)) (fun g1=>?_) ?_
 ·have g1r:=g1
  have g1r:=ot_ g1r
  refine sg_ g1 mv_ (sg_ g1 (x_neq_i rfl rfl) ?_)
  exact cr_
 refine z_ (n_ ?_)
 refine if_ (fun h2=>?_) (fun h2=>?_)
 ·have ⟨h2,h3⟩:=band_true h2
  have h2:=ot_ h2
  have h3:=ot_ h3
  exfalso;omega
 ·simp only [Bool.and_eq_true,Bool.or_eq_true,Bool.and_eq_false_iff,Bool.or_eq_false_iff,Bool.not_eq_true',Bool.not_eq_false',decide_eq_true_eq,decide_eq_false_iff_not] at h2
  refine sk_ ?_
  refine JX_end0 results37 [] i_ ⟨?_,?_⟩
  ·rfl
  ·rfl
theorem f60_ok (n:Nat) (w:World) (hT:Tab [] w) (q0:n≤1000000):Calls prog 60 #[vN n] w (Gives [] w fun v L=>v=vS (R45.countS n)∧L=[]):=by
 refine calls_J [] 6 func60 rfl ntmps60 [(0,_)] rfl rfl (Give.nil w) ?_
 refine q_ (g_ (s_ av_ (z_ (n_ (q_ (g_ (s_ mv_ (c0 (cl_ ca19) (fun w hS=>itoa_ok _ w (hT.on hS (fun _ h=>by cases h)) hy_ hy_) ?_))))))))
 have ha1:=R45.dec_lenI ((n:Nat):Int) om_
 refine js_ (vS ((Lib.decDigits ((n:Nat):Int).toNat)++[32,114,101,99,111,114,100,115])) (x_cat_s rfl rfl c45c1_) (s_ av_ (z_ (n_ (rt_ ?_))))
 exact p1 results60 rfl ⟨(eS (by rfl)),rfl⟩
theorem f88_ok (n:Nat) (w:World) (hT:Tab [] w) (q0:n≤1000000):Calls prog 88 #[vN n] w (Gives [] w fun v L=>v=vS (R45.wrongS n)∧L=[]):=by
 refine calls_J [] 7 func88 rfl ntmps88 [(0,_)] rfl rfl (Give.nil w) ?_
 refine q_ (g_ (s_ av_ (z_ (n_ (q_ (g_ (s_ mv_ (s_ (x_add_n (a:=n) (b:=1) rfl rfl om_) (c0 (cl_ ca19) (fun w hS=>itoa_ok _ w (hT.on hS (fun _ h=>by cases h)) hy_ hy_) ?_)))))))))
 have ha1:=R45.dec_lenI ((n+1:Nat):Int) om_
 refine js_ (vS ([119,114,111,110,103,32,114,101,99,111,114,100,32]++(Lib.decDigits ((n+1:Nat):Int).toNat))) (x_cat_s rfl rfl c45c1_) (s_ av_ (z_ (n_ (rt_ ?_))))
 exact p1 results88 rfl ⟨(eS (by rfl)),rfl⟩
theorem f59_ok (x:Nat) (s:Nat) (parm:Bytes) (m:Nat) (cd:Int) (fd:Bool) (chA:OA_) (chN:Nat) (chC:Nat) (ln:LB_) (lnA:OA_) (lnC:Nat) (lnN:Nat) (t:Bytes) (w:World) (lnQ:lnN=ln.length) (q0:ln.length≤1000000) (hg:Give (Lown [xE_ x s parm m [vI cd,vB fd,vL chA chN chC,vL lnA lnN lnC],row (.slice lnA lnN lnC) 9 1 lnN (ln.map vS)]) w [xE_ x s parm m [vI cd,vB fd,vL chA chN chC,vL lnA lnN lnC],row (.slice lnA lnN lnC) 9 1 lnN (ln.map vS)]):Calls prog 59 #[pB x 0,vS t] w (Gives (Lown [xE_ x s parm m [vI cd,vB fd,vL chA chN chC,vL lnA lnN lnC],row (.slice lnA lnN lnC) 9 1 lnN (ln.map vS)]) w fun v L=>∃ A2:OA_,∃ c2:Nat,v=Value.tuple #[]∧L=[xE_ x s parm m [vI cd,vB fd,vL chA chN chC,vL A2 ((ln++[(t:Bytes)]).length) c2],row (.slice A2 (ln++[(t:Bytes)]).length c2) 9 1 (ln++[(t:Bytes)]).length ((ln++[(t:Bytes)]).map vS)]):=by
 subst lnQ
 refine calls_J (Lown [xE_ x s parm m [vI cd,vB fd,vL chA chN chC,vL lnA ln.length lnC],row (.slice lnA ln.length lnC) 9 1 ln.length (ln.map vS)]) 16 func59 rfl ntmps59 [(0,_),(1,_)] rfl rfl hg ?_
 refine g_ (s_ mv_ (s_ mv_ (s_ (x_nilCheck rfl) (s_ (fA 3 fi82_3) (s_ (fA 6 fi48_3) (r_ (ld_ 0 sc25) (s_ mv_ (o_ (O_buildSlice (cs:=[vS t]) underlying25 sz9 ze9 dd_ dd_ kf_ fun b1=>?_)))))))))
 refine o_ (O_append_m 2 vS ln [t] underlying25 sz9 by9 ze9 rfl rfl rfl rfl rfl (fun _=>rfl) (cells_blk 0 (off:=0) (m:=1) rfl rfl) lt_ lt_ fun A2 c3=>?_)
 refine s_ (x_nilCheck rfl) (s_ (fA 3 fi82_3) (s_ (fA 6 fi48_3) (o_ (st1 1 sz25 ?_))))
 refine z_ ?_
 refine JX_end0 results59 [xE_ x s parm m [vI cd,vB fd,vL chA chN chC,vL A2 ((ln++[t]).length) c3],row (.slice A2 (ln++[t]).length c3) 9 1 (ln++[t]).length ((ln++[t]).map vS)] (fun _ h=>h.keep [F_,T_,T_] rfl) ⟨A2,c3,?_,?_⟩
 ·rfl
 ·have e_y0:(ln++[t]:LB_)=(ln++[(t:Bytes)]):=by
   exact df_
  have e_all:=(congrArg (fun (y0:LB_)=>[xE_ x s parm m [vI cd,vB fd,vL chA chN chC,vL A2 y0.length c3],row (.slice A2 y0.length c3) 9 1 y0.length (y0.map vS)]) e_y0)
  exact e_all
theorem f85_ok (x:Nat) (s:Nat) (parm:Bytes) (m:Nat) (cd:Int) (fd:Bool) (lnA:OA_) (lnN:Nat) (lnC:Nat) (ch:List Change) (chA:OA_) (chC:Nat) (chN:Nat) (t:Change) (w:World) (chQ:chN=ch.length) (q0:ch.length≤1000000) (hg:Give (Lown [xE_ x s parm m [vI cd,vB fd,vL chA chN chC,vL lnA lnN lnC],row (.slice chA chN chC) 60 5 chN (ch.flatMap Change.enc)]) w [xE_ x s parm m [vI cd,vB fd,vL chA chN chC,vL lnA lnN lnC],row (.slice chA chN chC) 60 5 chN (ch.flatMap Change.enc)]):Calls prog 85 #[pB x 0,vG (Change.enc t)] w (Gives (Lown [xE_ x s parm m [vI cd,vB fd,vL chA chN chC,vL lnA lnN lnC],row (.slice chA chN chC) 60 5 chN (ch.flatMap Change.enc)]) w fun v L=>∃ A2:OA_,∃ c2:Nat,v=Value.tuple #[]∧L=[xE_ x s parm m [vI cd,vB fd,vL A2 ((ch++[t]).length) c2,vL lnA lnN lnC],row (.slice A2 (ch++[t]).length c2) 60 5 (ch++[t]).length ((ch++[t]).flatMap Change.enc)]):=by
 subst chQ
 refine calls_J (Lown [xE_ x s parm m [vI cd,vB fd,vL chA ch.length chC,vL lnA lnN lnC],row (.slice chA ch.length chC) 60 5 ch.length (ch.flatMap Change.enc)]) 16 func85 rfl ntmps85 [(0,_),(1,_)] rfl rfl hg ?_
 refine q_ (g_ (o_ (bxG fun b1=>?_)))
 refine z_ (n_ ?_)
 refine drU [] [8,12] 13 mixed ?_
 refine jp_ 0 rfl mv_ (jp_ 1 rfl mv_ (jp_ 2 rfl (x_nilCheck rfl) (jp_ 3 rfl (fA 3 fi82_3) (jp_ 4 rfl (fA 5 fi48_2) ?_))))
 refine je_ 5 (vL chA ch.length chC) rfl (x_load 1 rfl rfl sc46 rfl) ?_
 refine jE_ 6 (vG (Change.enc t)) rfl (x_loadN 0 (Change.enc t) rfl rfl ag60 sz60 rfl) ?_
 refine j1_ 7 (jio_ rfl (O_buildSlice (cs:=(Change.enc t)) underlying46 sz60 ze60 dd_ dd_ kf_ fun b3=>?_)) (fun _ h=>⟨h.keep [F_,F_,F_] rfl,fun _=>h⟩)
 refine j1_ 8 (jio_ rfl (O_append_f 3 Change.enc 5 ch [t] underlying46 sz60 by60 ze60 rfl dd_ rfl rfl rfl rfl Change.enc_len Change.enc_one (cells_blk 0 (off:=0) (m:=5) rfl rfl) lt_ lt_ fun A6 c7=>?_)) (fun _ h=>⟨h.keep [F_,F_,F_,F_] rfl,fun _=>h.keep [F_,T_,T_,T_] rfl⟩)
 refine jp_ 9 rfl (x_nilCheck rfl) (jp_ 10 rfl (fA 3 fi82_3) (jp_ 11 rfl (fA 5 fi48_2) (j1_ 12 (jio_ rfl (st1 2 sz46 ?_)) (gl_ rfl (fun _ h=>h.keep [F_,F_,F_,F_] rfl)))))
 refine JA_done kf_ (gl_ rfl (fun _ h=>h.keep [F_,F_,F_,F_] rfl)) ?_
 refine JX_end0 results85 [xE_ x s parm m [vI cd,vB fd,vL A6 ((ch++[t]).length) c7,vL lnA lnN lnC],row (.slice A6 (ch++[t]).length c7) 60 5 (ch++[t]).length ((ch++[t]).flatMap Change.enc)] (fun _ h=>h.keep [F_,F_,T_,T_] rfl) ⟨A6,c7,?_,?_⟩
 ·rfl
 ·rfl
theorem f90_ok (x:Nat) (s:Nat) (parm:Bytes) (m:Nat) (cd:Int) (fd:Bool) (chA:OA_) (chN:Nat) (chC:Nat) (lnA:OA_) (lnN:Nat) (lnC:Nat) (w:World) (hg:Give [x] w [xE_ x s parm m [vI cd,vB fd,vL chA chN chC,vL lnA lnN lnC]]):Calls prog 90 #[pB x 0] w (GivesE [x] w (fun v L=>v=Value.tuple #[]∧L=[xE_ x s parm m [vI cd,vB fd,vL chA chN chC,vL lnA lnN lnC]]∧(chN≤300)) (fun c L=>c=R45.pan [116,111,111,32,109,97,110,121,32,99,104,97,110,103,101,115]∧L=[]∧(300<chN))):=by
 refine calls_JE [x] 10 func90 rfl ntmps90 [(0,_)] rfl rfl hg ?_
 refine g_ (s_ mv_ (s_ (x_nilCheck rfl) (s_ (fA 3 fi82_3) (s_ (fA 5 fi48_2) (r_ (ld_ 0 sc46) (s_ (lnS underlying46) (s_ (x_leq_i rfl rfl) ?_)))))))
 refine JO_callP [] [] [xE_ x s parm m [vI cd,vB fd,vL chA chN chC,vL lnA lnN lnC]] rfl trivial (fun _=>x_call ca33 rfl) i_ (fun _ h=>by cases h) (fun w hS=>f33_ok _ [116,111,111,32,109,97,110,121,32,99,104,97,110,103,101,115] w) ?_ ?_
 ·rintro _ _ ⟨rfl,rfl,hp1⟩
  have hp1:=of_ hp1
  refine JX_pan [] (fun _ h=>h.keep [F_] rfl) (fun _ _ h=>h) ⟨rfl,?_,?_⟩
  ·rfl
  ·omega
 rintro _ _ ⟨rfl,rfl,hf2⟩
 have hf2:=ot_ hf2
 refine z_ (JX_En ?_)
 refine JX_end0 results90 [xE_ x s parm m [vI cd,vB fd,vL chA chN chC,vL lnA lnN lnC]] i_ ⟨?_,?_,?_⟩
 ·rfl
 ·rfl
 ·omega
theorem f84_ok (b:Binding) (w:World):Calls prog 84 #[vG (Binding.enc b)] w (Gives [] w fun v L=>v=vG (DataSet.enc (R45.setV b))∧L=[]):=by
 refine calls_J [] 10 func84 rfl ntmps84 [(0,_)] rfl rfl (Give.nil w) ?_
 refine q_ (g_ (o_ (bxG fun b1=>?_)))
 refine o_ (al_ ze24 fun b2=>?_)
 refine z_ (n_ (q_ (q_ (g_ (s_ (fA 69 fi33_3) (r_ (ld_ 1 sc4) (z_ (n_ ?_))))))))
 refine if_ (fun h3=>?_) (fun h3=>?_)
 ·refine q_ (g_ (s_ (fA 70 fi33_4) (r_ (ldN 1 (DataSet.enc b.Set) ag24 sz24) (o_ (stG 0 sz24 ?_)))))
  refine z_ (n_ (rt_ (nr_ ?_)))
  refine JX_rets [_] _ results84 (fun w h=>⟨⟨_,rfl,load_blkN 0 (DataSet.enc b.Set) h rfl ag24 sz24 rfl⟩,trivial⟩) rfl _ (fun _ h=>h.keep [F_,F_] rfl) ⟨?_,?_⟩
  ·have e_x0:(b.Set:DataSet)=(R45.setV b):=by first | exact R45.set_t as_ | exact R45.set_f as_
   exact congrArg (fun (x0:DataSet)=>vG (DataSet.enc x0)) e_x0
  ·rfl
 ·refine sk_ (n_ (q_ (g_ (s_ (fA 36 fi33_2) (s_ (fA 38 fi31_2) (r_ (ldN 1 (DataSet.enc b.EData) ag24 sz24) (o_ (stG 0 sz24 ?_))))))))
  refine z_ (n_ (rt_ ?_))
  refine JX_rets [_] _ results84 (fun w h=>⟨⟨_,rfl,load_blkN 0 (DataSet.enc b.EData) h rfl ag24 sz24 rfl⟩,trivial⟩) rfl _ (fun _ h=>h.keep [F_,F_] rfl) ⟨?_,?_⟩
  ·have e_x0:(b.EData:DataSet)=(R45.setV b):=by first | exact R45.set_t as_ | exact R45.set_f as_
   exact congrArg (fun (x0:DataSet)=>vG (DataSet.enc x0)) e_x0
  ·rfl
theorem f36_ok (name:Bytes) (b:Binding) (w:World):Calls prog 36 #[vS name,vG (Binding.enc b)] w (Gives [] w fun v L=>∃ z:Bool,v=vB z∧L=[]∧(z=R45.wrV name b)):=by
 refine calls_J [] 40 func36 rfl ntmps36 [(0,_),(1,_)] rfl rfl (Give.nil w) ?_
 refine q_ (g_ (o_ (bxG fun b1=>?_)))
 refine s_ av_ (z_ (n_ (q_ (q_ (g_ (s_ (fA 0 fi33_0) (s_ (fA 32 fi27_12) (r_ (ld_ 0 sc4) (s_ mv_ ?_)))))))))
 refine or_ 10 ((decide (b.Status=2))&&(!b.Dummy)) (fun g2=>?_) ?_
 ·have g2r:=g2
  refine sg_ g2 (fA 0 fi33_0) (sg_ g2 (fA 6 fi27_6) (rg_ g2 (ld_ 0 sc3) (sg_ g2 (x_eql_i rfl rfl) (sg_ g2 mv_ ?_))))
  refine and_ 4 (!b.Dummy) (fun g3=>?_) ?_ (hw:=by exact ⟨_,rfl,g2⟩)
  ·have g3r:=g3
   have g3r:=ot_ g3r
   refine sg_ g3 (fA 0 fi33_0) (sg_ g3 (fA 34 fi27_14) (rg_ g3 (ld_ 0 sc4) (sg_ g3 (x_not rfl) ?_)))
   exact cr_
  exact cr_
 refine z_ (n_ ?_)
 refine if_ (fun h4=>?_) (fun h4=>?_)
 ·have h4w:=h4
  simp only [Bool.and_eq_true,Bool.or_eq_true,Bool.and_eq_false_iff,Bool.or_eq_false_iff,Bool.not_eq_true',Bool.not_eq_false',decide_eq_true_eq,decide_eq_false_iff_not] at h4
  refine q_ (g_ (s_ av_ (z_ (n_ (rt_ (nr_ ?_))))))
  refine JX_rets [_] _ results36 (fun w h=>⟨rfl,trivial⟩) rfl _ (fun _ h=>h.keep [F_] rfl) ⟨(false),?_,?_,?_⟩
  ·have e_x0:(false:Bool)=(false):=by exact df_
   exact congrArg (fun (x0:Bool)=>vB x0) e_x0
  ·rfl
  ·first | exact R45.wr_no as_ | exact R45.wr_yes as_
 ·have h4w:=h4
  have ⟨h4,h5⟩:=bor_false h4
  simp only [Bool.and_eq_true,Bool.or_eq_true,Bool.and_eq_false_iff,Bool.or_eq_false_iff,Bool.not_eq_true',Bool.not_eq_false',decide_eq_true_eq,decide_eq_false_iff_not] at h5
  refine sk_ (n_ (q_ (g_ (s_ mv_ (js_ (vB (decide (name≠([101,114,97,115,101]:Bytes)))) (x_neq_s rfl rfl) (s_ mv_ ?_))))))
  refine or_ 16 (((!b.Dummy)&&(!b.Create))&&(decide (b.EData.Org=3))) (fun g6=>?_) ?_
  ·have g6r:=g6
   have g6r:=of_ g6r
   refine sg_ g6 (fA 0 fi33_0) (sg_ g6 (fA 34 fi27_14) (rg_ g6 (ld_ 0 sc4) (sg_ g6 (x_not rfl) (sg_ g6 mv_ ?_))))
   refine and_ 3 (!b.Create) (fun g7=>?_) ?_ (hw:=by exact ⟨_,rfl,g6⟩)
   ·have g7r:=g7
    have g7r:(b.Dummy)=false:=bnot_true g7r
    refine sg_ g7 (fA 69 fi33_3) (rg_ g7 (ld_ 0 sc4) (sg_ g7 (x_not rfl) ?_))
    exact cr_
   refine sg_ g6 mv_ ?_
   refine and_ 5 (decide (b.EData.Org=3)) (fun g8=>?_) ?_ (hw:=by exact ⟨_,rfl,g6⟩)
   ·have g8r:=g8
    have ⟨g8r,h9⟩:=band_true g8r
    have g8r:(b.Dummy)=false:=bnot_true g8r
    have h9:(b.Create)=false:=bnot_true h9
    refine sg_ g8 (fA 36 fi33_2) (sg_ g8 (fA 38 fi31_2) (sg_ g8 (fA 39 fi24_1) (rg_ g8 (ld_ 0 sc3) (sg_ g8 (x_eql_i rfl rfl) ?_))))
    exact cr_
   exact cr_
  refine s_ av_ (z_ (n_ (rt_ ?_)))
  refine JX_rets [_] _ results36 (fun w h=>⟨rfl,trivial⟩) rfl _ (fun _ h=>h.keep [F_] rfl) ⟨((decide (name≠([101,114,97,115,101]:Bytes)))||(((!b.Dummy)&&(!b.Create))&&(decide (b.EData.Org=3)))),?_,?_,?_⟩
  ·rfl
  ·rfl
  ·first | exact R45.wr_no as_ | exact R45.wr_yes as_
theorem f49_ok (s:Bytes) (most:Int) (w:World) (hT:Tab [] w) (q0:s.length≤1000000):Calls prog 49 #[vS s,vI most] w (Gives [] w fun v L=>∃ n:Int,∃ ok:Bool,v=Value.tuple #[vI n,vB ok]∧L=[]∧(R45.NumJ s most n ok)):=by
 refine calls_J [] 31 func49 rfl ntmps49 [(0,_),(1,_)] rfl rfl (Give.nil w) ?_
 refine q_ (g_ (s_ av_ (s_ av_ (z_ (n_ (q_ (g_ (s_ mv_ ?_))))))))
 refine c1 (cl_ ca82) (fun w hS=>atoi_ok s w (hT.on hS (fun _ h=>by cases h)) hy_) ?_
 rintro _ _ ⟨n1,er2,N3,rfl,rfl,hf4⟩
 have ha5:=R44.atoi_bd as_
 refine s_ mv_ (s_ (ex_ 0) (s_ (ex_ 1) (s_ av_ (s_ av_ (z_ (n_ (q_ (g_ (s_ mv_ (s_ mv_ (s_ (x_eql_err rfl underlying127) (s_ mv_ ?_))))))))))))
 refine and_ 2 (decide ((0:Int)≤n1)) (fun g6=>?_) ?_
 ·have g6r:=g6
  refine sg_ g6 mv_ (sg_ g6 (x_geq_i rfl rfl) ?_)
  exact cr_
 refine s_ mv_ ?_
 refine and_ 3 (decide (n1≤most)) (fun g7=>?_) ?_
 ·have g7r:=g7
  have ⟨g7r,h8⟩:=band_true g7r
  have h8:=ot_ h8
  refine sg_ g7 mv_ (sg_ g7 mv_ (sg_ g7 (x_leq_i rfl rfl) ?_))
  exact cr_
 refine s_ mv_ ?_
 refine and_ 4 (decide (Lib.decDigits n1.toNat=s)) (fun g9=>?_) ?_
 ·have g9r:=g9
  have ⟨g9r,h10⟩:=band_true g9r
  have ⟨g9r,h11⟩:=band_true g9r
  have h11:=ot_ h11
  have h10:=ot_ h10
  refine sg_ g9 mv_ (c0g g9 (cl_ ca19) (fun w hS=>itoa_ok n1 w (hT.on hS (fun _ h=>by cases h)) hy_ hy_) ?_)
  have ha12:=R45.dec_lenI n1 om_
  refine sg_ g9 mv_ (sg_ g9 (x_eql_s rfl rfl) ?_)
  exact cr_
 refine s_ av_ (s_ av_ (z_ (n_ (rt_ ?_))))
 refine JX_rets [_,_] (Value.tuple #[_,_]) results49 (fun w h=>⟨rfl,rfl,trivial⟩) rfl _ i_ ⟨n1,(((er2&&(decide ((0:Int)≤n1)))&&(decide (n1≤most)))&&(decide (Lib.decDigits n1.toNat=s))),?_,?_,?_⟩
 ·rfl
 ·rfl
 ·exact ⟨_,by assumption,rfl⟩
theorem f83_ok (a:LB_) (aA:OA_) (aC:Nat) (b:LB_) (bA:OA_) (bC:Nat) (w:World) (aR:RO [] w aA (a.map vS)) (bR:RO [] w bA (b.map vS)) (q0:a.length≤9223372036854775807) (q1:b.length≤9223372036854775807):Calls prog 83 #[vL aA a.length aC,vL bA b.length bC] w (Gives [] w fun v L=>v=vB (decide (a=b))∧L=[]):=by
 refine calls_J [] 26 func83 rfl ntmps83 [(0,_),(1,_)] rfl rfl (Give.nil w) ?_
 refine q_ (g_ (s_ av_ (z_ (n_ (q_ (q_ (g_ (s_ mv_ (s_ (lnS underlying25) (s_ mv_ (s_ (lnS underlying25) (s_ (x_neq_i rfl rfl) (z_ (n_ ?_))))))))))))))
 refine ifd (fun h1w h1=>?_) (fun h1w h1=>?_)
 ·refine q_ (g_ (s_ av_ (z_ (n_ (rt_ (nr_ ?_))))))
  exact p1 results83 rfl ⟨(eB c45c4_),rfl⟩
 ·refine sk_ (n_ (q_ (q_ (g_ (s_ mv_ (s_ (lnS underlying25) (s_ mv_ (z_ (n_ (k_ ?_))))))))))
  refine J_loop (X:=Nat) (fun (k:Nat)=>(k≤a.length)∧(a.length=b.length)∧(∀ i,i<k→a.getD i []=b.getD i [])) (fun (k:Nat)=>[(0,vL aA a.length aC),(1,vL bA b.length bC),(12,vN a.length),(13,vN k)]) (fun (k:Nat)=>[]) (fun (k:Nat)=>a.length-k) (0:Nat) ?_ se_ i_ ?_
  ·try dsimp only
   refine ⟨?_,?_,?_⟩
   ·exact df_
   ·omega
   ·intro i hi;omega
  intro k hI1
  obtain ⟨i1_0,i1_1,i1_2⟩:=hI1
  try dsimp only at i1_0
  try dsimp only at i1_1
  try dsimp only at i1_2
  try dsimp only
  refine q_ (g_ (s_ (x_lss_i rfl rfl) (z_ (n_ (q_ ?_)))))
  refine ifd (fun h2w h2=>?_) (fun h2w h2=>?_)
  ·refine sk_ (n_ (q_ (k_ (q_ (g_ (s_ mv_ (s_ av_ (z_ (n_ (q_ ?_))))))))))
   refine drB [] 9 mixed ?_
   refine jp_ 0 rfl mv_ (jp_ 1 rfl mv_ (jq_ 2 rfl (ixM (cells_ro aR) underlying25 sz9) (jq_ 3 rfl (ldM vS [] (cells_ro aR) sc9) (jp_ 4 rfl mv_ (jp_ 5 rfl mv_ (jq_ 6 rfl (ixM (cells_ro bR) underlying25 sz9) (jq_ 7 rfl (ldM vS [] (cells_ro bR) sc9) (jp_ 8 rfl (x_neq_s rfl rfl) ?_))))))))
   refine JA_done kf_ gm_ ?_
   refine n_ ?_
   refine ifd (fun h3w h3=>?_) (fun h3w h3=>?_)
   ·refine q_ (g_ (s_ av_ (z_ (n_ (rt_ (kq_ (nr_ (rr_ (kq_ (nr_ ?_))))))))))
    exact p1 results83 rfl ⟨(eB c45c4_),rfl⟩
   ·refine sk_ (kx_ (n_ (g_ (s_ (x_add_n (a:=k) (b:=1) rfl rfl om_) (s_ mv_ (z_ ?_))))))
    refine JX_round (k+1:Nat) ?_ ?_ se_ i_
    ·try dsimp only
     refine ⟨?_,?_,?_⟩
     ·exact df_
     ·exact df_
     ·intro i hi
      by_cases hik:i=k
      ·subst hik;simp_all
      ·exact i1_2 i om_
    ·try dsimp only
     first | omega | (simp;omega) | (simp_all;omega)
  ·refine J_exit (ne_ (re_ (kh_ (n_ (q_ ?_)))))
   refine g_ (s_ av_ (z_ (n_ (rt_ ?_))))
   exact p1 results83 rfl ⟨(eB c45c4_),rfl⟩
theorem f53_ok (x:Nat) (s:Nat) (parm:Bytes) (m:Nat) (a:LB_) (aA:OA_) (aC:Nat) (b:LB_) (bA:OA_) (bC:Nat) (w:World) (aR:RO [x] w aA (a.map vS)) (bR:RO [x] w bA (b.map vS)) (hT:Tab [x] w) (q0:a.length≤1000000) (q1:b.length≤1000000) (hg:Give [x] w [x0_ x s parm m]):Calls prog 53 #[pB x 0,vL aA a.length aC,vL bA b.length bC] w (Gives [x] w fun v L=>∃ cd:Int,∃ ln:LB_,∃ lnA:OA_,∃ lnC:Nat,v=Value.tuple #[]∧L=[xE_ x s parm m [vI cd,vB false,vL none 0 0,vL lnA ln.length lnC],row (.slice lnA ln.length lnC) 9 1 ln.length (ln.map vS)]∧(cd=R45.cmpC a b)∧(ln=R45.cmpL a b)):=by
 refine calls_J [x] 45 func53 rfl ntmps53 [(0,_),(1,_),(2,_)] rfl rfl hg ?_
 refine q_ (q_ (g_ (s_ mv_ (s_ mv_ (c0 (cl_ ca83) (fun w hS=>f83_ok a aA aC b bA bC w (rno aR hS) (rno bR hS) hy_ hy_) (z_ (n_ ?_)))))))
 refine ifd (fun h1w h1=>?_) (fun h1w h1=>?_)
 ·refine q_ (g_ (s_ mv_ ?_))
  refine JO_call (Lown [x0_ x s parm m,row (.slice none 0 0) 9 1 0 (([]:LB_).map vS)]) [x0_ x s parm m,row (.slice none 0 0) 9 1 0 (([]:LB_).map vS)] [] rfl trivial (fun _=>x_call ca59 rfl) (fun _ h=>((h.nilrow 9 1).front 1 _ rfl).keep [T_,T_] rfl) lown_mem (fun w hS=>f59_ok x s parm m 0 false none 0 0 ([]:LB_) none 0 0 [101,113,117,97,108] w hy_ hy_ (hS.give lown_in)) ?_
  rintro _ _ ⟨e2,e3,rfl,rfl⟩
  refine z_ (n_ (rt_ (nr_ ?_)))
  refine JX_ret0 results53 [xE_ x s parm m [vI 0,vB false,vL none 0 0,vL e2 ((([]:LB_)++[([101,113,117,97,108]:Bytes)]).length) e3],row (.slice e2 (([]:LB_)++[([101,113,117,97,108]:Bytes)]).length e3) 9 1 (([]:LB_)++[([101,113,117,97,108]:Bytes)]).length ((([]:LB_)++[([101,113,117,97,108]:Bytes)]).map vS)] i_ ⟨0,(([]:LB_)++[([101,113,117,97,108]:Bytes)]),e2,e3,?_,?_,?_,?_⟩
  ·rfl
  ·rfl
  ·first | exact (R45.cmp_eq as_).1 | exact (R45.cmp_ne as_ (i1_2.done c45c0_)).1
  ·first | exact (R45.cmp_eq as_).2 | exact (R45.cmp_ne as_ (i1_2.done c45c0_)).2
 ·refine sk_ (n_ (q_ (g_ (s_ av_ (z_ (n_ (q_ (k_ ?_))))))))
  refine J_loop (X:=Nat) (fun (i:Nat)=>(i≤a.length)∧(i≤b.length)∧(R45.FdJ a b i)) (fun (i:Nat)=>[(0,pB x 0),(1,vL aA a.length aC),(2,vL bA b.length bC),(6,vN i)]) (fun (i:Nat)=>[x0_ x s parm m]) (fun (i:Nat)=>a.length-i) (0:Nat) ?_ se_ i_ ?_
  ·try dsimp only
   refine ⟨?_,?_,?_⟩
   ·exact df_
   ·exact df_
   ·exact R45.FdJ.start
  intro i hI1
  obtain ⟨i1_0,i1_1,i1_2⟩:=hI1
  try dsimp only at i1_0
  try dsimp only at i1_1
  try dsimp only at i1_2
  try dsimp only
  refine q_ (q_ ?_)
  refine drB [] 21 mixed ?_
  refine jp_ 0 rfl mv_ (jp_ 1 rfl mv_ (jp_ 2 rfl (lnS underlying25) (jp_ 3 rfl (x_lss_i rfl rfl) (jp_ 4 rfl mv_ ?_))))
  refine jb_ 16 (fun h4=>?_) (fun h4=>?_)
  ·have h4:=ot_ h4
   refine jp_ 5 rfl mv_ (jp_ 6 rfl mv_ (jp_ 7 rfl (lnS underlying25) (jp_ 8 rfl (x_lss_i rfl rfl) ?_ (hw:=w_)) (hw:=w_)) (hw:=w_)) (hw:=w_)
   refine jt_ 9 (vB (decide (((i:Nat):Int)<((b.length:Nat):Int)))) rfl (fun _ _=>rfl) ?_
   refine jp_ 10 rfl mv_ ?_
   refine jb_ 22 (fun h5=>?_) (fun h5=>?_)
   ·have h5:=ot_ h5
    refine jp_ 11 rfl mv_ (jp_ 12 rfl mv_ (jq_ 13 rfl (ixM (cells_ro aR) underlying25 sz9) (jq_ 14 rfl (ldM vS [] (cells_ro aR) sc9) (jp_ 15 rfl mv_ (jp_ 16 rfl mv_ (jq_ 17 rfl (ixM (cells_ro bR) underlying25 sz9) (jq_ 18 rfl (ldM vS [] (cells_ro bR) sc9) (jp_ 19 rfl (x_eql_s rfl rfl) ?_ (hw:=w_)) (hw:=w_)) (hw:=w_)) (hw:=w_)) (hw:=w_)) (hw:=w_)) (hw:=w_)) (hw:=w_)) (hw:=w_)
    refine jt_ 20 (vB (decide ((a.getD i [])=(b.getD i [])))) rfl (fun _ _=>rfl) ?_
    refine JA_done kf_ gm_ ?_
    refine n_ ?_
    refine ifd (fun h6w h6=>?_) (fun h6w h6=>?_)
    ·refine sk_ (n_ (k_ (g_ (s_ mv_ (s_ (x_add_n (a:=i) (b:=1) rfl rfl om_) (s_ av_ (z_ (kx_ ?_))))))))
     refine JX_round (i+1:Nat) ?_ ?_ se_ i_
     ·try dsimp only
      refine ⟨?_,?_,?_⟩
      ·exact df_
      ·exact df_
      ·exact i1_2.step om_ om_ as_
     ·try dsimp only
      first | omega | (simp;omega) | (simp_all;omega)
    ·refine J_exit (ne_ (re_ (kh_ (n_ (q_ ?_)))))
     refine g_ (s_ mv_ (s_ (x_nilCheck rfl) (s_ (fA 3 fi82_3) (s_ (fA 3 fi48_0) (o_ (st1 0 sz3 ?_))))))
     refine z_ (xk_ [0,6] ?_)
     refine n_ (g_ (s_ mv_ (s_ mv_ (s_ (x_add_n (a:=i) (b:=1) rfl rfl om_) (c0 (cl_ ca19) (fun w hS=>itoa_ok _ w (hT.on hS (fun _ h=>by cases h)) hy_ hy_) ?_)))))
     have ha7:=R45.dec_lenI ((i+1:Nat):Int) om_
     refine js_ (vS ([100,105,102,102,101,114,101,110,116,32,97,116,32]++(Lib.decDigits ((i+1:Nat):Int).toNat))) (x_cat_s rfl rfl c45c1_) ?_
     refine JO_call (Lown [xE_ x s parm m [vI 4,vB false,vL none 0 0,vL none 0 0],row (.slice none 0 0) 9 1 0 (([]:LB_).map vS)]) [xE_ x s parm m [vI 4,vB false,vL none 0 0,vL none 0 0],row (.slice none 0 0) 9 1 0 (([]:LB_).map vS)] [] rfl trivial (fun _=>x_call ca59 rfl) (fun _ h=>((h.nilrow 9 1).front 1 _ rfl).keep [T_,T_] rfl) lown_mem (fun w hS=>f59_ok x s parm m 4 false none 0 0 ([]:LB_) none 0 0 ([100,105,102,102,101,114,101,110,116,32,97,116,32]++(Lib.decDigits ((i+1:Nat):Int).toNat)) w hy_ hy_ (hS.give lown_in)) ?_
     rintro _ _ ⟨e8,e9,rfl,rfl⟩
     refine z_ ?_
     refine JX_end0 results53 [xE_ x s parm m [vI 4,vB false,vL none 0 0,vL e8 ((([]:LB_)++[(([100,105,102,102,101,114,101,110,116,32,97,116,32]++(Lib.decDigits ((i+1:Nat):Int).toNat)):Bytes)]).length) e9],row (.slice e8 (([]:LB_)++[(([100,105,102,102,101,114,101,110,116,32,97,116,32]++(Lib.decDigits ((i+1:Nat):Int).toNat)):Bytes)]).length e9) 9 1 (([]:LB_)++[(([100,105,102,102,101,114,101,110,116,32,97,116,32]++(Lib.decDigits ((i+1:Nat):Int).toNat)):Bytes)]).length ((([]:LB_)++[(([100,105,102,102,101,114,101,110,116,32,97,116,32]++(Lib.decDigits ((i+1:Nat):Int).toNat)):Bytes)]).map vS)] i_ ⟨4,(([]:LB_)++[(([100,105,102,102,101,114,101,110,116,32,97,116,32]++(Lib.decDigits ((i+1:Nat):Int).toNat)):Bytes)]),e8,e9,?_,?_,?_,?_⟩
     ·rfl
     ·rfl
     ·first | exact (R45.cmp_eq as_).1 | exact (R45.cmp_ne as_ (i1_2.done c45c0_)).1
     ·first | exact (R45.cmp_eq as_).2 | exact (R45.cmp_ne as_ (i1_2.done c45c0_)).2
   ·have h5:=of_ h5
    refine js2_ 11 rfl (js2_ 12 rfl (js2_ 13 rfl (js2_ 14 rfl (js2_ 15 rfl (js2_ 16 rfl (js2_ 17 rfl (js2_ 18 rfl (js2_ 19 rfl ?_))))))))
    refine jt_ 20 (vB false) rfl (fun _ _=>rfl) ?_
    refine JA_done kf_ gm_ ?_
    refine n_ (iff_ (J_exit (ne_ (re_ (kh_ (n_ (q_ (g_ (s_ mv_ (s_ (x_nilCheck rfl) (s_ (fA 3 fi82_3) (s_ (fA 3 fi48_0) (o_ (st1 0 sz3 ?_))))))))))))))
    refine z_ (xk_ [0,6] ?_)
    refine n_ (g_ (s_ mv_ (s_ mv_ (s_ (x_add_n (a:=i) (b:=1) rfl rfl om_) (c0 (cl_ ca19) (fun w hS=>itoa_ok _ w (hT.on hS (fun _ h=>by cases h)) hy_ hy_) ?_)))))
    have ha10:=R45.dec_lenI ((i+1:Nat):Int) om_
    refine js_ (vS ([100,105,102,102,101,114,101,110,116,32,97,116,32]++(Lib.decDigits ((i+1:Nat):Int).toNat))) (x_cat_s rfl rfl c45c1_) ?_
    refine JO_call (Lown [xE_ x s parm m [vI 4,vB false,vL none 0 0,vL none 0 0],row (.slice none 0 0) 9 1 0 (([]:LB_).map vS)]) [xE_ x s parm m [vI 4,vB false,vL none 0 0,vL none 0 0],row (.slice none 0 0) 9 1 0 (([]:LB_).map vS)] [] rfl trivial (fun _=>x_call ca59 rfl) (fun _ h=>((h.nilrow 9 1).front 1 _ rfl).keep [T_,T_] rfl) lown_mem (fun w hS=>f59_ok x s parm m 4 false none 0 0 ([]:LB_) none 0 0 ([100,105,102,102,101,114,101,110,116,32,97,116,32]++(Lib.decDigits ((i+1:Nat):Int).toNat)) w hy_ hy_ (hS.give lown_in)) ?_
    rintro _ _ ⟨e11,e12,rfl,rfl⟩
    refine z_ ?_
    refine JX_end0 results53 [xE_ x s parm m [vI 4,vB false,vL none 0 0,vL e11 ((([]:LB_)++[(([100,105,102,102,101,114,101,110,116,32,97,116,32]++(Lib.decDigits ((i+1:Nat):Int).toNat)):Bytes)]).length) e12],row (.slice e11 (([]:LB_)++[(([100,105,102,102,101,114,101,110,116,32,97,116,32]++(Lib.decDigits ((i+1:Nat):Int).toNat)):Bytes)]).length e12) 9 1 (([]:LB_)++[(([100,105,102,102,101,114,101,110,116,32,97,116,32]++(Lib.decDigits ((i+1:Nat):Int).toNat)):Bytes)]).length ((([]:LB_)++[(([100,105,102,102,101,114,101,110,116,32,97,116,32]++(Lib.decDigits ((i+1:Nat):Int).toNat)):Bytes)]).map vS)] i_ ⟨4,(([]:LB_)++[(([100,105,102,102,101,114,101,110,116,32,97,116,32]++(Lib.decDigits ((i+1:Nat):Int).toNat)):Bytes)]),e11,e12,?_,?_,?_,?_⟩
    ·rfl
    ·rfl
    ·first | exact (R45.cmp_eq as_).1 | exact (R45.cmp_ne as_ (i1_2.done c45c0_)).1
    ·first | exact (R45.cmp_eq as_).2 | exact (R45.cmp_ne as_ (i1_2.done c45c0_)).2
  ·have h4:=of_ h4
   refine js2_ 5 rfl (js2_ 6 rfl (js2_ 7 rfl (js2_ 8 rfl ?_)))
   refine jt_ 9 (vB false) rfl (fun _ _=>rfl) ?_
   refine jp_ 10 rfl mv_ (js2_ 11 rfl (js2_ 12 rfl (js2_ 13 rfl (js2_ 14 rfl (js2_ 15 rfl (js2_ 16 rfl (js2_ 17 rfl (js2_ 18 rfl (js2_ 19 rfl ?_)))))))))
   refine jt_ 20 (vB false) rfl (fun _ _=>rfl) ?_
   refine JA_done kf_ gm_ ?_
   refine n_ (iff_ (J_exit (ne_ (re_ (kh_ (n_ (q_ (g_ (s_ mv_ (s_ (x_nilCheck rfl) (s_ (fA 3 fi82_3) (s_ (fA 3 fi48_0) (o_ (st1 0 sz3 ?_))))))))))))))
   refine z_ (xk_ [0,6] ?_)
   refine n_ (g_ (s_ mv_ (s_ mv_ (s_ (x_add_n (a:=i) (b:=1) rfl rfl om_) (c0 (cl_ ca19) (fun w hS=>itoa_ok _ w (hT.on hS (fun _ h=>by cases h)) hy_ hy_) ?_)))))
   have ha13:=R45.dec_lenI ((i+1:Nat):Int) om_
   refine js_ (vS ([100,105,102,102,101,114,101,110,116,32,97,116,32]++(Lib.decDigits ((i+1:Nat):Int).toNat))) (x_cat_s rfl rfl c45c1_) ?_
   refine JO_call (Lown [xE_ x s parm m [vI 4,vB false,vL none 0 0,vL none 0 0],row (.slice none 0 0) 9 1 0 (([]:LB_).map vS)]) [xE_ x s parm m [vI 4,vB false,vL none 0 0,vL none 0 0],row (.slice none 0 0) 9 1 0 (([]:LB_).map vS)] [] rfl trivial (fun _=>x_call ca59 rfl) (fun _ h=>((h.nilrow 9 1).front 1 _ rfl).keep [T_,T_] rfl) lown_mem (fun w hS=>f59_ok x s parm m 4 false none 0 0 ([]:LB_) none 0 0 ([100,105,102,102,101,114,101,110,116,32,97,116,32]++(Lib.decDigits ((i+1:Nat):Int).toNat)) w hy_ hy_ (hS.give lown_in)) ?_
   rintro _ _ ⟨e14,e15,rfl,rfl⟩
   refine z_ ?_
   refine JX_end0 results53 [xE_ x s parm m [vI 4,vB false,vL none 0 0,vL e14 ((([]:LB_)++[(([100,105,102,102,101,114,101,110,116,32,97,116,32]++(Lib.decDigits ((i+1:Nat):Int).toNat)):Bytes)]).length) e15],row (.slice e14 (([]:LB_)++[(([100,105,102,102,101,114,101,110,116,32,97,116,32]++(Lib.decDigits ((i+1:Nat):Int).toNat)):Bytes)]).length e15) 9 1 (([]:LB_)++[(([100,105,102,102,101,114,101,110,116,32,97,116,32]++(Lib.decDigits ((i+1:Nat):Int).toNat)):Bytes)]).length ((([]:LB_)++[(([100,105,102,102,101,114,101,110,116,32,97,116,32]++(Lib.decDigits ((i+1:Nat):Int).toNat)):Bytes)]).map vS)] i_ ⟨4,(([]:LB_)++[(([100,105,102,102,101,114,101,110,116,32,97,116,32]++(Lib.decDigits ((i+1:Nat):Int).toNat)):Bytes)]),e14,e15,?_,?_,?_,?_⟩
   ·rfl
   ·rfl
   ·first | exact (R45.cmp_eq as_).1 | exact (R45.cmp_ne as_ (i1_2.done c45c0_)).1
   ·first | exact (R45.cmp_eq as_).2 | exact (R45.cmp_ne as_ (i1_2.done c45c0_)).2
end Go.Proofs.YtggobegaiijhhaaGreatDoor
namespace Go.Proofs.YtggobegaiijhhaaGreatDoor
open Go.GV
namespace R16
def zeros (l:List Int):Bool:=l.all fun n=>decide (n=0)
theorem zeros_bad {l:List Int} {k:Nat} (hk:k<l.length) (h:l.getD k 0≠0):false=zeros l:=by
  symm
  rw [Bool.eq_false_iff]
  intro h2
  unfold zeros at h2
  rw [List.all_eq_true] at h2
  have:=h2 (l.getD k 0) (by rw [List.getD_eq_getElem?_getD,List.getElem?_eq_getElem hk];exact List.getElem_mem _)
  exact h (by simpa using this)
theorem zeros_end {l:List Int} {k:Nat} (hk:k≤l.length) (hk2:¬ (k:Int)<l.length) (h:∀ i,i<k→l.getD i 0=0):true=zeros l:=by
  symm
  unfold zeros
  rw [List.all_eq_true]
  intro x hx
  obtain ⟨i,hi,rfl⟩:=List.getElem_of_mem hx
  have:=h i (by omega)
  rw [List.getD_eq_getElem?_getD,List.getElem?_eq_getElem hi] at this
  simpa using this
def bet (n lo hi:Int):Bool:=decide (lo≤n)&&decide (n≤hi)
def valid (d:DataSet):Bool:=
  bet d.Org 1 3&&(decide (d.Interval=128)||decide (d.Interval=256)||decide (d.Interval=512))&&bet d.Length 1 (min 200 (d.Interval-7))&&decide (d.Format=0)&&decide (d.Block=0) &&
  (if d.Org=3 then decide (d.Length≤d.Interval / 2-8)&&bet d.KeyAt 0 d.Length&&bet d.KeyLength 1 (d.Interval / 16)&&decide (d.KeyAt+d.KeyLength≤d.Length)&&bet d.Area 2 8&&bet d.FreeInterval 0 90&&bet d.FreeArea 0 (d.Area-1)
   else decide (d.KeyAt=0)&&decide (d.KeyLength=0)&&decide (d.Area=0)&&decide (d.FreeInterval=0)&&decide (d.FreeArea=0))
theorem known_step {x:Int} {k:Nat} (hk:k<3):(((([128,256,512]:List Int).take k).any fun n=>decide (x=n))||decide (x=([128,256,512]:List Int).getD k 0))=(([128,256,512]:List Int).take (k+1)).any fun n=>decide (x=n):=by
  match k,hk with
  | 0,_=>simp
  | 1,_=>simp
  | 2,_=>simp [Bool.or_assoc]
theorem known3 {x:Int} : ((([128,256,512]:List Int).take 3).any fun n=>decide (x=n))=(decide (x=128)||decide (x=256)||decide (x=512)):=by simp [Bool.or_assoc]
theorem valid_facts {d:DataSet} (h:valid d=true):1≤d.Org∧d.Org≤3∧(d.Interval=128∨d.Interval=256∨d.Interval=512)∧1≤d.Length∧d.Length≤200∧d.Length≤d.Interval-7∧(d.Org=3→0≤d.KeyAt∧1≤d.KeyLength∧d.KeyLength≤32∧d.KeyAt+d.KeyLength≤d.Length∧2≤d.Area∧d.Area≤8)∧(d.Org≠3→d.KeyAt=0∧d.KeyLength=0):=by
  unfold valid bet at h
  simp only [Bool.and_eq_true,Bool.or_eq_true,decide_eq_true_eq] at h
  by_cases hO:d.Org=3
  · rw [if_pos hO] at h;simp only [Bool.and_eq_true,decide_eq_true_eq] at h;omega
  · rw [if_neg hO] at h;simp only [Bool.and_eq_true,decide_eq_true_eq] at h;omega
end R16
namespace R45
end R45
end Go.Proofs.YtggobegaiijhhaaGreatDoor
