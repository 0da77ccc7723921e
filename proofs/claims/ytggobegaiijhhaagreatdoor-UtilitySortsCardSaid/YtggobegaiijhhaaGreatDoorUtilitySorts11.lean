/- C45c, Pl45k in one text. -/
import Derived.Test.YtggobegaiijhhaaGreatDoorUtilitySorts10
import Derived.Test.YtggobegaiijhhaaGreatDoorUtilitySorts7
set_option linter.unusedVariables false
set_option linter.unusedSimpArgs false
namespace Go.Proofs.YtggobegaiijhhaaGreatDoor
open Go.GV
set_option linter.unusedVariables false
set_option linter.unusedSimpArgs false
theorem c45c0_ {p:Prop} (h:p:=by first | (left;omega) | (right;left;omega) | (right;right;assumption)):p:=h
theorem c45c1_ {p:Prop} (h:p:=by first | omega | (simp only [List.length_append,List.length_cons,List.length_nil];omega) | (simp;omega) | (simp_all;omega)):p:=h
theorem c45c4_ {p:Prop} (h:p:=by first | exact R45.eq_len (by omega) | exact R45.eq_bad (i:=k) (by assumption) | exact R45.eq_end i1_1 (fun i hi=>i1_2 i (by omega))):p:=h
set_option maxRecDepth 20000 in
theorem f46_ok (line:Bytes) (w:World):Calls Tryz.prog 46 #[vS line] w (GivesE [] w (fun v L=>False) (fun c L=>c=R45.pan line∧L=[])):=by
 refine calls_JE [] 5 Tryz.func46 rfl Tryz.ntmps46 [(0,_)] rfl rfl (Give.nil w) ?_
 refine g_ (s_ mv_ (js_ (vG [vS line,vI 0]) (x_build (by kernel_rfl)) (js_ (Value.iface 77 (vG [vS line,vI 0])) (x_iface rfl (by kernel_rfl)) ?_)))
 refine JO_pan (Value.iface 77 (vG [vS line,vI 0])) rfl trivial (x_panic rfl) ?_
 refine JX_pan [] (fun _ h=>h) (fun _ _ h=>h) ⟨rfl,?_⟩
 ·rfl
set_option maxRecDepth 20000 in
theorem f33_ok (ok:Bool) (line:Bytes) (w:World):Calls Tryz.prog 33 #[vB ok,vS line] w (GivesE [] w (fun v L=>v=Value.tuple #[]∧L=[]∧(ok=true)) (fun c L=>c=R45.pan line∧L=[]∧(ok=false))):=by
 refine calls_JE [] 8 Tryz.func33 rfl Tryz.ntmps33 [(0,_),(1,_)] rfl rfl (Give.nil w) ?_
 refine q_ (g_ (s_ mv_ (s_ (x_not rfl) (z_ (n_ ?_)))))
 refine if_ (fun h1=>?_) (fun h1=>?_)
 ·have h1:(ok)=false:=bnot_true h1
  refine g_ (s_ mv_ ?_)
  refine JO_callP [] [] [] rfl trivial (fun _=>x_call Ty.ca46 rfl) (fun _ h=>h) (fun _ h=>by cases h) (fun w hS=>f46_ok line w) ?_ ?_
  ·rintro _ _ ⟨rfl,rfl⟩
   refine JX_pan [] (fun _ h=>h) (fun _ _ h=>h) ⟨rfl,?_,?_⟩
   ·rfl
   ·assumption
  rintro _ _ ⟨⟩
 ·have h1:(ok)=true:=bnot_false h1
  refine sk_ (JX_En ?_)
  refine JX_end0 Tryz.results33 [] (fun _ h=>h) ⟨?_,?_,?_⟩
  ·rfl
  ·rfl
  ·simp_all
set_option maxRecDepth 20000 in
theorem f37_ok (e:Int) (w:World) (q0:e=0∨e=6):Calls Tryz.prog 37 #[vI e] w (Gives [] w fun v L=>v=Value.tuple #[]∧L=[]):=by
 refine calls_J [] 11 Tryz.func37 rfl Tryz.ntmps37 [(0,_)] rfl rfl (Give.nil w) ?_
 refine q_ (g_ (s_ mv_ (s_ (x_neq_i rfl rfl) (s_ mv_ ?_))))
 refine and_ 2 (decide (e≠6)) (fun g1=>?_) ?_
 ·have g1r:=g1
  have g1r:=of_decide_eq_true g1r
  refine sg_ g1 mv_ (sg_ g1 (x_neq_i rfl rfl) ?_)
  exact cr_
 refine z_ (n_ ?_)
 refine if_ (fun h2=>?_) (fun h2=>?_)
 ·have ⟨h2,h3⟩:=band_true h2
  have h2:=of_decide_eq_true h2
  have h3:=of_decide_eq_true h3
  exfalso;omega
 ·simp only [Bool.and_eq_true,Bool.or_eq_true,Bool.and_eq_false_iff,Bool.or_eq_false_iff,Bool.not_eq_true',Bool.not_eq_false',decide_eq_true_eq,decide_eq_false_iff_not] at h2
  refine sk_ ?_
  refine JX_end0 Tryz.results37 [] (fun _ h=>h) ⟨?_,?_⟩
  ·rfl
  ·rfl
set_option maxRecDepth 20000 in
theorem f60_ok (n:Nat) (w:World) (hT:Tab [] w) (q0:n≤1000000):Calls Tryz.prog 60 #[vI ((n:Nat):Int)] w (Gives [] w fun v L=>v=vS (R45.countS n)∧L=[]):=by
 refine calls_J [] 6 Tryz.func60 rfl Tryz.ntmps60 [(0,_)] rfl rfl (Give.nil w) ?_
 refine q_ (g_ (s_ av_ (z_ (n_ (q_ (g_ (s_ mv_ (c0 (cl_ Ty.ca19) (fun w hS=>itoa_ok _ w (hT.on hS (fun _ h=>by cases h)) hy_ hy_) ?_))))))))
 have ha1:=R45.dec_lenI ((n:Nat):Int) (by omega)
 refine js_ (vS ((Lib.decDigits ((n:Nat):Int).toNat)++[32,114,101,99,111,114,100,115])) (x_cat_s rfl rfl c45c1_) (s_ av_ (z_ (n_ (rt_ ?_))))
 exact p1 Tryz.results60 rfl ⟨(eS (by rfl)),rfl⟩
set_option maxRecDepth 20000 in
theorem f88_ok (n:Nat) (w:World) (hT:Tab [] w) (q0:n≤1000000):Calls Tryz.prog 88 #[vI ((n:Nat):Int)] w (Gives [] w fun v L=>v=vS (R45.wrongS n)∧L=[]):=by
 refine calls_J [] 7 Tryz.func88 rfl Tryz.ntmps88 [(0,_)] rfl rfl (Give.nil w) ?_
 refine q_ (g_ (s_ av_ (z_ (n_ (q_ (g_ (s_ mv_ (s_ (x_add_n (a:=n) (b:=1) rfl rfl (by omega)) (c0 (cl_ Ty.ca19) (fun w hS=>itoa_ok _ w (hT.on hS (fun _ h=>by cases h)) hy_ hy_) ?_)))))))))
 have ha1:=R45.dec_lenI ((n+1:Nat):Int) (by omega)
 refine js_ (vS ([119,114,111,110,103,32,114,101,99,111,114,100,32]++(Lib.decDigits ((n+1:Nat):Int).toNat))) (x_cat_s rfl rfl c45c1_) (s_ av_ (z_ (n_ (rt_ ?_))))
 exact p1 Tryz.results88 rfl ⟨(eS (by rfl)),rfl⟩
set_option maxRecDepth 20000 in
theorem f59_ok (x:Nat) (s:Nat) (parm:Bytes) (m:Nat) (cd:Int) (fd:Bool) (chA:Option Addr) (chN:Nat) (chC:Nat) (ln:List Bytes) (lnA:Option Addr) (lnC:Nat) (lnN:Nat) (t:Bytes) (w:World) (lnQ:lnN=ln.length) (q0:ln.length≤1000000) (hg:Give (Lown [Ent.blk x 82 [Value.iface 41 (pB s 0),vS parm,Value.map (some m),vI cd,vB fd,vL chA chN chC,vL lnA lnN lnC],Ent.row (.slice lnA lnN lnC) 9 1 lnN (ln.map vS)]) w [Ent.blk x 82 [Value.iface 41 (pB s 0),vS parm,Value.map (some m),vI cd,vB fd,vL chA chN chC,vL lnA lnN lnC],Ent.row (.slice lnA lnN lnC) 9 1 lnN (ln.map vS)]):Calls Tryz.prog 59 #[pB x 0,vS t] w (Gives (Lown [Ent.blk x 82 [Value.iface 41 (pB s 0),vS parm,Value.map (some m),vI cd,vB fd,vL chA chN chC,vL lnA lnN lnC],Ent.row (.slice lnA lnN lnC) 9 1 lnN (ln.map vS)]) w fun v L=>∃ A2:Option Addr,∃ c2:Nat,v=Value.tuple #[]∧L=[Ent.blk x 82 [Value.iface 41 (pB s 0),vS parm,Value.map (some m),vI cd,vB fd,vL chA chN chC,vL A2 ((ln++[(t:Bytes)]).length) c2],Ent.row (.slice A2 (ln++[(t:Bytes)]).length c2) 9 1 (ln++[(t:Bytes)]).length ((ln++[(t:Bytes)]).map vS)]):=by
 subst lnQ
 refine calls_J (Lown [Ent.blk x 82 [Value.iface 41 (pB s 0),vS parm,Value.map (some m),vI cd,vB fd,vL chA chN chC,vL lnA ln.length lnC],Ent.row (.slice lnA ln.length lnC) 9 1 ln.length (ln.map vS)]) 16 Tryz.func59 rfl Tryz.ntmps59 [(0,_),(1,_)] rfl rfl hg ?_
 refine g_ (s_ mv_ (s_ mv_ (s_ (x_nilCheck rfl) (s_ (fA 3 Ty.fi82_3) (s_ (fA 6 Ty.fi48_3) (r_ (ld_ 0 Ty.sc25) (s_ mv_ (o_ (O_buildSlice (cs:=[vS t]) Tryz.underlying25 Ty.sz9 Ty.ze9 (by decide) (by decide) (by kernel_rfl) fun b1=>?_)))))))))
 refine o_ (O_append_m 2 vS ln [t] Tryz.underlying25 Ty.sz9 Ty.by9 Ty.ze9 rfl rfl rfl rfl rfl (fun _=>rfl) (cells_blk 0 (off:=0) (m:=1) rfl rfl) lt_ lt_ fun A2 c3=>?_)
 refine s_ (x_nilCheck rfl) (s_ (fA 3 Ty.fi82_3) (s_ (fA 6 Ty.fi48_3) (o_ (st1 1 Ty.sz25 ?_))))
 refine z_ ?_
 refine JX_end0 Tryz.results59 [Ent.blk x 82 [Value.iface 41 (pB s 0),vS parm,Value.map (some m),vI cd,vB fd,vL chA chN chC,vL A2 ((ln++[t]).length) c3],Ent.row (.slice A2 (ln++[t]).length c3) 9 1 (ln++[t]).length ((ln++[t]).map vS)] (fun _ h=>h.keep [false,true,true] rfl) ⟨A2,c3,?_,?_⟩
 ·rfl
 ·have e_y0:(ln++[t]:List Bytes)=(ln++[(t:Bytes)]):=by
   first | rfl | omega | (simp_all;done) | (simp_all;omega)
  have e_all:=(congrArg (fun (y0:List Bytes)=>[Ent.blk x 82 [Value.iface 41 (pB s 0),vS parm,Value.map (some m),vI cd,vB fd,vL chA chN chC,vL A2 y0.length c3],Ent.row (.slice A2 y0.length c3) 9 1 y0.length (y0.map vS)]) e_y0)
  exact e_all
set_option maxRecDepth 20000 in
theorem f85_ok (x:Nat) (s:Nat) (parm:Bytes) (m:Nat) (cd:Int) (fd:Bool) (lnA:Option Addr) (lnN:Nat) (lnC:Nat) (ch:List Change) (chA:Option Addr) (chC:Nat) (chN:Nat) (t:Change) (w:World) (chQ:chN=ch.length) (q0:ch.length≤1000000) (hg:Give (Lown [Ent.blk x 82 [Value.iface 41 (pB s 0),vS parm,Value.map (some m),vI cd,vB fd,vL chA chN chC,vL lnA lnN lnC],Ent.row (.slice chA chN chC) 60 5 chN (ch.flatMap Change.enc)]) w [Ent.blk x 82 [Value.iface 41 (pB s 0),vS parm,Value.map (some m),vI cd,vB fd,vL chA chN chC,vL lnA lnN lnC],Ent.row (.slice chA chN chC) 60 5 chN (ch.flatMap Change.enc)]):Calls Tryz.prog 85 #[pB x 0,vG (Change.enc t)] w (Gives (Lown [Ent.blk x 82 [Value.iface 41 (pB s 0),vS parm,Value.map (some m),vI cd,vB fd,vL chA chN chC,vL lnA lnN lnC],Ent.row (.slice chA chN chC) 60 5 chN (ch.flatMap Change.enc)]) w fun v L=>∃ A2:Option Addr,∃ c2:Nat,v=Value.tuple #[]∧L=[Ent.blk x 82 [Value.iface 41 (pB s 0),vS parm,Value.map (some m),vI cd,vB fd,vL A2 ((ch++[t]).length) c2,vL lnA lnN lnC],Ent.row (.slice A2 (ch++[t]).length c2) 60 5 (ch++[t]).length ((ch++[t]).flatMap Change.enc)]):=by
 subst chQ
 refine calls_J (Lown [Ent.blk x 82 [Value.iface 41 (pB s 0),vS parm,Value.map (some m),vI cd,vB fd,vL chA ch.length chC,vL lnA lnN lnC],Ent.row (.slice chA ch.length chC) 60 5 ch.length (ch.flatMap Change.enc)]) 16 Tryz.func85 rfl Tryz.ntmps85 [(0,_),(1,_)] rfl rfl hg ?_
 refine q_ (g_ (o_ (bxG fun b1=>?_)))
 refine z_ (n_ ?_)
 refine drU [] [8,12] 13 Ty.mixed ?_
 refine jp_ 0 rfl mv_ (jp_ 1 rfl mv_ (jp_ 2 rfl (x_nilCheck rfl) (jp_ 3 rfl (fA 3 Ty.fi82_3) (jp_ 4 rfl (fA 5 Ty.fi48_2) ?_))))
 refine JA_early 5 (vL chA ch.length chC) rfl (by kernel_rfl) (by kernel_rfl) (by kernel_rfl) rfl (by kernel_rfl) (fun _ _ _ h=>h) rfl trivial (x_load 1 rfl rfl Ty.sc46 rfl) ?_
 refine JA_earlyT 6 (vG (Change.enc t)) rfl (by kernel_rfl) (by kernel_rfl) (by kernel_rfl) rfl (by kernel_rfl) (fun _ _ _ h=>h) rfl trivial (x_loadN 0 (Change.enc t) rfl rfl Ty.ag60 Ty.sz60 rfl) ?_
 refine j1_ 7 (jio_ rfl (O_buildSlice (cs:=(Change.enc t)) Tryz.underlying46 Ty.sz60 Ty.ze60 (by decide) (by decide) (by kernel_rfl) fun b3=>?_)) (fun _ h=>⟨h.keep [false,false,false] rfl,fun _=>h⟩)
 refine j1_ 8 (jio_ rfl (O_append_f 3 Change.enc 5 ch [t] Tryz.underlying46 Ty.sz60 Ty.by60 Ty.ze60 rfl (by decide) rfl rfl rfl rfl Change.enc_len Change.enc_one (cells_blk 0 (off:=0) (m:=5) rfl rfl) lt_ lt_ fun A6 c7=>?_)) (fun _ h=>⟨h.keep [false,false,false,false] rfl,fun _=>h.keep [false,true,true,true] rfl⟩)
 refine jp_ 9 rfl (x_nilCheck rfl) (jp_ 10 rfl (fA 3 Ty.fi82_3) (jp_ 11 rfl (fA 5 Ty.fi48_2) (j1_ 12 (jio_ rfl (st1 2 Ty.sz46 ?_)) (gl_ rfl (fun _ h=>h.keep [false,false,false,false] rfl)))))
 refine JA_done (by kernel_rfl) (gl_ rfl (fun _ h=>h.keep [false,false,false,false] rfl)) ?_
 refine JX_end0 Tryz.results85 [Ent.blk x 82 [Value.iface 41 (pB s 0),vS parm,Value.map (some m),vI cd,vB fd,vL A6 ((ch++[t]).length) c7,vL lnA lnN lnC],Ent.row (.slice A6 (ch++[t]).length c7) 60 5 (ch++[t]).length ((ch++[t]).flatMap Change.enc)] (fun _ h=>h.keep [false,false,true,true] rfl) ⟨A6,c7,?_,?_⟩
 ·rfl
 ·rfl
set_option maxRecDepth 20000 in
theorem f90_ok (x:Nat) (s:Nat) (parm:Bytes) (m:Nat) (cd:Int) (fd:Bool) (chA:Option Addr) (chN:Nat) (chC:Nat) (lnA:Option Addr) (lnN:Nat) (lnC:Nat) (w:World) (hg:Give [x] w [Ent.blk x 82 [Value.iface 41 (pB s 0),vS parm,Value.map (some m),vI cd,vB fd,vL chA chN chC,vL lnA lnN lnC]]):Calls Tryz.prog 90 #[pB x 0] w (GivesE [x] w (fun v L=>v=Value.tuple #[]∧L=[Ent.blk x 82 [Value.iface 41 (pB s 0),vS parm,Value.map (some m),vI cd,vB fd,vL chA chN chC,vL lnA lnN lnC]]∧(chN≤300)) (fun c L=>c=R45.pan [116,111,111,32,109,97,110,121,32,99,104,97,110,103,101,115]∧L=[]∧(300<chN))):=by
 refine calls_JE [x] 10 Tryz.func90 rfl Tryz.ntmps90 [(0,_)] rfl rfl hg ?_
 refine g_ (s_ mv_ (s_ (x_nilCheck rfl) (s_ (fA 3 Ty.fi82_3) (s_ (fA 5 Ty.fi48_2) (r_ (ld_ 0 Ty.sc46) (s_ (lnS Tryz.underlying46) (s_ (x_leq_i rfl rfl) ?_)))))))
 refine JO_callP [] [] [Ent.blk x 82 [Value.iface 41 (pB s 0),vS parm,Value.map (some m),vI cd,vB fd,vL chA chN chC,vL lnA lnN lnC]] rfl trivial (fun _=>x_call Ty.ca33 rfl) (fun _ h=>h) (fun _ h=>by cases h) (fun w hS=>f33_ok _ [116,111,111,32,109,97,110,121,32,99,104,97,110,103,101,115] w) ?_ ?_
 ·rintro _ _ ⟨rfl,rfl,hp1⟩
  have hp1:=of_decide_eq_false hp1
  refine JX_pan [] (fun _ h=>h.keep [false] rfl) (fun _ _ h=>h) ⟨rfl,?_,?_⟩
  ·rfl
  ·omega
 rintro _ _ ⟨rfl,rfl,hf2⟩
 have hf2:=of_decide_eq_true hf2
 refine z_ (JX_En ?_)
 refine JX_end0 Tryz.results90 [Ent.blk x 82 [Value.iface 41 (pB s 0),vS parm,Value.map (some m),vI cd,vB fd,vL chA chN chC,vL lnA lnN lnC]] (fun _ h=>h) ⟨?_,?_,?_⟩
 ·rfl
 ·rfl
 ·omega
set_option maxRecDepth 20000 in
theorem f84_ok (b:Binding) (w:World):Calls Tryz.prog 84 #[vG (Binding.enc b)] w (Gives [] w fun v L=>v=vG (DataSet.enc (R45.setV b))∧L=[]):=by
 refine calls_J [] 10 Tryz.func84 rfl Tryz.ntmps84 [(0,_)] rfl rfl (Give.nil w) ?_
 refine q_ (g_ (o_ (bxG fun b1=>?_)))
 refine o_ (al_ Ty.ze24 fun b2=>?_)
 refine z_ (n_ (q_ (q_ (g_ (s_ (fA 69 Ty.fi33_3) (r_ (ld_ 1 Ty.sc4) (z_ (n_ ?_))))))))
 refine if_ (fun h3=>?_) (fun h3=>?_)
 ·refine q_ (g_ (s_ (fA 70 Ty.fi33_4) (r_ (ldN 1 (DataSet.enc b.Set) Ty.ag24 Ty.sz24) (o_ (stG 0 Ty.sz24 ?_)))))
  refine z_ (n_ (rt_ (nr_ ?_)))
  refine JX_rets [_] _ Tryz.results84 (fun w h=>⟨⟨_,rfl,load_blkN 0 (DataSet.enc b.Set) h rfl Ty.ag24 Ty.sz24 rfl⟩,trivial⟩) rfl _ (fun _ h=>h.keep [false,false] rfl) ⟨?_,?_⟩
  ·have e_x0:(b.Set:DataSet)=(R45.setV b):=by first | exact R45.set_t (by assumption) | exact R45.set_f (by assumption)
   exact congrArg (fun (x0:DataSet)=>vG (DataSet.enc x0)) e_x0
  ·rfl
 ·refine sk_ (n_ (q_ (g_ (s_ (fA 36 Ty.fi33_2) (s_ (fA 38 Ty.fi31_2) (r_ (ldN 1 (DataSet.enc b.EData) Ty.ag24 Ty.sz24) (o_ (stG 0 Ty.sz24 ?_))))))))
  refine z_ (n_ (rt_ ?_))
  refine JX_rets [_] _ Tryz.results84 (fun w h=>⟨⟨_,rfl,load_blkN 0 (DataSet.enc b.EData) h rfl Ty.ag24 Ty.sz24 rfl⟩,trivial⟩) rfl _ (fun _ h=>h.keep [false,false] rfl) ⟨?_,?_⟩
  ·have e_x0:(b.EData:DataSet)=(R45.setV b):=by first | exact R45.set_t (by assumption) | exact R45.set_f (by assumption)
   exact congrArg (fun (x0:DataSet)=>vG (DataSet.enc x0)) e_x0
  ·rfl
set_option maxRecDepth 20000 in
theorem f36_ok (name:Bytes) (b:Binding) (w:World):Calls Tryz.prog 36 #[vS name,vG (Binding.enc b)] w (Gives [] w fun v L=>∃ z:Bool,v=vB z∧L=[]∧(z=R45.wrV name b)):=by
 refine calls_J [] 40 Tryz.func36 rfl Tryz.ntmps36 [(0,_),(1,_)] rfl rfl (Give.nil w) ?_
 refine q_ (g_ (o_ (bxG fun b1=>?_)))
 refine s_ av_ (z_ (n_ (q_ (q_ (g_ (s_ (fA 0 Ty.fi33_0) (s_ (fA 32 Ty.fi27_12) (r_ (ld_ 0 Ty.sc4) (s_ mv_ ?_)))))))))
 refine or_ 10 ((decide (b.Status=2))&&(!b.Dummy)) (fun g2=>?_) ?_
 ·have g2r:=g2
  refine sg_ g2 (fA 0 Ty.fi33_0) (sg_ g2 (fA 6 Ty.fi27_6) (rg_ g2 (ld_ 0 Ty.sc3) (sg_ g2 (x_eql_i rfl rfl) (sg_ g2 mv_ ?_))))
  refine and_ 4 (!b.Dummy) (fun g3=>?_) ?_ (hw:=by exact ⟨_,rfl,g2⟩)
  ·have g3r:=g3
   have g3r:=of_decide_eq_true g3r
   refine sg_ g3 (fA 0 Ty.fi33_0) (sg_ g3 (fA 34 Ty.fi27_14) (rg_ g3 (ld_ 0 Ty.sc4) (sg_ g3 (x_not rfl) ?_)))
   exact cr_
  exact cr_
 refine z_ (n_ ?_)
 refine if_ (fun h4=>?_) (fun h4=>?_)
 ·have h4w:=h4
  simp only [Bool.and_eq_true,Bool.or_eq_true,Bool.and_eq_false_iff,Bool.or_eq_false_iff,Bool.not_eq_true',Bool.not_eq_false',decide_eq_true_eq,decide_eq_false_iff_not] at h4
  refine q_ (g_ (s_ av_ (z_ (n_ (rt_ (nr_ ?_))))))
  refine JX_rets [_] _ Tryz.results36 (fun w h=>⟨rfl,trivial⟩) rfl _ (fun _ h=>h.keep [false] rfl) ⟨(false),?_,?_,?_⟩
  ·have e_x0:(false:Bool)=(false):=by first | rfl | omega | (simp_all;done) | (simp_all;omega)
   exact congrArg (fun (x0:Bool)=>vB x0) e_x0
  ·rfl
  ·first | exact R45.wr_no (by assumption) | exact R45.wr_yes (by assumption)
 ·have h4w:=h4
  have ⟨h4,h5⟩:=bor_false h4
  simp only [Bool.and_eq_true,Bool.or_eq_true,Bool.and_eq_false_iff,Bool.or_eq_false_iff,Bool.not_eq_true',Bool.not_eq_false',decide_eq_true_eq,decide_eq_false_iff_not] at h5
  refine sk_ (n_ (q_ (g_ (s_ mv_ (js_ (vB (decide (name≠([101,114,97,115,101]:Bytes)))) (x_neq_s rfl rfl) (s_ mv_ ?_))))))
  refine or_ 16 (((!b.Dummy)&&(!b.Create))&&(decide (b.EData.Org=3))) (fun g6=>?_) ?_
  ·have g6r:=g6
   have g6r:=of_decide_eq_false g6r
   refine sg_ g6 (fA 0 Ty.fi33_0) (sg_ g6 (fA 34 Ty.fi27_14) (rg_ g6 (ld_ 0 Ty.sc4) (sg_ g6 (x_not rfl) (sg_ g6 mv_ ?_))))
   refine and_ 3 (!b.Create) (fun g7=>?_) ?_ (hw:=by exact ⟨_,rfl,g6⟩)
   ·have g7r:=g7
    have g7r:(b.Dummy)=false:=bnot_true g7r
    refine sg_ g7 (fA 69 Ty.fi33_3) (rg_ g7 (ld_ 0 Ty.sc4) (sg_ g7 (x_not rfl) ?_))
    exact cr_
   refine sg_ g6 mv_ ?_
   refine and_ 5 (decide (b.EData.Org=3)) (fun g8=>?_) ?_ (hw:=by exact ⟨_,rfl,g6⟩)
   ·have g8r:=g8
    have ⟨g8r,h9⟩:=band_true g8r
    have g8r:(b.Dummy)=false:=bnot_true g8r
    have h9:(b.Create)=false:=bnot_true h9
    refine sg_ g8 (fA 36 Ty.fi33_2) (sg_ g8 (fA 38 Ty.fi31_2) (sg_ g8 (fA 39 Ty.fi24_1) (rg_ g8 (ld_ 0 Ty.sc3) (sg_ g8 (x_eql_i rfl rfl) ?_))))
    exact cr_
   exact cr_
  refine s_ av_ (z_ (n_ (rt_ ?_)))
  refine JX_rets [_] _ Tryz.results36 (fun w h=>⟨rfl,trivial⟩) rfl _ (fun _ h=>h.keep [false] rfl) ⟨((decide (name≠([101,114,97,115,101]:Bytes)))||(((!b.Dummy)&&(!b.Create))&&(decide (b.EData.Org=3)))),?_,?_,?_⟩
  ·rfl
  ·rfl
  ·first | exact R45.wr_no (by assumption) | exact R45.wr_yes (by assumption)
set_option maxRecDepth 20000 in
theorem f49_ok (s:Bytes) (most:Int) (w:World) (hT:Tab [] w) (q0:s.length≤1000000):Calls Tryz.prog 49 #[vS s,vI most] w (Gives [] w fun v L=>∃ n:Int,∃ ok:Bool,v=Value.tuple #[vI n,vB ok]∧L=[]∧(R45.NumJ s most n ok)):=by
 refine calls_J [] 31 Tryz.func49 rfl Tryz.ntmps49 [(0,_),(1,_)] rfl rfl (Give.nil w) ?_
 refine q_ (g_ (s_ av_ (s_ av_ (z_ (n_ (q_ (g_ (s_ mv_ ?_))))))))
 refine c1 (cl_ Ty.ca82) (fun w hS=>atoi_ok s w (hT.on hS (fun _ h=>by cases h)) hy_) ?_
 rintro _ _ ⟨n1,er2,N3,rfl,rfl,hf4⟩
 have ha5:=R44.atoi_bd (by assumption)
 refine s_ mv_ (s_ (ex_ 0) (s_ (ex_ 1) (s_ av_ (s_ av_ (z_ (n_ (q_ (g_ (s_ mv_ (s_ mv_ (s_ (x_eql_err rfl Tryz.underlying127) (s_ mv_ ?_))))))))))))
 refine and_ 2 (decide ((0:Int)≤n1)) (fun g6=>?_) ?_
 ·have g6r:=g6
  refine sg_ g6 mv_ (sg_ g6 (x_geq_i rfl rfl) ?_)
  exact cr_
 refine s_ mv_ ?_
 refine and_ 3 (decide (n1≤most)) (fun g7=>?_) ?_
 ·have g7r:=g7
  have ⟨g7r,h8⟩:=band_true g7r
  have h8:=of_decide_eq_true h8
  refine sg_ g7 mv_ (sg_ g7 mv_ (sg_ g7 (x_leq_i rfl rfl) ?_))
  exact cr_
 refine s_ mv_ ?_
 refine and_ 4 (decide (Lib.decDigits n1.toNat=s)) (fun g9=>?_) ?_
 ·have g9r:=g9
  have ⟨g9r,h10⟩:=band_true g9r
  have ⟨g9r,h11⟩:=band_true g9r
  have h11:=of_decide_eq_true h11
  have h10:=of_decide_eq_true h10
  refine sg_ g9 mv_ (c0g g9 (cl_ Ty.ca19) (fun w hS=>itoa_ok n1 w (hT.on hS (fun _ h=>by cases h)) hy_ hy_) ?_)
  have ha12:=R45.dec_lenI n1 (by omega)
  refine sg_ g9 mv_ (sg_ g9 (x_eql_s rfl rfl) ?_)
  exact cr_
 refine s_ av_ (s_ av_ (z_ (n_ (rt_ ?_))))
 refine JX_rets [_,_] (Value.tuple #[_,_]) Tryz.results49 (fun w h=>⟨rfl,rfl,trivial⟩) rfl _ (fun _ h=>h) ⟨n1,(((er2&&(decide ((0:Int)≤n1)))&&(decide (n1≤most)))&&(decide (Lib.decDigits n1.toNat=s))),?_,?_,?_⟩
 ·rfl
 ·rfl
 ·exact ⟨_,by assumption,rfl⟩
set_option maxRecDepth 20000 in
theorem f83_ok (a:List Bytes) (aA:Option Addr) (aC:Nat) (b:List Bytes) (bA:Option Addr) (bC:Nat) (w:World) (aR:RO [] w aA (a.map vS)) (bR:RO [] w bA (b.map vS)) (q0:a.length≤9223372036854775807) (q1:b.length≤9223372036854775807):Calls Tryz.prog 83 #[vL aA a.length aC,vL bA b.length bC] w (Gives [] w fun v L=>v=vB (decide (a=b))∧L=[]):=by
 refine calls_J [] 26 Tryz.func83 rfl Tryz.ntmps83 [(0,_),(1,_)] rfl rfl (Give.nil w) ?_
 refine q_ (g_ (s_ av_ (z_ (n_ (q_ (q_ (g_ (s_ mv_ (s_ (lnS Tryz.underlying25) (s_ mv_ (s_ (lnS Tryz.underlying25) (s_ (x_neq_i rfl rfl) (z_ (n_ ?_))))))))))))))
 refine ifd (fun h1w h1=>?_) (fun h1w h1=>?_)
 ·refine q_ (g_ (s_ av_ (z_ (n_ (rt_ (nr_ ?_))))))
  exact p1 Tryz.results83 rfl ⟨(eB c45c4_),rfl⟩
 ·refine sk_ (n_ (q_ (q_ (g_ (s_ mv_ (s_ (lnS Tryz.underlying25) (s_ mv_ (z_ (n_ (k_ ?_))))))))))
  refine J_loop (X:=Nat) (fun (k:Nat)=>(k≤a.length)∧(a.length=b.length)∧(∀ i,i<k→a.getD i []=b.getD i [])) (fun (k:Nat)=>[(0,vL aA a.length aC),(1,vL bA b.length bC),(12,vI ((a.length:Nat):Int)),(13,vI ((k:Nat):Int))]) (fun (k:Nat)=>[]) (fun (k:Nat)=>a.length-k) (0:Nat) ?_ ⟨rfl,rfl,rfl,rfl,trivial⟩ (fun _ h=>h) ?_
  ·try dsimp only
   refine ⟨?_,?_,?_⟩
   ·first | rfl | omega | (simp_all;done) | (simp_all;omega)
   ·omega
   ·intro i hi;omega
  intro k hI1
  obtain ⟨i1_0,i1_1,i1_2⟩:=hI1
  try dsimp only at i1_0
  try dsimp only at i1_1
  try dsimp only at i1_2
  try dsimp only
  refine q_ (g_ (s_ (x_lss_i rfl rfl) (z_ (n_ (q_ ?_)))))
  refine ifd (fun h2w h2=>?_) (fun h2w h2=>?_)
  ·refine sk_ (n_ (q_ (k_ (q_ (g_ (s_ mv_ (s_ av_ (z_ (n_ (q_ ?_))))))))))
   refine drB [] 9 Ty.mixed ?_
   refine jp_ 0 rfl mv_ (jp_ 1 rfl mv_ (jq_ 2 rfl (ixM (cells_ro aR) Tryz.underlying25 Ty.sz9) (jq_ 3 rfl (ldM vS [] (cells_ro aR) Ty.sc9) (jp_ 4 rfl mv_ (jp_ 5 rfl mv_ (jq_ 6 rfl (ixM (cells_ro bR) Tryz.underlying25 Ty.sz9) (jq_ 7 rfl (ldM vS [] (cells_ro bR) Ty.sc9) (jp_ 8 rfl (x_neq_s rfl rfl) ?_))))))))
   refine JA_done (by kernel_rfl) gm_ ?_
   refine n_ ?_
   refine ifd (fun h3w h3=>?_) (fun h3w h3=>?_)
   ·refine q_ (g_ (s_ av_ (z_ (n_ (rt_ (kq_ (nr_ (rr_ (kq_ (nr_ ?_))))))))))
    exact p1 Tryz.results83 rfl ⟨(eB c45c4_),rfl⟩
   ·refine sk_ (kx_ (n_ (g_ (s_ (x_add_n (a:=k) (b:=1) rfl rfl (by omega)) (s_ mv_ (z_ ?_))))))
    refine JX_round (k+1:Nat) ?_ ?_ ⟨rfl,rfl,rfl,rfl,trivial⟩ (fun _ h=>h)
    ·try dsimp only
     refine ⟨?_,?_,?_⟩
     ·first | rfl | omega | (simp_all;done) | (simp_all;omega)
     ·first | rfl | omega | (simp_all;done) | (simp_all;omega)
     ·intro i hi
      by_cases hik:i=k
      ·subst hik;simp_all
      ·exact i1_2 i (by omega)
    ·try dsimp only
     first | omega | (simp;omega) | (simp_all;omega)
  ·refine J_exit (ne_ (re_ (kh_ (n_ (q_ ?_)))))
   refine g_ (s_ av_ (z_ (n_ (rt_ ?_))))
   exact p1 Tryz.results83 rfl ⟨(eB c45c4_),rfl⟩
set_option maxRecDepth 20000 in
theorem f53_ok (x:Nat) (s:Nat) (parm:Bytes) (m:Nat) (a:List Bytes) (aA:Option Addr) (aC:Nat) (b:List Bytes) (bA:Option Addr) (bC:Nat) (w:World) (aR:RO [x] w aA (a.map vS)) (bR:RO [x] w bA (b.map vS)) (hT:Tab [x] w) (q0:a.length≤1000000) (q1:b.length≤1000000) (hg:Give [x] w [Ent.blk x 82 [Value.iface 41 (pB s 0),vS parm,Value.map (some m),vI 0,vB false,vL none 0 0,vL none 0 0]]):Calls Tryz.prog 53 #[pB x 0,vL aA a.length aC,vL bA b.length bC] w (Gives [x] w fun v L=>∃ cd:Int,∃ ln:List Bytes,∃ lnA:Option Addr,∃ lnC:Nat,v=Value.tuple #[]∧L=[Ent.blk x 82 [Value.iface 41 (pB s 0),vS parm,Value.map (some m),vI cd,vB false,vL none 0 0,vL lnA ln.length lnC],Ent.row (.slice lnA ln.length lnC) 9 1 ln.length (ln.map vS)]∧(cd=R45.cmpC a b)∧(ln=R45.cmpL a b)):=by
 refine calls_J [x] 45 Tryz.func53 rfl Tryz.ntmps53 [(0,_),(1,_),(2,_)] rfl rfl hg ?_
 refine q_ (q_ (g_ (s_ mv_ (s_ mv_ (c0 (cl_ Ty.ca83) (fun w hS=>f83_ok a aA aC b bA bC w (rno aR hS) (rno bR hS) hy_ hy_) (z_ (n_ ?_)))))))
 refine ifd (fun h1w h1=>?_) (fun h1w h1=>?_)
 ·refine q_ (g_ (s_ mv_ ?_))
  refine JO_call (Lown [Ent.blk x 82 [Value.iface 41 (pB s 0),vS parm,Value.map (some m),vI 0,vB false,vL none 0 0,vL none 0 0],Ent.row (.slice none 0 0) 9 1 0 (([]:List Bytes).map vS)]) [Ent.blk x 82 [Value.iface 41 (pB s 0),vS parm,Value.map (some m),vI 0,vB false,vL none 0 0,vL none 0 0],Ent.row (.slice none 0 0) 9 1 0 (([]:List Bytes).map vS)] [] rfl trivial (fun _=>x_call Ty.ca59 rfl) (fun _ h=>((h.nilrow 9 1).front 1 _ rfl).keep [true,true] rfl) lown_mem (fun w hS=>f59_ok x s parm m 0 false none 0 0 ([]:List Bytes) none 0 0 [101,113,117,97,108] w hy_ hy_ (hS.give lown_in)) ?_
  rintro _ _ ⟨e2,e3,rfl,rfl⟩
  refine z_ (n_ (rt_ (nr_ ?_)))
  refine JX_ret0 Tryz.results53 [Ent.blk x 82 [Value.iface 41 (pB s 0),vS parm,Value.map (some m),vI 0,vB false,vL none 0 0,vL e2 ((([]:List Bytes)++[([101,113,117,97,108]:Bytes)]).length) e3],Ent.row (.slice e2 (([]:List Bytes)++[([101,113,117,97,108]:Bytes)]).length e3) 9 1 (([]:List Bytes)++[([101,113,117,97,108]:Bytes)]).length ((([]:List Bytes)++[([101,113,117,97,108]:Bytes)]).map vS)] (fun _ h=>h) ⟨0,(([]:List Bytes)++[([101,113,117,97,108]:Bytes)]),e2,e3,?_,?_,?_,?_⟩
  ·rfl
  ·rfl
  ·first | exact (R45.cmp_eq (by assumption)).1 | exact (R45.cmp_ne (by assumption) (i1_2.done c45c0_)).1
  ·first | exact (R45.cmp_eq (by assumption)).2 | exact (R45.cmp_ne (by assumption) (i1_2.done c45c0_)).2
 ·refine sk_ (n_ (q_ (g_ (s_ av_ (z_ (n_ (q_ (k_ ?_))))))))
  refine J_loop (X:=Nat) (fun (i:Nat)=>(i≤a.length)∧(i≤b.length)∧(R45.FdJ a b i)) (fun (i:Nat)=>[(0,pB x 0),(1,vL aA a.length aC),(2,vL bA b.length bC),(6,vI ((i:Nat):Int))]) (fun (i:Nat)=>[Ent.blk x 82 [Value.iface 41 (pB s 0),vS parm,Value.map (some m),vI 0,vB false,vL none 0 0,vL none 0 0]]) (fun (i:Nat)=>a.length-i) (0:Nat) ?_ ⟨rfl,rfl,rfl,rfl,trivial⟩ (fun _ h=>h) ?_
  ·try dsimp only
   refine ⟨?_,?_,?_⟩
   ·first | rfl | omega | (simp_all;done) | (simp_all;omega)
   ·first | rfl | omega | (simp_all;done) | (simp_all;omega)
   ·exact R45.FdJ.start
  intro i hI1
  obtain ⟨i1_0,i1_1,i1_2⟩:=hI1
  try dsimp only at i1_0
  try dsimp only at i1_1
  try dsimp only at i1_2
  try dsimp only
  refine q_ (q_ ?_)
  refine drB [] 21 Ty.mixed ?_
  refine jp_ 0 rfl mv_ (jp_ 1 rfl mv_ (jp_ 2 rfl (lnS Tryz.underlying25) (jp_ 3 rfl (x_lss_i rfl rfl) (jp_ 4 rfl mv_ ?_))))
  refine jb_ 16 (fun h4=>?_) (fun h4=>?_)
  ·have h4:=of_decide_eq_true h4
   refine jp_ 5 rfl mv_ (jp_ 6 rfl mv_ (jp_ 7 rfl (lnS Tryz.underlying25) (jp_ 8 rfl (x_lss_i rfl rfl) ?_ (hw:=⟨_,rfl,rfl⟩)) (hw:=⟨_,rfl,rfl⟩)) (hw:=⟨_,rfl,rfl⟩)) (hw:=⟨_,rfl,rfl⟩)
   refine jt_ 9 (vB (decide (((i:Nat):Int)<((b.length:Nat):Int)))) rfl (fun _ _=>rfl) ?_
   refine jp_ 10 rfl mv_ ?_
   refine jb_ 22 (fun h5=>?_) (fun h5=>?_)
   ·have h5:=of_decide_eq_true h5
    refine jp_ 11 rfl mv_ (jp_ 12 rfl mv_ (jq_ 13 rfl (ixM (cells_ro aR) Tryz.underlying25 Ty.sz9) (jq_ 14 rfl (ldM vS [] (cells_ro aR) Ty.sc9) (jp_ 15 rfl mv_ (jp_ 16 rfl mv_ (jq_ 17 rfl (ixM (cells_ro bR) Tryz.underlying25 Ty.sz9) (jq_ 18 rfl (ldM vS [] (cells_ro bR) Ty.sc9) (jp_ 19 rfl (x_eql_s rfl rfl) ?_ (hw:=⟨_,rfl,rfl⟩)) (hw:=⟨_,rfl,rfl⟩)) (hw:=⟨_,rfl,rfl⟩)) (hw:=⟨_,rfl,rfl⟩)) (hw:=⟨_,rfl,rfl⟩)) (hw:=⟨_,rfl,rfl⟩)) (hw:=⟨_,rfl,rfl⟩)) (hw:=⟨_,rfl,rfl⟩)) (hw:=⟨_,rfl,rfl⟩)
    refine jt_ 20 (vB (decide ((a.getD i [])=(b.getD i [])))) rfl (fun _ _=>rfl) ?_
    refine JA_done (by kernel_rfl) gm_ ?_
    refine n_ ?_
    refine ifd (fun h6w h6=>?_) (fun h6w h6=>?_)
    ·refine sk_ (n_ (k_ (g_ (s_ mv_ (s_ (x_add_n (a:=i) (b:=1) rfl rfl (by omega)) (s_ av_ (z_ (kx_ ?_))))))))
     refine JX_round (i+1:Nat) ?_ ?_ ⟨rfl,rfl,rfl,rfl,trivial⟩ (fun _ h=>h)
     ·try dsimp only
      refine ⟨?_,?_,?_⟩
      ·first | rfl | omega | (simp_all;done) | (simp_all;omega)
      ·first | rfl | omega | (simp_all;done) | (simp_all;omega)
      ·exact i1_2.step (by omega) (by omega) (by assumption)
     ·try dsimp only
      first | omega | (simp;omega) | (simp_all;omega)
    ·refine J_exit (ne_ (re_ (kh_ (n_ (q_ ?_)))))
     refine g_ (s_ mv_ (s_ (x_nilCheck rfl) (s_ (fA 3 Ty.fi82_3) (s_ (fA 3 Ty.fi48_0) (o_ (st1 0 Ty.sz3 ?_))))))
     refine z_ (xk_ [0,6] ?_)
     refine n_ (g_ (s_ mv_ (s_ mv_ (s_ (x_add_n (a:=i) (b:=1) rfl rfl (by omega)) (c0 (cl_ Ty.ca19) (fun w hS=>itoa_ok _ w (hT.on hS (fun _ h=>by cases h)) hy_ hy_) ?_)))))
     have ha7:=R45.dec_lenI ((i+1:Nat):Int) (by omega)
     refine js_ (vS ([100,105,102,102,101,114,101,110,116,32,97,116,32]++(Lib.decDigits ((i+1:Nat):Int).toNat))) (x_cat_s rfl rfl c45c1_) ?_
     refine JO_call (Lown [Ent.blk x 82 [Value.iface 41 (pB s 0),vS parm,Value.map (some m),vI 4,vB false,vL none 0 0,vL none 0 0],Ent.row (.slice none 0 0) 9 1 0 (([]:List Bytes).map vS)]) [Ent.blk x 82 [Value.iface 41 (pB s 0),vS parm,Value.map (some m),vI 4,vB false,vL none 0 0,vL none 0 0],Ent.row (.slice none 0 0) 9 1 0 (([]:List Bytes).map vS)] [] rfl trivial (fun _=>x_call Ty.ca59 rfl) (fun _ h=>((h.nilrow 9 1).front 1 _ rfl).keep [true,true] rfl) lown_mem (fun w hS=>f59_ok x s parm m 4 false none 0 0 ([]:List Bytes) none 0 0 ([100,105,102,102,101,114,101,110,116,32,97,116,32]++(Lib.decDigits ((i+1:Nat):Int).toNat)) w hy_ hy_ (hS.give lown_in)) ?_
     rintro _ _ ⟨e8,e9,rfl,rfl⟩
     refine z_ ?_
     refine JX_end0 Tryz.results53 [Ent.blk x 82 [Value.iface 41 (pB s 0),vS parm,Value.map (some m),vI 4,vB false,vL none 0 0,vL e8 ((([]:List Bytes)++[(([100,105,102,102,101,114,101,110,116,32,97,116,32]++(Lib.decDigits ((i+1:Nat):Int).toNat)):Bytes)]).length) e9],Ent.row (.slice e8 (([]:List Bytes)++[(([100,105,102,102,101,114,101,110,116,32,97,116,32]++(Lib.decDigits ((i+1:Nat):Int).toNat)):Bytes)]).length e9) 9 1 (([]:List Bytes)++[(([100,105,102,102,101,114,101,110,116,32,97,116,32]++(Lib.decDigits ((i+1:Nat):Int).toNat)):Bytes)]).length ((([]:List Bytes)++[(([100,105,102,102,101,114,101,110,116,32,97,116,32]++(Lib.decDigits ((i+1:Nat):Int).toNat)):Bytes)]).map vS)] (fun _ h=>h) ⟨4,(([]:List Bytes)++[(([100,105,102,102,101,114,101,110,116,32,97,116,32]++(Lib.decDigits ((i+1:Nat):Int).toNat)):Bytes)]),e8,e9,?_,?_,?_,?_⟩
     ·rfl
     ·rfl
     ·first | exact (R45.cmp_eq (by assumption)).1 | exact (R45.cmp_ne (by assumption) (i1_2.done c45c0_)).1
     ·first | exact (R45.cmp_eq (by assumption)).2 | exact (R45.cmp_ne (by assumption) (i1_2.done c45c0_)).2
   ·have h5:=of_decide_eq_false h5
    refine js2_ 11 rfl (js2_ 12 rfl (js2_ 13 rfl (js2_ 14 rfl (js2_ 15 rfl (js2_ 16 rfl (js2_ 17 rfl (js2_ 18 rfl (js2_ 19 rfl ?_))))))))
    refine jt_ 20 (vB false) rfl (fun _ _=>rfl) ?_
    refine JA_done (by kernel_rfl) gm_ ?_
    refine n_ (iff_ (J_exit (ne_ (re_ (kh_ (n_ (q_ (g_ (s_ mv_ (s_ (x_nilCheck rfl) (s_ (fA 3 Ty.fi82_3) (s_ (fA 3 Ty.fi48_0) (o_ (st1 0 Ty.sz3 ?_))))))))))))))
    refine z_ (xk_ [0,6] ?_)
    refine n_ (g_ (s_ mv_ (s_ mv_ (s_ (x_add_n (a:=i) (b:=1) rfl rfl (by omega)) (c0 (cl_ Ty.ca19) (fun w hS=>itoa_ok _ w (hT.on hS (fun _ h=>by cases h)) hy_ hy_) ?_)))))
    have ha10:=R45.dec_lenI ((i+1:Nat):Int) (by omega)
    refine js_ (vS ([100,105,102,102,101,114,101,110,116,32,97,116,32]++(Lib.decDigits ((i+1:Nat):Int).toNat))) (x_cat_s rfl rfl c45c1_) ?_
    refine JO_call (Lown [Ent.blk x 82 [Value.iface 41 (pB s 0),vS parm,Value.map (some m),vI 4,vB false,vL none 0 0,vL none 0 0],Ent.row (.slice none 0 0) 9 1 0 (([]:List Bytes).map vS)]) [Ent.blk x 82 [Value.iface 41 (pB s 0),vS parm,Value.map (some m),vI 4,vB false,vL none 0 0,vL none 0 0],Ent.row (.slice none 0 0) 9 1 0 (([]:List Bytes).map vS)] [] rfl trivial (fun _=>x_call Ty.ca59 rfl) (fun _ h=>((h.nilrow 9 1).front 1 _ rfl).keep [true,true] rfl) lown_mem (fun w hS=>f59_ok x s parm m 4 false none 0 0 ([]:List Bytes) none 0 0 ([100,105,102,102,101,114,101,110,116,32,97,116,32]++(Lib.decDigits ((i+1:Nat):Int).toNat)) w hy_ hy_ (hS.give lown_in)) ?_
    rintro _ _ ⟨e11,e12,rfl,rfl⟩
    refine z_ ?_
    refine JX_end0 Tryz.results53 [Ent.blk x 82 [Value.iface 41 (pB s 0),vS parm,Value.map (some m),vI 4,vB false,vL none 0 0,vL e11 ((([]:List Bytes)++[(([100,105,102,102,101,114,101,110,116,32,97,116,32]++(Lib.decDigits ((i+1:Nat):Int).toNat)):Bytes)]).length) e12],Ent.row (.slice e11 (([]:List Bytes)++[(([100,105,102,102,101,114,101,110,116,32,97,116,32]++(Lib.decDigits ((i+1:Nat):Int).toNat)):Bytes)]).length e12) 9 1 (([]:List Bytes)++[(([100,105,102,102,101,114,101,110,116,32,97,116,32]++(Lib.decDigits ((i+1:Nat):Int).toNat)):Bytes)]).length ((([]:List Bytes)++[(([100,105,102,102,101,114,101,110,116,32,97,116,32]++(Lib.decDigits ((i+1:Nat):Int).toNat)):Bytes)]).map vS)] (fun _ h=>h) ⟨4,(([]:List Bytes)++[(([100,105,102,102,101,114,101,110,116,32,97,116,32]++(Lib.decDigits ((i+1:Nat):Int).toNat)):Bytes)]),e11,e12,?_,?_,?_,?_⟩
    ·rfl
    ·rfl
    ·first | exact (R45.cmp_eq (by assumption)).1 | exact (R45.cmp_ne (by assumption) (i1_2.done c45c0_)).1
    ·first | exact (R45.cmp_eq (by assumption)).2 | exact (R45.cmp_ne (by assumption) (i1_2.done c45c0_)).2
  ·have h4:=of_decide_eq_false h4
   refine js2_ 5 rfl (js2_ 6 rfl (js2_ 7 rfl (js2_ 8 rfl ?_)))
   refine jt_ 9 (vB false) rfl (fun _ _=>rfl) ?_
   refine jp_ 10 rfl mv_ (js2_ 11 rfl (js2_ 12 rfl (js2_ 13 rfl (js2_ 14 rfl (js2_ 15 rfl (js2_ 16 rfl (js2_ 17 rfl (js2_ 18 rfl (js2_ 19 rfl ?_)))))))))
   refine jt_ 20 (vB false) rfl (fun _ _=>rfl) ?_
   refine JA_done (by kernel_rfl) gm_ ?_
   refine n_ (iff_ (J_exit (ne_ (re_ (kh_ (n_ (q_ (g_ (s_ mv_ (s_ (x_nilCheck rfl) (s_ (fA 3 Ty.fi82_3) (s_ (fA 3 Ty.fi48_0) (o_ (st1 0 Ty.sz3 ?_))))))))))))))
   refine z_ (xk_ [0,6] ?_)
   refine n_ (g_ (s_ mv_ (s_ mv_ (s_ (x_add_n (a:=i) (b:=1) rfl rfl (by omega)) (c0 (cl_ Ty.ca19) (fun w hS=>itoa_ok _ w (hT.on hS (fun _ h=>by cases h)) hy_ hy_) ?_)))))
   have ha13:=R45.dec_lenI ((i+1:Nat):Int) (by omega)
   refine js_ (vS ([100,105,102,102,101,114,101,110,116,32,97,116,32]++(Lib.decDigits ((i+1:Nat):Int).toNat))) (x_cat_s rfl rfl c45c1_) ?_
   refine JO_call (Lown [Ent.blk x 82 [Value.iface 41 (pB s 0),vS parm,Value.map (some m),vI 4,vB false,vL none 0 0,vL none 0 0],Ent.row (.slice none 0 0) 9 1 0 (([]:List Bytes).map vS)]) [Ent.blk x 82 [Value.iface 41 (pB s 0),vS parm,Value.map (some m),vI 4,vB false,vL none 0 0,vL none 0 0],Ent.row (.slice none 0 0) 9 1 0 (([]:List Bytes).map vS)] [] rfl trivial (fun _=>x_call Ty.ca59 rfl) (fun _ h=>((h.nilrow 9 1).front 1 _ rfl).keep [true,true] rfl) lown_mem (fun w hS=>f59_ok x s parm m 4 false none 0 0 ([]:List Bytes) none 0 0 ([100,105,102,102,101,114,101,110,116,32,97,116,32]++(Lib.decDigits ((i+1:Nat):Int).toNat)) w hy_ hy_ (hS.give lown_in)) ?_
   rintro _ _ ⟨e14,e15,rfl,rfl⟩
   refine z_ ?_
   refine JX_end0 Tryz.results53 [Ent.blk x 82 [Value.iface 41 (pB s 0),vS parm,Value.map (some m),vI 4,vB false,vL none 0 0,vL e14 ((([]:List Bytes)++[(([100,105,102,102,101,114,101,110,116,32,97,116,32]++(Lib.decDigits ((i+1:Nat):Int).toNat)):Bytes)]).length) e15],Ent.row (.slice e14 (([]:List Bytes)++[(([100,105,102,102,101,114,101,110,116,32,97,116,32]++(Lib.decDigits ((i+1:Nat):Int).toNat)):Bytes)]).length e15) 9 1 (([]:List Bytes)++[(([100,105,102,102,101,114,101,110,116,32,97,116,32]++(Lib.decDigits ((i+1:Nat):Int).toNat)):Bytes)]).length ((([]:List Bytes)++[(([100,105,102,102,101,114,101,110,116,32,97,116,32]++(Lib.decDigits ((i+1:Nat):Int).toNat)):Bytes)]).map vS)] (fun _ h=>h) ⟨4,(([]:List Bytes)++[(([100,105,102,102,101,114,101,110,116,32,97,116,32]++(Lib.decDigits ((i+1:Nat):Int).toNat)):Bytes)]),e14,e15,?_,?_,?_,?_⟩
   ·rfl
   ·rfl
   ·first | exact (R45.cmp_eq (by assumption)).1 | exact (R45.cmp_ne (by assumption) (i1_2.done c45c0_)).1
   ·first | exact (R45.cmp_eq (by assumption)).2 | exact (R45.cmp_ne (by assumption) (i1_2.done c45c0_)).2
end Go.Proofs.YtggobegaiijhhaaGreatDoor
namespace Go.Proofs.YtggobegaiijhhaaGreatDoor
open Go.GV
namespace R16
def zeros (l:List Int):Bool:=l.all fun n=>decide (n=0)
theorem zeros_bad {l:List Int} {k:Nat} (hk:k<l.length) (h:l.getD k 0≠0):false=zeros l:=by
  symm
  rw [Bool.eq_false_iff]
  intro h2
  unfold zeros at h2
  rw [List.all_eq_true] at h2
  have:=h2 (l.getD k 0) (by rw [List.getD_eq_getElem?_getD,List.getElem?_eq_getElem hk];exact List.getElem_mem _)
  exact h (by simpa using this)
theorem zeros_end {l:List Int} {k:Nat} (hk:k≤l.length) (hk2:¬ (k:Int)<l.length) (h:∀ i,i<k→l.getD i 0=0):true=zeros l:=by
  symm
  unfold zeros
  rw [List.all_eq_true]
  intro x hx
  obtain ⟨i,hi,rfl⟩:=List.getElem_of_mem hx
  have:=h i (by omega)
  rw [List.getD_eq_getElem?_getD,List.getElem?_eq_getElem hi] at this
  simpa using this
def bet (n lo hi:Int):Bool:=decide (lo≤n)&&decide (n≤hi)
def valid (d:DataSet):Bool:=
  bet d.Org 1 3&&(decide (d.Interval=128)||decide (d.Interval=256)||decide (d.Interval=512))&&bet d.Length 1 (min 200 (d.Interval-7))&&decide (d.Format=0)&&decide (d.Block=0) &&
  (if d.Org=3 then decide (d.Length≤d.Interval / 2-8)&&bet d.KeyAt 0 d.Length&&bet d.KeyLength 1 (d.Interval / 16)&&decide (d.KeyAt+d.KeyLength≤d.Length)&&bet d.Area 2 8&&bet d.FreeInterval 0 90&&bet d.FreeArea 0 (d.Area-1)
   else decide (d.KeyAt=0)&&decide (d.KeyLength=0)&&decide (d.Area=0)&&decide (d.FreeInterval=0)&&decide (d.FreeArea=0))
theorem known_step {x:Int} {k:Nat} (hk:k<3):(((([128,256,512]:List Int).take k).any fun n=>decide (x=n))||decide (x=([128,256,512]:List Int).getD k 0))=(([128,256,512]:List Int).take (k+1)).any fun n=>decide (x=n):=by
  match k,hk with
  | 0,_=>simp
  | 1,_=>simp
  | 2,_=>simp [Bool.or_assoc]
theorem known3 {x:Int} : ((([128,256,512]:List Int).take 3).any fun n=>decide (x=n))=(decide (x=128)||decide (x=256)||decide (x=512)):=by simp [Bool.or_assoc]
theorem valid_facts {d:DataSet} (h:valid d=true):1≤d.Org∧d.Org≤3∧(d.Interval=128∨d.Interval=256∨d.Interval=512)∧1≤d.Length∧d.Length≤200∧d.Length≤d.Interval-7∧(d.Org=3→0≤d.KeyAt∧1≤d.KeyLength∧d.KeyLength≤32∧d.KeyAt+d.KeyLength≤d.Length∧2≤d.Area∧d.Area≤8)∧(d.Org≠3→d.KeyAt=0∧d.KeyLength=0):=by
  unfold valid bet at h
  simp only [Bool.and_eq_true,Bool.or_eq_true,decide_eq_true_eq] at h
  by_cases hO:d.Org=3
  · rw [if_pos hO] at h;simp only [Bool.and_eq_true,decide_eq_true_eq] at h;omega
  · rw [if_neg hO] at h;simp only [Bool.and_eq_true,decide_eq_true_eq] at h;omega
end R16
namespace R45
end R45
end Go.Proofs.YtggobegaiijhhaaGreatDoor
