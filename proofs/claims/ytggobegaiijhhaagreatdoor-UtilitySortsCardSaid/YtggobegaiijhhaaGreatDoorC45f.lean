/- contracts C45f -/
import Derived.Test.YtggobegaiijhhaaGreatDoorC45z
import Derived.Test.YtggobegaiijhhaaGreatDoorUtilitySorts29
import Derived.Test.YtggobegaiijhhaaGreatDoorUtilitySorts30
import Derived.Test.YtggobegaiijhhaaGreatDoorUtilitySorts31
set_option linter.unusedVariables false
set_option linter.unusedSimpArgs false
namespace Go.Proofs.YtggobegaiijhhaaGreatDoor
open Go.GV
set_option linter.unusedVariables false
set_option linter.unusedSimpArgs false
theorem c45f0_ {p:Prop} (h:p:=by first | exact R45.so_len (by assumption) | exact R45.take_len (R45.so_len (by assumption)) | exact R45.drop_len (R45.so_len (by assumption))):p:=h
theorem c45f1_ {p:Prop} (h:p:=by first | exact R45.all_end (p:=fun x:Bytes=>x.length≤60) (Nat.zero_le _) (by assumption) (by omega) | exact R45.take_each (R45.all_end (p:=fun x:Bytes=>x.length≤60) (Nat.zero_le _) (by assumption) (by omega)) | exact R45.drop_each (R45.all_end (p:=fun x:Bytes=>x.length≤60) (Nat.zero_le _) (by assumption) (by omega))):p:=h
theorem c45f2_ {p:Prop} (h:p:=by first | exact Nat.le_trans (R45.so_flen (by assumption)) (by decide) | exact R45.plan_len (R45.so_flen (by assumption)) (by omega) (by omega)):p:=h
theorem c45f3_ {p:Prop} (h:p:=by first | omega | (simp only [List.length_append,List.length_cons,List.length_nil];omega) | (simp;omega) | (simp_all;omega)):p:=h
theorem run_sort (s:Nat) (parm:Bytes) (rows:List SRow) (rowsA:Option Addr) (rowsC:Nat) (calls:Nat) (l:List Binding) (lA:Option Addr) (lC:Nat) (w:World) (rowsR:RO [s] w rowsA (rows.flatMap SRow.enc)) (lR:RO [s] w lA (l.flatMap Binding.enc)) (lN:Kp [s] w (okL Binding.ok l)) (hT:Tab [s] w) (q0:rows.length≤1000) (q1:calls≤890000) (q2:R45.Dist rows) (q3:∀ x∈rows,x.Key.length≤1000000) (q4:∀ x∈rows,x.Record.length≤1000000) (q5:parm.length≤1000) (q6:l.length≤1000) (q7:∀ i,(l.getD i default).Lines.length≤1000) (q8:∀ i j,((l.getD i default).Lines.getD j []).length≤1000000) (hg:Give [s] w [Ent.blk s 52 [vL rowsA rows.length rowsC,vI 0,vI 0,vI ((calls:Nat):Int)]]):Calls Tryz.prog 15 #[Value.iface 41 (pB s 0),vS [115,111,114,116],vS parm,vL lA l.length lC] w (Gives [s] w fun v L=>∃ cd:Int,∃ fd:Bool,∃ ch:List Change,∃ chA:Option Addr,∃ chC:Nat,∃ ln:List Bytes,∃ lnA:Option Addr,∃ lnC:Nat,v=Value.tuple #[vG [vI cd,vB fd,vL chA ch.length chC,vL lnA ln.length lnC],vI 0]∧L=[Ent.row (.slice chA ch.length chC) 60 5 ch.length (ch.flatMap Change.enc),Ent.row (.slice lnA ln.length lnC) 9 1 ln.length (ln.map vS)]∧(R45.RunR (fun cd ch _=>R45.SrtR rows parm l cd ch) (¬ R45.SrtOk rows parm l) fd cd ch ln)):=
 run_ok (s:=s) (name:=[115,111,114,116]) (parm:=parm) (rows:=rows) (rowsA:=rowsA) (rowsC:=rowsC) (calls:=calls) (l:=l) (lA:=lA) (lC:=lC) (Φ:=fun cd ch _=>R45.SrtR rows parm l cd ch) (Ψ:=fun _=>¬ R45.SrtOk rows parm l) (w:=w) (rowsR:=rowsR) (lR:=lR) (lN:=lN) (hT:=hT) (hP:=fun x m w rowsR lR lN hT hg=>perf_sort (x:=x) (s:=s) (parm:=parm) (m:=m) (rows:=rows) (rowsA:=rowsA) (rowsC:=rowsC) (calls:=calls) (l:=l) (lA:=lA) (lC:=lC) (w:=w) rowsR lR lN hT q0 q1 q2 q3 q4 q5 q6 q7 q8 hg) (hg:=hg)
theorem run_merge (s:Nat) (parm:Bytes) (rows:List SRow) (rowsA:Option Addr) (rowsC:Nat) (calls:Nat) (l:List Binding) (lA:Option Addr) (lC:Nat) (w:World) (rowsR:RO [s] w rowsA (rows.flatMap SRow.enc)) (lR:RO [s] w lA (l.flatMap Binding.enc)) (lN:Kp [s] w (okL Binding.ok l)) (hT:Tab [s] w) (q0:rows.length≤500) (q1:calls≤890000) (q2:R45.Dist rows) (q3:∀ x∈rows,x.Key.length≤1000000) (q4:∀ x∈rows,x.Record.length≤1000000) (q5:parm.length≤1000) (q6:l.length≤1000) (q7:∀ i,(l.getD i default).Lines.length≤500) (q8:∀ i j,((l.getD i default).Lines.getD j []).length≤1000000) (hg:Give [s] w [Ent.blk s 52 [vL rowsA rows.length rowsC,vI 0,vI 0,vI ((calls:Nat):Int)]]):Calls Tryz.prog 15 #[Value.iface 41 (pB s 0),vS [109,101,114,103,101],vS parm,vL lA l.length lC] w (Gives [s] w fun v L=>∃ cd:Int,∃ fd:Bool,∃ ch:List Change,∃ chA:Option Addr,∃ chC:Nat,∃ ln:List Bytes,∃ lnA:Option Addr,∃ lnC:Nat,v=Value.tuple #[vG [vI cd,vB fd,vL chA ch.length chC,vL lnA ln.length lnC],vI 0]∧L=[Ent.row (.slice chA ch.length chC) 60 5 ch.length (ch.flatMap Change.enc),Ent.row (.slice lnA ln.length lnC) 9 1 ln.length (ln.map vS)]∧(R45.RunR (fun cd ch _=>R45.MrgR rows parm l cd ch) (¬ R45.MrgOk rows parm l) fd cd ch ln)):=
 run_ok (s:=s) (name:=[109,101,114,103,101]) (parm:=parm) (rows:=rows) (rowsA:=rowsA) (rowsC:=rowsC) (calls:=calls) (l:=l) (lA:=lA) (lC:=lC) (Φ:=fun cd ch _=>R45.MrgR rows parm l cd ch) (Ψ:=fun _=>¬ R45.MrgOk rows parm l) (w:=w) (rowsR:=rowsR) (lR:=lR) (lN:=lN) (hT:=hT) (hP:=fun x m w rowsR lR lN hT hg=>perf_merge (x:=x) (s:=s) (parm:=parm) (m:=m) (rows:=rows) (rowsA:=rowsA) (rowsC:=rowsC) (calls:=calls) (l:=l) (lA:=lA) (lC:=lC) (w:=w) rowsR lR lN hT q0 q1 q2 q3 q4 q5 q6 q7 q8 hg) (hg:=hg)
theorem so_lit (s:Nat) (rows:List SRow) (rowsA:Option Addr) (rowsC:Nat) (calls:Nat) (l:List Binding) (lA:Option Addr) (lC:Nat) (xs:List Bytes) (parm:Bytes) (w:World) (rowsR:RO [s] w rowsA (rows.flatMap SRow.enc)) (lR:RO [s] w lA (l.flatMap Binding.enc)) (lN:Kp [s] w (okL Binding.ok l)) (hT:Tab [s] w) (q0:rows=[]) (q1:calls≤890000) (q2:∃ A c,l=[R45.inlineB [73,78] xs A c,R45.freshB [79,85,84] 200]) (q3:xs.length≤40) (q4:∀ i,(xs.getD i []).length≤60) (q5:parm.length≤1000) (hg:Give [s] w [Ent.blk s 52 [vL rowsA rows.length rowsC,vI 0,vI 0,vI ((calls:Nat):Int)]]):Calls Tryz.prog 15 #[Value.iface 41 (pB s 0),vS [115,111,114,116],vS parm,vL lA l.length lC] w (Gives [s] w fun v L=>∃ cd:Int,∃ chA:Option Addr,∃ chC:Nat,∃ ln:List Bytes,∃ lnA:Option Addr,∃ lnC:Nat,v=Value.tuple #[vG [vI cd,vB (!((R45.parmS parm).isSome)),vL chA (((R45.sortO parm xs).map R45.cpC).length) chC,vL lnA ln.length lnC],vI 0]∧L=[Ent.row (.slice chA ((R45.sortO parm xs).map R45.cpC).length chC) 60 5 ((R45.sortO parm xs).map R45.cpC).length (((R45.sortO parm xs).map R45.cpC).flatMap Change.enc),Ent.row (.slice lnA ln.length lnC) 9 1 ln.length (ln.map vS)]):=by
 obtain ⟨A,c,rfl⟩:=q2
 subst q0
 refine (run_sort (s:=s) (parm:=parm) (rows:=([]:List SRow)) (rowsA:=rowsA) (rowsC:=rowsC) (calls:=calls) (l:=[R45.inlineB [73,78] xs A c,R45.freshB [79,85,84] 200]) (lA:=lA) (lC:=lC) (w:=w) rowsR lR lN hT (by decide) q1 R45.dist_nil (by simp) (by simp) q5 (by show 2≤1000;decide) (R45.lines_two (show xs.length≤1000 by omega) (Nat.zero_le _)) (R45.lines_each2 (a:=R45.inlineB [73,78] xs A c) (b:=R45.freshB [79,85,84] 200) (fun i=>Nat.le_trans (q4 i) (by decide)) (fun i=>by show (([]:List Bytes).getD i []).length≤_;simp)) hg).mono ?_
 rintro e w' ⟨v,L',h1,⟨cd,fd,ch,chA,chC,ln,lnA,lnC,hv,hL,hf⟩,hS⟩
 obtain ⟨rfl,rfl⟩:=R45.so_run q3 q4 hf
 exact ⟨v,L',h1,⟨cd,chA,chC,ln,lnA,lnC,hv,hL⟩,hS⟩
theorem me_lit (s:Nat) (rows:List SRow) (rowsA:Option Addr) (rowsC:Nat) (calls:Nat) (l:List Binding) (lA:Option Addr) (lC:Nat) (xs:List Bytes) (parm:Bytes) (k:Nat) (w:World) (rowsR:RO [s] w rowsA (rows.flatMap SRow.enc)) (lR:RO [s] w lA (l.flatMap Binding.enc)) (lN:Kp [s] w (okL Binding.ok l)) (hT:Tab [s] w) (q0:rows=[]) (q1:calls≤890000) (q2:∃ A c C d,l=[R45.inlineB [73,78,49] (R45.sortO parm (xs.take k)) A c,R45.inlineB [73,78,50] (R45.sortO parm (xs.drop k)) C d,R45.freshB [79,85,84] 200]) (q3:xs.length≤40) (q4:∀ i,(xs.getD i []).length≤60) (q5:parm.length≤1000) (q6:(47:UInt8)∉parm) (q7:(R45.parmS parm).isSome=true) (hg:Give [s] w [Ent.blk s 52 [vL rowsA rows.length rowsC,vI 0,vI 0,vI ((calls:Nat):Int)]]):Calls Tryz.prog 15 #[Value.iface 41 (pB s 0),vS [109,101,114,103,101],vS parm,vL lA l.length lC] w (Gives [s] w fun v L=>∃ chA:Option Addr,∃ chC:Nat,∃ ln:List Bytes,∃ lnA:Option Addr,∃ lnC:Nat,v=Value.tuple #[vG [vI 0,vB false,vL chA (((R45.sortO parm xs).map R45.cpC).length) chC,vL lnA ln.length lnC],vI 0]∧L=[Ent.row (.slice chA ((R45.sortO parm xs).map R45.cpC).length chC) 60 5 ((R45.sortO parm xs).map R45.cpC).length (((R45.sortO parm xs).map R45.cpC).flatMap Change.enc),Ent.row (.slice lnA ln.length lnC) 9 1 ln.length (ln.map vS)]):=by
 obtain ⟨A,c,C,d,rfl⟩:=q2
 subst q0
 refine (run_merge (s:=s) (parm:=parm) (rows:=([]:List SRow)) (rowsA:=rowsA) (rowsC:=rowsC) (calls:=calls) (l:=[R45.inlineB [73,78,49] (R45.sortO parm (xs.take k)) A c,R45.inlineB [73,78,50] (R45.sortO parm (xs.drop k)) C d,R45.freshB [79,85,84] 200]) (lA:=lA) (lC:=lC) (w:=w) rowsR lR lN hT (by decide) q1 R45.dist_nil (by simp) (by simp) q5 (by show 3≤1000;decide) (R45.me_lines q3) (R45.me_each q4) hg).mono ?_
 rintro e w' ⟨v,L',h1,⟨cd,fd,ch,chA,chC,ln,lnA,lnC,hv,hL,hf⟩,hS⟩
 obtain ⟨rfl,rfl,rfl⟩:=R45.me_run q6 q3 q7 hf
 exact ⟨v,L',h1,⟨chA,chC,ln,lnA,lnC,hv,hL⟩,hS⟩
set_option maxRecDepth 20000 in
theorem f21_ok (rs:List Bytes) (rsA:Option Addr) (rsC:Nat) (parm:Bytes) (w:World) (rsR:RO [] w rsA (rs.map vS)) (hT:Tab [] w) (q0:rs.length≤40) (q1:∀ i,(rs.getD i []).length≤60) (q2:parm.length≤1000):Calls Tryz.prog 21 #[vL rsA rs.length rsC,vS parm] w (Gives [] w fun v L=>∃ outA:Option Addr,∃ outC:Nat,v=Value.tuple #[vL outA ((R45.sortO parm rs).length) outC,vB ((R45.parmS parm).isSome)]∧L=[Ent.row (.slice outA (R45.sortO parm rs).length outC) 9 1 (R45.sortO parm rs).length ((R45.sortO parm rs).map vS)]):=by
 have hsl:=R45.sortO_len parm rs
 have hml:((R45.sortO parm rs).map R45.cpC).length=(R45.sortO parm rs).length:=List.length_map ..
 refine calls_J [] 43 Tryz.func21 rfl Tryz.ntmps21 [(0,_),(1,_)] rfl rfl (Give.nil w) ?_
 refine q_ (g_ (s_ av_ (s_ av_ (z_ (n_ (q_ (g_ ?_)))))))
 refine c1 (cl_ Ty.ca12) (fun w hS=>f12_ok ([]:List SRow) none 0 w RO.nil) ?_
 rintro _ _ ⟨s1,rfl,rfl⟩
 refine js_ (Value.iface 41 (pB s1 0)) (x_iface rfl (by kernel_rfl)) (s_ mv_ (s_ mv_ (c0 (cl_ Ty.ca18) (fun w hS=>f18_ok [73,78] rs rsA rsC w (rno rsR hS)) (c0 (cl_ Ty.ca17) (fun w hS=>f17_ok [79,85,84] 200 w) (o_ (O_buildSlice (cs:=(Binding.enc (R45.inlineB [73,78] rs rsA rsC)++Binding.enc (R45.freshB [79,85,84] 200))) Tryz.underlying36 Ty.sz33 Ty.ze33 (by decide) (by decide) (by kernel_rfl) fun b2=>?_))))))
 refine JO_call [s1] [Ent.blk s1 52 [vL none (([]:List SRow).length) 0,vI 0,vI 0,vI ((0:Nat):Int)]] [Ent.blk b2 33 (Binding.enc (R45.inlineB [73,78] rs rsA rsC)++Binding.enc (R45.freshB [79,85,84] 200))] rfl trivial (fun _=>x_call Ty.ca15 rfl) (fun _ h=>(h.front 1 _ rfl).keep [true,true] rfl) (own_mem rfl) (fun w hS=>so_lit s1 ([]:List SRow) none 0 0 [(R45.inlineB [73,78] rs rsA rsC),(R45.freshB [79,85,84] 200)] (some ⟨b2,0,none⟩) 2 rs parm w RO.nil (RO.of_blkS hS (own_mem rfl) 0 (off:=0) (m:=182) rfl rfl) (okL_cons (inline_kp (rsR.on hS (own_mem rfl))) (okL_cons (fresh_kp _ _) (Binding.ok_none))) (hT.on hS (own_mem rfl)) (by rfl) hy_ (by exact ⟨_,_,rfl⟩) hy_ hy_ hy_ (hS.give (own_in rfl))) ?_
 rintro _ _ ⟨cd3,chA4,chC5,ln6,lnA7,lnC8,rfl,rfl⟩
 refine s_ mv_ (s_ (ex_ 0) (s_ (ex_ 1) (o_ (al_ Ty.ze48 fun b9=>?_))))
 refine o_ (stG 0 Ty.sz48 ?_)
 refine s_ av_ (z_ (n_ (q_ (g_ (s_ av_ (z_ (n_ (q_ (q_ (g_ (s_ (fA 2 Ty.fi48_2) (r_ (ld_ 0 Ty.sc46) (s_ (lnS Tryz.underlying46) (s_ mv_ (z_ (xk_ [4,5,6,7,8,23,24,25] ?_))))))))))))))))
 refine n_ (k_ ?_)
 refine J_loop (X:=Nat × (List Bytes) × (Option Addr) × Nat) (fun (⟨k,o,oA,oC⟩:Nat × (List Bytes) × (Option Addr) × Nat)=>(k≤(R45.sortO parm rs).length)∧(o=(R45.sortO parm rs).take k)) (fun (⟨k,o,oA,oC⟩:Nat × (List Bytes) × (Option Addr) × Nat)=>[(4,vL none 0 0),(5,vB false),(6,pB b9 0),(7,vI 0),(8,vL oA o.length oC),(23,vL chA4 (((R45.sortO parm rs).map R45.cpC).length) chC5),(24,vI ((((R45.sortO parm rs).map R45.cpC).length:Nat):Int)),(25,vI ((k:Nat):Int))]) (fun (⟨k,o,oA,oC⟩:Nat × (List Bytes) × (Option Addr) × Nat)=>[Ent.blk b9 48 [vI cd3,vB (!((R45.parmS parm).isSome)),vL chA4 (((R45.sortO parm rs).map R45.cpC).length) chC5,vL lnA7 ln6.length lnC8],Ent.row (.slice chA4 ((R45.sortO parm rs).map R45.cpC).length chC5) 60 5 ((R45.sortO parm rs).map R45.cpC).length (((R45.sortO parm rs).map R45.cpC).flatMap Change.enc),Ent.row (.slice lnA7 ln6.length lnC8) 9 1 ln6.length (ln6.map vS),Ent.row (.slice oA o.length oC) 9 1 o.length (o.map vS)]) (fun (⟨k,o,oA,oC⟩:Nat × (List Bytes) × (Option Addr) × Nat)=>(R45.sortO parm rs).length-k) ((0,([]:List Bytes),none,0):Nat × (List Bytes) × (Option Addr) × Nat) ?_ ⟨rfl,rfl,rfl,rfl,rfl,rfl,rfl,rfl,trivial⟩ (fun _ h=>((((h.nilrow 9 1).front 3 _ rfl).front 3 _ rfl).front 3 _ rfl).keep [true,true,true,true,false] rfl) ?_
 ·try dsimp only
  refine ⟨?_,?_⟩
  ·first | rfl | omega | (simp_all;done) | (simp_all;omega)
  ·rfl
 rintro ⟨k,o,oA,oC⟩ hI1
 obtain ⟨i1_0,i1_1⟩:=hI1
 try dsimp only at i1_0
 try dsimp only at i1_1
 try dsimp only
 refine q_ (g_ (s_ (x_lss_i rfl rfl) (z_ (n_ (q_ ?_)))))
 refine ifd (fun h10w h10=>?_) (fun h10w h10=>?_)
 ·refine sk_ (n_ (q_ (k_ (q_ (g_ (r_ (ixF Change.enc_len (cells_row 1 rfl) Tryz.underlying46 Ty.sz60) (r_ (ldFN Change.enc_len (cells_row 1 rfl) Ty.ag60 Ty.sz60) (o_ (al_ Ty.ze60 fun b11=>?_)))))))))
  refine o_ (stG 0 Ty.sz60 ?_)
  refine z_ (n_ (g_ (s_ mv_ (s_ (fA 3 Ty.fi60_3) (r_ (ld_ 0 Ty.sc9) (o_ (O_buildSlice (cs:=[vS ((((R45.sortO parm rs).map R45.cpC).getD k default).Record)]) Tryz.underlying25 Ty.sz9 Ty.ze9 (by decide) (by decide) (by kernel_rfl) fun b12=>?_)))))))
  refine o_ (O_append_m 5 vS o [(((R45.sortO parm rs).map R45.cpC).getD k default).Record] Tryz.underlying25 Ty.sz9 Ty.by9 Ty.ze9 rfl rfl rfl rfl rfl (fun _=>rfl) (cells_blk 0 (off:=0) (m:=1) rfl rfl) lt_ lt_ fun A13 c14=>?_)
  refine s_ av_ (z_ (kx_ (n_ (g_ (s_ (x_add_n (a:=k) (b:=1) rfl rfl (by omega)) (s_ mv_ (z_ ?_)))))))
  refine JX_round ((k+1,o++[(((R45.sortO parm rs).map R45.cpC).getD k default).Record],A13,c14):Nat × (List Bytes) × (Option Addr) × Nat) ?_ ?_ ⟨rfl,rfl,rfl,rfl,rfl,rfl,rfl,rfl,trivial⟩ (fun _ h=>h.keep [false,false,true,true,true,true] rfl)
  ·try dsimp only
   refine ⟨?_,?_⟩
   ·first | rfl | omega | (simp_all;done) | (simp_all;omega)
   ·rw [i1_1];exact R45.so_snoc (by omega)
  ·try dsimp only
   first | omega | (simp;omega) | (simp_all;omega)
 ·refine J_exit (ne_ (re_ (kh_ (n_ (q_ ?_)))))
  refine drB [] 10 Ty.mixed ?_
  refine jp_ 0 rfl mv_ (jp_ 1 rfl mv_ ?_)
  refine jt_ 2 (vB true) rfl (fun _ _=>rfl) ?_
  refine jp_ 3 rfl mv_ (jp_ 4 rfl (fA 1 Ty.fi48_1) (jq_ 5 rfl (ld_ 0 Ty.sc4) (jp_ 6 rfl (x_not rfl) ?_ (hw:=⟨_,rfl,rfl⟩)) (hw:=⟨_,rfl,rfl⟩)) (hw:=⟨_,rfl,rfl⟩))
  refine jt_ 7 (vB (!(!((R45.parmS parm).isSome)))) rfl (fun _ _=>rfl) ?_
  refine jp_ 8 rfl av_ (jp_ 9 rfl av_ ?_)
  refine JA_done (by kernel_rfl) gm_ ?_
  refine n_ (rt_ ?_)
  refine JX_rets [_,_] (Value.tuple #[_,_]) Tryz.results21 (fun w h=>⟨rfl,rfl,trivial⟩) rfl _ (fun _ h=>h.keep [false,false,false,true] rfl) ⟨oA,oC,?_,?_⟩
  ·have e_x0:(o.length:Nat)=((R45.sortO parm rs).length):=by first | rfl | exact congrArg List.length (R45.take_all i1_1 (by omega)) | exact R45.take_all i1_1 (by omega) | (simp;done) | omega
   have e_x1:(!(!((R45.parmS parm).isSome)):Bool)=((R45.parmS parm).isSome):=by first | rfl | exact congrArg List.length (R45.take_all i1_1 (by omega)) | exact R45.take_all i1_1 (by omega) | (simp;done) | omega
   have e_all:=(congr (congrArg (fun (x0:Nat) (x1:Bool)=>Value.tuple #[vL oA x0 oC,vB x1]) e_x0) e_x1)
   exact e_all
  ·have e_y0:(o:List Bytes)=(R45.sortO parm rs):=by
    first | rfl | exact congrArg List.length (R45.take_all i1_1 (by omega)) | exact R45.take_all i1_1 (by omega) | (simp;done) | omega
   have e_all:=(congrArg (fun (y0:List Bytes)=>[Ent.row (.slice oA y0.length oC) 9 1 y0.length (y0.map vS)]) e_y0)
   exact e_all
set_option maxHeartbeats 1000000 in
set_option maxRecDepth 20000 in
theorem f6_ok (l:List Bytes) (lA:Option Addr) (lC:Nat) (fields:Bytes) (m8:UInt8) (f8:UInt8) (a8:UInt8) (w:World) (lR:RO [] w lA (l.map vS)) (hT:Tab [] w) (q0:l.length≤9223372036854775807) (q1:fields.length≤9223372036854775807) (q2:l.length≤lC):Calls Tryz.prog 6 #[vL lA l.length lC,vS fields,vU8 m8,vU8 f8,vU8 a8] w (Gives [] w fun v L=>v=vB true∧L=[]):=by
 have ha8:=a8.toNat_lt
 have hm8:(m8 % 40).toNat≤39:=R45.mod_u8 (n:=40) m8 (by decide)
 have hf8:(f8 % 15).toNat≤14:=R45.mod_u8 (n:=15) f8 (by decide)
 have hmd:a8.toNat % (l.length+1)<l.length+1:=Nat.mod_lt _ (by omega)
 have hol:=R45.sortO_len fields l
 have hml:((R45.sortO fields l).map R45.cpC).length=(R45.sortO fields l).length:=List.length_map ..
 refine calls_J [] 169 Tryz.func6 rfl Tryz.ntmps6 [(0,_),(1,_),(2,_),(3,_),(4,_)] rfl rfl (Give.nil w) ?_
 refine q_ (g_ (s_ av_ (z_ (n_ (q_ (q_ (g_ (c0 (cl_ Ty.ca8) (fun w hS=>f8_ok w (hT.on hS (fun _ h=>by cases h))) (jr_ (vB false) (z_ (n_ (iff_ (sk_ (n_ (q_ (q_ (g_ (s_ mv_ (s_ (lnS Tryz.underlying25) (s_ (x_gtr_i rfl rfl) ?_))))))))))))))))))))
 refine s_ mv_ ?_
 refine or_ 3 (decide ((60:Int)<((fields.length:Nat):Int))) (fun g1=>?_) ?_
 ·have g1r:=g1
  have g1r:=of_decide_eq_false g1r
  refine sg_ g1 mv_ (sg_ g1 (x_len_s rfl Tryz.underlying9) (sg_ g1 (x_gtr_i rfl rfl) ?_))
  exact cr_
 refine s_ mv_ ?_
 refine or_ 2 (decide ((47:UInt8)∈fields)) (fun g2=>?_) ?_
 ·have g2r:=g2
  have ⟨g2r,h3⟩:=bor_false g2r
  have g2r:=of_decide_eq_false g2r
  have h3:=of_decide_eq_false h3
  refine sg_ g2 mv_ (c0g g2 (cl_ Ty.ca20) (fun w hS=>cont_ok 47 _ w) ?_)
  exact cr_
 refine z_ (n_ ?_)
 refine if_ (fun h4=>?_) (fun h4=>?_)
 ·have h4w:=h4
  simp only [Bool.and_eq_true,Bool.or_eq_true,Bool.and_eq_false_iff,Bool.or_eq_false_iff,Bool.not_eq_true',Bool.not_eq_false',decide_eq_true_eq,decide_eq_false_iff_not] at h4
  refine q_ (g_ (s_ av_ (z_ (n_ (rt_ (nr_ ?_))))))
  exact p1 Tryz.results6 rfl ⟨rfl,rfl⟩
 ·have h4w:=h4
  have ⟨h4,h5⟩:=bor_false h4
  have ⟨h4,h6⟩:=bor_false h4
  have h4:=of_decide_eq_false h4
  have h6:=of_decide_eq_false h6
  have h5:=of_decide_eq_false h5
  refine sk_ (n_ (q_ (q_ (g_ (s_ mv_ (s_ (lnS Tryz.underlying25) (s_ mv_ (z_ (n_ (k_ ?_))))))))))
  refine J_loop (X:=Nat) (fun (i:Nat)=>(i≤l.length)∧(∀ j,j<i→(l.getD j []).length≤60)) (fun (i:Nat)=>[(0,vL lA l.length lC),(1,vS fields),(2,vU8 m8),(3,vU8 f8),(4,vU8 a8),(41,vL lA l.length lC),(42,vI ((l.length:Nat):Int)),(43,vI ((i:Nat):Int))]) (fun (i:Nat)=>[]) (fun (i:Nat)=>l.length-i) (0:Nat) ?_ ⟨rfl,rfl,rfl,rfl,rfl,rfl,rfl,rfl,trivial⟩ (fun _ h=>h) ?_
  ·try dsimp only
   refine ⟨?_,?_⟩
   ·first | rfl | omega | (simp_all;done) | (simp_all;omega)
   ·intro j hj;omega
  intro i hI1
  obtain ⟨i1_0,i1_1⟩:=hI1
  try dsimp only at i1_0
  try dsimp only at i1_1
  try dsimp only
  refine q_ (g_ (s_ (x_lss_i rfl rfl) (z_ (n_ (q_ ?_)))))
  refine ifd (fun h7w h7=>?_) (fun h7w h7=>?_)
  ·refine sk_ (n_ (q_ (k_ (q_ (g_ (r_ (ixM (cells_ro lR) Tryz.underlying25 Ty.sz9) (r_ (ldM vS [] (cells_ro lR) Ty.sc9) (s_ av_ (z_ (n_ (q_ (g_ (s_ mv_ (s_ (x_len_s rfl Tryz.underlying9) (s_ (x_gtr_i rfl rfl) (z_ (n_ ?_)))))))))))))))))
   refine ifd (fun h8w h8=>?_) (fun h8w h8=>?_)
   ·refine q_ (g_ (s_ av_ (z_ (n_ (rt_ (kq_ (nr_ (rr_ (kq_ (nr_ ?_))))))))))
    exact p1 Tryz.results6 rfl ⟨rfl,rfl⟩
   ·refine sk_ (kx_ (n_ (g_ (s_ (x_add_n (a:=i) (b:=1) rfl rfl (by omega)) (s_ mv_ (z_ ?_))))))
    refine JX_round (i+1:Nat) ?_ ?_ ⟨rfl,rfl,rfl,rfl,rfl,rfl,rfl,rfl,trivial⟩ (fun _ h=>h)
    ·try dsimp only
     refine ⟨?_,?_⟩
     ·first | rfl | omega | (simp_all;done) | (simp_all;omega)
     ·intro j hj
      by_cases hji:j=i
      ·subst hji;omega
      ·exact i1_1 j (by omega)
    ·try dsimp only
     first | omega | (simp;omega) | (simp_all;omega)
  ·refine J_exit (ne_ (re_ (kh_ (n_ (q_ ?_)))))
   refine g_ (s_ av_ (z_ (n_ (q_ (g_ (s_ mv_ (s_ mv_ (s_ mv_ ?_))))))))
   refine c1 (x_callv (first:=[]) (caps:=[]) rfl Ty.ca21 rfl) (fun w hS=>f21_ok l lA lC _ w (rno lR hS) (hT.on hS (fun _ h=>by cases h)) c45f0_ c45f1_ c45f2_) ?_
   rintro _ _ ⟨outA9,outC10,rfl,rfl⟩
   refine s_ mv_ (s_ (ex_ 0) (s_ (ex_ 1) (s_ av_ (s_ av_ (z_ (n_ (q_ (q_ (g_ (s_ mv_ (s_ (x_not rfl) (z_ (xk_ [0,1,2,3,4,13,14,59] ?_)))))))))))))
   refine n_ ?_
   refine if_ (fun h11=>?_) (fun h11=>?_)
   ·have h11w:=h11
    have h11:((R45.parmS fields).isSome)=false:=bnot_true h11
    refine q_ (g_ (s_ mv_ (s_ (lnS Tryz.underlying25) (s_ (x_eql_i rfl rfl) (s_ av_ (z_ (n_ (rt_ (nr_ ?_)))))))))
    exact p1 Tryz.results6 rfl ⟨(eB (by first | rfl | exact R45.so_end (R45.not_t (by assumption)))),rfl⟩
   ·have h11w:=h11
    have h11:((R45.parmS fields).isSome)=true:=bnot_false h11
    refine sk_ (n_ (q_ (g_ (s_ mv_ (s_ mv_ (s_ mv_ (js_ (vS (fields++[32,47,32])) (x_cat_s rfl rfl c45f3_) (s_ mv_ (js_ (vU8 (m8 % 40)) (x_rem_u8 rfl rfl (by decide)) (s_ (x_conv_u8_i64 rfl Tryz.underlying5 Tryz.underlying3) (s_ (x_add_n (a:=1) (b:=(m8 % 40).toNat) rfl rfl (by omega)) (c0 (cl_ Ty.ca19) (fun w hS=>itoa_ok _ w (hT.on hS (fun _ h=>by cases h)) hy_ hy_) ?_))))))))))))
    have ha12:=R45.dec_lenI ((1+((m8 % 40).toNat):Nat):Int) (by omega)
    refine s_ (x_cat_s rfl rfl c45f3_) (js_ (vS (((fields++[32,47,32])++(Lib.decDigits ((1+((m8 % 40).toNat):Nat):Int).toNat))++[32])) (x_cat_s rfl rfl c45f3_) (s_ mv_ (js_ (vU8 (f8 % 15)) (x_rem_u8 rfl rfl (by decide)) (s_ (x_conv_u8_i64 rfl Tryz.underlying5 Tryz.underlying3) (s_ (x_add_n (a:=2) (b:=(f8 % 15).toNat) rfl rfl (by omega)) (c0 (cl_ Ty.ca19) (fun w hS=>itoa_ok _ w (hT.on hS (fun _ h=>by cases h)) hy_ hy_) ?_))))))
    have ha13:=R45.dec_lenI ((2+((f8 % 15).toNat):Nat):Int) (by omega)
    refine s_ (x_cat_s rfl rfl c45f3_) ?_
    refine c1 (x_callv (first:=[]) (caps:=[]) rfl Ty.ca21 rfl) (fun w hS=>f21_ok l lA lC _ w (rno lR hS) (hT.on hS (fun _ h=>by cases h)) c45f0_ c45f1_ c45f2_) ?_
    rintro _ _ ⟨outA14,outC15,rfl,rfl⟩
    refine s_ mv_ (s_ (ex_ 0) (s_ (ex_ 1) (s_ av_ (s_ av_ (z_ (xk_ [0,1,4,13,14,16,17] ?_))))))
    refine n_ (q_ (g_ (s_ mv_ (s_ (x_conv_u8_i64 rfl Tryz.underlying5 Tryz.underlying3) (s_ mv_ (s_ (lnS Tryz.underlying25) (s_ (x_add_n (a:=l.length) (b:=1) rfl rfl (by omega)) (s_ (x_rem_n (a:=a8.toNat) (b:=l.length+1) rfl rfl (by omega) (by omega)) (s_ av_ (z_ (n_ (q_ (g_ (s_ mv_ ?_))))))))))))))
    refine s_ mv_ (s_ mv_ (s_ (x_head rfl Tryz.underlying25 Ty.sz9 rfl lt_) ?_))
    obtain ⟨A16,hA17⟩:∃ x:Option Addr,x=lA:=⟨_,rfl⟩
    have hro18:=RO.headM lR (a8.toNat % (l.length+1))
    rw [← hA17] at hro18
    refine JO_weaken (E':=[(0,vL lA l.length lC),(1,vS fields),(4,vU8 a8),(13,Value.func (.func 21) #[] #[]),(14,vL outA9 ((R45.sortO fields l).length) outC10),(16,vL outA14 ((R45.sortO ((((fields++[32,47,32])++(Lib.decDigits ((1+((m8 % 40).toNat):Nat):Int).toNat))++[32])++(Lib.decDigits ((2+((f8 % 15).toNat):Nat):Int).toNat)) l).length) outC15),(17,vB ((R45.parmS ((((fields++[32,47,32])++(Lib.decDigits ((1+((m8 % 40).toNat):Nat):Int).toNat))++[32])++(Lib.decDigits ((2+((f8 % 15).toNat):Nat):Int).toNat))).isSome)),(84,vU8 a8),(85,vI ((a8.toNat:Nat):Int)),(86,vL lA l.length lC),(87,vI ((l.length:Nat):Int)),(88,vI ((l.length+1:Nat):Int)),(89,vI ((a8.toNat % (l.length+1):Nat):Int)),(18,vI ((a8.toNat % (l.length+1):Nat):Int)),(91,Value.func (.func 21) #[] #[]),(92,vL lA l.length lC),(93,vI ((a8.toNat % (l.length+1):Nat):Int)),(94,vL A16 ((l.take (a8.toNat % (l.length+1))).length) lC)]) (L':=[Ent.row (.slice outA14 (R45.sortO ((((fields++[32,47,32])++(Lib.decDigits ((1+((m8 % 40).toNat):Nat):Int).toNat))++[32])++(Lib.decDigits ((2+((f8 % 15).toNat):Nat):Int).toNat)) l).length outC15) 9 1 (R45.sortO ((((fields++[32,47,32])++(Lib.decDigits ((1+((m8 % 40).toNat):Nat):Int).toNat))++[32])++(Lib.decDigits ((2+((f8 % 15).toNat):Nat):Int).toNat)) l).length ((R45.sortO ((((fields++[32,47,32])++(Lib.decDigits ((1+((m8 % 40).toNat):Nat):Int).toNat))++[32])++(Lib.decDigits ((2+((f8 % 15).toNat):Nat):Int).toNat)) l).map vS),Ent.row (.slice outA9 (R45.sortO fields l).length outC10) 9 1 (R45.sortO fields l).length ((R45.sortO fields l).map vS)]) ⟨rfl,rfl,rfl,rfl,rfl,rfl,rfl,rfl,rfl,rfl,rfl,rfl,rfl,rfl,rfl,rfl,rfl,(by rw [hA17,← take_len lt_];rfl),trivial⟩ (fun _ h=>h) ?_
    refine s_ mv_ ?_
    refine c1 (x_callv (first:=[]) (caps:=[]) rfl Ty.ca21 rfl) (fun w hS=>f21_ok _ A16 lC _ w (rno hro18 hS) (hT.on hS (fun _ h=>by cases h)) c45f0_ c45f1_ c45f2_) ?_
    rintro _ _ ⟨outA19,outC20,rfl,rfl⟩
    refine s_ mv_ (s_ (ex_ 0) (s_ (ex_ 1) (s_ av_ (s_ av_ (z_ (xk_ [0,1,13,14,16,17,18,19,20] ?_))))))
    refine n_ (q_ (g_ (s_ mv_ (s_ mv_ (s_ mv_ (s_ (x_subrow (lo:=a8.toNat % (l.length+1)) (hi:=l.length) rfl Tryz.underlying25 Ty.sz9 (.inl rfl) (.inr ⟨rfl,rfl⟩) lt_ lt_) ?_))))))
    have hro21:=RO.subM lR lC (a8.toNat % (l.length+1)) (l.length-(a8.toNat % (l.length+1))) lt_
    rw [show l.length-(a8.toNat % (l.length+1))=(l.drop (a8.toNat % (l.length+1))).length from List.length_drop.symm,List.take_length] at hro21
    refine JO_weaken (E':=[(0,vL lA l.length lC),(1,vS fields),(13,Value.func (.func 21) #[] #[]),(14,vL outA9 ((R45.sortO fields l).length) outC10),(16,vL outA14 ((R45.sortO ((((fields++[32,47,32])++(Lib.decDigits ((1+((m8 % 40).toNat):Nat):Int).toNat))++[32])++(Lib.decDigits ((2+((f8 % 15).toNat):Nat):Int).toNat)) l).length) outC15),(17,vB ((R45.parmS ((((fields++[32,47,32])++(Lib.decDigits ((1+((m8 % 40).toNat):Nat):Int).toNat))++[32])++(Lib.decDigits ((2+((f8 % 15).toNat):Nat):Int).toNat))).isSome)),(18,vI ((a8.toNat % (l.length+1):Nat):Int)),(19,vL outA19 ((R45.sortO fields (l.take (a8.toNat % (l.length+1)))).length) outC20),(20,vB ((R45.parmS fields).isSome)),(100,Value.func (.func 21) #[] #[]),(101,vL lA l.length lC),(102,vI ((a8.toNat % (l.length+1):Nat):Int)),(103,vL (subA lA lC (a8.toNat % (l.length+1)) 1) ((l.drop (a8.toNat % (l.length+1))).length) (lC-(a8.toNat % (l.length+1))))]) (L':=[Ent.row (.slice outA19 (R45.sortO fields (l.take (a8.toNat % (l.length+1)))).length outC20) 9 1 (R45.sortO fields (l.take (a8.toNat % (l.length+1)))).length ((R45.sortO fields (l.take (a8.toNat % (l.length+1)))).map vS),Ent.row (.slice outA14 (R45.sortO ((((fields++[32,47,32])++(Lib.decDigits ((1+((m8 % 40).toNat):Nat):Int).toNat))++[32])++(Lib.decDigits ((2+((f8 % 15).toNat):Nat):Int).toNat)) l).length outC15) 9 1 (R45.sortO ((((fields++[32,47,32])++(Lib.decDigits ((1+((m8 % 40).toNat):Nat):Int).toNat))++[32])++(Lib.decDigits ((2+((f8 % 15).toNat):Nat):Int).toNat)) l).length ((R45.sortO ((((fields++[32,47,32])++(Lib.decDigits ((1+((m8 % 40).toNat):Nat):Int).toNat))++[32])++(Lib.decDigits ((2+((f8 % 15).toNat):Nat):Int).toNat)) l).map vS),Ent.row (.slice outA9 (R45.sortO fields l).length outC10) 9 1 (R45.sortO fields l).length ((R45.sortO fields l).map vS)]) ⟨rfl,rfl,rfl,rfl,rfl,rfl,rfl,rfl,rfl,rfl,rfl,rfl,(congrArg (fun n:Nat=>some (Value.slice (subA lA lC (a8.toNat % (l.length+1)) 1) n (lC-(a8.toNat % (l.length+1))))) (by exact List.length_drop.symm)),trivial⟩ (fun _ h=>h) ?_
    refine s_ mv_ ?_
    refine c1 (x_callv (first:=[]) (caps:=[]) rfl Ty.ca21 rfl) (fun w hS=>f21_ok _ _ _ _ w (rno hro21 hS) (hT.on hS (fun _ h=>by cases h)) c45f0_ c45f1_ c45f2_) ?_
    rintro _ _ ⟨outA22,outC23,rfl,rfl⟩
    refine s_ mv_ (s_ (ex_ 0) (s_ (ex_ 1) (s_ av_ (s_ av_ (z_ (n_ (q_ (g_ ?_))))))))
    refine c1 (cl_ Ty.ca12) (fun w hS=>f12_ok ([]:List SRow) none 0 w RO.nil) ?_
    rintro _ _ ⟨s24,rfl,rfl⟩
    refine js_ (Value.iface 41 (pB s24 0)) (x_iface rfl (by kernel_rfl)) (s_ mv_ (s_ mv_ (c0 (cl_ Ty.ca18) (fun w hS=>f18_ok [73,78,49] _ _ _ w (RO.of_row hS 2 rfl)) (s_ mv_ (c0 (cl_ Ty.ca18) (fun w hS=>f18_ok [73,78,50] _ _ _ w (RO.of_row hS 1 rfl)) (c0 (cl_ Ty.ca17) (fun w hS=>f17_ok [79,85,84] 200 w) (o_ (O_buildSlice (cs:=(Binding.enc (R45.inlineB [73,78,49] (R45.sortO fields (l.take (a8.toNat % (l.length+1)))) outA19 outC20)++Binding.enc (R45.inlineB [73,78,50] (R45.sortO fields (l.drop (a8.toNat % (l.length+1)))) outA22 outC23)++Binding.enc (R45.freshB [79,85,84] 200))) Tryz.underlying36 Ty.sz33 Ty.ze33 (by decide) (by decide) (by kernel_rfl) fun b25=>?_))))))))
    refine JO_call [s24] [Ent.blk s24 52 [vL none (([]:List SRow).length) 0,vI 0,vI 0,vI ((0:Nat):Int)]] [Ent.blk b25 33 (Binding.enc (R45.inlineB [73,78,49] (R45.sortO fields (l.take (a8.toNat % (l.length+1)))) outA19 outC20)++Binding.enc (R45.inlineB [73,78,50] (R45.sortO fields (l.drop (a8.toNat % (l.length+1)))) outA22 outC23)++Binding.enc (R45.freshB [79,85,84] 200)),Ent.row (.slice outA22 (R45.sortO fields (l.drop (a8.toNat % (l.length+1)))).length outC23) 9 1 (R45.sortO fields (l.drop (a8.toNat % (l.length+1)))).length ((R45.sortO fields (l.drop (a8.toNat % (l.length+1)))).map vS),Ent.row (.slice outA19 (R45.sortO fields (l.take (a8.toNat % (l.length+1)))).length outC20) 9 1 (R45.sortO fields (l.take (a8.toNat % (l.length+1)))).length ((R45.sortO fields (l.take (a8.toNat % (l.length+1)))).map vS),Ent.row (.slice outA14 (R45.sortO ((((fields++[32,47,32])++(Lib.decDigits ((1+((m8 % 40).toNat):Nat):Int).toNat))++[32])++(Lib.decDigits ((2+((f8 % 15).toNat):Nat):Int).toNat)) l).length outC15) 9 1 (R45.sortO ((((fields++[32,47,32])++(Lib.decDigits ((1+((m8 % 40).toNat):Nat):Int).toNat))++[32])++(Lib.decDigits ((2+((f8 % 15).toNat):Nat):Int).toNat)) l).length ((R45.sortO ((((fields++[32,47,32])++(Lib.decDigits ((1+((m8 % 40).toNat):Nat):Int).toNat))++[32])++(Lib.decDigits ((2+((f8 % 15).toNat):Nat):Int).toNat)) l).map vS),Ent.row (.slice outA9 (R45.sortO fields l).length outC10) 9 1 (R45.sortO fields l).length ((R45.sortO fields l).map vS)] rfl trivial (fun _=>x_call Ty.ca15 rfl) (fun _ h=>((((((h.front 5 _ rfl).front 5 _ rfl).front 5 _ rfl).front 5 _ rfl).front 4 _ rfl).front 5 _ rfl).keep [true,true,true,true,true,true] rfl) (own_mem rfl) (fun w hS=>me_lit s24 ([]:List SRow) none 0 0 [(R45.inlineB [73,78,49] (R45.sortO fields (l.take (a8.toNat % (l.length+1)))) outA19 outC20),(R45.inlineB [73,78,50] (R45.sortO fields (l.drop (a8.toNat % (l.length+1)))) outA22 outC23),(R45.freshB [79,85,84] 200)] (some ⟨b25,0,none⟩) 3 l fields (a8.toNat % (l.length+1)) w RO.nil (RO.of_blkS hS (own_mem rfl) 0 (off:=0) (m:=273) rfl rfl) (okL_cons (inline_kp (RO.of_rowS hS (own_mem rfl) 2 rfl)) (okL_cons (inline_kp (RO.of_rowS hS (own_mem rfl) 1 rfl)) (okL_cons (fresh_kp _ _) (Binding.ok_none)))) (hT.on hS (own_mem rfl)) (by rfl) hy_ (by exact ⟨_,_,_,_,rfl⟩) (by exact R45.so_len (by assumption)) (by exact R45.all_end (p:=fun x:Bytes=>x.length≤60) (Nat.zero_le _) (by assumption) (by omega)) (by exact Nat.le_trans (R45.so_flen (by assumption)) (by decide)) (by exact R45.so_no (by assumption)) (by exact R45.not_f (by assumption)) (hS.give (own_in rfl))) ?_
    rintro _ _ ⟨chA26,chC27,ln28,lnA29,lnC30,rfl,rfl⟩
    refine s_ mv_ (s_ (ex_ 0) (s_ (ex_ 1) (o_ (al_ Ty.ze48 fun b31=>?_))))
    refine o_ (stG 0 Ty.sz48 ?_)
    refine s_ av_ (z_ (xk_ [0,14,16,17,20,22,23,24] ?_))
    refine n_ (q_ (q_ (g_ (s_ mv_ (s_ (x_not rfl) (s_ mv_ ?_))))))
    refine or_ 2 (!((R45.parmS fields).isSome)) (fun g32=>?_) ?_
    ·have g32r:=g32
     have g32r:((R45.parmS ((((fields++[32,47,32])++(Lib.decDigits ((1+((m8 % 40).toNat):Nat):Int).toNat))++[32])++(Lib.decDigits ((2+((f8 % 15).toNat):Nat):Int).toNat))).isSome)=true:=bnot_false g32r
     refine sg_ g32 mv_ (sg_ g32 (x_not rfl) ?_)
     exact cr_
    refine s_ mv_ ?_
    refine or_ 2 (!((R45.parmS fields).isSome)) (fun g33=>?_) ?_
    ·have g33r:=g33
     have ⟨g33r,h34⟩:=bor_false g33r
     have g33r:((R45.parmS ((((fields++[32,47,32])++(Lib.decDigits ((1+((m8 % 40).toNat):Nat):Int).toNat))++[32])++(Lib.decDigits ((2+((f8 % 15).toNat):Nat):Int).toNat))).isSome)=true:=bnot_false g33r
     have h34:((R45.parmS fields).isSome)=true:=bnot_false h34
     refine sg_ g33 mv_ (sg_ g33 (x_not rfl) ?_)
     exact cr_
    refine s_ mv_ ?_
    refine or_ 2 (false) (fun g35=>?_) ?_
    ·have g35r:=g35
     have ⟨g35r,h36⟩:=bor_false g35r
     have ⟨g35r,h37⟩:=bor_false g35r
     have g35r:((R45.parmS ((((fields++[32,47,32])++(Lib.decDigits ((1+((m8 % 40).toNat):Nat):Int).toNat))++[32])++(Lib.decDigits ((2+((f8 % 15).toNat):Nat):Int).toNat))).isSome)=true:=bnot_false g35r
     have h37:((R45.parmS fields).isSome)=true:=bnot_false h37
     have h36:((R45.parmS fields).isSome)=true:=bnot_false h36
     refine sg_ g35 mv_ (jg_ g35 (vB false) (rfl) ?_)
     exact cr_
    refine s_ mv_ ?_
    refine or_ 2 (false) (fun g38=>?_) ?_
    ·have g38r:=g38
     have ⟨g38r,h39⟩:=bor_false g38r
     have ⟨g38r,h40⟩:=bor_false g38r
     have ⟨g38r,h41⟩:=bor_false g38r
     have g38r:((R45.parmS ((((fields++[32,47,32])++(Lib.decDigits ((1+((m8 % 40).toNat):Nat):Int).toNat))++[32])++(Lib.decDigits ((2+((f8 % 15).toNat):Nat):Int).toNat))).isSome)=true:=bnot_false g38r
     have h41:((R45.parmS fields).isSome)=true:=bnot_false h41
     have h40:((R45.parmS fields).isSome)=true:=bnot_false h40
     refine sg_ g38 (fA 1 Ty.fi48_1) (rg_ g38 (ld_ 0 Ty.sc4) ?_)
     exact cr_
    refine s_ mv_ ?_
    refine or_ 4 (!(decide ((R45.sortO fields l)=(R45.sortO ((((fields++[32,47,32])++(Lib.decDigits ((1+((m8 % 40).toNat):Nat):Int).toNat))++[32])++(Lib.decDigits ((2+((f8 % 15).toNat):Nat):Int).toNat)) l)))) (fun g42=>?_) ?_
    ·have g42r:=g42
     have ⟨g42r,h43⟩:=bor_false g42r
     have ⟨g42r,h44⟩:=bor_false g42r
     have ⟨g42r,h45⟩:=bor_false g42r
     have ⟨g42r,h46⟩:=bor_false g42r
     have g42r:((R45.parmS ((((fields++[32,47,32])++(Lib.decDigits ((1+((m8 % 40).toNat):Nat):Int).toNat))++[32])++(Lib.decDigits ((2+((f8 % 15).toNat):Nat):Int).toNat))).isSome)=true:=bnot_false g42r
     have h46:((R45.parmS fields).isSome)=true:=bnot_false h46
     have h45:((R45.parmS fields).isSome)=true:=bnot_false h45
     refine sg_ g42 mv_ (sg_ g42 mv_ (c0g g42 (cl_ Ty.ca14) (fun w hS=>f14_ok _ _ _ _ _ _ w (RO.of_row hS 7 rfl) (RO.of_row hS 6 rfl) (by exact Nat.le_trans (R45.sortO_len _ _) q0) (by exact Nat.le_trans (R45.sortO_len _ _) q0)) (sg_ g42 (x_not rfl) ?_)))
     exact cr_
    refine s_ mv_ ?_
    refine or_ 6 (decide (((((R45.sortO fields l).map R45.cpC).length:Nat):Int)≠((l.length:Nat):Int))) (fun g47=>?_) ?_
    ·have g47r:=g47
     have ⟨g47r,h48⟩:=bor_false g47r
     have ⟨g47r,h49⟩:=bor_false g47r
     have ⟨g47r,h50⟩:=bor_false g47r
     have ⟨g47r,h51⟩:=bor_false g47r
     have ⟨g47r,h52⟩:=bor_false g47r
     have g47r:((R45.parmS ((((fields++[32,47,32])++(Lib.decDigits ((1+((m8 % 40).toNat):Nat):Int).toNat))++[32])++(Lib.decDigits ((2+((f8 % 15).toNat):Nat):Int).toNat))).isSome)=true:=bnot_false g47r
     have h52:((R45.parmS fields).isSome)=true:=bnot_false h52
     have h51:((R45.parmS fields).isSome)=true:=bnot_false h51
     have h48:(decide ((R45.sortO fields l)=(R45.sortO ((((fields++[32,47,32])++(Lib.decDigits ((1+((m8 % 40).toNat):Nat):Int).toNat))++[32])++(Lib.decDigits ((2+((f8 % 15).toNat):Nat):Int).toNat)) l)))=true:=bnot_false h48
     have h48:=of_decide_eq_true h48
     refine sg_ g47 (fA 2 Ty.fi48_2) (rg_ g47 (ld_ 0 Ty.sc46) (sg_ g47 (lnS Tryz.underlying46) (sg_ g47 mv_ (sg_ g47 (lnS Tryz.underlying25) (sg_ g47 (x_neq_i rfl rfl) ?_)))))
     exact cr_
    refine z_ (xk_ [14,23,152] ?_)
    refine n_ ?_
    refine if_ (fun h53=>?_) (fun h53=>?_)
    ·have h53w:=h53
     simp only [Bool.and_eq_true,Bool.or_eq_true,Bool.and_eq_false_iff,Bool.or_eq_false_iff,Bool.not_eq_true',Bool.not_eq_false',decide_eq_true_eq,decide_eq_false_iff_not] at h53
     exact (R45.so_bad (fields:=fields) (xs:=l) (m:=((1+((m8 % 40).toNat):Nat):Int)) (f:=((2+((f8 % 15).toNat):Nat):Int)) (R45.so_no (by assumption)) (by omega) (by omega) (by omega) (by omega) (R45.not_f (by assumption)) (by assumption)).elim
    ·have h53w:=h53
     have ⟨h53,h54⟩:=bor_false h53
     have ⟨h53,h55⟩:=bor_false h53
     have ⟨h53,h56⟩:=bor_false h53
     have ⟨h53,h57⟩:=bor_false h53
     have ⟨h53,h58⟩:=bor_false h53
     have ⟨h53,h59⟩:=bor_false h53
     have h53:((R45.parmS ((((fields++[32,47,32])++(Lib.decDigits ((1+((m8 % 40).toNat):Nat):Int).toNat))++[32])++(Lib.decDigits ((2+((f8 % 15).toNat):Nat):Int).toNat))).isSome)=true:=bnot_false h53
     have h59:((R45.parmS fields).isSome)=true:=bnot_false h59
     have h58:((R45.parmS fields).isSome)=true:=bnot_false h58
     have h55:(decide ((R45.sortO fields l)=(R45.sortO ((((fields++[32,47,32])++(Lib.decDigits ((1+((m8 % 40).toNat):Nat):Int).toNat))++[32])++(Lib.decDigits ((2+((f8 % 15).toNat):Nat):Int).toNat)) l)))=true:=bnot_false h55
     have h55:=of_decide_eq_true h55
     have h54:=of_decide_eq_false h54
     refine sk_ (n_ (q_ (q_ (g_ (s_ (fA 2 Ty.fi48_2) (r_ (ld_ 0 Ty.sc46) (s_ (lnS Tryz.underlying46) (s_ mv_ (z_ (n_ (k_ ?_)))))))))))
     refine J_loop (X:=Nat) (fun (j:Nat)=>(j≤l.length)) (fun (j:Nat)=>[(14,vL outA9 ((R45.sortO fields l).length) outC10),(154,vL chA26 (((R45.sortO fields l).map R45.cpC).length) chC27),(155,vI ((((R45.sortO fields l).map R45.cpC).length:Nat):Int)),(156,vI ((j:Nat):Int))]) (fun (j:Nat)=>[Ent.row (.slice chA26 ((R45.sortO fields l).map R45.cpC).length chC27) 60 5 ((R45.sortO fields l).map R45.cpC).length (((R45.sortO fields l).map R45.cpC).flatMap Change.enc),Ent.row (.slice outA9 (R45.sortO fields l).length outC10) 9 1 (R45.sortO fields l).length ((R45.sortO fields l).map vS)]) (fun (j:Nat)=>l.length-j) (0:Nat) ?_ ⟨rfl,rfl,rfl,rfl,trivial⟩ (fun _ h=>h.keep [false,true,false,false,false,false,false,true] rfl) ?_
     ·try dsimp only
      first | rfl | omega | (simp_all;done) | (simp_all;omega)
     intro j hI2
     have i2_0:=hI2
     try dsimp only at i2_0
     try dsimp only
     refine q_ (g_ (s_ (x_lss_i rfl rfl) (z_ (n_ (q_ ?_)))))
     refine ifd (fun h60w h60=>?_) (fun h60w h60=>?_)
     ·refine sk_ (n_ (q_ (k_ (q_ (g_ (s_ mv_ (r_ (ixF Change.enc_len (cells_row 0 rfl) Tryz.underlying46 Ty.sz60) (r_ (ldFN Change.enc_len (cells_row 0 rfl) Ty.ag60 Ty.sz60) (o_ (al_ Ty.ze60 fun b61=>?_))))))))))
      refine s_ av_ (o_ (stG 0 Ty.sz60 ?_))
      refine z_ (n_ (q_ ?_))
      refine drB [] 7 Ty.mixed ?_
      refine jp_ 0 rfl (fA 3 Ty.fi60_3) (jq_ 1 rfl (ld_ 0 Ty.sc9) (jp_ 2 rfl mv_ (jp_ 3 rfl mv_ (jq_ 4 rfl (ixM (cells_row 2 rfl) Tryz.underlying25 Ty.sz9) (jq_ 5 rfl (ldM vS [] (cells_row 2 rfl) Ty.sc9) (jp_ 6 rfl (x_neq_s rfl rfl) ?_))))))
      refine JA_done (by kernel_rfl) gm_ ?_
      refine n_ ?_
      refine ifd (fun h62w h62=>?_) (fun h62w h62=>?_)
      ·exact absurd (R45.so_at (xs:=R45.sortO fields l) (j:=j) (by omega)) (by assumption)
      ·refine sk_ (kx_ (n_ (g_ (s_ (x_add_n (a:=j) (b:=1) rfl rfl (by omega)) (s_ mv_ (z_ ?_))))))
       refine JX_round (j+1:Nat) ?_ ?_ ⟨rfl,rfl,rfl,rfl,trivial⟩ (fun _ h=>h.keep [false,true,true] rfl)
       ·try dsimp only
        first | rfl | omega | (simp_all;done) | (simp_all;omega)
       ·try dsimp only
        first | omega | (simp;omega) | (simp_all;omega)
     ·refine J_exit (ne_ (re_ (kh_ (n_ (q_ ?_)))))
      refine g_ (s_ av_ (z_ (n_ (rt_ ?_))))
      exact p1 Tryz.results6 rfl ⟨rfl,rfl⟩
end Go.Proofs.YtggobegaiijhhaaGreatDoor
