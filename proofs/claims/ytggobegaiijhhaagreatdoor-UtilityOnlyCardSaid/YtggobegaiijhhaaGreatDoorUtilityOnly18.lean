/- C45x, Pl45j, C45h, St44, Rq in one text. -/
import Derived.Test.YtggobegaiijhhaaGreatDoorUtilityOnly17
import Derived.Lib.Repeat
set_option linter.unusedVariables false
set_option linter.unusedSimpArgs false
set_option maxRecDepth 20000
namespace Go.Proofs.YtggobegaiijhhaaGreatDoor
open Go.GV Go.Proofs.Tryz Ty
open Go.GV.Ent (blk row mp)
theorem aw_gen (s:Nat) (rows:List SRow) (rowsA:OA_) (rowsC:Nat) (calls:Nat) (l:List Binding) (lA:OA_) (lC:Nat) (w:World) (rowsR:RO [s] w rowsA (rows.flatMap SRow.enc)) (lR:RO [s] w lA (l.flatMap Binding.enc)) (lN:Kp [s] w (okL Binding.ok l)) (hT:Tab [s] w) (q0:rows=[]) (q1:calls≤890000) (q2:l=[R45.freshB [79,85,84] 200]) (hg:Give [s] w [sH_ s rowsA rows.length rowsC calls]):Calls prog 15 #[Value.iface 41 (pB s 0),vS [103,101,110,101,114,97,116,101],vS [50,32,65],vL lA l.length lC] w (Gives [s] w fun v L=>∃ cd:Int,∃ fd:Bool,∃ ch:List Change,∃ chA:OA_,∃ chC:Nat,∃ ln:LB_,∃ lnA:OA_,∃ lnC:Nat,v=Value.tuple #[vG [vI cd,vB fd,vL chA ch.length chC,vL lnA ln.length lnC],vI 0]∧L=[row (.slice chA ch.length chC) 60 5 ch.length (ch.flatMap Change.enc),row (.slice lnA ln.length lnC) 9 1 ln.length (ln.map vS)]∧(ch.length=2)∧((ch.getD 1 default).Record=[65,48,48,48,50])):=by
 subst q0 q2
 refine (run_generate (s:=s) (parm:=[50,32,65]) (rows:=_) (rowsA:=rowsA) (rowsC:=rowsC) (calls:=calls) (l:=_) (lA:=lA) (lC:=lC) (w:=w) rowsR lR lN hT dd_ q1 R45.dist_nil (by simp) (by simp) dd_ dd_ (R45.lines_all (by intro b hb;rw [List.mem_singleton.1 hb];exact Nat.zero_le _)) (R45.lines_each (by intro b hb;rw [List.mem_singleton.1 hb];intro s hs;cases hs)) hg).mono ?_
 rintro e w' ⟨v,L',h1,⟨cd,fd,ch,chA,chC,ln,lnA,lnC,hv,hL,hf⟩,hS⟩
 exact ⟨v,L',h1,⟨cd,fd,ch,chA,chC,ln,lnA,lnC,hv,hL,(R45.awG hf).1,(R45.awG hf).2⟩,hS⟩
theorem aw_cmp (s:Nat) (rows:List SRow) (rowsA:OA_) (rowsC:Nat) (calls:Nat) (l:List Binding) (lA:OA_) (lC:Nat) (w:World) (rowsR:RO [s] w rowsA (rows.flatMap SRow.enc)) (lR:RO [s] w lA (l.flatMap Binding.enc)) (lN:Kp [s] w (okL Binding.ok l)) (hT:Tab [s] w) (q0:rows=[]) (q1:calls≤890000) (q2:∃ A C c d,l=[R45.inlineB [73,78,49] [[97],[98]] A c,R45.inlineB [73,78,50] [[97],[99]] C d]) (hg:Give [s] w [sH_ s rowsA rows.length rowsC calls]):Calls prog 15 #[Value.iface 41 (pB s 0),vS [99,111,109,112,97,114,101],vS [],vL lA l.length lC] w (Gives [s] w fun v L=>∃ cd:Int,∃ fd:Bool,∃ ch:List Change,∃ chA:OA_,∃ chC:Nat,∃ ln:LB_,∃ lnA:OA_,∃ lnC:Nat,v=Value.tuple #[vG [vI cd,vB fd,vL chA ch.length chC,vL lnA ln.length lnC],vI 0]∧L=[row (.slice chA ch.length chC) 60 5 ch.length (ch.flatMap Change.enc),row (.slice lnA ln.length lnC) 9 1 ln.length (ln.map vS)]∧(cd=4)∧(ln.length=1)∧(ln.getD 0 []=[100,105,102,102,101,114,101,110,116,32,97,116,32,50])):=by
 obtain ⟨A,C,c,d,rfl⟩:=q2
 subst q0
 refine (run_compare (s:=s) (parm:=[]) (rows:=_) (rowsA:=rowsA) (rowsC:=rowsC) (calls:=calls) (l:=_) (lA:=lA) (lC:=lC) (w:=w) rowsR lR lN hT dd_ q1 R45.dist_nil (by simp) dd_ (by show 2≤1000;decide) (R45.lines_all (by intro b hb;rcases List.mem_cons.1 hb with rfl | hb <;> first | exact (show 2≤1000 by decide) | (rw [List.mem_singleton.1 hb];exact (show 2≤1000 by decide)))) hg).mono ?_
 rintro e w' ⟨v,L',h1,⟨cd,fd,ch,chA,chC,ln,lnA,lnC,hv,hL,hf⟩,hS⟩
 exact ⟨v,L',h1,⟨cd,fd,ch,chA,chC,ln,lnA,lnC,hv,hL,(R45.awC hf).1,(R45.awC hf).2.1,(R45.awC hf).2.2⟩,hS⟩
theorem f22_ok (w:World):Calls prog 22 #[] w (Gives [] w fun v L=>∃ A:OA_,∃ c:Nat,v=vL A 11 c∧L=[]):=by
 refine calls_J [] 4 func22 rfl ntmps22 [] rfl rfl (Give.nil w) ?_
 refine q_ (g_ (s_ av_ (z_ (n_ (q_ (g_ ?_))))))
 refine c1 (cl_ ca32) (fun w hS=>f32_ok w) ?_
 rintro _ _ ⟨pm1,tb2,rfl,rfl⟩
 refine c1 (cl_ ca31) (fun w hS=>keys_ok pm1 w) ?_
 rintro _ _ ⟨p3,rfl,rfl⟩
 refine JO_call [pm1,p3] [mp vS pm1 [([97,98,101,110,100],(fC_ 44 tb2)),([99,111,100,101],(fN_ 47)),([99,111,109,112,97,114,101],(fC_ 51 tb2)),([99,111,112,121],(fC_ 54 tb2)),([99,111,117,110,116],(fC_ 57 tb2)),([101,114,97,115,101],(fC_ 61 tb2)),([103,101,110,101,114,97,116,101],(fN_ 64)),([109,101,114,103,101],(fN_ 65)),([112,114,105,110,116],(fC_ 66 tb2)),([115,101,108,101,99,116],(fN_ 69)),([115,111,114,116],(fN_ 70))],blk p3 89 [Value.map (some pm1)]] [blk tb2 94 [(fN_ 43)]] rfl trivial (fun _=>x_call ca30 rfl) (fun _ h=>(((h.front 2 _ rfl).front 1 _ rfl).front 2 _ rfl).keep [T_,T_,T_] rfl) (own_mem rfl) (fun w hS=>sorted_ok pm1 p3 [([97,98,101,110,100],(fC_ 44 tb2)),([99,111,100,101],(fN_ 47)),([99,111,109,112,97,114,101],(fC_ 51 tb2)),([99,111,112,121],(fC_ 54 tb2)),([99,111,117,110,116],(fC_ 57 tb2)),([101,114,97,115,101],(fC_ 61 tb2)),([103,101,110,101,114,97,116,101],(fN_ 64)),([109,101,114,103,101],(fN_ 65)),([112,114,105,110,116],(fC_ 66 tb2)),([115,101,108,101,99,116],(fN_ 69)),([115,111,114,116],(fN_ 70))] w (by simp only [List.map_cons,List.map_nil];decide) (by simp only [List.map_cons,List.map_nil];decide) (by simp only [List.map_cons,List.map_nil];decide) (hS.give (own_in rfl))) ?_
 rintro _ _ ⟨A4,c5,ss6,rfl,rfl,hf7⟩
 try simp only [List.length_cons,List.length_nil,Nat.zero_add,Nat.reduceAdd] at hf7
 refine s_ av_ (z_ (n_ (rt_ ?_)))
 refine p1 results22 rfl ⟨A4,c5,?_,rfl⟩
 have e_x0:(ss6.length:Nat)=11:=by assumption
 exact congrArg (fun (x0:Nat)=>vL A4 x0 c5) e_x0
theorem f8_ok (w:World) (hT:Tab [] w):Calls prog 8 #[] w (Gives [] w fun v L=>v=vB true∧L=[]):=by
 refine calls_J [] 86 func8 rfl ntmps8 [] rfl rfl (Give.nil w) ?_
 refine q_ (g_ (s_ av_ (z_ (n_ (q_ (g_ ?_))))))
 refine c1 (cl_ ca12) (fun w hS=>f12_ok ([]:List SRow) none 0 w RO.nil) ?_
 rintro _ _ ⟨s1,rfl,rfl⟩
 refine js_ (Value.iface 41 (pB s1 0)) (x_iface rfl kf_) (c0 (cl_ ca17) (fun w hS=>f17_ok [79,85,84] 200 w) (o_ (O_buildSlice (cs:=(Binding.enc (R45.freshB [79,85,84] 200))) underlying36 sz33 ze33 dd_ dd_ kf_ fun b2=>?_)))
 refine JO_call [s1] [blk s1 52 [vL none (([]:List SRow).length) 0,vI 0,vI 0,vN 0]] [blk b2 33 (Binding.enc (R45.freshB [79,85,84] 200))] rfl trivial (fun _=>x_call ca15 rfl) (fun _ h=>(h.front 1 _ rfl).keep [T_,T_] rfl) (own_mem rfl) (fun w hS=>aw_gen s1 ([]:List SRow) none 0 0 [(R45.freshB [79,85,84] 200)] (some ⟨b2,0,none⟩) 1 w RO.nil (RO.of_blkS hS (own_mem rfl) 0 (off:=0) (m:=91) rfl rfl) (okL_cons (fresh_kp _ _) (Binding.ok_none)) (hT.on hS (own_mem rfl)) (by rfl) hy_ (by rfl) (hS.give (own_in rfl))) ?_
 rintro _ _ ⟨cd3,fd4,ch5,chA6,chC7,ln8,lnA9,lnC10,rfl,rfl,hf11,hf12⟩
 refine s_ mv_ (s_ (ex_ 0) (s_ (ex_ 1) (o_ (al_ ze48 fun b13=>?_))))
 refine o_ (stG 0 sz48 ?_)
 refine s_ av_ (z_ (n_ (q_ (g_ ?_))))
 refine c1 (cl_ ca12) (fun w hS=>f12_ok ([]:List SRow) none 0 w RO.nil) ?_
 rintro _ _ ⟨s14,rfl,rfl⟩
 refine js_ (Value.iface 41 (pB s14 0)) (x_iface rfl kf_) (o_ (O_buildSlice (cs:=[vS [97],vS [98]]) underlying25 sz9 ze9 dd_ dd_ kf_ fun b15=>?_))
 refine c0 (cl_ ca18) (fun w hS=>f18_ok [73,78,49] [[97],[98]] _ 2 w (RO.of_blk hS 0 (off:=0) (m:=2) rfl rfl)) (o_ (O_buildSlice (cs:=[vS [97],vS [99]]) underlying25 sz9 ze9 dd_ dd_ kf_ fun b16=>?_))
 refine c0 (cl_ ca18) (fun w hS=>f18_ok [73,78,50] [[97],[99]] _ 2 w (RO.of_blk hS 0 (off:=0) (m:=2) rfl rfl)) (o_ (O_buildSlice (cs:=(Binding.enc (R45.inlineB [73,78,49] [[97],[98]] (some ⟨b15,0,none⟩) 2)++Binding.enc (R45.inlineB [73,78,50] [[97],[99]] (some ⟨b16,0,none⟩) 2))) underlying36 sz33 ze33 dd_ dd_ kf_ fun b17=>?_))
 refine JO_call [s14] [blk s14 52 [vL none (([]:List SRow).length) 0,vI 0,vI 0,vN 0]] [blk b17 33 (Binding.enc (R45.inlineB [73,78,49] [[97],[98]] (some ⟨b15,0,none⟩) 2)++Binding.enc (R45.inlineB [73,78,50] [[97],[99]] (some ⟨b16,0,none⟩) 2)),blk b16 9 [vS [97],vS [99]],blk b15 9 [vS [97],vS [98]],blk b13 48 [vI cd3,vB fd4,vL chA6 ch5.length chC7,vL lnA9 ln8.length lnC10],row (.slice chA6 ch5.length chC7) 60 5 ch5.length (ch5.flatMap Change.enc),row (.slice lnA9 ln8.length lnC10) 9 1 ln8.length (ln8.map vS),blk b2 33 (Binding.enc (R45.freshB [79,85,84] 200))] rfl trivial (fun _=>x_call ca15 rfl) (fun _ h=>((((((((h.front 7 _ rfl).front 7 _ rfl).front 7 _ rfl).front 7 _ rfl).front 6 _ rfl).front 6 _ rfl).front 6 _ rfl).front 7 _ rfl).keep [T_,T_,T_,T_,T_,T_,T_,T_] rfl) (own_mem rfl) (fun w hS=>aw_cmp s14 ([]:List SRow) none 0 0 [(R45.inlineB [73,78,49] [[97],[98]] (some ⟨b15,0,none⟩) 2),(R45.inlineB [73,78,50] [[97],[99]] (some ⟨b16,0,none⟩) 2)] (some ⟨b17,0,none⟩) 2 w RO.nil (RO.of_blkS hS (own_mem rfl) 0 (off:=0) (m:=182) rfl rfl) (okL_cons (inline_kp (RO.of_blkS hS (own_mem rfl) 2 (off:=0) (m:=2) rfl rfl)) (okL_cons (inline_kp (RO.of_blkS hS (own_mem rfl) 1 (off:=0) (m:=2) rfl rfl)) (Binding.ok_none))) (hT.on hS (own_mem rfl)) (by rfl) hy_ (by exact ⟨_,_,_,_,rfl⟩) (hS.give (own_in rfl))) ?_
 rintro _ _ ⟨cd18,fd19,ch20,chA21,chC22,ln23,lnA24,lnC25,rfl,rfl,hf26,hf27,hf28⟩
 refine s_ mv_ (s_ (ex_ 0) (s_ (ex_ 1) (o_ (al_ ze48 fun b29=>?_))))
 refine o_ (stG 0 sz48 ?_)
 refine s_ av_ (z_ (xk_ [0,1,2,3,4] ?_))
 refine n_ (q_ (g_ ?_))
 refine c1 (cl_ ca12) (fun w hS=>f12_ok ([]:List SRow) none 0 w RO.nil) ?_
 rintro _ _ ⟨s30,rfl,rfl⟩
 refine js_ (Value.iface 41 (pB s30 0)) (x_iface rfl kf_) (o_ (O_buildSlice (cs:=[vS [97]]) underlying25 sz9 ze9 dd_ dd_ kf_ fun b31=>?_))
 refine c0 (cl_ ca18) (fun w hS=>f18_ok [73,78] [[97]] _ 1 w (RO.of_blk hS 0 (off:=0) (m:=1) rfl rfl)) ?_
 refine JO_call [s30] [blk s30 52 [vL none (([]:List SRow).length) 0,vI 0,vI 0,vN 0]] [blk b31 9 [vS [97]],blk b29 48 [vI cd18,vB fd19,vL chA21 ch20.length chC22,vL lnA24 ln23.length lnC25],row (.slice chA21 ch20.length chC22) 60 5 ch20.length (ch20.flatMap Change.enc),row (.slice lnA24 ln23.length lnC25) 9 1 ln23.length (ln23.map vS),blk b17 33 (Binding.enc (R45.inlineB [73,78,49] [[97],[98]] (some ⟨b15,0,none⟩) 2)++Binding.enc (R45.inlineB [73,78,50] [[97],[99]] (some ⟨b16,0,none⟩) 2)),blk b16 9 [vS [97],vS [99]],blk b15 9 [vS [97],vS [98]],blk b13 48 [vI cd3,vB fd4,vL chA6 ch5.length chC7,vL lnA9 ln8.length lnC10],row (.slice chA6 ch5.length chC7) 60 5 ch5.length (ch5.flatMap Change.enc),row (.slice lnA9 ln8.length lnC10) 9 1 ln8.length (ln8.map vS),blk b2 33 (Binding.enc (R45.freshB [79,85,84] 200))] rfl trivial (fun _=>x_call ca11 rfl) (fun _ h=>((((((((((((h.front 11 _ rfl).front 11 _ rfl).front 11 _ rfl).front 11 _ rfl).front 11 _ rfl).front 11 _ rfl).front 11 _ rfl).front 11 _ rfl).front 11 _ rfl).front 11 _ rfl).front 10 _ rfl).front 11 _ rfl).keep [T_,T_,T_,T_,T_,T_,T_,T_,T_,T_,T_,T_] rfl) (own_mem rfl) (fun w hS=>f11_ok s30 ([]:List SRow) none 0 0 (R45.inlineB [73,78] [[97]] (some ⟨b31,0,none⟩) 1) w RO.nil (inline_kp (RO.of_blkS hS (own_mem rfl) 0 (off:=0) (m:=1) rfl rfl)) hy_ hy_ (by exact R45.dist_nil) (by show 1≤1000;decide) (hS.give (own_in rfl))) ?_
 rintro _ _ ⟨out32,outA33,outC34,e35,rfl,rfl,hf36,hf37⟩
 try simp only [List.length_cons,List.length_nil,Nat.zero_add,Nat.reduceAdd] at hf37
 have ha38:=R45.aw_rec as_
 refine s_ mv_ (s_ (ex_ 0) (s_ (ex_ 1) (s_ av_ (s_ av_ (z_ (n_ (q_ (g_ (s_ mv_ (jr_ (vB true) (s_ mv_ (sg_ rfl (fA 2 fi48_2) ?_))))))))))))
 refine rg_ rfl (ld_ 9 sc46) (sg_ rfl (lnS underlying46) (sg_ rfl (x_eql_i rfl rfl) (jr_ (vB (decide (((ch5.length:Nat):Int)=2))) (s_ mv_ ?_))))
 refine and_ 6 (decide ((ch5.getD 1 default).Record=([65,48,48,48,50]:Bytes))) (fun g39=>?_) ?_
 ·have g39r:=g39
  have g39r:=ot_ g39r
  refine sg_ g39 (fA 2 fi48_2) (rg_ g39 (ld_ 9 sc46) (rg_ g39 (ixF (k:=1) Change.enc_len (cells_row 10 rfl) underlying46 sz60) (sg_ g39 (x_fieldAddr fi60_3 rfl (adr_add _ _ _)) (rg_ g39 (ldF (k:=1) 3 Change.enc_len (cells_row 10 rfl) sc9) (jg_ g39 (vB (decide ((ch5.getD 1 default).Record=([65,48,48,48,50]:Bytes)))) (x_eql_s rfl rfl) ?_)))))
  exact cr_
 refine s_ mv_ ?_
 refine and_ 2 (true) (fun g40=>?_) ?_
 ·have g40r:=g40
  have ⟨g40r,h41⟩:=band_true g40r
  have g40r:=ot_ g40r
  have h41:=ot_ h41
  refine sg_ g40 mv_ (jg_ g40 (vB true) (rfl) ?_)
  exact cr_
 refine s_ mv_ ?_
 refine and_ 3 (decide (cd18=4)) (fun g42=>?_) ?_
 ·have g42r:=g42
  have ⟨g42r,h43⟩:=band_true g42r
  have ⟨g42r,h44⟩:=band_true g42r
  have g42r:=ot_ g42r
  have h44:=ot_ h44
  refine sg_ g42 (fA 0 fi48_0) (rg_ g42 (ld_ 3 sc3) (sg_ g42 (x_eql_i rfl rfl) ?_))
  exact cr_
 refine s_ mv_ ?_
 refine and_ 4 (decide (((ln23.length:Nat):Int)=1)) (fun g45=>?_) ?_
 ·have g45r:=g45
  have ⟨g45r,h46⟩:=band_true g45r
  have ⟨g45r,h47⟩:=band_true g45r
  have ⟨g45r,h48⟩:=band_true g45r
  have g45r:=ot_ g45r
  have h48:=ot_ h48
  have h46:=ot_ h46
  refine sg_ g45 (fA 3 fi48_3) (rg_ g45 (ld_ 3 sc25) (sg_ g45 (lnS underlying25) (sg_ g45 (x_eql_i rfl rfl) ?_)))
  exact cr_
 refine s_ mv_ ?_
 refine and_ 5 (decide ((ln23.getD 0 [])=([100,105,102,102,101,114,101,110,116,32,97,116,32,50]:Bytes))) (fun g49=>?_) ?_
 ·have g49r:=g49
  have ⟨g49r,h50⟩:=band_true g49r
  have ⟨g49r,h51⟩:=band_true g49r
  have ⟨g49r,h52⟩:=band_true g49r
  have ⟨g49r,h53⟩:=band_true g49r
  have g49r:=ot_ g49r
  have h53:=ot_ h53
  have h51:=ot_ h51
  have h50:=ot_ h50
  refine sg_ g49 (fA 3 fi48_3) (rg_ g49 (ld_ 3 sc25) (rg_ g49 (ixM (k:=0) (cells_row 5 rfl) underlying25 sz9) (rg_ g49 (ldM vS [] (cells_row 5 rfl) sc9) (jg_ g49 (vB (decide ((ln23.getD 0 [])=([100,105,102,102,101,114,101,110,116,32,97,116,32,50]:Bytes)))) (x_eql_s rfl rfl) ?_))))
  exact cr_
 refine s_ mv_ ?_
 refine and_ 2 (true) (fun g54=>?_) ?_
 ·have g54r:=g54
  have ⟨g54r,h55⟩:=band_true g54r
  have ⟨g54r,h56⟩:=band_true g54r
  have ⟨g54r,h57⟩:=band_true g54r
  have ⟨g54r,h58⟩:=band_true g54r
  have ⟨g54r,h59⟩:=band_true g54r
  have g54r:=ot_ g54r
  have h59:=ot_ h59
  have h57:=ot_ h57
  have h56:=ot_ h56
  have h55:=ot_ h55
  refine sg_ g54 mv_ (jg_ g54 (vB true) (rfl) ?_)
  exact cr_
 refine s_ mv_ ?_
 refine and_ 3 (decide (((out32.length:Nat):Int)=1)) (fun g60=>?_) ?_
 ·have g60r:=g60
  have ⟨g60r,h61⟩:=band_true g60r
  have ⟨g60r,h62⟩:=band_true g60r
  have ⟨g60r,h63⟩:=band_true g60r
  have ⟨g60r,h64⟩:=band_true g60r
  have ⟨g60r,h65⟩:=band_true g60r
  have ⟨g60r,h66⟩:=band_true g60r
  have g60r:=ot_ g60r
  have h66:=ot_ h66
  have h64:=ot_ h64
  have h63:=ot_ h63
  have h62:=ot_ h62
  refine sg_ g60 mv_ (sg_ g60 (lnS underlying25) (sg_ g60 (x_eql_i rfl rfl) ?_))
  exact cr_
 refine s_ mv_ ?_
 refine and_ 3 (true) (fun g67=>?_) ?_
 ·have g67r:=g67
  have ⟨g67r,h68⟩:=band_true g67r
  have ⟨g67r,h69⟩:=band_true g67r
  have ⟨g67r,h70⟩:=band_true g67r
  have ⟨g67r,h71⟩:=band_true g67r
  have ⟨g67r,h72⟩:=band_true g67r
  have ⟨g67r,h73⟩:=band_true g67r
  have ⟨g67r,h74⟩:=band_true g67r
  have g67r:=ot_ g67r
  have h74:=ot_ h74
  have h72:=ot_ h72
  have h71:=ot_ h71
  have h70:=ot_ h70
  have h68:=ot_ h68
  refine c1g g67 (cl_ ca22) (fun w hS=>f22_ok w) ?_
  rintro _ _ ⟨A75,c76,rfl,rfl⟩
  refine sg_ g67 (lnS underlying25) (jg_ g67 (vB true) (rfl) ?_)
  exact cr_
 refine s_ av_ (z_ (xk_ [0] ?_))
 refine n_ (rt_ ?_)
 exact p1 results8 rfl ⟨(eB (by exact df_)),rfl⟩
end Go.Proofs.YtggobegaiijhhaaGreatDoor
namespace Go.Proofs.YtggobegaiijhhaaGreatDoor
open Go.GV
namespace R45
def ChI (id:Int) (c:Change):Prop:=c.Id=id∧c.Volume=[]∧c.Kind≤3
def ErJ (id:Int) (k:Nat) (ch:List Change):Prop:=ch.length≤k ∧ ∀ c∈ch,ChI id c
theorem ErJ.start {id:Int} : ErJ id 0 []:=⟨Nat.le_refl _,fun c hc=>by cases hc⟩
theorem ErJ.skip {id:Int} {k:Nat} {ch:List Change} (h:ErJ id k ch):ErJ id (k+1) ch:=⟨by have:=h.1;omega,h.2⟩
theorem ErJ.add {id:Int} {k:Nat} {ch:List Change} {key:Bytes} (h:ErJ id k ch):ErJ id (k+1) (ch++[⟨1,id,key,[],[]⟩]):=by
  refine ⟨by have:=h.1;rw [List.length_append,List.length_singleton];omega,fun c hc=>?_⟩
  rcases List.mem_append.1 hc with hc | hc
  · exact h.2 c hc
  · rw [List.mem_singleton.1 hc];exact ⟨rfl,rfl,show (1:Int)≤3 by decide⟩
def erN:Bytes:=[101,114,97,115,101]
end R45
end Go.Proofs.YtggobegaiijhhaaGreatDoor
namespace Go.Proofs.YtggobegaiijhhaaGreatDoor
open Go.GV Go.Proofs.Tryz Ty
open Go.GV.Ent (blk row mp)
theorem f44_ok (tb:Nat) (w:World) (hg:Give [tb] w [blk tb 94 [(fN_ 43)]]):Calls prog 44 #[pB tb 0] w (Gives [tb] w fun v L=>v=vG [vL none 0 0,(fN_ 43),(fN_ 45)]∧L=[blk tb 94 [(fN_ 43)]]):=by
 refine calls_J [tb] 4 func44 rfl ntmps44 [(0,_)] rfl rfl hg ?_
 refine q_ (g_ (o_ (al_ ze97 fun b1=>?_)))
 refine z_ (n_ (q_ (g_ (r_ (ld_ 1 sc94) (js_ (vG [vL none 0 0,(fN_ 43),(fN_ 45)]) (x_build kf_) (o_ (stG 0 sz97 ?_)))))))
 refine z_ (n_ (rt_ ?_))
 refine JX_rets [_] _ results44 (fun w h=>⟨⟨_,rfl,load_blkN 0 [vL none 0 0,(fN_ 43),(fN_ 45)] h rfl ag97 sz97 rfl⟩,trivial⟩) rfl _ (fun _ h=>h.keep [F_,T_] rfl) ⟨?_,?_⟩
 ·rfl
 ·rfl
theorem f45_ok (x:Nat) (w:World):Calls prog 45 #[pB x 0,vL none 0 0] w (GivesE [] w (fun v L=>False) (fun c L=>c=R45.pan [97,98,101,110,100]∧L=[])):=by
 refine calls_JE [] 5 func45 rfl ntmps45 [(0,_),(1,_)] rfl rfl (Give.nil w) ?_
 refine g_ ?_
 refine JO_callP [] [] [] rfl trivial (fun _=>x_call ca46 rfl) i_ (fun _ h=>by cases h) (fun w hS=>f46_ok [97,98,101,110,100] w) ?_ ?_
 ·rintro _ _ ⟨rfl,rfl⟩
  refine JX_pan [] i_ (fun _ _ h=>h) ⟨rfl,?_⟩
  ·rfl
 rintro _ _ ⟨⟩
theorem f47_ok (w:World):Calls prog 47 #[] w (Gives [] w fun v L=>∃ bn:Nat,v=vG [vL none 0 0,(fC_ 48 bn),(fC_ 50 bn)]∧L=[blk bn 3 [vI 0]]):=by
 refine calls_J [] 5 func47 rfl ntmps47 [] rfl rfl (Give.nil w) ?_
 refine q_ (g_ (o_ (al_ ze97 fun b1=>?_)))
 refine z_ (n_ (q_ (g_ (o_ (al_ ze3 fun b2=>?_)))))
 refine o_ (st1 0 sz3 ?_)
 refine z_ (n_ (q_ (g_ (js_ ((fC_ 48 b2)) (x_makeFunc rfl rfl) (js_ ((fC_ 50 b2)) (x_makeFunc rfl rfl) (js_ (vG [vL none 0 0,(fC_ 48 b2),(fC_ 50 b2)]) (x_build kf_) (o_ (stG 1 sz97 ?_))))))))
 refine z_ (n_ (rt_ ?_))
 refine JX_rets [_] _ results47 (fun w h=>⟨⟨_,rfl,load_blkN 1 [vL none 0 0,(fC_ 48 b2),(fC_ 50 b2)] h rfl ag97 sz97 rfl⟩,trivial⟩) rfl _ (fun _ h=>h.keep [T_,F_] rfl) ⟨b2,?_,?_⟩
 ·rfl
 ·rfl
theorem f48_ok (x:Nat) (s:Nat) (parm:Bytes) (m:Nat) (bn:Nat) (n0:Int) (w:World) (hT:Tab [x,bn] w) (q0:parm.length≤1000) (hg:Give [x,bn] w [x0_ x s parm m,blk bn 3 [vI n0]]):Calls prog 48 #[pB x 0,pB bn 0] w (Gives [x,bn] w fun v L=>∃ n:Int,∃ ok:Bool,v=vB ok∧L=[x0_ x s parm m,blk bn 3 [vI n]]∧(R45.NumJ parm 4095 n ok)):=by
 refine calls_J [x,bn] 12 func48 rfl ntmps48 [(0,_),(1,_)] rfl rfl hg ?_
 refine q_ (g_ (s_ av_ (z_ (n_ (q_ (g_ (s_ mv_ (s_ (x_nilCheck rfl) (s_ (fA 1 fi82_1) (r_ (ld_ 0 sc9) ?_))))))))))
 refine c1 (cl_ ca49) (fun w hS=>f49_ok parm 4095 w (hT.on hS (fun _ h=>by cases h)) hy_) ?_
 rintro _ _ ⟨n1,ok2,rfl,rfl,hf3⟩
 refine s_ mv_ (s_ (ex_ 0) (s_ (ex_ 1) (o_ (st1 1 sz3 ?_))))
 refine s_ av_ (z_ (n_ (rt_ ?_)))
 refine JX_rets [_] _ results48 (fun w h=>⟨rfl,trivial⟩) rfl _ i_ ⟨n1,(ok2),?_,?_,?_⟩
 ·have e_x0:(ok2:Bool)=(ok2):=by exact df_
  exact congrArg (fun (x0:Bool)=>vB x0) e_x0
 ·rfl
 ·assumption
theorem f50_ok (x:Nat) (s:Nat) (parm:Bytes) (m:Nat) (bn:Nat) (n0:Int) (w:World) (hg:Give [x,bn] w [x0_ x s parm m,blk bn 3 [vI n0]]):Calls prog 50 #[pB x 0,vL none 0 0,pB bn 0] w (Gives [x,bn] w fun v L=>v=Value.tuple #[]∧L=[xE_ x s parm m [vI n0,vB false,vL none 0 0,vL none 0 0],blk bn 3 [vI n0]]):=by
 refine calls_J [x,bn] 10 func50 rfl ntmps50 [(0,_),(1,_),(2,_)] rfl rfl hg ?_
 refine g_ (s_ mv_ (r_ (ld_ 1 sc3) (s_ (x_nilCheck rfl) (s_ (fA 3 fi82_3) (s_ (fA 3 fi48_0) (o_ (st1 0 sz3 ?_)))))))
 refine z_ ?_
 refine JX_end0 results50 [xE_ x s parm m [vI n0,vB false,vL none 0 0,vL none 0 0],blk bn 3 [vI n0]] i_ ⟨?_,?_⟩
 ·rfl
 ·rfl
theorem f57_ok (tb:Nat) (w:World) (hg:Give [tb] w [blk tb 94 [(fN_ 43)]]):Calls prog 57 #[pB tb 0] w (Gives [tb] w fun v L=>∃ nb:Nat,v=vG [vL (some ⟨nb,0,none⟩) 1 1,(fN_ 43),(fN_ 58)]∧L=[blk nb 9 [vS [73,78]],blk tb 94 [(fN_ 43)]]):=by
 refine calls_J [tb] 5 func57 rfl ntmps57 [(0,_)] rfl rfl hg ?_
 refine q_ (g_ (o_ (al_ ze97 fun b1=>?_)))
 refine z_ (n_ (q_ (g_ (o_ (O_buildSlice (cs:=[vS [73,78]]) underlying25 sz9 ze9 dd_ dd_ kf_ fun b2=>?_)))))
 refine r_ (ld_ 2 sc94) (js_ (vG [vL (some ⟨b2,0,none⟩) 1 1,(fN_ 43),(fN_ 58)]) (x_build kf_) (o_ (stG 1 sz97 ?_)))
 refine z_ (n_ (rt_ ?_))
 refine JX_rets [_] _ results57 (fun w h=>⟨⟨_,rfl,load_blkN 1 [vL (some ⟨b2,0,none⟩) 1 1,(fN_ 43),(fN_ 58)] h rfl ag97 sz97 rfl⟩,trivial⟩) rfl _ (fun _ h=>h.keep [T_,F_,T_] rfl) ⟨b2,?_,?_⟩
 ·rfl
 ·rfl
theorem f61_ok (tb:Nat) (w:World) (hg:Give [tb] w [blk tb 94 [(fN_ 43)]]):Calls prog 61 #[pB tb 0] w (Gives [tb] w fun v L=>∃ nb:Nat,v=vG [vL (some ⟨nb,0,none⟩) 2 2,(fN_ 43),(fN_ 62)]∧L=[blk nb 9 [vS [73,78],vS [79,85,84]],blk tb 94 [(fN_ 43)]]):=by
 refine calls_J [tb] 5 func61 rfl ntmps61 [(0,_)] rfl rfl hg ?_
 refine q_ (g_ (o_ (al_ ze97 fun b1=>?_)))
 refine z_ (n_ (q_ (g_ (o_ (O_buildSlice (cs:=[vS [73,78],vS [79,85,84]]) underlying25 sz9 ze9 dd_ dd_ kf_ fun b2=>?_)))))
 refine r_ (ld_ 2 sc94) (js_ (vG [vL (some ⟨b2,0,none⟩) 2 2,(fN_ 43),(fN_ 62)]) (x_build kf_) (o_ (stG 1 sz97 ?_)))
 refine z_ (n_ (rt_ ?_))
 refine JX_rets [_] _ results61 (fun w h=>⟨⟨_,rfl,load_blkN 1 [vL (some ⟨b2,0,none⟩) 2 2,(fN_ 43),(fN_ 62)] h rfl ag97 sz97 rfl⟩,trivial⟩) rfl _ (fun _ h=>h.keep [T_,F_,T_] rfl) ⟨b2,?_,?_⟩
 ·rfl
 ·rfl
theorem f66_ok (tb:Nat) (w:World) (hg:Give [tb] w [blk tb 94 [(fN_ 43)]]):Calls prog 66 #[pB tb 0] w (Gives [tb] w fun v L=>∃ nb:Nat,v=vG [vL (some ⟨nb,0,none⟩) 1 1,(fN_ 43),(fN_ 67)]∧L=[blk nb 9 [vS [73,78]],blk tb 94 [(fN_ 43)]]):=by
 refine calls_J [tb] 5 func66 rfl ntmps66 [(0,_)] rfl rfl hg ?_
 refine q_ (g_ (o_ (al_ ze97 fun b1=>?_)))
 refine z_ (n_ (q_ (g_ (o_ (O_buildSlice (cs:=[vS [73,78]]) underlying25 sz9 ze9 dd_ dd_ kf_ fun b2=>?_)))))
 refine r_ (ld_ 2 sc94) (js_ (vG [vL (some ⟨b2,0,none⟩) 1 1,(fN_ 43),(fN_ 67)]) (x_build kf_) (o_ (stG 1 sz97 ?_)))
 refine z_ (n_ (rt_ ?_))
 refine JX_rets [_] _ results66 (fun w h=>⟨⟨_,rfl,load_blkN 1 [vL (some ⟨b2,0,none⟩) 1 1,(fN_ 43),(fN_ 67)] h rfl ag97 sz97 rfl⟩,trivial⟩) rfl _ (fun _ h=>h.keep [T_,F_,T_] rfl) ⟨b2,?_,?_⟩
 ·rfl
 ·rfl
theorem f58_ok (x:Nat) (s:Nat) (parm:Bytes) (m:Nat) (rc:List Rw) (rcA:OA_) (rcC:Nat) (w:World) (rcR:RO [x] w rcA (rc.flatMap Rw.enc)) (rcN:∀ i:Nat,RO [x] w (rc.getD i default).sA (((rc.getD i default).s).map vS)) (hT:Tab [x] w) (q0:rc.length=1) (q1:((rc.getD 0 default).s).length≤1100) (hg:Give [x] w [x0_ x s parm m]):Calls prog 58 #[pB x 0,vL rcA rc.length rcC] w (Gives [x] w fun v L=>∃ cd:Int,∃ ln:LB_,∃ lnA:OA_,∃ lnC:Nat,v=Value.tuple #[]∧L=[xE_ x s parm m [vI cd,vB false,vL none 0 0,vL lnA ln.length lnC],row (.slice lnA ln.length lnC) 9 1 ln.length (ln.map vS)]∧(cd=0∨cd=4)):=by
 refine calls_J [x] 20 func58 rfl ntmps58 [(0,_),(1,_)] rfl rfl hg ?_
 refine q_ (g_ (s_ mv_ (s_ mv_ (r_ (ixF (k:=0) Rw.enc_len (cells_ro rcR) underlying102 sz25) (r_ (ldF (k:=0) 0 Rw.enc_len (cells_ro rcR) sc25) (s_ (lnS underlying25) (c0 (cl_ ca60) (fun w hS=>f60_ok _ w (hT.on hS (fun _ h=>by cases h)) hy_) ?_)))))))
 have ha1:=R45.count_len ((rc.getD 0 default).s.length) om_
 refine JO_call (Lown [x0_ x s parm m,row (.slice none 0 0) 9 1 0 (([]:LB_).map vS)]) [x0_ x s parm m,row (.slice none 0 0) 9 1 0 (([]:LB_).map vS)] [] rfl trivial (fun _=>x_call ca59 rfl) (fun _ h=>((h.nilrow 9 1).front 1 _ rfl).keep [T_,T_] rfl) lown_mem (fun w hS=>f59_ok x s parm m 0 false none 0 0 ([]:LB_) none 0 0 (R45.countS ((rc.getD 0 default).s.length)) w hy_ hy_ (hS.give lown_in)) ?_
 rintro _ _ ⟨e2,e3,rfl,rfl⟩
 refine z_ (n_ (q_ (g_ (s_ mv_ (r_ (ixF (k:=0) Rw.enc_len (cells_ro rcR) underlying102 sz25) (r_ (ldF (k:=0) 0 Rw.enc_len (cells_ro rcR) sc25) (s_ (lnS underlying25) (s_ (x_eql_i rfl rfl) (z_ (n_ ?_))))))))))
 refine ifd (fun h4w h4=>?_) (fun h4w h4=>?_)
 ·refine g_ (s_ mv_ (s_ (x_nilCheck rfl) (s_ (fA 3 fi82_3) (s_ (fA 3 fi48_0) (o_ (st1 0 sz3 ?_))))))
  refine z_ ?_
  refine JX_end0 results58 [xE_ x s parm m [vI 4,vB false,vL none 0 0,vL e2 ((([]:LB_)++[((R45.countS ((rc.getD 0 default).s.length)):Bytes)]).length) e3],row (.slice e2 (([]:LB_)++[((R45.countS ((rc.getD 0 default).s.length)):Bytes)]).length e3) 9 1 (([]:LB_)++[((R45.countS ((rc.getD 0 default).s.length)):Bytes)]).length ((([]:LB_)++[((R45.countS ((rc.getD 0 default).s.length)):Bytes)]).map vS)] i_ ⟨4,(([]:LB_)++[((R45.countS ((rc.getD 0 default).s.length)):Bytes)]),e2,e3,?_,?_,?_⟩
  ·rfl
  ·rfl
  ·first | exact .inl rfl | exact .inr rfl
 ·refine sk_ ?_
  refine JX_end0 results58 [xE_ x s parm m [vI 0,vB false,vL none 0 0,vL e2 ((([]:LB_)++[((R45.countS ((rc.getD 0 default).s.length)):Bytes)]).length) e3],row (.slice e2 (([]:LB_)++[((R45.countS ((rc.getD 0 default).s.length)):Bytes)]).length e3) 9 1 (([]:LB_)++[((R45.countS ((rc.getD 0 default).s.length)):Bytes)]).length ((([]:LB_)++[((R45.countS ((rc.getD 0 default).s.length)):Bytes)]).map vS)] i_ ⟨0,(([]:LB_)++[((R45.countS ((rc.getD 0 default).s.length)):Bytes)]),e2,e3,?_,?_,?_⟩
  ·rfl
  ·rfl
  ·first | exact .inl rfl | exact .inr rfl
theorem f68_ok (s:Bytes) (w:World) (q0:s.length≤1000000):Calls prog 68 #[vS s] w (Gives [] w fun v L=>∃ r:Bytes,v=vS r∧L=[]):=by
 refine calls_J [] 27 func68 rfl ntmps68 [(0,_)] rfl rfl (Give.nil w) ?_
 refine q_ (g_ (s_ av_ (z_ (n_ (q_ (g_ (s_ mv_ (o_ (O_str_bytes s rfl underlying9 underlying117 underlying5 fun b1 c2 z3 hz4=>?_)))))))))
 refine s_ av_ (z_ (n_ (q_ (q_ (g_ (s_ mv_ (s_ (lnS underlying117) (s_ mv_ (z_ (n_ (k_ ?_)))))))))))
 refine J_loop (X:=Nat × (List UInt8)) (fun (⟨k,bs⟩:Nat × (List UInt8))=>(k≤s.length)∧(s.length≤bs.length)) (fun (⟨k,bs⟩:Nat × (List UInt8))=>[(2,vS []),(3,vL (some ⟨b1,0,none⟩) s.length c2),(8,vL (some ⟨b1,0,none⟩) s.length c2),(9,vN s.length),(10,vN k)]) (fun (⟨k,bs⟩:Nat × (List UInt8))=>[blk b1 5 (bs.map vU8) (s.length+z3,s.length+z3+1)]) (fun (⟨k,bs⟩:Nat × (List UInt8))=>s.length-k) ((0,s++List.replicate z3 (0:UInt8)):Nat × (List UInt8)) ?_ se_ i_ ?_
 ·try dsimp only
  refine ⟨?_,?_⟩
  ·exact df_
  ·simp
 rintro ⟨k,bs⟩ hI1
 obtain ⟨i1_0,i1_1⟩:=hI1
 try dsimp only at i1_0
 try dsimp only at i1_1
 try dsimp only
 refine q_ (g_ (s_ (x_lss_i rfl rfl) (z_ (n_ (q_ ?_)))))
 refine ifd (fun h5w h5=>?_) (fun h5w h5=>?_)
 ·refine sk_ (n_ (q_ (k_ (q_ (g_ (s_ mv_ (s_ (x_indexAddr_sl (k:=k) underlying117 sz5 rfl rfl lt_ (add_0k1 _ _)) (r_ (x_load_arr 0 vU8 0 rfl rfl sc5 lt_) (s_ av_ (s_ av_ (z_ (n_ (q_ (g_ (s_ mv_ (js_ (vB (decide ((bs.getD k 0)<(32:UInt8)))) (x_lss_u8 rfl rfl) (s_ mv_ ?_)))))))))))))))))
  refine or_ 2 (decide ((126:UInt8)<(bs.getD k 0))) (fun g6=>?_) ?_
  ·have g6r:=g6
   have g6r:=of_ g6r
   have g6ru:=g6r
   try simp only [UInt8.lt_iff_toNat_lt,UInt8.le_iff_toNat_le,UInt8.reduceToNat,UInt32.lt_iff_toNat_lt,UInt32.le_iff_toNat_le,UInt32.reduceToNat,UInt64.lt_iff_toNat_lt,UInt64.le_iff_toNat_le,UInt64.reduceToNat] at g6ru
   refine sg_ g6 mv_ (jg_ g6 (vB (decide ((126:UInt8)<(bs.getD k 0)))) (x_gtr_u8 rfl rfl) ?_)
   exact cr_
  refine z_ (n_ ?_)
  refine if_ (fun h7=>?_) (fun h7=>?_)
  ·have h7w:=h7
   simp only [Bool.and_eq_true,Bool.or_eq_true,Bool.and_eq_false_iff,Bool.or_eq_false_iff,Bool.not_eq_true',Bool.not_eq_false',decide_eq_true_eq,decide_eq_false_iff_not] at h7
   refine g_ (s_ mv_ (s_ mv_ (s_ (x_indexAddr_sl (k:=k) underlying117 sz5 rfl rfl lt_ (add_0k1 _ _)) (o_ (O_store_arr (a:=46) 0 vU8 [blk b1 5 ((bs.set k 46).map vU8) (s.length+z3,s.length+z3+1)] rfl rfl rfl sz5 rfl lt_ rfl ?_)))))
   refine z_ (kx_ (n_ (g_ (s_ (x_add_n (a:=k) (b:=1) rfl rfl om_) (s_ mv_ (z_ ?_))))))
   refine JX_round ((k+1,bs.set k 46):Nat × (List UInt8)) ?_ ?_ se_ i_
   ·try dsimp only
    refine ⟨?_,?_⟩
    ·exact df_
    ·first | omega | (rw [List.length_set];omega) | (simp;omega)
   ·try dsimp only
    first | omega | (simp;omega) | (simp_all;omega)
  ·have h7w:=h7
   have ⟨h7,h8⟩:=bor_false h7
   have h7:=of_ h7
   have h7u:=h7
   try simp only [UInt8.lt_iff_toNat_lt,UInt8.le_iff_toNat_le,UInt8.reduceToNat,UInt32.lt_iff_toNat_lt,UInt32.le_iff_toNat_le,UInt32.reduceToNat,UInt64.lt_iff_toNat_lt,UInt64.le_iff_toNat_le,UInt64.reduceToNat] at h7u
   have h8:=of_ h8
   have h8u:=h8
   try simp only [UInt8.lt_iff_toNat_lt,UInt8.le_iff_toNat_le,UInt8.reduceToNat,UInt32.lt_iff_toNat_lt,UInt32.le_iff_toNat_le,UInt32.reduceToNat,UInt64.lt_iff_toNat_lt,UInt64.le_iff_toNat_le,UInt64.reduceToNat] at h8u
   refine sk_ (kx_ (n_ (g_ (s_ (x_add_n (a:=k) (b:=1) rfl rfl om_) (s_ mv_ (z_ ?_))))))
   refine JX_round ((k+1,bs):Nat × (List UInt8)) ?_ ?_ se_ i_
   ·try dsimp only
    refine ⟨?_,?_⟩
    ·exact df_
    ·first | omega | (rw [List.length_set];omega) | (simp;omega)
   ·try dsimp only
    first | omega | (simp;omega) | (simp_all;omega)
 ·refine J_exit (ne_ (re_ (kh_ (n_ (q_ ?_)))))
  refine g_ (s_ mv_ ?_)
  refine JO_read (vS ((bs.drop 0).take s.length)) rfl trivial (x_str_arr 0 (off:=0) (n:=s.length) rfl underlying117 underlying5 underlying9 rfl lt_) ?_
  refine s_ av_ (z_ (n_ (rt_ ?_)))
  exact p1 results68 rfl ⟨(bs.drop 0).take s.length,rfl,rfl⟩
theorem f67_ok (x:Nat) (s:Nat) (parm:Bytes) (m:Nat) (rc:List Rw) (rcA:OA_) (rcC:Nat) (w:World) (rcR:RO [x] w rcA (rc.flatMap Rw.enc)) (rcN:∀ i:Nat,RO [x] w (rc.getD i default).sA (((rc.getD i default).s).map vS)) (hT:Tab [x] w) (q0:rc.length=1) (q1:((rc.getD 0 default).s).length≤1100) (q2:∀ i,(((rc.getD 0 default).s).getD i []).length≤1000000) (hg:Give [x] w [x0_ x s parm m]):Calls prog 67 #[pB x 0,vL rcA rc.length rcC] w (Gives [x] w fun v L=>∃ ln:LB_,∃ lnA:OA_,∃ lnC:Nat,v=Value.tuple #[]∧L=[xE_ x s parm m [vI 0,vB false,vL none 0 0,vL lnA ln.length lnC],row (.slice lnA ln.length lnC) 9 1 ln.length (ln.map vS)]):=by
 refine calls_J [x] 19 func67 rfl ntmps67 [(0,_),(1,_)] rfl rfl hg ?_
 refine q_ (g_ (s_ mv_ (r_ (ixF (k:=0) Rw.enc_len (cells_ro rcR) underlying102 sz25) (r_ (ldF (k:=0) 0 Rw.enc_len (cells_ro rcR) sc25) (s_ (lnS underlying25) (s_ mv_ (z_ (n_ (k_ ?_)))))))))
 refine J_loop (X:=Nat × (LB_) × (OA_) × Nat) (fun (⟨k,ln,lnA,lnC⟩:Nat × (LB_) × (OA_) × Nat)=>(k≤((rc.getD 0 default).s).length)∧(ln.length≤k)) (fun (⟨k,ln,lnA,lnC⟩:Nat × (LB_) × (OA_) × Nat)=>[(0,pB x 0),(8,vL ((rc.getD 0 default).sA) ((rc.getD 0 default).s.length) ((rc.getD 0 default).sC)),(9,vI (((rc.getD 0 default).s.length:Nat):Int)),(10,vN k)]) (fun (⟨k,ln,lnA,lnC⟩:Nat × (LB_) × (OA_) × Nat)=>[xE_ x s parm m [vI 0,vB false,vL none 0 0,vL lnA ln.length lnC],row (.slice lnA ln.length lnC) 9 1 ln.length (ln.map vS)]) (fun (⟨k,ln,lnA,lnC⟩:Nat × (LB_) × (OA_) × Nat)=>((rc.getD 0 default).s).length-k) ((0,([]:LB_),none,0):Nat × (LB_) × (OA_) × Nat) ?_ se_ (fun _ h=>((h.nilrow 9 1).front 1 _ rfl).keep [T_,T_] rfl) ?_
 ·try dsimp only
  refine ⟨?_,?_⟩
  ·exact df_
  ·exact Nat.zero_le _
 rintro ⟨k,ln,lnA,lnC⟩ hI1
 obtain ⟨i1_0,i1_1⟩:=hI1
 try dsimp only at i1_0
 try dsimp only at i1_1
 have hqk:=q2 k
 try dsimp only
 refine q_ (g_ (s_ (x_lss_i rfl rfl) (z_ (n_ (q_ ?_)))))
 refine ifd (fun h1w h1=>?_) (fun h1w h1=>?_)
 ·refine sk_ (n_ (q_ (k_ (q_ (g_ (r_ (x_indexAddr_at (k:=k) (off:=k) (cells_ro (rcN 0)) underlying25 sz9 rfl rfl lt_ (by rw [List.length_map];first | omega | (simp only [List.length_append,List.length_cons,List.length_nil];omega) | (simp;omega) | (simp_all;omega) | (simp_all;done)) (Nat.mul_one _)) (r_ (ldM vS [] (cells_ro (rcN 0)) sc9) (s_ av_ (z_ (n_ (g_ (s_ mv_ (s_ mv_ ?_)))))))))))))
  refine c1 (cl_ ca68) (fun w hS=>f68_ok _ w hy_) ?_
  rintro _ _ ⟨r2,rfl,rfl⟩
  refine JO_call (Lown [xE_ x s parm m [vI 0,vB false,vL none 0 0,vL lnA ln.length lnC],row (.slice lnA ln.length lnC) 9 1 ln.length (ln.map vS)]) [xE_ x s parm m [vI 0,vB false,vL none 0 0,vL lnA ln.length lnC],row (.slice lnA ln.length lnC) 9 1 ln.length (ln.map vS)] [] rfl trivial (fun _=>x_call ca59 rfl) i_ lown_mem (fun w hS=>f59_ok x s parm m 0 false none 0 0 ln lnA lnC ln.length r2 w hy_ hy_ (hS.give lown_in)) ?_
  rintro _ _ ⟨e3,e4,rfl,rfl⟩
  refine z_ (kx_ (n_ (g_ (s_ (x_add_n (a:=k) (b:=1) rfl rfl om_) (s_ mv_ (z_ ?_))))))
  refine JX_round ((k+1,(ln++[(r2:Bytes)]),e3,e4):Nat × (LB_) × (OA_) × Nat) ?_ ?_ se_ i_
  ·try dsimp only
   refine ⟨?_,?_⟩
   ·exact df_
   ·rw [List.length_append,List.length_singleton];omega
  ·try dsimp only
   first | omega | (simp;omega) | (simp_all;omega)
 ·refine J_exit (ne_ (re_ (kh_ ?_)))
  refine JX_end0 results67 [xE_ x s parm m [vI 0,vB false,vL none 0 0,vL lnA ln.length lnC],row (.slice lnA ln.length lnC) 9 1 ln.length (ln.map vS)] i_ ⟨ln,lnA,lnC,?_,?_⟩
  ·rfl
  ·rfl
theorem f238_ok (s:Nat) (rows:List SRow) (rowsA:OA_) (rowsC:Nat) (calls:Nat) (id:Int) (key:Bytes) (w:World) (rowsR:RO [s] w rowsA (rows.flatMap SRow.enc)) (q0:rows.length≤1000000) (q1:calls≤1000000) (hg:Give [s] w [sH_ s rowsA rows.length rowsC calls]):Calls prog 238 #[pB s 0,vI id,vS key] w (Gives [s] w fun v L=>∃ r:Bytes,∃ e:Int,v=Value.tuple #[vS r,vI e]∧L=[blk s 52 [vL rowsA rows.length rowsC,vI 0,vI 0,vI ((calls+1:Nat):Int)]]∧(e=6∨e=0)):=by
 refine calls_J [s] 54 func238 rfl ntmps238 [(0,_),(1,_),(2,_)] rfl rfl hg ?_
 refine q_ (g_ (s_ av_ (s_ av_ (z_ (n_ (q_ (q_ (g_ (s_ mv_ ?_)))))))))
 refine JO_call [s] [sH_ s rowsA rows.length rowsC calls] [] rfl trivial (fun _=>x_call ca240 rfl) i_ (own_mem rfl) (fun w hS=>f240_ok s rows rowsA rowsC calls w (rowsR.on hS (own_mem rfl)) hy_ hy_ (hS.give (own_in rfl))) ?_
 rintro _ _ ⟨rfl,rfl⟩
 refine z_ (n_ (iff_ (sk_ (n_ (q_ (q_ (g_ (s_ av_ (z_ (n_ (k_ ?_)))))))))))
 refine J_loop (X:=Nat) (fun (i:Nat)=>(i≤rows.length)) (fun (i:Nat)=>[(0,pB s 0),(1,vI id),(2,vS key),(8,vN i)]) (fun (i:Nat)=>[blk s 52 [vL rowsA rows.length rowsC,vI 0,vI 0,vI ((calls+1:Nat):Int)]]) (fun (i:Nat)=>rows.length-i) (0:Nat) ?_ se_ i_ ?_
 ·try dsimp only
  exact df_
 intro i hI1
 have i1_0:=hI1
 try dsimp only at i1_0
 try dsimp only
 refine q_ (q_ (g_ (s_ mv_ (s_ mv_ (s_ (x_nilCheck rfl) (s_ (fA 0 fi52_0) (r_ (ld_ 0 sc22) (s_ (lnS underlying22) (s_ (x_lss_i rfl rfl) (z_ (n_ ?_)))))))))))
 refine ifd (fun h1w h1=>?_) (fun h1w h1=>?_)
 ·refine sk_ (n_ (q_ (k_ (q_ (g_ (s_ mv_ (s_ (x_nilCheck rfl) (s_ (fA 0 fi52_0) (r_ (ld_ 0 sc22) (s_ mv_ (r_ (ixF SRow.enc_len (cells_ro rowsR) underlying22 sz57) (s_ (fB0 fi57_0) (r_ (ldF0 SRow.enc_len (cells_ro rowsR) sc3) (s_ mv_ ?_))))))))))))))
  refine s_ (x_eql_i rfl rfl) (s_ mv_ ?_)
  refine and_ 10 (decide ((rows.getD i default).Key=key)) (fun g2=>?_) ?_
  ·have g2r:=g2
   have g2r:=ot_ g2r
   refine sg_ g2 mv_ (sg_ g2 (x_nilCheck rfl) (sg_ g2 (fA 0 fi52_0) (rg_ g2 (ld_ 0 sc22) (sg_ g2 mv_ (rg_ g2 (ixF SRow.enc_len (cells_ro rowsR) underlying22 sz57) (sg_ g2 (fB fi57_1) (rg_ g2 (ldF 1 SRow.enc_len (cells_ro rowsR) sc9) (sg_ g2 mv_ (sg_ g2 (x_eql_s rfl rfl) ?_)))))))))
   exact cr_
  refine z_ (xk_ [0,1,2,8,45] ?_)
  refine n_ ?_
  refine if_ (fun h3=>?_) (fun h3=>?_)
  ·have h3w:=h3
   have ⟨h3,h4⟩:=band_true h3
   have h3:=ot_ h3
   have h4:=ot_ h4
   refine q_ (g_ (s_ mv_ (s_ (x_nilCheck rfl) (s_ (fA 0 fi52_0) (r_ (ld_ 0 sc22) (s_ mv_ (r_ (ixF SRow.enc_len (cells_ro rowsR) underlying22 sz57) (s_ (fB fi57_2) (r_ (ldF 2 SRow.enc_len (cells_ro rowsR) sc9) (s_ av_ ?_))))))))))
   refine s_ av_ (z_ (n_ (rt_ (kq_ (nr_ (rr_ (kq_ (nr_ ?_))))))))
   refine JX_rets [_,_] (Value.tuple #[_,_]) results238 (fun w h=>⟨rfl,rfl,trivial⟩) rfl _ i_ ⟨(rows.getD i default).Record,0,?_,?_,?_⟩
   ·rfl
   ·rfl
   ·first | exact .inl rfl | exact .inr rfl
  ·have h3w:=h3
   simp only [Bool.and_eq_true,Bool.or_eq_true,Bool.and_eq_false_iff,Bool.or_eq_false_iff,Bool.not_eq_true',Bool.not_eq_false',decide_eq_true_eq,decide_eq_false_iff_not] at h3
   refine sk_ (kx_ (n_ (g_ (s_ mv_ (s_ (x_add_n (a:=i) (b:=1) rfl rfl om_) (s_ av_ (z_ ?_)))))))
   refine JX_round (i+1:Nat) ?_ ?_ se_ i_
   ·try dsimp only
    exact df_
   ·try dsimp only
    first | omega | (simp;omega) | (simp_all;omega)
 ·refine J_exit (ne_ (re_ (kh_ (n_ (q_ ?_)))))
  refine g_ (s_ av_ (s_ av_ (z_ (n_ (rt_ ?_)))))
  refine JX_rets [_,_] (Value.tuple #[_,_]) results238 (fun w h=>⟨rfl,rfl,trivial⟩) rfl _ i_ ⟨[],6,?_,?_,?_⟩
  ·rfl
  ·rfl
  ·first | exact .inl rfl | exact .inr rfl
theorem f63_ok (x:Nat) (s:Nat) (parm:Bytes) (m:Nat) (rows:List SRow) (rowsA:OA_) (rowsC:Nat) (calls:Nat) (dds:List (Bytes × Binding)) (l:LB_) (lA:OA_) (lC:Nat) (w:World) (rowsR:RO [x,m,s] w rowsA (rows.flatMap SRow.enc)) (lR:RO [x,m,s] w lA (l.map vS)) (hT:Tab [x,m,s] w) (q0:rows.length≤1000) (q1:calls≤900000) (q2:l.length≤1100) (hg:Give [x,m,s] w [x0_ x s parm m,mp vS m (dds.map R45.bindE),sH_ s rowsA rows.length rowsC calls]):Calls prog 63 #[pB x 0,vL lA l.length lC] w (GivesE [x,m,s] w (fun v L=>∃ cd:Int,∃ ch:List Change,∃ chA:OA_,∃ chC:Nat,∃ ln:LB_,∃ lnA:OA_,∃ lnC:Nat,v=Value.tuple #[]∧L=[xE_ x s parm m [vI cd,vB false,vL chA ch.length chC,vL lnA ln.length lnC],mp vS m (dds.map R45.bindE),row (.slice chA ch.length chC) 60 5 ch.length (ch.flatMap Change.enc),row (.slice lnA ln.length lnC) 9 1 ln.length (ln.map vS)]∧(ch.length≤300)∧(∀ c∈ch,R45.ChI (R45.outB dds).EData.Id c)∧(cd=0∨cd=4)∧(ln.length=1)) (fun c L=>∃ line:Bytes,c=R45.pan line∧L=[])):=by
 refine calls_JE [x,m,s] 73 func63 rfl ntmps63 [(0,_),(1,_)] rfl rfl hg ?_
 refine q_ (g_ (s_ mv_ (s_ (x_nilCheck rfl) (s_ (fA 2 fi82_2) (r_ (ld_ 0 sc80) ?_)))))
 refine JO_read (vG (Binding.enc (R45.outB dds))) rfl trivial (x_lookup_v 1 (f:=vS) (k:=[79,85,84]) rfl rfl rfl underlying80 (mapK_s underlying9) ze33 (R45.look_out _) (R45.look_val _)) ?_
 refine s_ (x_fieldN fi33_2 rfl ag31 sz31 rfl) (s_ (x_fieldN fi31_2 rfl ag24 sz24 rfl) (o_ (al_ ze24 fun b1=>?_)))
 refine o_ (stG 0 sz24 ?_)
 refine z_ (n_ (q_ (g_ (o_ (O_makeMap vS fun b2=>?_)))))
 refine s_ av_ (z_ (n_ (q_ (q_ (g_ (s_ mv_ (s_ (lnS underlying25) (s_ mv_ (z_ (n_ (k_ ?_)))))))))))
 refine J_loop (X:=Nat × (List Change) × (OA_) × Nat × Int × (LB_) × Nat) (fun (⟨k,ch,chA,chC,cd,es,c2⟩:Nat × (List Change) × (OA_) × Nat × Int × (LB_) × Nat)=>(k≤l.length)∧(R45.ErJ (R45.outB dds).EData.Id k ch)∧(cd=0∨cd=4)∧(es.length≤k)∧(c2≤calls+k)) (fun (⟨k,ch,chA,chC,cd,es,c2⟩:Nat × (List Change) × (OA_) × Nat × Int × (LB_) × Nat)=>[(0,pB x 0),(4,pB b1 0),(5,Value.map (some b2)),(18,vL lA l.length lC),(19,vN l.length),(20,vN k)]) (fun (⟨k,ch,chA,chC,cd,es,c2⟩:Nat × (List Change) × (OA_) × Nat × Int × (LB_) × Nat)=>[mp vS b2 (es.map kT),blk b1 24 (DataSet.enc ((R45.outB dds).EData)),xE_ x s parm m [vI cd,vB false,vL chA ch.length chC,vL none 0 0],mp vS m (dds.map R45.bindE),sH_ s rowsA rows.length rowsC c2,row (.slice chA ch.length chC) 60 5 ch.length (ch.flatMap Change.enc)]) (fun (⟨k,ch,chA,chC,cd,es,c2⟩:Nat × (List Change) × (OA_) × Nat × Int × (LB_) × Nat)=>l.length-k) ((0,([]:List Change),none,0,0,([]:LB_),calls):Nat × (List Change) × (OA_) × Nat × Int × (LB_) × Nat) ?_ se_ (fun _ h=>((((((h.nilrow 60 5).front 5 _ rfl).front 5 _ rfl).front 5 _ rfl).front 5 _ rfl).front 5 _ rfl).keep [T_,T_,T_,T_,T_,T_] rfl) ?_
 ·try dsimp only
  refine ⟨?_,?_,?_,?_,?_⟩
  ·exact df_
  ·exact R45.ErJ.start
  ·exact .inl rfl
  ·exact Nat.zero_le _
  ·exact df_
 rintro ⟨k,ch,chA,chC,cd,es,c2⟩ hI1
 obtain ⟨i1_0,i1_1,i1_2,i1_3,i1_4⟩:=hI1
 try dsimp only at i1_0
 try dsimp only at i1_1
 try dsimp only at i1_2
 try dsimp only at i1_3
 try dsimp only at i1_4
 have hck:=i1_1.1
 try dsimp only
 refine q_ (g_ (s_ (x_lss_i rfl rfl) (z_ (n_ (q_ ?_)))))
 refine ifd (fun h3w h3=>?_) (fun h3w h3=>?_)
 ·refine sk_ (n_ (q_ (k_ (q_ (g_ (s_ mv_ (r_ (ixM (cells_ro lR) underlying25 sz9) (r_ (ldM vS [] (cells_ro lR) sc9) (s_ av_ (s_ av_ (z_ (n_ (q_ ?_)))))))))))))
  refine drB [] 8 mixed ?_
  refine jp_ 0 rfl mv_ (jp_ 1 rfl (x_len_s rfl underlying9) (jp_ 2 rfl (fA 6 fi24_6) (jq_ 3 rfl (ld_ 1 sc3) (jp_ 4 rfl (x_eql_i rfl rfl) (jp_ 5 rfl mv_ (j1_ 6 (jc0_ rfl (cl_ ca88) (fun w hS=>f88_ok k w (hT.on hS (fun _ h=>by cases h)) hy_) ?_) gm_))))))
  have ha4:=R45.wrong_len k om_
  refine j1_ 7 ?_ gm_
  refine JI_callP [] [] [mp vS b2 (es.map kT),blk b1 24 (DataSet.enc ((R45.outB dds).EData)),xE_ x s parm m [vI cd,vB false,vL chA ch.length chC,vL none 0 0],mp vS m (dds.map R45.bindE),sH_ s rowsA rows.length rowsC c2,row (.slice chA ch.length chC) 60 5 ch.length (ch.flatMap Change.enc)] rfl rfl trivial (fun _=>x_call ca33 rfl) i_ (fun _ h=>by cases h) (fun w hS=>f33_ok _ _ w) ?_ ?_
  ·rintro _ _ ⟨rfl,rfl,hp5⟩
   have hp5:=of_ hp5
   refine JX_then_pan (JX_block_pan (JX_then_pan (JX_round_pan (JX_block_pan (JX_then_pan ?_)))))
   refine JX_pan [] (fun _ h=>h.keep [F_,F_,F_,F_,F_,F_] rfl) (fun _ _ h=>h) ⟨(R45.wrongS k),rfl,?_⟩
   ·rfl
  rintro _ _ ⟨rfl,rfl,hf6⟩
  have hf6:=ot_ hf6
  refine JA_done kf_ gm_ ?_
  refine n_ (q_ ?_)
  refine drU [] [7] 13 mixed ?_
  refine jp_ 0 rfl mv_ (jp_ 1 rfl (x_nilCheck rfl) (jp_ 2 rfl (fA 0 fi82_0) ?_))
  refine je_ 3 (Value.iface 41 (pB s 0)) rfl (x_load 2 rfl rfl sc71 rfl) ?_
  refine jp_ 4 rfl (fA 0 fi24_0) ?_
  refine je_ 5 (vI (((R45.outB dds).EData).Id)) rfl (x_load 1 rfl rfl sc3 rfl) ?_
  refine jp_ 6 rfl mv_ (j1_ 7 ?_ (fun _ h=>⟨h.keep [F_,F_,F_,F_,F_,F_] rfl,fun _=>h⟩))
  refine JI_call [s] [sH_ s rowsA rows.length rowsC c2] [mp vS b2 (es.map kT),blk b1 24 (DataSet.enc ((R45.outB dds).EData)),xE_ x s parm m [vI cd,vB false,vL chA ch.length chC,vL none 0 0],mp vS m (dds.map R45.bindE),row (.slice chA ch.length chC) 60 5 ch.length (ch.flatMap Change.enc)] rfl rfl trivial (fun _=>x_invokeP rfl mt238 ca238 mtd rfl) (fun _ h=>((((((h.front 5 _ rfl).front 4 _ rfl).front 4 _ rfl).front 4 _ rfl).front 4 _ rfl).front 5 _ rfl).keep [T_,T_,T_,T_,T_,T_] rfl) (own_mem rfl) (fun w hS=>f238_ok s rows rowsA rowsC c2 (((R45.outB dds).EData).Id) (l.getD k []) w (rowsR.on hS (own_mem rfl)) hy_ hy_ (hS.give (own_in rfl))) ?_
  rintro _ _ ⟨r7,e8,rfl,rfl,hf9⟩
  refine jp_ 8 rfl mv_ (jp_ 9 rfl (ex_ 0) (jp_ 10 rfl (ex_ 1) (jp_ 11 rfl av_ (jp_ 12 rfl av_ ?_))))
  refine JA_done kf_ (gl_ rfl (fun _ h=>h.keep [F_,F_,F_,F_,F_,F_] rfl)) ?_
  refine n_ (q_ (g_ (s_ mv_ (c0 (cl_ ca37) (fun w hS=>f37_ok e8 w hy_) (z_ (xk_ [0,4,5,18,19,20,7,9] ?_))))))
  refine n_ (q_ (q_ (g_ (s_ mv_ (s_ (x_neq_i rfl rfl) (s_ mv_ ?_))))))
  refine or_ 3 ((hasK es (l.getD k []))) (fun g10=>?_) ?_
  ·have g10r:=g10
   have g10r:=of_ g10r
   refine sg_ g10 mv_ (sg_ g10 mv_ ?_)
   refine JO_read (vB (hasK es (l.getD k []))) rfl ⟨_,rfl,g10⟩ (x_lookup_v 1 (f:=vS) (k:=(l.getD k [])) rfl rfl rfl underlying134 (mapK_s underlying9) ze4 rfl (lk_kT_v es (l.getD k []))) ?_
   exact cr_
  refine z_ (n_ ?_)
  refine if_ (fun h11=>?_) (fun h11=>?_)
  ·have h11w:=h11
   simp only [Bool.and_eq_true,Bool.or_eq_true,Bool.and_eq_false_iff,Bool.or_eq_false_iff,Bool.not_eq_true',Bool.not_eq_false',decide_eq_true_eq,decide_eq_false_iff_not] at h11
   refine q_ (g_ (s_ mv_ (s_ (x_nilCheck rfl) (s_ (fA 3 fi82_3) (s_ (fA 3 fi48_0) (o_ (st1 3 sz3 ?_)))))))
   refine z_ (n_ (J_exit (ne_ (kh_ (n_ (g_ (s_ (x_add_n (a:=k) (b:=1) rfl rfl om_) (s_ mv_ (z_ ?_)))))))))
   refine JX_round ((k+1,ch,chA,chC,4,es,c2+1):Nat × (List Change) × (OA_) × Nat × Int × (LB_) × Nat) ?_ ?_ se_ (fun _ h=>((((((h.front 5 _ rfl).front 1 _ rfl).front 5 _ rfl).front 5 _ rfl).front 5 _ rfl).front 5 _ rfl).keep [T_,T_,T_,T_,T_,T_] rfl)
   ·try dsimp only
    refine ⟨?_,?_,?_,?_,?_⟩
    ·exact df_
    ·first | exact i1_1.add | exact i1_1.skip
    ·first | exact i1_2 | exact .inr rfl
    ·first | omega | (have:=addK_len es (l.getD k []);omega)
    ·exact df_
   ·try dsimp only
    first | omega | (simp;omega) | (simp_all;omega)
  ·have h11w:=h11
   have ⟨h11,h12⟩:=bor_false h11
   have h11:=of_ h11
   refine sk_ (n_ (q_ (g_ (s_ mv_ (s_ mv_ (o_ (O_mapUpdate 1 (f:=vS) (k:=(l.getD k [])) ((addK es (l.getD k [])).map kT) [blk s 52 [vL rowsA rows.length rowsC,vI 0,vI 0,vI ((c2+1:Nat):Int)],mp vS b2 ((addK es (l.getD k [])).map kT),blk b1 24 (DataSet.enc ((R45.outB dds).EData)),xE_ x s parm m [vI cd,vB false,vL chA ch.length chC,vL none 0 0],mp vS m (dds.map R45.bindE),row (.slice chA ch.length chC) 60 5 ch.length (ch.flatMap Change.enc)] rfl rfl rfl rfl underlying134 (mapK_s underlying9) (upd_kT es (l.getD k [])) rfl ?_)))))))
   refine z_ (n_ (g_ (s_ mv_ (s_ (fA 0 fi24_0) (r_ (ld_ 2 sc3) (s_ mv_ (js_ (vG [vI 1,vI (((R45.outB dds).EData).Id),vS (l.getD k []),vS [],vS []]) (x_build kf_) ?_)))))))
   refine JO_call (Lown [xE_ x s parm m [vI cd,vB false,vL chA ch.length chC,vL none 0 0],row (.slice chA ch.length chC) 60 5 ch.length (ch.flatMap Change.enc)]) [xE_ x s parm m [vI cd,vB false,vL chA ch.length chC,vL none 0 0],row (.slice chA ch.length chC) 60 5 ch.length (ch.flatMap Change.enc)] [blk s 52 [vL rowsA rows.length rowsC,vI 0,vI 0,vI ((c2+1:Nat):Int)],mp vS b2 ((addK es (l.getD k [])).map kT),blk b1 24 (DataSet.enc ((R45.outB dds).EData)),mp vS m (dds.map R45.bindE)] rfl trivial (fun _=>x_call ca85 rfl) (fun _ h=>((((((h.front 4 _ rfl).front 3 _ rfl).front 3 _ rfl).front 3 _ rfl).front 5 _ rfl).front 5 _ rfl).keep [T_,T_,T_,T_,T_,T_] rfl) lown_mem (fun w hS=>f85_ok x s parm m cd false none 0 0 ch chA chC ch.length (Change.mk 1 (((R45.outB dds).EData).Id) (l.getD k []) [] []) w hy_ hy_ (hS.give lown_in)) ?_
   rintro _ _ ⟨e13,e14,rfl,rfl⟩
   refine z_ (kx_ (n_ (g_ (s_ (x_add_n (a:=k) (b:=1) rfl rfl om_) (s_ mv_ (z_ ?_))))))
   refine JX_round ((k+1,(ch++[(Change.mk 1 (((R45.outB dds).EData).Id) (l.getD k []) [] [])]),e13,e14,cd,(addK es (l.getD k [])),c2+1):Nat × (List Change) × (OA_) × Nat × Int × (LB_) × Nat) ?_ ?_ se_ (fun _ h=>((((((h.front 1 _ rfl).front 2 _ rfl).front 5 _ rfl).front 3 _ rfl).front 5 _ rfl).front 5 _ rfl).keep [T_,T_,T_,T_,T_,T_] rfl)
   ·try dsimp only
    refine ⟨?_,?_,?_,?_,?_⟩
    ·exact df_
    ·first | exact i1_1.add | exact i1_1.skip
    ·first | exact i1_2 | exact .inr rfl
    ·first | omega | (have:=addK_len es (l.getD k []);omega)
    ·exact df_
   ·try dsimp only
    first | omega | (simp;omega) | (simp_all;omega)
 ·refine J_exit (ne_ (re_ (kh_ (n_ (q_ ?_)))))
  refine g_ (s_ mv_ ?_)
  refine JO_callP [x] [xE_ x s parm m [vI cd,vB false,vL chA ch.length chC,vL none 0 0]] [mp vS b2 (es.map kT),blk b1 24 (DataSet.enc ((R45.outB dds).EData)),mp vS m (dds.map R45.bindE),sH_ s rowsA rows.length rowsC c2,row (.slice chA ch.length chC) 60 5 ch.length (ch.flatMap Change.enc)] rfl trivial (fun _=>x_call ca90 rfl) (fun _ h=>((((((h.front 5 _ rfl).front 5 _ rfl).front 5 _ rfl).front 4 _ rfl).front 4 _ rfl).front 5 _ rfl).keep [T_,T_,T_,T_,T_,T_] rfl) (own_mem rfl) (fun w hS=>f90_ok x s parm m cd false chA ch.length chC none 0 0 w  (hS.give (own_in rfl))) ?_ ?_
  ·rintro _ _ ⟨rfl,rfl,hp15⟩
   refine JX_then_pan ?_
   refine JX_pan [] (fun _ h=>h.keep [F_,F_,F_,F_,F_] rfl) (fun _ _ h=>h) ⟨[116,111,111,32,109,97,110,121,32,99,104,97,110,103,101,115],rfl,?_⟩
   ·rfl
  rintro _ _ ⟨rfl,rfl,hf16⟩
  refine z_ (n_ (g_ (s_ mv_ (s_ mv_ (r_ (x_len_mp 1 (n:=es.length) rfl rfl underlying134 (List.length_map _)) (c0 (cl_ ca60) (fun w hS=>f60_ok _ w (hT.on hS (fun _ h=>by cases h)) hy_) ?_))))))
  have ha17:=R45.count_len es.length om_
  refine JO_call (Lown [xE_ x s parm m [vI cd,vB false,vL chA ch.length chC,vL none 0 0],row (.slice none 0 0) 9 1 0 (([]:LB_).map vS)]) [xE_ x s parm m [vI cd,vB false,vL chA ch.length chC,vL none 0 0],row (.slice none 0 0) 9 1 0 (([]:LB_).map vS)] [mp vS b2 (es.map kT),blk b1 24 (DataSet.enc ((R45.outB dds).EData)),mp vS m (dds.map R45.bindE),sH_ s rowsA rows.length rowsC c2,row (.slice chA ch.length chC) 60 5 ch.length (ch.flatMap Change.enc)] rfl trivial (fun _=>x_call ca59 rfl) (fun _ h=>(((((((h.front 5 _ rfl).front 5 _ rfl).front 5 _ rfl).front 5 _ rfl).front 5 _ rfl).nilrow 9 1).front 6 _ rfl).keep [T_,T_,T_,T_,T_,T_,T_] rfl) lown_mem (fun w hS=>f59_ok x s parm m cd false chA ch.length chC ([]:LB_) none 0 0 (R45.countS es.length) w hy_ hy_ (hS.give lown_in)) ?_
  rintro _ _ ⟨e18,e19,rfl,rfl⟩
  refine z_ (JX_En ?_)
  refine JX_end0 results63 [xE_ x s parm m [vI cd,vB false,vL chA ch.length chC,vL e18 ((([]:LB_)++[((R45.countS es.length):Bytes)]).length) e19],mp vS m (dds.map R45.bindE),row (.slice chA ch.length chC) 60 5 ch.length (ch.flatMap Change.enc),row (.slice e18 (([]:LB_)++[((R45.countS es.length):Bytes)]).length e19) 9 1 (([]:LB_)++[((R45.countS es.length):Bytes)]).length ((([]:LB_)++[((R45.countS es.length):Bytes)]).map vS)] (fun _ h=>((((h.front 1 _ rfl).front 6 _ rfl).front 5 _ rfl).front 3 _ rfl).keep [T_,T_,T_,T_,F_,F_,F_] rfl) ⟨cd,ch,chA,chC,(([]:LB_)++[((R45.countS es.length):Bytes)]),e18,e19,?_,?_,?_,?_,?_,?_⟩
  ·rfl
  ·rfl
  ·omega
  ·exact i1_1.2
  ·exact i1_2
  ·rfl
theorem f62_ok (x:Nat) (s:Nat) (parm:Bytes) (m:Nat) (rows:List SRow) (rowsA:OA_) (rowsC:Nat) (calls:Nat) (dds:List (Bytes × Binding)) (rc:List Rw) (rcA:OA_) (rcC:Nat) (w:World) (rowsR:RO [x,m,s] w rowsA (rows.flatMap SRow.enc)) (rcR:RO [x,m,s] w rcA (rc.flatMap Rw.enc)) (rcN:∀ i:Nat,RO [x,m,s] w (rc.getD i default).sA (((rc.getD i default).s).map vS)) (hT:Tab [x,m,s] w) (q0:rows.length≤1000) (q1:calls≤900000) (q2:rc.length=1) (q3:((rc.getD 0 default).s).length≤1100) (hg:Give [x,m,s] w [x0_ x s parm m,mp vS m (dds.map R45.bindE),sH_ s rowsA rows.length rowsC calls]):Calls prog 62 #[pB x 0,vL rcA rc.length rcC] w (GivesE [x,m,s] w (fun v L=>∃ cd:Int,∃ ch:List Change,∃ chA:OA_,∃ chC:Nat,∃ ln:LB_,∃ lnA:OA_,∃ lnC:Nat,v=Value.tuple #[]∧L=[xE_ x s parm m [vI cd,vB false,vL chA ch.length chC,vL lnA ln.length lnC],mp vS m (dds.map R45.bindE),row (.slice chA ch.length chC) 60 5 ch.length (ch.flatMap Change.enc),row (.slice lnA ln.length lnC) 9 1 ln.length (ln.map vS)]∧(ch.length≤300)∧(∀ c∈ch,R45.ChI (R45.outB dds).EData.Id c)∧(cd=0∨cd=4)∧(ln.length=1)) (fun c L=>∃ line:Bytes,c=R45.pan line∧L=[])):=by
 refine calls_JE [x,m,s] 9 func62 rfl ntmps62 [(0,_),(1,_)] rfl rfl hg ?_
 refine g_ (s_ mv_ (s_ mv_ (r_ (ixF (k:=0) Rw.enc_len (cells_ro rcR) underlying102 sz25) (r_ (ldF (k:=0) 0 Rw.enc_len (cells_ro rcR) sc25) ?_))))
 refine JO_callP [x,m,s] [x0_ x s parm m,mp vS m (dds.map R45.bindE),sH_ s rowsA rows.length rowsC calls] [] rfl trivial (fun _=>x_call ca63 rfl) i_ (own_mem rfl) (fun w hS=>f63_ok x s parm m rows rowsA rowsC calls dds ((rc.getD 0 default).s) ((rc.getD 0 default).sA) ((rc.getD 0 default).sC) w (rowsR.on hS (own_mem rfl)) ((rcN 0).on hS (own_mem rfl)) (hT.on hS (own_mem rfl)) hy_ hy_ hy_ (hS.give (own_in rfl))) ?_ ?_
 ·rintro _ _ ⟨line1,rfl,rfl⟩
  refine JX_pan [] i_ (fun _ _ h=>h) ⟨line1,rfl,?_⟩
  ·rfl
 rintro _ _ ⟨cd2,ch3,chA4,chC5,ln6,lnA7,lnC8,rfl,rfl,hf9,hf10,hf11,hf12⟩
 refine z_ (JX_En ?_)
 refine JX_end0 results62 [xE_ x s parm m [vI cd2,vB false,vL chA4 ch3.length chC5,vL lnA7 ln6.length lnC8],mp vS m (dds.map R45.bindE),row (.slice chA4 ch3.length chC5) 60 5 ch3.length (ch3.flatMap Change.enc),row (.slice lnA7 ln6.length lnC8) 9 1 ln6.length (ln6.map vS)] i_ ⟨cd2,ch3,chA4,chC5,ln6,lnA7,lnC8,?_,?_,?_,?_,?_,?_⟩
 ·rfl
 ·rfl
 ·assumption
 ·assumption
 ·assumption
 ·assumption
end Go.Proofs.YtggobegaiijhhaaGreatDoor
namespace Go.Proofs.YtggobegaiijhhaaGreatDoor
open Go.GV
structure SortField where
  At:Int
  Length:Int
  Kind:Int
  Descending:Bool
deriving DecidableEq,Inhabited
def SortField.enc (a:SortField):List Value:=[vI a.At,vI a.Length,vI a.Kind,vB a.Descending]
theorem SortField.enc_len (a:SortField):(SortField.enc a).length=4:=rfl
theorem SortField.enc_one (a:SortField):(SortField.enc a).all Value.oneCell'=true:=rfl
structure SortPlan where
  Memory:Int
  Fan:Int
deriving DecidableEq,Inhabited
def SortPlan.enc (a:SortPlan):List Value:=[vI a.Memory,vI a.Fan]
theorem SortPlan.enc_len (a:SortPlan):(SortPlan.enc a).length=2:=rfl
theorem SortPlan.enc_one (a:SortPlan):(SortPlan.enc a).all Value.oneCell'=true:=rfl
structure SortWork where
  Runs:Int
  Passes:Int
  Dropped:Int
deriving DecidableEq,Inhabited
def SortWork.enc (a:SortWork):List Value:=[vI a.Runs,vI a.Passes,vI a.Dropped]
theorem SortWork.enc_len (a:SortWork):(SortWork.enc a).length=3:=rfl
theorem SortWork.enc_one (a:SortWork):(SortWork.enc a).all Value.oneCell'=true:=rfl
structure element where
  run:Int
  no:Int
  record:Bytes
deriving DecidableEq,Inhabited
def element.enc (a:element):List Value:=[vI a.run,vI a.no,vS a.record]
theorem element.enc_len (a:element):(element.enc a).length=3:=rfl
theorem element.enc_one (a:element):(element.enc a).all Value.oneCell'=true:=rfl
structure item where
  s:Bytes
  run:Int
  no:Int
deriving DecidableEq,Inhabited
def item.enc (a:item):List Value:=[vS a.s,vI a.run,vI a.no]
theorem item.enc_len (a:item):(item.enc a).length=3:=rfl
theorem item.enc_one (a:item):(item.enc a).all Value.oneCell'=true:=rfl
end Go.Proofs.YtggobegaiijhhaaGreatDoor
namespace Go.Proofs.YtggobegaiijhhaaGreatDoor
open Go.GV Go.RowKit
def rep (s:Bytes):Nat→Bytes
  | 0=>[]
  | c+1=>s++rep s c
theorem rep_lib (s:Bytes):∀ c,Lib.repeatL s c=rep s c
  | 0=>rfl
  | c+1=>congrArg (s ++ ·) (rep_lib s c)
theorem rep_length (s:Bytes):∀ c,(rep s c).length=s.length*c
  | 0=>rfl
  | c+1=>by rw [rep,List.length_append,rep_length s c,Nat.mul_succ,Nat.add_comm]
end Go.Proofs.YtggobegaiijhhaaGreatDoor
