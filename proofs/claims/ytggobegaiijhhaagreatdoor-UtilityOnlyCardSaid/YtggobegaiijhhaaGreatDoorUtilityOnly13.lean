/- C45k, Pl45e in one text. -/
import Derived.Test.YtggobegaiijhhaaGreatDoorUtilityOnly12
set_option linter.unusedVariables false
set_option linter.unusedSimpArgs false
set_option maxRecDepth 20000
namespace Go.Proofs.YtggobegaiijhhaaGreatDoor
open Go.GV Go.Proofs.Tryz Ty
open Go.GV.Ent (blk row mp)
theorem c45k0_ {p:Prop} (h:p:=by rw [if_pos hO];simp only [Bool.and_eq_true,decide_eq_true_eq];omega):p:=h
theorem c45k1_ {p:Prop} (h:p:=by rw [if_neg hO];simp only [Bool.and_eq_true,decide_eq_true_eq];omega):p:=h
theorem c45k2_ {p:Prop} (h:p:=by first | exact R16.zeros_bad (k:=k) om_ as_ | exact R16.zeros_end i1_0 as_ i1_1):p:=h
theorem c45k3_ {p:Prop} (h:p:=by first | omega | (simp only [sub,List.length_drop,List.length_take];omega) | (simp;omega) | (simp_all;omega)):p:=h
theorem f130_ok (n:Int) (lo:Int) (hi:Int) (w:World):Calls prog 130 #[vI n,vI lo,vI hi] w (Gives [] w fun v L=>v=vB ((decide (lo≤n))&&(decide (n≤hi)))∧L=[]):=by
 refine calls_J [] 15 func130 rfl ntmps130 [(0,_),(1,_),(2,_)] rfl rfl (Give.nil w) ?_
 refine q_ (g_ (s_ av_ (z_ (n_ (q_ (g_ (s_ mv_ (s_ mv_ (s_ (x_geq_i rfl rfl) (s_ mv_ ?_))))))))))
 refine and_ 3 (decide (n≤hi)) (fun g1=>?_) ?_
 ·have g1r:=g1
  have g1r:=ot_ g1r
  refine sg_ g1 mv_ (sg_ g1 mv_ (sg_ g1 (x_leq_i rfl rfl) ?_))
  exact cr_
 refine s_ av_ (z_ (n_ (rt_ ?_)))
 exact p1 results130 rfl ⟨rfl,rfl⟩
theorem f160_ok (l:List Int) (lA:OA_) (lC:Nat) (w:World) (lR:RO [] w lA (l.map vI)) (q0:l.length≤9223372036854775807):Calls prog 160 #[vL lA l.length lC] w (Gives [] w fun v L=>v=vB (R16.zeros l)∧L=[]):=by
 refine calls_J [] 14 func160 rfl ntmps160 [(0,_)] rfl rfl (Give.nil w) ?_
 refine q_ (g_ (s_ av_ (z_ (n_ (q_ (q_ (g_ (s_ mv_ (s_ (lnS underlying28) (s_ mv_ (z_ (n_ (k_ ?_)))))))))))))
 refine J_loop (X:=Nat) (fun (k:Nat)=>(k≤l.length)∧(∀ i,i<k→l.getD i 0=0)) (fun (k:Nat)=>[(5,vL lA l.length lC),(6,vN l.length),(7,vN k)]) (fun (k:Nat)=>[]) (fun (k:Nat)=>l.length-k) (0:Nat) ?_ ⟨rfl,rfl,rfl,trivial⟩ i_ ?_
 ·try dsimp only
  refine ⟨?_,?_⟩
  ·exact df_
  ·intro i hi;omega
 intro k hI1
 obtain ⟨i1_0,i1_1⟩:=hI1
 try dsimp only at i1_0
 try dsimp only at i1_1
 try dsimp only
 refine q_ (g_ (s_ (x_lss_i rfl rfl) (z_ (n_ (q_ ?_)))))
 refine ifd (fun h1w h1=>?_) (fun h1w h1=>?_)
 ·refine sk_ (n_ (q_ (k_ (q_ (g_ (r_ (ixM (cells_ro lR) underlying28 sz3) (r_ (ldM vI 0 (cells_ro lR) sc3) (s_ av_ (z_ (n_ (q_ (g_ (s_ mv_ (s_ (x_neq_i rfl rfl) (z_ (n_ ?_))))))))))))))))
  refine ifd (fun h2w h2=>?_) (fun h2w h2=>?_)
  ·refine q_ (g_ (s_ av_ (z_ (n_ (rt_ (kq_ (nr_ (rr_ (kq_ (nr_ ?_))))))))))
   exact p1 results160 rfl ⟨(eB c45k2_),rfl⟩
  ·refine sk_ (kx_ (n_ (g_ (s_ (x_add_n (a:=k) (b:=1) rfl rfl om_) (s_ mv_ (z_ ?_))))))
   refine JX_round (k+1:Nat) ?_ ?_ ⟨rfl,rfl,rfl,trivial⟩ i_
   ·try dsimp only
    refine ⟨?_,?_⟩
    ·exact df_
    ·intro i hi;by_cases hik:i=k
     ·subst hik;simp_all
     ·exact i1_1 i om_
   ·try dsimp only
    first | omega | (simp;omega) | (simp_all;omega)
 ·refine J_exit (ne_ (re_ (kh_ (n_ (q_ ?_)))))
  refine g_ (s_ av_ (z_ (n_ (rt_ ?_))))
  exact p1 results160 rfl ⟨(eB c45k2_),rfl⟩
theorem f129_ok (d:DataSet) (w:World):Calls prog 129 #[vG (DataSet.enc d)] w (Gives [] w fun v L=>v=vB (R16.valid d)∧L=[]):=by
 refine calls_J [] 112 func129 rfl ntmps129 [(0,_)] rfl rfl (Give.nil w) ?_
 refine q_ (g_ (o_ (bxG fun b1=>?_)))
 refine s_ av_ (z_ (n_ (q_ (g_ (js_ (vG [vI 128,vI 256,vI 512]) (x_build kf_) (o_ (al_ ze207 fun b2=>?_)))))))
 refine o_ (stG 0 sz207 ?_)
 refine z_ (n_ (q_ (g_ (s_ av_ (z_ (n_ (q_ (q_ (g_ (r_ (ldN 0 [vI 128,vI 256,vI 512] ag207 sz207) (s_ mv_ (z_ (n_ (k_ ?_))))))))))))))
 refine J_loop (X:=Nat × Bool) (fun (⟨k,kn⟩:Nat × Bool)=>(k≤3)∧(kn=(([128,256,512]:List Int).take k).any fun n=>decide (d.Interval=n))) (fun (⟨k,kn⟩:Nat × Bool)=>[(1,pB b1 0),(2,vB false),(4,vB kn),(8,vG [vI 128,vI 256,vI 512]),(9,vN k)]) (fun (⟨k,kn⟩:Nat × Bool)=>[blk b1 24 (DataSet.enc d)]) (fun (⟨k,kn⟩:Nat × Bool)=>3-k) ((0,false):Nat × Bool) ?_ se_ (fun _ h=>h.keep [F_,T_] rfl) ?_
 ·try dsimp only
  refine ⟨?_,?_⟩
  ·exact df_
  ·rfl
 rintro ⟨k,kn⟩ hI1
 obtain ⟨i1_0,i1_1⟩:=hI1
 try dsimp only at i1_0
 try dsimp only at i1_1
 try dsimp only
 refine q_ (g_ (s_ (x_lss_i rfl rfl) (z_ (n_ (q_ ?_)))))
 refine ifd (fun h3w h3=>?_) (fun h3w h3=>?_)
 ·refine sk_ (n_ (q_ (k_ (q_ (g_ (s_ (x_idx_arr vI (xs:=([128,256,512]:List Int)) (d:=0) (k:=k) rfl rfl underlying207 sc3 sz3 rfl lt_) (s_ av_ (z_ (n_ (g_ (s_ mv_ (s_ mv_ ?_))))))))))))
  refine or_ 4 (decide (d.Interval=(([128,256,512]:List Int).getD k 0))) (fun g4=>?_) ?_
  ·have g4r:=g4
   refine sg_ g4 (fA 7 fi24_7) (rg_ g4 (ld_ 0 sc3) (sg_ g4 mv_ (sg_ g4 (x_eql_i rfl rfl) ?_)))
   exact cr_
  refine s_ av_ (z_ (kx_ (n_ (g_ (s_ (x_add_n (a:=k) (b:=1) rfl rfl om_) (s_ mv_ (z_ ?_)))))))
  refine JX_round ((k+1,kn||(decide (d.Interval=(([128,256,512]:List Int).getD k 0)))):Nat × Bool) ?_ ?_ se_ i_
  ·try dsimp only
   refine ⟨?_,?_⟩
   ·exact df_
   ·rw [i1_1];exact R16.known_step om_
  ·try dsimp only
   first | omega | (simp;omega) | (simp_all;omega)
 ·refine J_exit (ne_ (re_ ?_))
  have hkn:kn=true→(d.Interval=128∨d.Interval=256∨d.Interval=512):=by intro h;rw [i1_1,show k=3 by omega] at h;simpa using h
  refine kh_ (n_ (q_ (q_ (g_ (s_ mv_ (s_ (x_not rfl) (s_ mv_ ?_)))))))
  refine or_ 4 (!((decide (1≤d.Org))&&(decide (d.Org≤3)))) (fun g5=>?_) ?_
  ·have g5r:=g5
   have g5r:(kn)=true:=bnot_false g5r
   have hi6:=hkn g5r
   refine sg_ g5 (fA 1 fi24_1) (rg_ g5 (ld_ 0 sc3) (c0g g5 (cl_ ca130) (fun w hS=>f130_ok _ 1 3 w) (sg_ g5 (x_not rfl) ?_)))
   exact cr_
  refine s_ mv_ ?_
  refine or_ 8 (!((decide (1≤d.Length))&&(decide (d.Length≤(min 200 (d.Interval-7)))))) (fun g7=>?_) ?_
  ·have g7r:=g7
   have ⟨g7r,h8⟩:=bor_false g7r
   have g7r:(kn)=true:=bnot_false g7r
   have hi9:=hkn g7r
   have h8:((decide (1≤d.Org))&&(decide (d.Org≤3)))=true:=bnot_false h8
   have ⟨h8,h10⟩:=band_true h8
   have h8:=ot_ h8
   have h10:=ot_ h10
   refine sg_ g7 (fA 3 fi24_3) (rg_ g7 (ld_ 0 sc3) (sg_ g7 (fA 7 fi24_7) (rg_ g7 (ld_ 0 sc3) (sg_ g7 (x_sub_i (a:=d.Interval) (b:=7) rfl rfl om_ om_) (sg_ g7 (x_min_i (a:=200) (b:=d.Interval-7) rfl rfl) (c0g g7 (cl_ ca130) (fun w hS=>f130_ok _ 1 _ w) (sg_ g7 (x_not rfl) ?_)))))))
   exact cr_
  refine s_ mv_ ?_
  refine or_ 7 (!(R16.zeros [d.Format,d.Block])) (fun g11=>?_) ?_
  ·have g11r:=g11
   have ⟨g11r,h12⟩:=bor_false g11r
   have ⟨g11r,h13⟩:=bor_false g11r
   have g11r:(kn)=true:=bnot_false g11r
   have hi14:=hkn g11r
   have h13:((decide (1≤d.Org))&&(decide (d.Org≤3)))=true:=bnot_false h13
   have ⟨h13,h15⟩:=band_true h13
   have h13:=ot_ h13
   have h15:=ot_ h15
   have h12:((decide (1≤d.Length))&&(decide (d.Length≤(min 200 (d.Interval-7)))))=true:=bnot_false h12
   have ⟨h12,h16⟩:=band_true h12
   have h12:=ot_ h12
   have h16:=ot_ h16
   refine sg_ g11 (fA 2 fi24_2) (rg_ g11 (ld_ 0 sc3) (sg_ g11 (fA 4 fi24_4) (rg_ g11 (ld_ 0 sc3) (og_ g11 (O_buildSlice (cs:=[vI d.Format,vI d.Block]) underlying28 sz3 ze3 dd_ dd_ kf_ fun b17=>?_)))))
   refine c0g g11 (cl_ ca160) (fun w hS=>f160_ok [d.Format,d.Block] _ 2 w (RO.of_blk hS 0 (off:=0) (m:=2) rfl rfl) hy_) (sg_ g11 (x_not rfl) ?_)
   exact cr_ (fun _ h=>h.keep [F_,T_] rfl)
  refine z_ (n_ ?_)
  refine if_ (fun h18=>?_) (fun h18=>?_)
  ·simp only [Bool.and_eq_true,Bool.or_eq_true,Bool.and_eq_false_iff,Bool.or_eq_false_iff,Bool.not_eq_true',Bool.not_eq_false',decide_eq_true_eq,decide_eq_false_iff_not] at h18
   refine q_ (g_ (s_ av_ (z_ (n_ (rt_ (nr_ ?_))))))
   refine p1 results129 rfl ⟨?_,rfl⟩
   have e_x0:(false:Bool)=(R16.valid d):=by
    have hk3:k=3:=by omega
    subst hk3
    rw [R16.known3] at i1_1
    subst i1_1
    rw [Bool.eq_iff_iff]
    simp only [Bool.and_eq_true,Bool.or_eq_true,Bool.not_eq_true',Bool.and_eq_false_iff,Bool.or_eq_false_iff,decide_eq_true_eq,decide_eq_false_iff_not,R16.zeros,List.all_cons,List.all_nil,R16.valid,R16.bet,Bool.false_eq_true,and_true,true_and,Bool.and_true,Bool.true_eq_false,or_false,Decidable.not_not,ne_eq,false_iff,true_iff,iff_true,iff_false] at *
    by_cases hO:d.Org=3
    ·exact c45k0_
    ·exact c45k1_
   exact congrArg (fun (x0:Bool)=>vB x0) e_x0
  ·have ⟨h18,h19⟩:=bor_false h18
   have ⟨h18,h20⟩:=bor_false h18
   have ⟨h18,h21⟩:=bor_false h18
   have h18:(kn)=true:=bnot_false h18
   have hi22:=hkn h18
   have h21:((decide (1≤d.Org))&&(decide (d.Org≤3)))=true:=bnot_false h21
   have ⟨h21,h23⟩:=band_true h21
   have h21:=ot_ h21
   have h23:=ot_ h23
   have h20:((decide (1≤d.Length))&&(decide (d.Length≤(min 200 (d.Interval-7)))))=true:=bnot_false h20
   have ⟨h20,h24⟩:=band_true h20
   have h20:=ot_ h20
   have h24:=ot_ h24
   have h19:(R16.zeros [d.Format,d.Block])=true:=bnot_false h19
   refine sk_ (n_ (q_ (q_ (g_ (s_ (fA 1 fi24_1) (r_ (ld_ 0 sc3) (s_ (x_neq_i rfl rfl) (z_ (n_ ?_)))))))))
   refine ifd (fun h25w h25=>?_) (fun h25w h25=>?_)
   ·refine q_ (g_ (s_ (fA 5 fi24_5) (r_ (ld_ 0 sc3) (s_ (fA 6 fi24_6) (r_ (ld_ 0 sc3) (s_ (fA 8 fi24_8) (r_ (ld_ 0 sc3) (s_ (fA 9 fi24_9) (r_ (ld_ 0 sc3) (s_ (fA 10 fi24_10) ?_))))))))))
    refine r_ (ld_ 0 sc3) (o_ (O_buildSlice (cs:=[vI d.KeyAt,vI d.KeyLength,vI d.Area,vI d.FreeInterval,vI d.FreeArea]) underlying28 sz3 ze3 dd_ dd_ kf_ fun b26=>?_))
    refine c0 (cl_ ca160) (fun w hS=>f160_ok [d.KeyAt,d.KeyLength,d.Area,d.FreeInterval,d.FreeArea] _ 5 w (RO.of_blk hS 0 (off:=0) (m:=5) rfl rfl) hy_) (s_ av_ (z_ (xk_ [1,2] ?_)))
    refine n_ (rt_ (nr_ ?_))
    refine p1 results129 rfl ⟨?_,rfl⟩
    have e_x0:(R16.zeros [d.KeyAt,d.KeyLength,d.Area,d.FreeInterval,d.FreeArea]:Bool)=(R16.valid d):=by
     have hk3:k=3:=by omega
     subst hk3
     rw [R16.known3] at i1_1
     subst i1_1
     rw [Bool.eq_iff_iff]
     simp only [Bool.and_eq_true,Bool.or_eq_true,Bool.not_eq_true',Bool.and_eq_false_iff,Bool.or_eq_false_iff,decide_eq_true_eq,decide_eq_false_iff_not,R16.zeros,List.all_cons,List.all_nil,R16.valid,R16.bet,Bool.false_eq_true,and_true,true_and,Bool.and_true,Bool.true_eq_false,or_false,Decidable.not_not,ne_eq,false_iff,true_iff,iff_true,iff_false] at *
     by_cases hO:d.Org=3
     ·exact c45k0_
     ·exact c45k1_
    exact congrArg (fun (x0:Bool)=>vB x0) e_x0
   ·refine sk_ (n_ (q_ (g_ (s_ (fA 3 fi24_3) (r_ (ld_ 0 sc3) (s_ (fA 7 fi24_7) (r_ (ld_ 0 sc3) (s_ (x_quo_i (a:=d.Interval) (b:=2) rfl rfl om_ om_ om_) (s_ (x_sub_i (a:=d.Interval / 2) (b:=8) rfl rfl om_ om_) (s_ (x_leq_i rfl rfl) (s_ mv_ ?_)))))))))))
    refine and_ 5 ((decide (0≤d.KeyAt))&&(decide (d.KeyAt≤d.Length))) (fun g27=>?_) ?_
    ·have g27r:=g27
     have g27r:=ot_ g27r
     refine sg_ g27 (fA 5 fi24_5) (rg_ g27 (ld_ 0 sc3) (sg_ g27 (fA 3 fi24_3) (rg_ g27 (ld_ 0 sc3) (c0g g27 (cl_ ca130) (fun w hS=>f130_ok _ 0 _ w) ?_))))
     exact cr_
    refine s_ mv_ ?_
    refine and_ 6 ((decide (1≤d.KeyLength))&&(decide (d.KeyLength≤(d.Interval / 16)))) (fun g28=>?_) ?_
    ·have g28r:=g28
     have ⟨g28r,h29⟩:=band_true g28r
     have g28r:=ot_ g28r
     have ⟨h29,h30⟩:=band_true h29
     have h29:=ot_ h29
     have h30:=ot_ h30
     refine sg_ g28 (fA 6 fi24_6) (rg_ g28 (ld_ 0 sc3) (sg_ g28 (fA 7 fi24_7) (rg_ g28 (ld_ 0 sc3) (sg_ g28 (x_quo_i (a:=d.Interval) (b:=16) rfl rfl om_ om_ om_) (c0g g28 (cl_ ca130) (fun w hS=>f130_ok _ 1 _ w) ?_)))))
     exact cr_
    refine s_ mv_ ?_
    refine and_ 8 (decide (d.KeyAt+d.KeyLength≤d.Length)) (fun g31=>?_) ?_
    ·have g31r:=g31
     have ⟨g31r,h32⟩:=band_true g31r
     have ⟨g31r,h33⟩:=band_true g31r
     have g31r:=ot_ g31r
     have ⟨h33,h34⟩:=band_true h33
     have h33:=ot_ h33
     have h34:=ot_ h34
     have ⟨h32,h35⟩:=band_true h32
     have h32:=ot_ h32
     have h35:=ot_ h35
     refine sg_ g31 (fA 5 fi24_5) (rg_ g31 (ld_ 0 sc3) (sg_ g31 (fA 6 fi24_6) (rg_ g31 (ld_ 0 sc3) (sg_ g31 (x_add_i (a:=d.KeyAt) (b:=d.KeyLength) rfl rfl om_ om_) (sg_ g31 (fA 3 fi24_3) (rg_ g31 (ld_ 0 sc3) (sg_ g31 (x_leq_i rfl rfl) ?_)))))))
     exact cr_
    refine s_ mv_ ?_
    refine and_ 3 ((decide (2≤d.Area))&&(decide (d.Area≤8))) (fun g36=>?_) ?_
    ·have g36r:=g36
     have ⟨g36r,h37⟩:=band_true g36r
     have ⟨g36r,h38⟩:=band_true g36r
     have ⟨g36r,h39⟩:=band_true g36r
     have g36r:=ot_ g36r
     have ⟨h39,h40⟩:=band_true h39
     have h39:=ot_ h39
     have h40:=ot_ h40
     have ⟨h38,h41⟩:=band_true h38
     have h38:=ot_ h38
     have h41:=ot_ h41
     have h37:=ot_ h37
     refine sg_ g36 (fA 8 fi24_8) (rg_ g36 (ld_ 0 sc3) (c0g g36 (cl_ ca130) (fun w hS=>f130_ok _ 2 8 w) ?_))
     exact cr_
    refine s_ mv_ ?_
    refine and_ 3 ((decide (0≤d.FreeInterval))&&(decide (d.FreeInterval≤90))) (fun g42=>?_) ?_
    ·have g42r:=g42
     have ⟨g42r,h43⟩:=band_true g42r
     have ⟨g42r,h44⟩:=band_true g42r
     have ⟨g42r,h45⟩:=band_true g42r
     have ⟨g42r,h46⟩:=band_true g42r
     have g42r:=ot_ g42r
     have ⟨h46,h47⟩:=band_true h46
     have h46:=ot_ h46
     have h47:=ot_ h47
     have ⟨h45,h48⟩:=band_true h45
     have h45:=ot_ h45
     have h48:=ot_ h48
     have h44:=ot_ h44
     have ⟨h43,h49⟩:=band_true h43
     have h43:=ot_ h43
     have h49:=ot_ h49
     refine sg_ g42 (fA 9 fi24_9) (rg_ g42 (ld_ 0 sc3) (c0g g42 (cl_ ca130) (fun w hS=>f130_ok _ 0 90 w) ?_))
     exact cr_
    refine s_ mv_ ?_
    refine and_ 6 ((decide (0≤d.FreeArea))&&(decide (d.FreeArea≤(d.Area-1)))) (fun g50=>?_) ?_
    ·have g50r:=g50
     have ⟨g50r,h51⟩:=band_true g50r
     have ⟨g50r,h52⟩:=band_true g50r
     have ⟨g50r,h53⟩:=band_true g50r
     have ⟨g50r,h54⟩:=band_true g50r
     have ⟨g50r,h55⟩:=band_true g50r
     have g50r:=ot_ g50r
     have ⟨h55,h56⟩:=band_true h55
     have h55:=ot_ h55
     have h56:=ot_ h56
     have ⟨h54,h57⟩:=band_true h54
     have h54:=ot_ h54
     have h57:=ot_ h57
     have h53:=ot_ h53
     have ⟨h52,h58⟩:=band_true h52
     have h52:=ot_ h52
     have h58:=ot_ h58
     have ⟨h51,h59⟩:=band_true h51
     have h51:=ot_ h51
     have h59:=ot_ h59
     refine sg_ g50 (fA 10 fi24_10) (rg_ g50 (ld_ 0 sc3) (sg_ g50 (fA 8 fi24_8) (rg_ g50 (ld_ 0 sc3) (sg_ g50 (x_sub_i (a:=d.Area) (b:=1) rfl rfl om_ om_) (c0g g50 (cl_ ca130) (fun w hS=>f130_ok _ 0 _ w) ?_)))))
     exact cr_
    refine s_ av_ (z_ (xk_ [2] ?_))
    refine n_ (rt_ ?_)
    refine p1 results129 rfl ⟨?_,rfl⟩
    have e_x0:(((((((decide (d.Length≤(d.Interval / 2)-8))&&((decide (0≤d.KeyAt))&&(decide (d.KeyAt≤d.Length))))&&((decide (1≤d.KeyLength))&&(decide (d.KeyLength≤(d.Interval / 16)))))&&(decide (d.KeyAt+d.KeyLength≤d.Length)))&&((decide (2≤d.Area))&&(decide (d.Area≤8))))&&((decide (0≤d.FreeInterval))&&(decide (d.FreeInterval≤90))))&&((decide (0≤d.FreeArea))&&(decide (d.FreeArea≤(d.Area-1)))):Bool)=(R16.valid d):=by
     have hk3:k=3:=by omega
     subst hk3
     rw [R16.known3] at i1_1
     subst i1_1
     rw [Bool.eq_iff_iff]
     simp only [Bool.and_eq_true,Bool.or_eq_true,Bool.not_eq_true',Bool.and_eq_false_iff,Bool.or_eq_false_iff,decide_eq_true_eq,decide_eq_false_iff_not,R16.zeros,List.all_cons,List.all_nil,R16.valid,R16.bet,Bool.false_eq_true,and_true,true_and,Bool.and_true,Bool.true_eq_false,or_false,Decidable.not_not,ne_eq,false_iff,true_iff,iff_true,iff_false] at *
     by_cases hO:d.Org=3
     ·exact c45k0_
     ·exact c45k1_
    exact congrArg (fun (x0:Bool)=>vB x0) e_x0
theorem f87_ok (d:DataSet) (r:Bytes) (w:World) (q0:r.length≤1000000):Calls prog 87 #[vG (DataSet.enc d),vS r] w (Gives [] w fun v L=>∃ k:Bytes,∃ e:Int,v=Value.tuple #[vS k,vI e]∧L=[]):=by
 refine calls_J [] 33 func87 rfl ntmps87 [(0,_),(1,_)] rfl rfl (Give.nil w) ?_
 refine q_ (g_ (o_ (bxG fun b1=>?_)))
 refine s_ av_ (s_ av_ (z_ (n_ (q_ (k_ (q_ (g_ (r_ (ldN 0 (DataSet.enc d) ag24 sz24) (c0 (cl_ ca129) (fun w hS=>f129_ok d w) (s_ (x_not rfl) (s_ av_ (z_ (n_ ?_)))))))))))))
 refine if_ (fun h2=>?_) (fun h2=>?_)
 ·have h2w:=h2
  have h2:(R16.valid d)=false:=bnot_true h2
  refine q_ (g_ (s_ av_ (s_ av_ (z_ (n_ (rt_ (kq_ (nr_ ?_))))))))
  exact p2 results87 rfl rfl ⟨[],1,rfl,rfl⟩
 ·have h2w:=h2
  have h2:(R16.valid d)=true:=bnot_false h2
  have hi3:=R16.valid_facts h2
  refine q_ (g_ (s_ (fA 1 fi24_1) (r_ (ld_ 0 sc3) (s_ (x_neq_i rfl rfl) (s_ av_ (z_ (n_ ?_)))))))
  refine ifd (fun h4w h4=>?_) (fun h4w h4=>?_)
  ·refine q_ (g_ (s_ av_ (s_ av_ (z_ (n_ (rt_ (kq_ (nr_ ?_))))))))
   exact p2 results87 rfl rfl ⟨[],7,rfl,rfl⟩
  ·refine q_ (g_ (s_ mv_ (s_ (x_len_s rfl underlying9) (s_ (fA 5 fi24_5) (r_ (ld_ 0 sc3) (s_ (fA 6 fi24_6) (r_ (ld_ 0 sc3) (s_ (x_add_i (a:=d.KeyAt) (b:=d.KeyLength) rfl rfl om_ om_) (s_ (fA 3 fi24_3) (r_ (ld_ 0 sc3) ?_))))))))))
   refine c0 (cl_ ca130) (fun w hS=>f130_ok _ _ _ w) (s_ (x_not rfl) (s_ av_ (z_ (xk_ [1,2,4,5,14] ?_))))
   refine n_ ?_
   refine if_ (fun h5=>?_) (fun h5=>?_)
   ·have h5w:=h5
    have h5:((decide ((d.KeyAt+d.KeyLength)≤((r.length:Nat):Int)))&&(decide (((r.length:Nat):Int)≤d.Length)))=false:=bnot_true h5
    simp only [Bool.and_eq_true,Bool.or_eq_true,Bool.and_eq_false_iff,Bool.or_eq_false_iff,Bool.not_eq_true',Bool.not_eq_false',decide_eq_true_eq,decide_eq_false_iff_not] at h5
    refine q_ (g_ (s_ av_ (s_ av_ (z_ (n_ (rt_ (kq_ (nr_ ?_))))))))
    exact p2 results87 rfl rfl ⟨[],2,rfl,rfl⟩
   ·have h5w:=h5
    have h5:((decide ((d.KeyAt+d.KeyLength)≤((r.length:Nat):Int)))&&(decide (((r.length:Nat):Int)≤d.Length)))=true:=bnot_false h5
    have ⟨h5,h6⟩:=band_true h5
    have h5:=ot_ h5
    have h6:=ot_ h6
    refine sk_ (kx_ (n_ (q_ ?_)))
    refine drB [] 9 mixed ?_
    refine jp_ 0 rfl mv_ (jp_ 1 rfl (fA 5 fi24_5) (jq_ 2 rfl (ld_ 0 sc3) (jp_ 3 rfl (x_sub_s (lo:=(d.KeyAt).toNat) (hi:=r.length) rfl underlying9 (.inl (lo_i om_)) (.inr ⟨rfl,rfl⟩) lt_ c45k3_) (jp_ 4 rfl (fA 6 fi24_6) (jq_ 5 rfl (ld_ 0 sc3) (jp_ 6 rfl (x_sub_s (lo:=0) (hi:=(d.KeyLength).toNat) rfl underlying9 (.inr ⟨rfl,rfl⟩) (.inl (lo_i om_)) lt_ c45k3_) (jp_ 7 rfl av_ (jp_ 8 rfl av_ ?_))))))))
    refine JA_done kf_ gm_ ?_
    refine n_ (rt_ ?_)
    exact p2 results87 rfl rfl ⟨sub (sub r ((d.KeyAt).toNat) r.length) 0 ((d.KeyLength).toNat),0,rfl,rfl⟩
theorem f128_ok (s:Bytes) (w:World) (q0:s.length≤1000000):Calls prog 128 #[vS s] w (Gives [] w fun v L=>∃ n:Int,∃ ok:Bool,v=Value.tuple #[vI n,vB ok]∧L=[]∧(0≤n)∧(n≤1099511627776)):=by
 refine calls_J [] 27 func128 rfl ntmps128 [(0,_)] rfl rfl (Give.nil w) ?_
 refine q_ (g_ (s_ av_ (s_ av_ (z_ (n_ (q_ (q_ (g_ (s_ mv_ (s_ (x_len_s rfl underlying9) (s_ (x_neq_i rfl rfl) (z_ (n_ ?_)))))))))))))
 refine ifd (fun h1w h1=>?_) (fun h1w h1=>?_)
 ·refine q_ (g_ (s_ av_ (s_ av_ (z_ (n_ (rt_ (nr_ ?_)))))))
  refine JX_rets [_,_] (Value.tuple #[_,_]) results128 (fun w h=>⟨rfl,rfl,trivial⟩) rfl _ i_ ⟨0,(false),?_,?_,?_,?_⟩
  ·have e_x0:(false:Bool)=(false):=by exact df_
   exact congrArg (fun (x0:Bool)=>Value.tuple #[vI 0,vB x0]) e_x0
  ·rfl
  ·omega
  ·omega
 ·refine sk_ (n_ (q_ (g_ (s_ av_ (z_ (n_ (q_ (q_ (g_ (s_ mv_ (o_ (O_str_bytes s rfl underlying9 underlying117 underlying5 fun b2 c3 z4 hz5=>?_))))))))))))
  refine s_ (lnS underlying117) (s_ mv_ (z_ (n_ (k_ ?_))))
  refine J_loop (X:=Nat × UInt64) (fun (⟨k,u⟩:Nat × UInt64)=>(k≤s.length)∧(s.length=8)) (fun (⟨k,u⟩:Nat × UInt64)=>[(2,vI 0),(3,vB false),(4,vU64 u),(11,vL (some ⟨b2,0,none⟩) s.length c3),(12,vN s.length),(13,vN k)]) (fun (⟨k,u⟩:Nat × UInt64)=>[blk b2 5 ((s++List.replicate z4 (0:UInt8)).map vU8) (s.length+z4,s.length+z4+1)]) (fun (⟨k,u⟩:Nat × UInt64)=>s.length-k) ((0,(0:UInt64)):Nat × UInt64) ?_ se_ i_ ?_
  ·try dsimp only
   refine ⟨?_,?_⟩
   ·exact df_
   ·exact df_
  rintro ⟨k,u⟩ hI1
  obtain ⟨i1_0,i1_1⟩:=hI1
  try dsimp only at i1_0
  try dsimp only at i1_1
  try dsimp only
  refine q_ (g_ (s_ (x_lss_i rfl rfl) (z_ (n_ (q_ ?_)))))
  refine ifd (fun h6w h6=>?_) (fun h6w h6=>?_)
  ·refine sk_ (n_ (q_ (k_ (q_ (g_ (s_ (x_indexAddr_sl (k:=k) underlying117 sz5 rfl rfl lt_ (add_0k1 _ _)) (r_ (x_load_arr 0 vU8 0 rfl rfl sc5 lt_) (s_ av_ (z_ (n_ (g_ (s_ mv_ (js_ (vU64 (UInt64.ofBitVec (u.toBitVec <<< (8:Nat)))) (x_shl_u64 (m:=8) rfl rfl dd_) (s_ mv_ (s_ (x_conv_u8_u64 rfl underlying5 underlying114) (s_ (x_or_u64 rfl rfl) ?_))))))))))))))))
   refine s_ av_ (z_ (kx_ (n_ (g_ (s_ (x_add_n (a:=k) (b:=1) rfl rfl om_) (s_ mv_ (z_ ?_)))))))
   refine JX_round ((k+1,(UInt64.ofBitVec (u.toBitVec <<< (8:Nat))) ||| (((s++List.replicate z4 (0:UInt8)).getD k 0).toUInt64)):Nat × UInt64) ?_ ?_ se_ i_
   ·try dsimp only
    refine ⟨?_,?_⟩
    ·exact df_
    ·exact df_
   ·try dsimp only
    first | omega | (simp;omega) | (simp_all;omega)
  ·refine J_exit (ne_ (re_ (kh_ (n_ (q_ ?_)))))
   refine q_ (g_ (s_ mv_ (js_ (vB (decide ((1099511627776:UInt64)<u))) (x_gtr_u64 rfl rfl) (z_ (n_ ?_)))))
   refine ifd (fun h7w h7=>?_) (fun h7w h7=>?_)
   ·have h7u:=h7
    try simp only [UInt8.lt_iff_toNat_lt,UInt8.le_iff_toNat_le,UInt8.reduceToNat,UInt32.lt_iff_toNat_lt,UInt32.le_iff_toNat_le,UInt32.reduceToNat,UInt64.lt_iff_toNat_lt,UInt64.le_iff_toNat_le,UInt64.reduceToNat] at h7u
    refine q_ (g_ (s_ av_ (s_ av_ (z_ (n_ (rt_ (nr_ ?_)))))))
    refine JX_rets [_,_] (Value.tuple #[_,_]) results128 (fun w h=>⟨rfl,rfl,trivial⟩) rfl _ (fun _ h=>h.keep [F_] rfl) ⟨0,(false),?_,?_,?_,?_⟩
    ·have e_x0:(false:Bool)=(false):=by exact df_
     exact congrArg (fun (x0:Bool)=>Value.tuple #[vI 0,vB x0]) e_x0
    ·rfl
    ·omega
    ·omega
   ·have h7u:=h7
    try simp only [UInt8.lt_iff_toNat_lt,UInt8.le_iff_toNat_le,UInt8.reduceToNat,UInt32.lt_iff_toNat_lt,UInt32.le_iff_toNat_le,UInt32.reduceToNat,UInt64.lt_iff_toNat_lt,UInt64.le_iff_toNat_le,UInt64.reduceToNat] at h7u
    refine sk_ (n_ (q_ (g_ (s_ mv_ (s_ (x_conv_u64_i64 rfl underlying114 underlying3 om_) (s_ av_ (s_ av_ (z_ (n_ (rt_ ?_))))))))))
    refine JX_rets [_,_] (Value.tuple #[_,_]) results128 (fun w h=>⟨rfl,rfl,trivial⟩) rfl _ (fun _ h=>h.keep [F_] rfl) ⟨((u.toNat:Nat):Int),(true),?_,?_,?_,?_⟩
    ·have e_x0:(true:Bool)=(true):=by exact df_
     exact congrArg (fun (x0:Bool)=>Value.tuple #[vI ((u.toNat:Nat):Int),vB x0]) e_x0
    ·rfl
    ·omega
    ·omega
theorem f89_ok (n:Int) (w:World) (q0:0≤n) (q1:n≤2000000000000):Calls prog 89 #[vI n] w (Gives [] w fun v L=>∃ k:Bytes,v=vS k∧L=[]):=by
 refine calls_J [] 22 func89 rfl ntmps89 [(0,_)] rfl rfl (Give.nil w) ?_
 refine q_ (g_ (s_ av_ (z_ (n_ (q_ (q_ (g_ (s_ mv_ (c0 (cl_ ca130) (fun w hS=>f130_ok n 0 1099511627776 w) (s_ (x_not rfl) (z_ (n_ ?_))))))))))))
 refine if_ (fun h1=>?_) (fun h1=>?_)
 ·have h1w:=h1
  have h1:((decide (0≤n))&&(decide (n≤1099511627776)))=false:=bnot_true h1
  simp only [Bool.and_eq_true,Bool.or_eq_true,Bool.and_eq_false_iff,Bool.or_eq_false_iff,Bool.not_eq_true',Bool.not_eq_false',decide_eq_true_eq,decide_eq_false_iff_not] at h1
  refine q_ (g_ (s_ av_ (z_ (n_ (rt_ (nr_ ?_))))))
  exact p1 results89 rfl ⟨[],rfl,rfl⟩
 ·have h1w:=h1
  have h1:((decide (0≤n))&&(decide (n≤1099511627776)))=true:=bnot_false h1
  have ⟨h1,h2⟩:=band_true h1
  have h1:=ot_ h1
  have h2:=ot_ h2
  refine sk_ (n_ (q_ (g_ (o_ (al_ ze175 fun b3=>?_)))))
  refine z_ (n_ (q_ (q_ (g_ (s_ mv_ (z_ (n_ (k_ ?_))))))))
  refine J_loop (X:=Nat × (List UInt8)) (fun (⟨k,bs⟩:Nat × (List UInt8))=>(k≤8)∧(bs.length=8)) (fun (⟨k,bs⟩:Nat × (List UInt8))=>[(0,vI n),(2,vS []),(3,pB b3 0),(8,vN k)]) (fun (⟨k,bs⟩:Nat × (List UInt8))=>[blk b3 175 (bs.map vU8)]) (fun (⟨k,bs⟩:Nat × (List UInt8))=>8-k) ((0,[0,0,0,0,0,0,0,0]):Nat × (List UInt8)) ?_ se_ i_ ?_
  ·try dsimp only
   refine ⟨?_,?_⟩
   ·exact df_
   ·exact df_
  rintro ⟨k,bs⟩ hI1
  obtain ⟨i1_0,i1_1⟩:=hI1
  try dsimp only at i1_0
  try dsimp only at i1_1
  try dsimp only
  refine q_ (g_ (s_ (x_lss_i rfl rfl) (z_ (n_ (q_ ?_)))))
  refine ifd (fun h4w h4=>?_) (fun h4w h4=>?_)
  ·refine sk_ (n_ (q_ (k_ (q_ (g_ (s_ mv_ (s_ av_ (z_ (n_ (g_ (s_ mv_ (s_ (x_sub_i (a:=7) (b:=((k:Nat):Int)) rfl rfl om_ om_) (s_ mv_ (s_ mv_ (s_ (x_mul_n (a:=8) (b:=k) rfl rfl om_) (s_ (x_shr_i (m:=(8*k)) rfl rfl om_) ?_))))))))))))))))
   refine s_ (x_conv_i64_u8 (a:=n / 2 ^ (8*k)) rfl underlying3 underlying5) (s_ (x_indexAddr_arr (k:=(7-((k:Nat):Int)).toNat) underlying175 sz5 rfl (ix_nat rfl om_) lt_ (add_0k1 _ _)) (o_ (O_store_arr (a:=UInt8.ofInt (n / 2 ^ (8*k))) 0 vU8 [blk b3 175 ((bs.set ((7-((k:Nat):Int)).toNat) (UInt8.ofInt (n / 2 ^ (8*k)))).map vU8)] rfl rfl rfl sz5 rfl lt_ rfl ?_)))
   refine z_ (kx_ (n_ (g_ (s_ (x_add_n (a:=k) (b:=1) rfl rfl om_) (s_ mv_ (z_ ?_))))))
   refine JX_round ((k+1,bs.set ((7-((k:Nat):Int)).toNat) (UInt8.ofInt (n / 2 ^ (8*k)))):Nat × (List UInt8)) ?_ ?_ se_ i_
   ·try dsimp only
    refine ⟨?_,?_⟩
    ·exact df_
    ·exact df_
   ·try dsimp only
    first | omega | (simp;omega) | (simp_all;omega)
  ·refine J_exit (ne_ (re_ (kh_ (n_ (q_ ?_)))))
   refine g_ (s_ (x_subarr (lo:=0) (hi:=8) rfl underlying175 sz5 (.inr ⟨rfl,rfl⟩) (.inr ⟨rfl,rfl⟩) lt_ lt_ lt_ rfl) ?_)
   refine JO_read (vS ((bs.drop 0).take 8)) rfl trivial (x_str_arr 0 (off:=0) (n:=8) rfl underlying117 underlying5 underlying9 rfl lt_) ?_
   refine s_ av_ (z_ (n_ (rt_ ?_)))
   exact p1 results89 rfl ⟨(bs.drop 0).take 8,rfl,rfl⟩
end Go.Proofs.YtggobegaiijhhaaGreatDoor
namespace Go.Proofs.YtggobegaiijhhaaGreatDoor
open Go.GV
namespace R45
theorem above_step {rows:List SRow} {id:Int} {k k2 r:Bytes} {e:Int} (hd:Dist rows) (hn:NextJ rows id k k2 r e) (he:e≠6):(above rows id k2).length+1≤(above rows id k).length:=RecJ.less hd hn he
theorem next_key {rows:List SRow} {id:Int} {key k r:Bytes} {e:Int} (h:NextJ rows id key k r e) (he:e≠6) {n:Nat} (hk:∀ x∈rows,x.Key.length≤n):k.length≤n:=by
  rcases h with ⟨h,_⟩ | ⟨_,x,hx,_,_,rfl,_⟩
  · exact absurd h he
  · exact hk x hx
def SeqB (b:Binding):Prop:=(setV b).Org≠2∧(setV b).Org≠3
def ChB (b:Binding) (c:Change):Prop:=c.Id=(setV b).Id∧c.Volume=[]∧0≤c.Kind∧c.Kind≤3
def WrJ (b:Binding) (l:List Bytes) (ch:List Change):Prop:=ch.length≤300∧(∀ c∈ch,ChB b c)∧(SeqB b→ch=wrS b l)
def WrK (b:Binding) (l:List Bytes) (k:Nat) (ch:List Change):Prop:=ch.length≤k+1∧(∀ c∈ch,ChB b c)∧(SeqB b→ch=wr0 b++(l.take k).map (wrC (setV b)))
theorem WrK.c {b:Binding} {l:List Bytes} (h:b.Create=true):WrK b l 0 []:=⟨by simp,by simp,fun _=>by rw [← wr0_c h];simp⟩
theorem WrK.e {b:Binding} {l:List Bytes} (h:b.Create=false) (h2:b.Status≠3):WrK b l 0 [⟨3,(setV b).Id,[],[],[]⟩]:=
  ⟨by simp,fun c hc=>by rw [List.mem_singleton.1 hc];exact ⟨rfl,rfl,show (0:Int)≤3 by decide,show (3:Int)≤3 by decide⟩,fun _=>by rw [← wr0_e h h2];simp⟩
theorem WrK.m {b:Binding} {l:List Bytes} (h:b.Create=false) (h2:¬ b.Status≠3):WrK b l 0 []:=⟨by simp,by simp,fun _=>by rw [← wr0_m h h2];simp⟩
theorem WrK.step {b:Binding} {l:List Bytes} {k:Nat} {ch:List Change} {c:Change} (h:WrK b l k ch) (hk:k<l.length) (h1:c.Id=(setV b).Id) (h2:c.Volume=[]) (h3:c.Kind=0∨c.Kind=2) (h5:SeqB b→c=wrC (setV b) (l.getD k [])):WrK b l (k+1) (ch++[c]):=by
  refine ⟨by have:=h.1;rw [List.length_append,List.length_singleton];omega,fun x hx=>?_,fun hs=>?_⟩
  · rcases List.mem_append.1 hx with hx | hx
    · exact h.2.1 x hx
    · rw [List.mem_singleton.1 hx];exact ⟨h1,h2,by omega,by omega⟩
  · rw [h.2.2 hs,h5 hs];exact wr_step hk
theorem wrj_dummy {b:Binding} {l:List Bytes} (h:b.Dummy=true):WrJ b l []:=⟨by simp,by simp,fun _=>wr_dummy h⟩
theorem wrj_done {b:Binding} {l:List Bytes} {k:Nat} {ch:List Change} (hd:b.Dummy=false) (h:WrK b l k ch) (hk:l.length≤k) (hc:ch.length≤300):WrJ b l ch:=⟨hc,h.2.1,fun hs=>wr_done hd (h.2.2 hs) hk⟩
end R45
end Go.Proofs.YtggobegaiijhhaaGreatDoor
namespace Go.GV
theorem J_less {P:Program} {n:Dim} {S:List Nat} {w0:World} {Q:Post} {E:Env} {L:List Ent} {c:Code} {L':List Ent} (hL:∀ w,St S w0 w L→St S w0 w L') (h:J P n S w0 c Q E L'):J P n S w0 c Q E L:=fun a w hR hS=>h a w hR (hL w hS)
end Go.GV
