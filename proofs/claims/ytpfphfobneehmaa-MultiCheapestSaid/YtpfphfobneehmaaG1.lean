/- What some functions and loops come to: printed and checked. Written by a program of ours. -/
import Derived.Test.YtpfphfobneehmaaG0
set_option linter.all false
set_option maxRecDepth 1000000
set_option maxHeartbeats 4000000
namespace Go.Proofs.Ytpfphfobneehmaa
open Go Go.AM Go.TM Go.Proofs
noncomputable section
noncomputable def v47_2 (x0:LI):Option Bool:=(cond (ok (v66_2 x0)) (some (!val (v66_2 x0))) none)
abbrev aF47_2 (x0:LI):List TA:=[.sc (kD x0),.sc (.fn 64 0 [] [])]
theorem ev47_2 (x0:LI):zt zP (tn39 47) (TM.evF zP (tn39) dOk 40) dOk 40 47 (aF47_2 x0) []=(v47_2 x0).bind fun r=>some ([.sc (.bool (r))],[]):=by
 refine Eq.trans (b:=(cond (ok (v66_2 x0)) (some ([.sc (.bool (!val (v66_2 x0)))],[])) none)) (by kernel_rfl) ?_
 unfold v47_2
 with_reducible repeat' refine zp ?_ ?_
 all_goals rfl
noncomputable def sv47_2:OrcS:=fun al H=>tqa (aF47_2 []) [] al H fun x0=>some [(ok (v47_2 x0),[.sc (.bool ((val (v47_2 x0))))],[])]
theorem wv47_2:zq zP dOk base o39 t37 (47,sv47_2):=by
 intro al H q hq rs H2 h2
 obtain ⟨_,_,rfl,rfl,g⟩:=tqa_some hq
 clear hq
 change some _=_ at g
 cases g
 obtain ⟨hc0,rfl,rfl⟩:=zg h2
 exact ⟨41,(zy (by kernel_rfl)).trans ((ev47_2 _).trans (zm (zc hc0)))⟩
noncomputable def o40:OrcT:=(47,sv47_2)::o39
abbrev tn40:=zd base o40 t37
theorem ok40:OKT tn40:=zr ok39 ok39 (p:=(47,sv47_2)) wv47_2
noncomputable def tv44 {β:Type} (x0:LI) (x1:L3) (x2:LL) (x3:LI) (K:Bool→Option β):Option β:=(cond ((x2.length:Int) != (x1.length:Int)) (K (false)) (cond ((x3.length:Int) != (x0.length:Int)) (K (false)) (cond (isL (Lbr FU x3 x2 (x2.length:Int) 0 x0 x1)) (K (zz (Lbr FU x3 x2 (x2.length:Int) 0 x0 x1))) (cond (ok (zn (Lbr FU x3 x2 (x2.length:Int) 0 x0 x1))) (cond (ok (v47_2 x3)) (K (val (v47_2 x3))) none) none))))
noncomputable def v44 (x0:LI) (x1:L3) (x2:LL) (x3:LI):Option Bool:=tv44 x0 x1 x2 x3 some
abbrev aF44 (x0:LI) (x1:L3) (x2:LL) (x3:LI):List TA:=[.agg [kD (x0),.d 31 mT (x1)],.sc (kL x2),.sc (kD x3)]
theorem ev44 (x0:LI) (x1:L3) (x2:LL) (x3:LI):zt zP (tn40 44) (TM.evF zP (tn40) dOk 40) dOk 40 44 (aF44 x0 x1 x2 x3) []=(v44 x0 x1 x2 x3).bind fun r=>some ([.sc (.bool (r))],[]):=by
 refine Eq.trans (b:=tv44 x0 x1 x2 x3 fun r=>some ([.sc (.bool (r))],[])) (by kernel_rfl) ?_
 unfold v44 tv44
 with_reducible repeat' refine zp ?_ ?_
 all_goals rfl
noncomputable def sv44:OrcS:=fun al H=>tqa (aF44 [] [] [] []) [] al H fun x0 x1 x2 x3=>some [(ok (v44 x0 x1 x2 x3),[.sc (.bool ((val (v44 x0 x1 x2 x3))))],[])]
theorem wv44:zq zP dOk base o40 t37 (44,sv44):=by
 intro al H q hq rs H2 h2
 obtain ⟨_,_,rfl,rfl,g⟩:=tqa_some hq
 clear hq
 change some _=_ at g
 cases g
 obtain ⟨hc0,rfl,rfl⟩:=zg h2
 exact ⟨41,(zy (by kernel_rfl)).trans ((ev44 _ _ _ _).trans (zm (zc hc0)))⟩
noncomputable def o41:OrcT:=(44,sv44)::o40
abbrev tn41:=zd base o41 t37
theorem ok41:OKT tn41:=zr ok40 ok40 (p:=(44,sv44)) wv44
noncomputable def v65 (x0:LI) (x1:L3) (x2:LL):Option Unit:=(some ())
abbrev aF65 (x0:LI) (x1:L3) (x2:LL):List TA:=[.agg [kD (x0),.d 31 mT (x1)],.sc (kL x2)]
theorem ev65 (x0:LI) (x1:L3) (x2:LL):zt zP (tn41 65) (TM.evF zP (tn41) dOk 40) dOk 40 65 (aF65 x0 x1 x2) []=(v65 x0 x1 x2).bind fun r=>some ([.sc (.fn 76 0 [none,none] [.ptr 0 0,.ptr 1 0])],[(bx1 x0 x1),.box 31 [kL (x2)]]):=by
 refine Eq.trans (b:=(some ([.sc (.fn 76 0 [none,none] [.ptr 0 0,.ptr 1 0])],[(bx1 x0 x1),.box 31 [kL (x2)]]))) (by kernel_rfl) ?_
 unfold v65
 with_reducible repeat' refine zp ?_ ?_
 all_goals rfl
noncomputable def sv65:OrcS:=fun al H=>tqa (aF65 [] [] []) [] al H fun x0 x1 x2=>some [(ok (v65 x0 x1 x2),[.sc (.fn 76 0 [none,none] [.ptr 0 0,.ptr 1 0])],[(bx1 x0 x1),.box 31 [kL (x2)]])]
theorem wv65:zq zP dOk base o41 t37 (65,sv65):=by
 intro al H q hq rs H2 h2
 obtain ⟨_,_,rfl,rfl,g⟩:=tqa_some hq
 clear hq
 change some _=_ at g
 cases g
 obtain ⟨hc0,rfl,rfl⟩:=zg h2
 exact ⟨41,(zy (by kernel_rfl)).trans ((ev65 _ _ _).trans (zm (zc hc0)))⟩
noncomputable def o42:OrcT:=(65,sv65)::o41
abbrev tn42:=zd base o42 t37
theorem ok42:OKT tn42:=zr ok41 ok41 (p:=(65,sv65)) wv65
noncomputable def LaW:Nat→LI→Int→Int→LI→Int→LI→LI→Option LI
 | 0,_,_,_,_,_,_,_=>none
 | n+1,x0,x1,x2,x3,x4,x5,x6=>(cond (decide (x2 < x1)) (cond (decide (0≤x2)) (cond (decide (x2 < (x0.length:Int))) (cond (decide (0≤List.getD x0 x2.toNat 0)) (cond (decide (List.getD x0 x2.toNat 0 < (x5.length:Int))) (cond (decide ((List.getD x0 x2.toNat 0).toNat < List.length x5)) (LaW n x0 x1 (wI (x2+(1:Int))) x3 x4 (List.set x5 (List.getD x0 x2.toNat 0).toNat (wI (List.getD x5 (List.getD x0 x2.toNat 0).toNat 0+x4))) x6) none) none) none) none) none) (some x5))
theorem qLaW:type_of% @LaW.eq_2:=@LaW.eq_2
noncomputable def xLaW (x0:LI) (x1 x2:Int) (x3:LI) (x4:Int) (x5:LI) (x6:LI):LI→Ex×CS:=fun r=>((.exit 2),⟨[(10,.l 10 0)],[],[.loop 1 none 45 41 106 [(7,vP 1),(8,vP 3)],.box 22 [.g 2],rD (r:LI),.box 22 [.g 4],rD (x6)],5,false⟩)
abbrev cLaW (x0:LI) (x1 x2:Int) (x3:LI) (x4:Int) (x5:LI) (x6:LI):CS:=⟨[(7,vP 1),(10,.l 10 0),(42,vD x0),(43,vI x1),(44,vI x2)],[(10,[kD (x3),I4 (x4)])],[.loop 1 none 45 41 106 [(7,vP 1),(8,vP 3)],.box 22 [.g 2],rD (x5),.box 22 [.g 4],rD (x6)],5,false⟩
theorem bLaW (k:Nat) (cN:KN) (cX:KX) (x0:LI) (x1 x2:Int) (x3:LI) (x4:Int) (x5:LI) (x6:LI):zo zP (tn42 45) (TM.evF zP (tn42) dOk (k+40)) dOk (k+40) (za zP (tn0 45) 45 16) 2 16 (cLaW x0 x1 x2 x3 x4 x5 x6) cN cX=(cond (decide (x2 < x1)) (cond (decide (0≤x2)) (cond (decide (x2 < (x0.length:Int))) (cond (decide (0≤List.getD x0 x2.toNat 0)) (cond (decide (List.getD x0 x2.toNat 0 < (x5.length:Int))) (cond (decide ((List.getD x0 x2.toNat 0).toNat < List.length x5)) (cond (decide (0≤List.getD x0 x2.toNat 0)) (cond (decide (List.getD x0 x2.toNat 0 < (x5.length:Int))) (cond (decide ((List.getD x0 x2.toNat 0).toNat < List.length x5)) (cN (cLaW x0 x1 (wI (x2+(1:Int))) x3 x4 (List.set x5 (List.getD x0 x2.toNat 0).toNat (wI (List.getD x5 (List.getD x0 x2.toNat 0).toNat 0+x4)):LI) x6)) none) none) none) none) none) none) none) none) (cP cX (xLaW x0 x1 x2 x3 x4 x5 x6 x5))):=by kernel_rfl
theorem lLaW (k m:Nat):∀ (n:Nat) (x0:LI) (x1 x2:Int) (x3:LI) (x4:Int) (x5:LI) (x6:LI) (r:LI),LaW n x0 x1 x2 x3 x4 x5 x6=some r→zA zP (tn42 45) (TM.evF zP (tn42) dOk (k+40)) dOk (k+40) (za zP (tn0 45) 45 16) 2 16 (n+m) (cLaW x0 x1 x2 x3 x4 x5 x6)=some (xLaW x0 x1 x2 x3 x4 x5 x6 r):=by
 intro n
 induction n with
 | zero=>intro _ _ _ _ _ _ _ r h;cases h
 | succ n ih=>
  intro x0 x1 x2 x3 x4 x5 x6 r
  rw [show n+1+m=n+m+1 by omega,zk,bLaW,qLaW]
  cases (decide (x2 < x1)) with
  | true=>
   cases (decide (0≤x2)) with
   | true=>
    cases (decide (x2 < (x0.length:Int))) with
    | true=>
     cases (decide (0≤List.getD x0 x2.toNat 0)) with
     | true=>
      cases (decide (List.getD x0 x2.toNat 0 < (x5.length:Int))) with
      | true=>
       cases (decide ((List.getD x0 x2.toNat 0).toNat < List.length x5)) with
       | true=>
        exact ih _ _ _ _ _ _ _ r
       | false=>
        intro h;cases h
      | false=>
       intro h;cases h
     | false=>
      intro h;cases h
    | false=>
     intro h;cases h
   | false=>
    intro h;cases h
  | false=>
   intro h;cases h;rfl
noncomputable def sLaW:TellS:=fun S=>dCS 5 S fun y1 y2 y3=>dSs 7 y1 fun y5 l4=>yd 1 0 y5<|dSt 10 l4 fun y7 l6=>dL 10 0 y7<|dSs 42 l6 fun y9 l8=>dD 3 iT y9 fun x0=>dSI 43 .i64 l8 fun x1 l10=>dSI 44 .i64 l10 fun x2 l11=>dE l11<|dLo 10 y2 fun y12 l13=>dC y12 fun y14 l15=>dD 3 iT y14 fun x3=>dK l15 fun x4 l16=>dE l16<|dE l13<|dC y3 fun y18 l17=>wK 1 none 45 41 106 y18 fun y19=>dSs 7 y19 fun y21 l20=>yd 1 0 y21<|dSs 8 l20 fun y23 l22=>yd 3 0 y23<|dE l22<|dHB 22 l17 fun y25 l24=>dC y25 fun y26 l27=>dG 2 y26<|dE l27<|dHR 3 iT l24 fun x5 l28=>dHB 22 l28 fun y30 l29=>dC y30 fun y31 l32=>dG 4 y31<|dE l32<|dHR 3 iT l29 fun x6 l33=>dE l33 <|  some [te (LaW FU x0 x1 x2 x3 x4 x5 x6) (xLaW x0 x1 x2 x3 x4 x5 x6)]
theorem wLaW:zh zP dOk base o42 t37 ((45,16),sLaW):=by
 refine ⟨.loop (za zP (tn0 45) 45 16),2,by kernel_rfl,?_⟩
 intro S alts e S' h1 h2
 change sLaW S=_ at h1
 unfold sLaW at h1
 repeat with_reducible first|replace h1:=Qd h1;obtain ⟨_,_,_,rfl,h1⟩:=h1|(first|replace h1:=ZS h1|replace h1:=dStq h1|replace h1:=TQ h1|replace h1:=dLoq h1|replace h1:=dCq h1|replace h1:=zT h1|replace h1:=Yp h1|replace h1:=Yr h1);obtain ⟨_,_,rfl,h1⟩:=h1|(first|replace h1:=Zo h1|replace h1:=dLq h1|replace h1:=dEq h1|replace h1:=dGq h1);obtain ⟨rfl,h1⟩:=h1|(first|replace h1:=dDq h1|replace h1:=wq h1);obtain ⟨_,rfl,h1⟩:=h1
 cases h1
 obtain ⟨hc0,rfl,rfl⟩:=zf h2
 exact ⟨FU+40,(zb rfl).trans (lLaW FU 40 FU _ _ _ _ _ _ _ _ (zc hc0))⟩
noncomputable def t43:TellT:=((45,16),sLaW)::t37
abbrev tn43:=zd base o42 t43
theorem ok43:OKT tn43:=zi ok42 ok42 (p:=((45,16),sLaW)) wLaW
noncomputable def vR (x0:Int) (x1:LI) (x2:Int) (x3:LI) (x4:LI):Option ((LI)×(LI)):=(cond (decide (0≤x0)) (cond (decide (x0 < (x4.length:Int))) (cond (decide (x0.toNat < List.length x4)) (cond (ok (LaW FU x1 (x1.length:Int) 0 x1 x2 x3 (List.set x4 x0.toNat (wI (List.getD x4 x0.toNat 0+x2))))) (some (val (LaW FU x1 (x1.length:Int) 0 x1 x2 x3 (List.set x4 x0.toNat (wI (List.getD x4 x0.toNat 0+x2)))),List.set x4 x0.toNat (wI (List.getD x4 x0.toNat 0+x2)))) none) none) none) none)
theorem evR (x0:Int) (x1:LI) (x2:Int) (x3:LI) (x4:LI):evY zP (tn43) (TM.evF zP (tn43) dOk 40) dOk 40 [.sc (.yl 0),.sc (I4 x0),.agg [kD (x1),I4 (x2)]] [.loop 0 none 45 41 106 [(7,vP 1),(8,vP 3)],.box 22 [.g 2],rD (x3),.box 22 [.g 4],rD (x4)]=(vR x0 x1 x2 x3 x4).bind fun r=>some ([.sc (.bool (true))],[.loop 0 none 45 41 106 [(7,vP 1),(8,vP 3)],.box 22 [.g 2],rD (r.1:LI),.box 22 [.g 4],rD (r.2:LI)]):=by
 refine Eq.trans (b:=(cond (decide (0≤x0)) (cond (decide (x0 < (x4.length:Int))) (cond (decide (x0.toNat < List.length x4)) (cond (decide (0≤x0)) (cond (decide (x0 < (x4.length:Int))) (cond (decide (x0.toNat < List.length x4)) (cond (ok (LaW FU x1 (x1.length:Int) 0 x1 x2 x3 (List.set x4 x0.toNat (wI (List.getD x4 x0.toNat 0+x2))))) (some ([.sc (.bool (true))],[.loop 0 none 45 41 106 [(7,vP 1),(8,vP 3)],.box 22 [.g 2],rD (val (LaW FU x1 (x1.length:Int) 0 x1 x2 x3 (List.set x4 x0.toNat (wI (List.getD x4 x0.toNat 0+x2)))):LI),.box 22 [.g 4],rD (List.set x4 x0.toNat (wI (List.getD x4 x0.toNat 0+x2)):LI)])) none) none) none) none) none) none) none)) (by kernel_rfl) ?_
 unfold vR
 cases (decide (0≤x0)) with
 | true=>
  cases (decide (x0 < (x4.length:Int))) with
  | true=>
   cases (decide (x0.toNat < List.length x4)) with
   | true=>
    cases (ok (LaW FU x1 (x1.length:Int) 0 x1 x2 x3 (List.set x4 x0.toNat (wI (List.getD x4 x0.toNat 0+x2))))) with
    | true=>
     rfl
    | false=>
     rfl
   | false=>
    rfl
  | false=>
   rfl
 | false=>
  rfl
noncomputable def svR:OrcS:=fun al H=>dC al fun y1 l2=>dS y1 fun y3=>dYl 0 y3<|dC l2 fun y4 l5=>dS y4 fun y6=>Vy .i64 y6 fun x0=>dC l5 fun y7 l8=>dA y7 fun y9=>dC y9 fun y10 l11=>dD 3 iT y10 fun x1=>dK l11 fun x2 l12=>dE l12<|dE l8<|dC H fun y14 l13=>wK 0 none 45 41 106 y14 fun y15=>dSs 7 y15 fun y17 l16=>yd 1 0 y17<|dSs 8 l16 fun y19 l18=>yd 3 0 y19<|dE l18<|dHB 22 l13 fun y21 l20=>dC y21 fun y22 l23=>dG 2 y22<|dE l23<|dHR 3 iT l20 fun x3 l24=>dHB 22 l24 fun y26 l25=>dC y26 fun y27 l28=>dG 4 y27<|dE l28<|dHR 3 iT l25 fun x4 l29=>dE l29 <|  some [(ok (vR x0 x1 x2 x3 x4),[.sc (.bool (true))],[.loop 0 none 45 41 106 [(7,vP 1),(8,vP 3)],.box 22 [.g 2],rD ((val (vR x0 x1 x2 x3 x4)).1:LI),.box 22 [.g 4],rD ((val (vR x0 x1 x2 x3 x4)).2:LI)])]
theorem wvR:zq zP dOk base o42 t43 (4294967295,svR):=by
 intro al H q hq rs H2 h2
 change svR al H=_ at hq
 unfold svR at hq
 repeat with_reducible first|(first|replace hq:=dCq hq|replace hq:=zT hq|replace hq:=ZS hq|replace hq:=Yp hq|replace hq:=Yr hq);obtain ⟨_,_,rfl,hq⟩:=hq|(first|replace hq:=dSq hq|replace hq:=dIntq hq|replace hq:=dAq hq|replace hq:=dDq hq|replace hq:=wq hq);obtain ⟨_,rfl,hq⟩:=hq|(first|replace hq:=WM hq|replace hq:=dEq hq|replace hq:=Zo hq|replace hq:=dGq hq);obtain ⟨rfl,hq⟩:=hq
 cases hq
 obtain ⟨hc0,rfl,rfl⟩:=zg h2
 exact ⟨41,fnY_eq.trans ((evR _ _ _ _ _).trans (zm (zc hc0)))⟩
noncomputable def o44:OrcT:=(4294967295,svR)::o42
abbrev tn44:=zd base o44 t43
theorem ok44:OKT tn44:=zr ok43 ok43 (p:=(4294967295,svR)) wvR
noncomputable def LaX:Nat→Int→L3→Int→Int→LL→Int→Int→LI→LI→LI→L3→LL→Option ((LI)×(LI))
 | 0,_,_,_,_,_,_,_,_,_,_,_,_=>none
 | n+1,x0,x1,x2,x3,x4,x5,x6,x7,x8,x9,A,B=>(cond (decide (x6 < x5)) (cond (decide (0≤x6)) (cond (decide (x6 < (x4.length:Int))) (cond (decide (0≤x0)) (cond (decide (x0 < (B.length:Int))) (cond (decide (x6 < (↑(List.length (List.getD B x0.toNat [])):Int))) (cond (ok (vR x0 (List.getD x4 x6.toNat []) (List.getD (List.getD B x0.toNat []) x6.toNat 0) x7 x8)) (LaX n x0 x1 x2 x3 x4 x5 (wI (x6+(1:Int))) (val (vR x0 (List.getD x4 x6.toNat []) (List.getD (List.getD B x0.toNat []) x6.toNat 0) x7 x8)).1 (val (vR x0 (List.getD x4 x6.toNat []) (List.getD (List.getD B x0.toNat []) x6.toNat 0) x7 x8)).2 x9 A B) none) none) none) none) none) none) (some (x7,x8)))
theorem qLaX:type_of% @LaX.eq_2:=@LaX.eq_2
noncomputable def xLaX (x0:Int) (x1:L3) (x2 x3:Int) (x4:LL) (x5 x6:Int) (x7:LI) (x8:LI) (x9:LI) (A:L3) (B:LL):((LI)×(LI))→Ex×CS:=fun r=>((.exit 2),⟨[(0,.v (.sc (.yl 0))),(2,vP 6),(9,.v (.sc (.d 31 mT x1))),(10,vI x2),(11,vI x3)],[],[.loop 0 none 45 41 106 [(7,vP 1),(8,vP 3)],.box 22 [.g 2],rD (r.1:LI),.box 22 [.g 4],rD (r.2:LI),(bx1 x9 A),.box 31 [kL (B)]],7,false⟩)
abbrev cLaX (x0:Int) (x1:L3) (x2 x3:Int) (x4:LL) (x5 x6:Int) (x7:LI) (x8:LI) (x9:LI) (A:L3) (B:LL):CS:=⟨[(0,.v (.sc (.yl 0))),(2,vP 6),(4,vI x0),(9,.v (.sc (.d 31 mT x1))),(10,vI x2),(11,vI x3),(16,vL x4),(17,vI x5),(18,vI x6)],[],[.loop 0 none 45 41 106 [(7,vP 1),(8,vP 3)],.box 22 [.g 2],rD (x7),.box 22 [.g 4],rD (x8),(bx1 x9 A),.box 31 [kL (B)]],7,false⟩
theorem bLaX (k:Nat) (cN:KN) (cX:KX) (x0:Int) (x1:L3) (x2 x3:Int) (x4:LL) (x5 x6:Int) (x7:LI) (x8:LI) (x9:LI) (A:L3) (B:LL):zo zP (tn44 76) (TM.evF zP (tn44) dOk (k+40)) dOk (k+40) (za zP (tn0 76) 76 16) 2 16 (cLaX x0 x1 x2 x3 x4 x5 x6 x7 x8 x9 A B) cN cX=(cond (decide (x6 < x5)) (cond (decide (0≤x6)) (cond (decide (x6 < (x4.length:Int))) (cond (decide (0≤x0)) (cond (decide (x0 < (B.length:Int))) (cond (decide (0≤x6)) (cond (decide (x6 < (↑(List.length (List.getD B x0.toNat [])):Int))) (cond (ok (vR x0 (List.getD x4 x6.toNat []) (List.getD (List.getD B x0.toNat []) x6.toNat 0) x7 x8)) (cN (cLaX x0 x1 x2 x3 x4 x5 (wI (x6+(1:Int))) ((val (vR x0 (List.getD x4 x6.toNat []) (List.getD (List.getD B x0.toNat []) x6.toNat 0) x7 x8)).1:LI) ((val (vR x0 (List.getD x4 x6.toNat []) (List.getD (List.getD B x0.toNat []) x6.toNat 0) x7 x8)).2:LI) x9 A B)) none) none) none) none) none) none) none) (cP cX (xLaX x0 x1 x2 x3 x4 x5 x6 x7 x8 x9 A B ((x7),x8)))):=by kernel_rfl
theorem lLaX (k m:Nat):∀ (n:Nat) (x0:Int) (x1:L3) (x2 x3:Int) (x4:LL) (x5 x6:Int) (x7:LI) (x8:LI) (x9:LI) (A:L3) (B:LL) (r:((LI)×(LI))),LaX n x0 x1 x2 x3 x4 x5 x6 x7 x8 x9 A B=some r→zA zP (tn44 76) (TM.evF zP (tn44) dOk (k+40)) dOk (k+40) (za zP (tn0 76) 76 16) 2 16 (n+m) (cLaX x0 x1 x2 x3 x4 x5 x6 x7 x8 x9 A B)=some (xLaX x0 x1 x2 x3 x4 x5 x6 x7 x8 x9 A B r):=by
 intro n
 induction n with
 | zero=>intro _ _ _ _ _ _ _ _ _ _ _ _ r h;cases h
 | succ n ih=>
  intro x0 x1 x2 x3 x4 x5 x6 x7 x8 x9 A B r
  rw [show n+1+m=n+m+1 by omega,zk,bLaX,qLaX]
  cases (decide (x6 < x5)) with
  | true=>
   cases (decide (0≤x6)) with
   | true=>
    cases (decide (x6 < (x4.length:Int))) with
    | true=>
     cases (decide (0≤x0)) with
     | true=>
      cases (decide (x0 < (B.length:Int))) with
      | true=>
       cases (decide (x6 < (↑(List.length (List.getD B x0.toNat [])):Int))) with
       | true=>
        cases (ok (vR x0 (List.getD x4 x6.toNat []) (List.getD (List.getD B x0.toNat []) x6.toNat 0) x7 x8)) with
        | true=>
         exact ih _ _ _ _ _ _ _ _ _ _ _ _ r
        | false=>
         intro h;cases h
       | false=>
        intro h;cases h
      | false=>
       intro h;cases h
     | false=>
      intro h;cases h
    | false=>
     intro h;cases h
   | false=>
    intro h;cases h
  | false=>
   intro h;cases h;rfl
noncomputable def sLaX:TellS:=fun S=>dCS 7 S fun y1 y2 y3=>dSs 0 y1 fun y5 l4=>dYl 0 y5<|dSs 2 l4 fun y7 l6=>yd 6 0 y7<|dSI 4 .i64 l6 fun x0 l8=>dSs 9 l8 fun y10 l9=>dD 31 mT y10 fun x1=>dSI 10 .i64 l9 fun x2 l11=>dSI 11 .i64 l11 fun x3 l12=>dSs 16 l12 fun y14 l13=>dD 22 lT y14 fun x4=>dSI 17 .i64 l13 fun x5 l15=>dSI 18 .i64 l15 fun x6 l16=>dE l16<|dE y2<|dC y3 fun y18 l17=>wK 0 none 45 41 106 y18 fun y19=>dSs 7 y19 fun y21 l20=>yd 1 0 y21<|dSs 8 l20 fun y23 l22=>yd 3 0 y23<|dE l22<|dHB 22 l17 fun y25 l24=>dC y25 fun y26 l27=>dG 2 y26<|dE l27<|dHR 3 iT l24 fun x7 l28=>dHB 22 l28 fun y30 l29=>dC y30 fun y31 l32=>dG 4 y31<|dE l32<|dHR 3 iT l29 fun x8 l33=>dHB 25 l33 fun y35 l34=>dC y35 fun y36 l37=>dD 3 iT y36 fun x9=>dC l37 fun y38 l39=>dD 31 mT y38 fun A=>dE l39<|dHB 31 l34 fun y41 l40=>dC y41 fun y42 l43=>dD 22 lT y42 fun B=>dE l43<|dE l40 <|  some [(ok (LaX FU x0 x1 x2 x3 x4 x5 x6 x7 x8 x9 A B),(.exit 2),⟨[(0,.v (.sc (.yl 0))),(2,vP 6),(9,.v (.sc (.d 31 mT x1))),(10,vI x2),(11,vI x3)],[],[.loop 0 none 45 41 106 [(7,vP 1),(8,vP 3)],.box 22 [.g 2],rD ((val (LaX FU x0 x1 x2 x3 x4 x5 x6 x7 x8 x9 A B)).1:LI),.box 22 [.g 4],rD ((val (LaX FU x0 x1 x2 x3 x4 x5 x6 x7 x8 x9 A B)).2:LI),(bx1 x9 A),.box 31 [kL (B)]],7,false⟩)]
theorem wLaX:zh zP dOk base o44 t43 ((76,16),sLaX):=by
 refine ⟨.loop (za zP (tn0 76) 76 16),2,by kernel_rfl,?_⟩
 intro S alts e S' h1 h2
 change sLaX S=_ at h1
 unfold sLaX at h1
 repeat with_reducible first|replace h1:=Qd h1;obtain ⟨_,_,_,rfl,h1⟩:=h1|(first|replace h1:=ZS h1|replace h1:=TQ h1|replace h1:=dCq h1|replace h1:=Yp h1|replace h1:=Yr h1);obtain ⟨_,_,rfl,h1⟩:=h1|(first|replace h1:=WM h1|replace h1:=Zo h1|replace h1:=dEq h1|replace h1:=dGq h1);obtain ⟨rfl,h1⟩:=h1|(first|replace h1:=dDq h1|replace h1:=wq h1);obtain ⟨_,rfl,h1⟩:=h1
 cases h1
 obtain ⟨hc0,rfl,rfl⟩:=zf h2
 exact ⟨FU+40,(zb rfl).trans (lLaX FU 40 FU _ _ _ _ _ _ _ _ _ _ _ _ _ (zc hc0))⟩
noncomputable def t45:TellT:=((76,16),sLaX)::t43
abbrev tn45:=zd base o44 t45
theorem ok45:OKT tn45:=zi ok44 ok44 (p:=((76,16),sLaX)) wLaX
noncomputable def Lbd:Nat→L3→Int→Int→LI→LI→LI→L3→LL→Option ((LI)×(LI))
 | 0,_,_,_,_,_,_,_,_=>none
 | n+1,x0,x1,x2,x3,x4,x5,x6,x7=>(cond (decide (x2 < x1)) (cond (decide (0≤x2)) (cond (decide (x2 < (x0.length:Int))) (cond (ok (LaX FU x2 x0 x1 x2 (List.getD x0 x2.toNat []) (↑(List.length (List.getD x0 x2.toNat [])):Int) 0 x3 x4 x5 x6 x7)) (Lbd n x0 x1 (wI (x2+(1:Int))) (val (LaX FU x2 x0 x1 x2 (List.getD x0 x2.toNat []) (↑(List.length (List.getD x0 x2.toNat [])):Int) 0 x3 x4 x5 x6 x7)).1 (val (LaX FU x2 x0 x1 x2 (List.getD x0 x2.toNat []) (↑(List.length (List.getD x0 x2.toNat [])):Int) 0 x3 x4 x5 x6 x7)).2 x5 x6 x7) none) none) none) (some (x3,x4)))
theorem qLbd:type_of% @Lbd.eq_2:=@Lbd.eq_2
noncomputable def xLbd (x0:L3) (x1 x2:Int) (x3:LI) (x4:LI) (x5:LI) (x6:L3) (x7:LL):((LI)×(LI))→Ex×CS:=fun r=>((.exit 0),⟨[],[],[.loop 0 none 45 41 106 [(7,vP 1),(8,vP 3)],.box 22 [.g 2],rD (r.1:LI),.box 22 [.g 4],rD (r.2:LI),(bx1 x5 x6),.box 31 [kL (x7)]],7,false⟩)
abbrev cLbd (x0:L3) (x1 x2:Int) (x3:LI) (x4:LI) (x5:LI) (x6:L3) (x7:LL):CS:=⟨[(0,.v (.sc (.yl 0))),(2,vP 6),(9,.v (.sc (.d 31 mT x0))),(10,vI x1),(11,vI x2)],[],[.loop 0 none 45 41 106 [(7,vP 1),(8,vP 3)],.box 22 [.g 2],rD (x3),.box 22 [.g 4],rD (x4),(bx1 x5 x6),.box 31 [kL (x7)]],7,false⟩
theorem bLbd (k:Nat) (cN:KN) (cX:KX) (x0:L3) (x1 x2:Int) (x3:LI) (x4:LI) (x5:LI) (x6:L3) (x7:LL):zo zP (tn45 76) (TM.evF zP (tn45) dOk (k+40)) dOk (k+40) (za zP (tn0 76) 76 0) 0 0 (cLbd x0 x1 x2 x3 x4 x5 x6 x7) cN cX=(cond (decide (x2 < x1)) (cond (decide (0≤x2)) (cond (decide (x2 < (x0.length:Int))) (ob (LaX FU x2 x0 x1 x2 (List.getD x0 x2.toNat []) (↑(List.length (List.getD x0 x2.toNat [])):Int) 0 x3 x4 x5 x6 x7) fun r1=>(cN (cLbd x0 x1 (wI (x2+(1:Int))) (r1.1:LI) (r1.2:LI) x5 x6 x7))) none) none) (cP cX (xLbd x0 x1 x2 x3 x4 x5 x6 x7 ((x3),x4)))):=by kernel_rfl
theorem lLbd (k m:Nat):∀ (n:Nat) (x0:L3) (x1 x2:Int) (x3:LI) (x4:LI) (x5:LI) (x6:L3) (x7:LL) (r:((LI)×(LI))),Lbd n x0 x1 x2 x3 x4 x5 x6 x7=some r→zA zP (tn45 76) (TM.evF zP (tn45) dOk (k+40)) dOk (k+40) (za zP (tn0 76) 76 0) 0 0 (n+m) (cLbd x0 x1 x2 x3 x4 x5 x6 x7)=some (xLbd x0 x1 x2 x3 x4 x5 x6 x7 r):=by
 intro n
 induction n with
 | zero=>intro _ _ _ _ _ _ _ _ r h;cases h
 | succ n ih=>
  intro x0 x1 x2 x3 x4 x5 x6 x7 r
  rw [show n+1+m=n+m+1 by omega,zk,bLbd,qLbd]
  with_reducible repeat' refine ze ?_ ?_
  all_goals first | exact ih _ _ _ _ _ _ _ _ r | (intro h;cases h;done) | (intro h;cases h;rfl)
noncomputable def sLbd:TellS:=fun S=>dCS 7 S fun y1 y2 y3=>dSs 0 y1 fun y5 l4=>dYl 0 y5<|dSs 2 l4 fun y7 l6=>yd 6 0 y7<|dSs 9 l6 fun y9 l8=>dD 31 mT y9 fun x0=>dSI 10 .i64 l8 fun x1 l10=>dSI 11 .i64 l10 fun x2 l11=>dE l11<|dE y2<|dC y3 fun y13 l12=>wK 0 none 45 41 106 y13 fun y14=>dSs 7 y14 fun y16 l15=>yd 1 0 y16<|dSs 8 l15 fun y18 l17=>yd 3 0 y18<|dE l17<|dHB 22 l12 fun y20 l19=>dC y20 fun y21 l22=>dG 2 y21<|dE l22<|dHR 3 iT l19 fun x3 l23=>dHB 22 l23 fun y25 l24=>dC y25 fun y26 l27=>dG 4 y26<|dE l27<|dHR 3 iT l24 fun x4 l28=>dHB 25 l28 fun y30 l29=>dC y30 fun y31 l32=>dD 3 iT y31 fun x5=>dC l32 fun y33 l34=>dD 31 mT y33 fun x6=>dE l34<|dHB 31 l29 fun y36 l35=>dC y36 fun y37 l38=>dD 22 lT y37 fun x7=>dE l38<|dE l35 <|  some [(ok (Lbd FU x0 x1 x2 x3 x4 x5 x6 x7),(.exit 0),⟨[],[],[.loop 0 none 45 41 106 [(7,vP 1),(8,vP 3)],.box 22 [.g 2],rD ((val (Lbd FU x0 x1 x2 x3 x4 x5 x6 x7)).1:LI),.box 22 [.g 4],rD ((val (Lbd FU x0 x1 x2 x3 x4 x5 x6 x7)).2:LI),(bx1 x5 x6),.box 31 [kL (x7)]],7,false⟩)]
theorem wLbd:zh zP dOk base o44 t45 ((76,0),sLbd):=by
 refine ⟨.loop (za zP (tn0 76) 76 0),0,by kernel_rfl,?_⟩
 intro S alts e S' h1 h2
 change sLbd S=_ at h1
 unfold sLbd at h1
 repeat with_reducible first|replace h1:=Qd h1;obtain ⟨_,_,_,rfl,h1⟩:=h1|(first|replace h1:=ZS h1|replace h1:=TQ h1|replace h1:=dCq h1|replace h1:=Yp h1|replace h1:=Yr h1);obtain ⟨_,_,rfl,h1⟩:=h1|(first|replace h1:=WM h1|replace h1:=Zo h1|replace h1:=dEq h1|replace h1:=dGq h1);obtain ⟨rfl,h1⟩:=h1|(first|replace h1:=dDq h1|replace h1:=wq h1);obtain ⟨_,rfl,h1⟩:=h1
 cases h1
 obtain ⟨hc0,rfl,rfl⟩:=zf h2
 exact ⟨FU+40,(zb rfl).trans (lLbd FU 40 FU _ _ _ _ _ _ _ _ _ (zc hc0))⟩
noncomputable def t46:TellT:=((76,0),sLbd)::t45
abbrev tn46:=zd base o44 t46
theorem ok46:OKT tn46:=zi ok45 ok45 (p:=((76,0),sLbd)) wLbd
noncomputable def tv76 {β:Type} (x0:LI) (x1:LI) (x2:LI) (x3:L3) (x4:LL) (K:((LI)×(LI))→Option β):Option β:=(cond (ok (Lbd FU x3 (x3.length:Int) 0 x0 x1 x2 x3 x4)) (K ((val (Lbd FU x3 (x3.length:Int) 0 x0 x1 x2 x3 x4)).1,(val (Lbd FU x3 (x3.length:Int) 0 x0 x1 x2 x3 x4)).2)) none)
noncomputable def v76 (x0:LI) (x1:LI) (x2:LI) (x3:L3) (x4:LL):Option ((LI)×(LI)):=tv76 x0 x1 x2 x3 x4 some
theorem ev76 (x0:LI) (x1:LI) (x2:LI) (x3:L3) (x4:LL):zt zP (tn46 76) (TM.evF zP (tn46) dOk 40) dOk 40 76 [.sc (.yl 0),.sc (.ptr 5 0),.sc (.ptr 6 0)] [.loop 0 none 45 41 106 [(7,vP 1),(8,vP 3)],.box 22 [.g 2],rD (x0),.box 22 [.g 4],rD (x1),(bx1 x2 x3),.box 31 [kL (x4)]]=(v76 x0 x1 x2 x3 x4).bind fun r=>some ([],[.loop 0 none 45 41 106 [(7,vP 1),(8,vP 3)],.box 22 [.g 2],rD (r.1:LI),.box 22 [.g 4],rD (r.2:LI),(bx1 x2 x3),.box 31 [kL (x4)]]):=by
 refine Eq.trans (b:=tv76 x0 x1 x2 x3 x4 fun r=>some ([],[.loop 0 none 45 41 106 [(7,vP 1),(8,vP 3)],.box 22 [.g 2],rD (r.1:LI),.box 22 [.g 4],rD (r.2:LI),(bx1 x2 x3),.box 31 [kL (x4)]])) (by kernel_rfl) ?_
 unfold v76 tv76
 with_reducible repeat' refine zp ?_ ?_
 all_goals rfl
noncomputable def sv76:OrcS:=fun al H=>dC al fun y1 l2=>dS y1 fun y3=>dYl 0 y3<|dC l2 fun y4 l5=>dS y4 fun y6=>yd 5 0 y6<|dC l5 fun y7 l8=>dS y7 fun y9=>yd 6 0 y9<|dE l8<|dC H fun y11 l10=>wK 0 none 45 41 106 y11 fun y12=>dSs 7 y12 fun y14 l13=>yd 1 0 y14<|dSs 8 l13 fun y16 l15=>yd 3 0 y16<|dE l15<|dHB 22 l10 fun y18 l17=>dC y18 fun y19 l20=>dG 2 y19<|dE l20<|dHR 3 iT l17 fun x0 l21=>dHB 22 l21 fun y23 l22=>dC y23 fun y24 l25=>dG 4 y24<|dE l25<|dHR 3 iT l22 fun x1 l26=>dHB 25 l26 fun y28 l27=>dC y28 fun y29 l30=>dD 3 iT y29 fun x2=>dC l30 fun y31 l32=>dD 31 mT y31 fun x3=>dE l32<|dHB 31 l27 fun y34 l33=>dC y34 fun y35 l36=>dD 22 lT y35 fun x4=>dE l36<|dE l33 <|  some [(ok (v76 x0 x1 x2 x3 x4),[],[.loop 0 none 45 41 106 [(7,vP 1),(8,vP 3)],.box 22 [.g 2],rD ((val (v76 x0 x1 x2 x3 x4)).1:LI),.box 22 [.g 4],rD ((val (v76 x0 x1 x2 x3 x4)).2:LI),(bx1 x2 x3),.box 31 [kL (x4)]])]
theorem wv76:zq zP dOk base o44 t46 (76,sv76):=by
 intro al H q hq rs H2 h2
 change sv76 al H=_ at hq
 unfold sv76 at hq
 repeat with_reducible first|(first|replace hq:=dCq hq|replace hq:=ZS hq|replace hq:=Yp hq|replace hq:=Yr hq);obtain ⟨_,_,rfl,hq⟩:=hq|(first|replace hq:=dSq hq|replace hq:=wq hq|replace hq:=dDq hq);obtain ⟨_,rfl,hq⟩:=hq|(first|replace hq:=WM hq|replace hq:=Zo hq|replace hq:=dEq hq|replace hq:=dGq hq);obtain ⟨rfl,hq⟩:=hq
 cases hq
 obtain ⟨hc0,rfl,rfl⟩:=zg h2
 exact ⟨41,(zy (by kernel_rfl)).trans ((ev76 _ _ _ _ _).trans (zm (zc hc0)))⟩
noncomputable def o47:OrcT:=(76,sv76)::o44
abbrev tn47:=zd base o47 t46
theorem ok47:OKT tn47:=zr ok46 ok46 (p:=(76,sv76)) wv76
noncomputable def Lbg:Nat→LL→Int→Int→LI→L3→LI→Bool→LI→LI→Option (Bool ⊕ Unit)
 | 0,_,_,_,_,_,_,_,_,_=>none
 | n+1,x0,x1,x2,x3,x4,x5,x6,x7,x8=>(cond (decide (x2 < x1)) (cond (decide (0≤x2)) (cond (decide (x2 < (x7.length:Int))) (cond (decide (x2.toNat < List.length x7)) (cond (decide (x2 < (x3.length:Int))) (cond (decide (List.getD x7 x2.toNat 0 > wI ((1000000:Int)*List.getD x3 x2.toNat 0))) (some (.inl (false))) (Lbg n x0 x1 (wI (x2+(1:Int))) x3 x4 x5 x6 x7 x8)) none) none) none) none) (some (.inr ())))
theorem qLbg:type_of% @Lbg.eq_2:=@Lbg.eq_2
noncomputable def xLbg (x0:LL) (x1 x2:Int) (x3:LI) (x4:L3) (x5:LI) (x6:Bool) (x7:LI) (x8:LI):(Bool ⊕ Unit)→Ex×CS:=fun r=>match r with | .inl a0=>(.ret,⟨[(6,vP 0)],[],[.box 4 [.bool (a0)]],0,true⟩) | .inr b0=>((.exit 4),⟨[(1,vL x0),(3,.l 3 0),(5,vP 3),(6,vP 2),(8,vP 0)],[(3,[kD (x3),.d 31 mT (x4)])],[.box 22 [.g 1],rD (x5),.box 4 [.bool (x6)],.box 22 [kD (x8)]],0,false⟩)
abbrev cLbg (x0:LL) (x1 x2:Int) (x3:LI) (x4:L3) (x5:LI) (x6:Bool) (x7:LI) (x8:LI):CS:=⟨[(1,vL x0),(3,.l 3 0),(5,vP 4),(6,vP 2),(8,vP 0),(57,vG 3),(58,vI x1),(59,vI x2)],[(3,[kD (x3),.d 31 mT (x4)])],[.box 22 [.g 1],rD (x5),.box 4 [.bool (x6)],rD (x7),.box 22 [kD (x8)]],0,false⟩
theorem bLbg (k:Nat) (cN:KN) (cX:KX) (x0:LL) (x1 x2:Int) (x3:LI) (x4:L3) (x5:LI) (x6:Bool) (x7:LI) (x8:LI):zo zP (tn47 45) (TM.evF zP (tn47) dOk (k+40)) dOk (k+40) (za zP (tn0 45) 45 32) 4 32 (cLbg x0 x1 x2 x3 x4 x5 x6 x7 x8) cN cX=(cond (decide (x2 < x1)) (cond (decide (0≤x2)) (cond (decide (x2 < (x7.length:Int))) (cond (decide (x2.toNat < List.length x7)) (cond (decide (0≤x2)) (cond (decide (x2 < (x3.length:Int))) (cond (decide (List.getD x7 x2.toNat 0 > wI ((1000000:Int)*List.getD x3 x2.toNat 0))) (cX .ret ⟨[(6,vP 0)],[],[.box 4 [.bool (false)]],0,true⟩) (cN (cLbg x0 x1 (wI (x2+(1:Int))) x3 x4 x5 x6 x7 x8))) none) none) none) none) none) (cX (.exit 4) ⟨[(1,vL x0),(3,.l 3 0),(5,vP 3),(6,vP 2),(8,vP 0)],[(3,[kD (x3),.d 31 mT (x4)])],[.box 22 [.g 1],rD (x5),.box 4 [.bool (x6)],.box 22 [kD (x8)]],0,false⟩)):=by kernel_rfl
theorem lLbg (k m:Nat):∀ (n:Nat) (x0:LL) (x1 x2:Int) (x3:LI) (x4:L3) (x5:LI) (x6:Bool) (x7:LI) (x8:LI) (r:(Bool ⊕ Unit)),Lbg n x0 x1 x2 x3 x4 x5 x6 x7 x8=some r→zA zP (tn47 45) (TM.evF zP (tn47) dOk (k+40)) dOk (k+40) (za zP (tn0 45) 45 32) 4 32 (n+m) (cLbg x0 x1 x2 x3 x4 x5 x6 x7 x8)=some (xLbg x0 x1 x2 x3 x4 x5 x6 x7 x8 r):=by
 intro n
 induction n with
 | zero=>intro _ _ _ _ _ _ _ _ _ r h;cases h
 | succ n ih=>
  intro x0 x1 x2 x3 x4 x5 x6 x7 x8 r
  rw [show n+1+m=n+m+1 by omega,zk,bLbg,qLbg]
  cases (decide (x2 < x1)) with
  | true=>
   cases (decide (0≤x2)) with
   | true=>
    cases (decide (x2 < (x7.length:Int))) with
    | true=>
     cases (decide (x2.toNat < List.length x7)) with
     | true=>
      cases (decide (x2 < (x3.length:Int))) with
      | true=>
       cases (decide (List.getD x7 x2.toNat 0 > wI ((1000000:Int)*List.getD x3 x2.toNat 0))) with
       | true=>
        intro h;cases h;rfl
       | false=>
        exact ih _ _ _ _ _ _ _ _ _ r
      | false=>
       intro h;cases h
     | false=>
      intro h;cases h
    | false=>
     intro h;cases h
   | false=>
    intro h;cases h
  | false=>
   intro h;cases h;rfl
noncomputable def sLbg:TellS:=fun S=>tq (mS (cLbg [] 0 0 [] [] [] false [] [])) S fun x0 x1 x2 x3 x4 x5 x6 x7 x8=>some [(isL (Lbg FU x0 x1 x2 x3 x4 x5 x6 x7 x8),.ret,⟨[(6,vP 0)],[],[.box 4 [.bool ((zz (Lbg FU x0 x1 x2 x3 x4 x5 x6 x7 x8)))]],0,true⟩),(ok (zn (Lbg FU x0 x1 x2 x3 x4 x5 x6 x7 x8)),(.exit 4),⟨[(1,vL x0),(3,.l 3 0),(5,vP 3),(6,vP 2),(8,vP 0)],[(3,[kD (x3),.d 31 mT (x4)])],[.box 22 [.g 1],rD (x5),.box 4 [.bool (x6)],.box 22 [kD (x8)]],0,false⟩)]
theorem wLbg:zh zP dOk base o47 t46 ((45,32),sLbg):=by
 refine ⟨.loop (za zP (tn0 45) 45 32),4,by kernel_rfl,?_⟩
 intro S alts e S' h1 h2
 obtain ⟨_,rfl,g⟩:=tq_some h1
 clear h1
 change some _=_ at g
 cases g
 rcases zD h2 with ⟨hc0,rfl,rfl⟩ | h2
 · exact ⟨FU+40,(zb rfl).trans (lLbg FU 40 FU _ _ _ _ _ _ _ _ _ _ (zM hc0))⟩
 obtain ⟨hc1,rfl,rfl⟩:=zf h2
 exact ⟨FU+40,(zb rfl).trans (lLbg FU 40 FU _ _ _ _ _ _ _ _ _ _ (zG (zc hc1)))⟩
noncomputable def t48:TellT:=((45,32),sLbg)::t46
abbrev tn48:=zd base o47 t48
theorem ok48:OKT tn48:=zi ok47 ok47 (p:=((45,32),sLbg)) wLbg
noncomputable def Lao:Nat→Int→Int→LI→Int→Int→LI→Bool→LI→Option Int
 | 0,_,_,_,_,_,_,_,_=>none
 | n+1,x0,x1,x2,x3,x4,x5,x6,x7=>(cond (decide (x4 < x3)) (cond (decide (0≤x4)) (cond (decide (x4 < (x2.length:Int))) (cond (decide (0≤List.getD x2 x4.toNat 0)) (cond (decide (List.getD x2 x4.toNat 0 < (x5.length:Int))) (Lao n x0 (wI (x1+List.getD x5 (List.getD x2 x4.toNat 0).toNat 0)) x2 x3 (wI (x4+(1:Int))) x5 x6 x7) none) none) none) none) (some x1))
theorem qLao:type_of% @Lao.eq_2:=@Lao.eq_2
noncomputable def xLao (x0 x1:Int) (x2:LI) (x3 x4:Int) (x5:LI) (x6:Bool) (x7:LI):Int→Ex×CS:=fun r=>((.exit 8),⟨[(6,vP 2),(8,vP 3),(15,vI x0),(17,vI (r))],[],[.loop 1 none 45 161 106 [(5,vP 1),(6,vP 2),(8,vP 3)],.box 22 [kD (x5)],.box 4 [.bool (x6)],.box 22 [.g 4],rD (x7)],5,false⟩)
abbrev cLao (x0 x1:Int) (x2:LI) (x3 x4:Int) (x5:LI) (x6:Bool) (x7:LI):CS:=⟨[(5,vP 1),(6,vP 2),(8,vP 3),(15,vI x0),(17,vI x1),(79,vD x2),(80,vI x3),(81,vI x4)],[],[.loop 1 none 45 161 106 [(5,vP 1),(6,vP 2),(8,vP 3)],.box 22 [kD (x5)],.box 4 [.bool (x6)],.box 22 [.g 4],rD (x7)],5,false⟩
theorem bLao (k:Nat) (cN:KN) (cX:KX) (x0 x1:Int) (x2:LI) (x3 x4:Int) (x5:LI) (x6:Bool) (x7:LI):zo zP (tn48 45) (TM.evF zP (tn48) dOk (k+40)) dOk (k+40) (za zP (tn0 45) 45 64) 8 64 (cLao x0 x1 x2 x3 x4 x5 x6 x7) cN cX=(cond (decide (x4 < x3)) (cond (decide (0≤x4)) (cond (decide (x4 < (x2.length:Int))) (cond (decide (0≤List.getD x2 x4.toNat 0)) (cond (decide (List.getD x2 x4.toNat 0 < (x5.length:Int))) (cN (cLao x0 (wI (x1+List.getD x5 (List.getD x2 x4.toNat 0).toNat 0)) x2 x3 (wI (x4+(1:Int))) x5 x6 x7)) none) none) none) none) (cP cX (xLao x0 x1 x2 x3 x4 x5 x6 x7 x1))):=by kernel_rfl
theorem lLao (k m:Nat):∀ (n:Nat) (x0 x1:Int) (x2:LI) (x3 x4:Int) (x5:LI) (x6:Bool) (x7:LI) (r:Int),Lao n x0 x1 x2 x3 x4 x5 x6 x7=some r→zA zP (tn48 45) (TM.evF zP (tn48) dOk (k+40)) dOk (k+40) (za zP (tn0 45) 45 64) 8 64 (n+m) (cLao x0 x1 x2 x3 x4 x5 x6 x7)=some (xLao x0 x1 x2 x3 x4 x5 x6 x7 r):=by
 intro n
 induction n with
 | zero=>intro _ _ _ _ _ _ _ _ r h;cases h
 | succ n ih=>
  intro x0 x1 x2 x3 x4 x5 x6 x7 r
  rw [show n+1+m=n+m+1 by omega,zk,bLao,qLao]
  with_reducible repeat' refine ze ?_ ?_
  all_goals first | exact ih _ _ _ _ _ _ _ _ r | (intro h;cases h;done) | (intro h;cases h;rfl)
noncomputable def sLao:TellS:=fun S=>dCS 5 S fun y1 y2 y3=>dSs 5 y1 fun y5 l4=>yd 1 0 y5<|dSs 6 l4 fun y7 l6=>yd 2 0 y7<|dSs 8 l6 fun y9 l8=>yd 3 0 y9<|dSI 15 .i64 l8 fun x0 l10=>dSI 17 .i64 l10 fun x1 l11=>dSs 79 l11 fun y13 l12=>dD 3 iT y13 fun x2=>dSI 80 .i64 l12 fun x3 l14=>dSI 81 .i64 l14 fun x4 l15=>dE l15<|dE y2<|dC y3 fun y17 l16=>wK 1 none 45 161 106 y17 fun y18=>dSs 5 y18 fun y20 l19=>yd 1 0 y20<|dSs 6 l19 fun y22 l21=>yd 2 0 y22<|dSs 8 l21 fun y24 l23=>yd 3 0 y24<|dE l23<|dHB 22 l16 fun y26 l25=>dC y26 fun y27 l28=>dD 3 iT y27 fun x5=>dE l28<|dHB 4 l25 fun y30 l29=>dC y30 fun y31 l32=>VL y31 fun x6=>dE l32<|dHB 22 l29 fun y34 l33=>dC y34 fun y35 l36=>dG 4 y35<|dE l36<|dHR 3 iT l33 fun x7 l37=>dE l37 <|  some [te (Lao FU x0 x1 x2 x3 x4 x5 x6 x7) (xLao x0 x1 x2 x3 x4 x5 x6 x7)]
theorem wLao:zh zP dOk base o47 t48 ((45,64),sLao):=by
 refine ⟨.loop (za zP (tn0 45) 45 64),8,by kernel_rfl,?_⟩
 intro S alts e S' h1 h2
 change sLao S=_ at h1
 unfold sLao at h1
 repeat with_reducible first|replace h1:=Qd h1;obtain ⟨_,_,_,rfl,h1⟩:=h1|(first|replace h1:=ZS h1|replace h1:=TQ h1|replace h1:=dCq h1|replace h1:=Yp h1|replace h1:=Yr h1);obtain ⟨_,_,rfl,h1⟩:=h1|(first|replace h1:=Zo h1|replace h1:=dEq h1|replace h1:=dGq h1);obtain ⟨rfl,h1⟩:=h1|(first|replace h1:=dDq h1|replace h1:=wq h1|replace h1:=WW h1);obtain ⟨_,rfl,h1⟩:=h1
 cases h1
 obtain ⟨hc0,rfl,rfl⟩:=zf h2
 exact ⟨FU+40,(zb rfl).trans (lLao FU 40 FU _ _ _ _ _ _ _ _ _ (zc hc0))⟩
noncomputable def t49:TellT:=((45,64),sLao)::t48
abbrev tn49:=zd base o47 t49
theorem ok49:OKT tn49:=zi ok48 ok48 (p:=((45,64),sLao)) wLao
noncomputable def vR_1 (x0:Int) (x1:LI) (x2:Int) (x3:LI) (x4:Bool) (x5:LI):Option (Unit ⊕ Unit):=(cond (ok (Lao FU x0 0 x1 (x1.length:Int) 0 x3 x4 x5)) (cond (val (Lao FU x0 0 x1 (x1.length:Int) 0 x3 x4 x5)==0) (some (.inl ())) (cond (decide (0≤x0)) (cond (decide (x0 < (x5.length:Int))) (cond (decide (x0.toNat < List.length x5)) (cond (decide (val (Lao FU x0 0 x1 (x1.length:Int) 0 x3 x4 x5)≠0)) (cond (decide (List.getD x5 x0.toNat 0 < wI (Int.tdiv (wI (wI ((1000000000000:Int)+val (Lao FU x0 0 x1 (x1.length:Int) 0 x3 x4 x5)) - (1:Int))) (val (Lao FU x0 0 x1 (x1.length:Int) 0 x3 x4 x5))))) (some (.inl ())) (some (.inr ()))) none) none) none) none)) none)
noncomputable def xvR_1 (x0:Int) (x1:LI) (x2:Int) (x3:LI) (x4:Bool) (x5:LI):(Unit ⊕ Unit)→List TA×TH:=fun r=>match r with | .inl a0=>([.sc (.bool (false))],[.loop 2 (some .ret) 45 161 106 [(5,vP 1),(6,vP 2),(8,vP 3)],.box 22 [kD (x3)],.box 4 [.bool (false)],.box 22 [.g 4],rD (x5)]) | .inr b0=>([.sc (.bool (true))],[.loop 0 none 45 161 106 [(5,vP 1),(6,vP 2),(8,vP 3)],.box 22 [kD (x3)],.box 4 [.bool (x4)],.box 22 [.g 4],rD (x5)])
theorem evR_1 (x0:Int) (x1:LI) (x2:Int) (x3:LI) (x4:Bool) (x5:LI):evY zP (tn49) (TM.evF zP (tn49) dOk 40) dOk 40 [.sc (.yl 0),.sc (I4 x0),.agg [kD (x1),I4 (x2)]] [.loop 0 none 45 161 106 [(5,vP 1),(6,vP 2),(8,vP 3)],.box 22 [kD (x3)],.box 4 [.bool (x4)],.box 22 [.g 4],rD (x5)]=(vR_1 x0 x1 x2 x3 x4 x5).bind fun r=>some (xvR_1 x0 x1 x2 x3 x4 x5 r):=by
 refine Eq.trans (b:=(cond (ok (Lao FU x0 0 x1 (x1.length:Int) 0 x3 x4 x5)) (cond (val (Lao FU x0 0 x1 (x1.length:Int) 0 x3 x4 x5)==0) (some ([.sc (.bool (false))],[.loop 2 (some .ret) 45 161 106 [(5,vP 1),(6,vP 2),(8,vP 3)],.box 22 [kD (x3)],.box 4 [.bool (false)],.box 22 [.g 4],rD (x5)])) (cond (decide (0≤x0)) (cond (decide (x0 < (x5.length:Int))) (cond (decide (x0.toNat < List.length x5)) (cond (decide (val (Lao FU x0 0 x1 (x1.length:Int) 0 x3 x4 x5)≠0)) (cond (decide (List.getD x5 x0.toNat 0 < wI (Int.tdiv (wI (wI ((1000000000000:Int)+val (Lao FU x0 0 x1 (x1.length:Int) 0 x3 x4 x5)) - (1:Int))) (val (Lao FU x0 0 x1 (x1.length:Int) 0 x3 x4 x5))))) (some ([.sc (.bool (false))],[.loop 2 (some .ret) 45 161 106 [(5,vP 1),(6,vP 2),(8,vP 3)],.box 22 [kD (x3)],.box 4 [.bool (false)],.box 22 [.g 4],rD (x5)])) (some ([.sc (.bool (true))],[.loop 0 none 45 161 106 [(5,vP 1),(6,vP 2),(8,vP 3)],.box 22 [kD (x3)],.box 4 [.bool (x4)],.box 22 [.g 4],rD (x5)]))) none) none) none) none)) none)) (by kernel_rfl) ?_
 unfold vR_1
 with_reducible repeat' refine zp ?_ ?_
 all_goals rfl
noncomputable def svR_1:OrcS:=fun al H=>dC al fun y1 l2=>dS y1 fun y3=>dYl 0 y3<|dC l2 fun y4 l5=>dS y4 fun y6=>Vy .i64 y6 fun x0=>dC l5 fun y7 l8=>dA y7 fun y9=>dC y9 fun y10 l11=>dD 3 iT y10 fun x1=>dK l11 fun x2 l12=>dE l12<|dE l8<|dC H fun y14 l13=>wK 0 none 45 161 106 y14 fun y15=>dSs 5 y15 fun y17 l16=>yd 1 0 y17<|dSs 6 l16 fun y19 l18=>yd 2 0 y19<|dSs 8 l18 fun y21 l20=>yd 3 0 y21<|dE l20<|dHB 22 l13 fun y23 l22=>dC y23 fun y24 l25=>dD 3 iT y24 fun x3=>dE l25<|dHB 4 l22 fun y27 l26=>dC y27 fun y28 l29=>VL y28 fun x4=>dE l29<|dHB 22 l26 fun y31 l30=>dC y31 fun y32 l33=>dG 4 y32<|dE l33<|dHR 3 iT l30 fun x5 l34=>dE l34 <|  some [(isL (vR_1 x0 x1 x2 x3 x4 x5),[.sc (.bool (false))],[.loop 2 (some .ret) 45 161 106 [(5,vP 1),(6,vP 2),(8,vP 3)],.box 22 [kD (x3)],.box 4 [.bool (false)],.box 22 [.g 4],rD (x5)]),(ok (zn (vR_1 x0 x1 x2 x3 x4 x5)),[.sc (.bool (true))],[.loop 0 none 45 161 106 [(5,vP 1),(6,vP 2),(8,vP 3)],.box 22 [kD (x3)],.box 4 [.bool (x4)],.box 22 [.g 4],rD (x5)])]
theorem wvR_1:zq zP dOk base o47 t49 (4294967295,svR_1):=by
 intro al H q hq rs H2 h2
 change svR_1 al H=_ at hq
 unfold svR_1 at hq
 repeat with_reducible first|(first|replace hq:=dCq hq|replace hq:=zT hq|replace hq:=ZS hq|replace hq:=Yp hq|replace hq:=Yr hq);obtain ⟨_,_,rfl,hq⟩:=hq|(first|replace hq:=dSq hq|replace hq:=dIntq hq|replace hq:=dAq hq|replace hq:=dDq hq|replace hq:=wq hq|replace hq:=WW hq);obtain ⟨_,rfl,hq⟩:=hq|(first|replace hq:=WM hq|replace hq:=dEq hq|replace hq:=Zo hq|replace hq:=dGq hq);obtain ⟨rfl,hq⟩:=hq
 cases hq
 rcases UY h2 with ⟨hc0,rfl,rfl⟩ | h2
 · exact ⟨41,fnY_eq.trans ((evR_1 _ _ _ _ _ _).trans (zm (zM hc0)))⟩
 obtain ⟨hc1,rfl,rfl⟩:=zg h2
 exact ⟨41,fnY_eq.trans ((evR_1 _ _ _ _ _ _).trans (zm (zG (zc hc1))))⟩
noncomputable def o50:OrcT:=(4294967295,svR_1)::o47
abbrev tn50:=zd base o50 t49
theorem ok50:OKT tn50:=zr ok49 ok49 (p:=(4294967295,svR_1)) wvR_1
noncomputable def LaQ:Nat→Int→L3→Int→Int→LL→Int→Int→LI→Bool→LI→LI→L3→LL→Option (Bool ⊕ Unit)
 | 0,_,_,_,_,_,_,_,_,_,_,_,_,_=>none
 | n+1,x0,x1,x2,x3,x4,x5,x6,x7,x8,x9,A,B,C=>(cond (decide (x6 < x5)) (cond (decide (0≤x6)) (cond (decide (x6 < (x4.length:Int))) (cond (decide (0≤x0)) (cond (decide (x0 < (C.length:Int))) (cond (decide (x6 < (↑(List.length (List.getD C x0.toNat [])):Int))) (cond (isL (vR_1 x0 (List.getD x4 x6.toNat []) (List.getD (List.getD C x0.toNat []) x6.toNat 0) x7 x8 x9)) (some (.inl (false))) (cond (ok (zn (vR_1 x0 (List.getD x4 x6.toNat []) (List.getD (List.getD C x0.toNat []) x6.toNat 0) x7 x8 x9))) (LaQ n x0 x1 x2 x3 x4 x5 (wI (x6+(1:Int))) x7 x8 x9 A B C) none)) none) none) none) none) none) (some (.inr ())))
theorem qLaQ:type_of% @LaQ.eq_2:=@LaQ.eq_2
noncomputable def xLaQ (x0:Int) (x1:L3) (x2 x3:Int) (x4:LL) (x5 x6:Int) (x7:LI) (x8:Bool) (x9:LI) (A:LI) (B:L3) (C:LL):(Bool ⊕ Unit)→Ex×CS:=fun r=>match r with | .inl a0=>(.ret,⟨[],[],[.loop 2 (some .ret) 45 161 106 [(5,vP 1),(6,vP 2),(8,vP 3)],.box 22 [kD (x7)],.box 4 [.bool (a0)],.box 22 [.g 4],rD (x9),(bx1 A B),.box 31 [kL (C)]],7,true⟩) | .inr b0=>((.exit 2),⟨[(0,.v (.sc (.yl 0))),(2,vP 6),(9,.v (.sc (.d 31 mT x1))),(10,vI x2),(11,vI x3)],[],[.loop 0 none 45 161 106 [(5,vP 1),(6,vP 2),(8,vP 3)],.box 22 [kD (x7)],.box 4 [.bool (x8)],.box 22 [.g 4],rD (x9),(bx1 A B),.box 31 [kL (C)]],7,false⟩)
abbrev cLaQ (x0:Int) (x1:L3) (x2 x3:Int) (x4:LL) (x5 x6:Int) (x7:LI) (x8:Bool) (x9:LI) (A:LI) (B:L3) (C:LL):CS:=⟨[(0,.v (.sc (.yl 0))),(2,vP 6),(4,vI x0),(9,.v (.sc (.d 31 mT x1))),(10,vI x2),(11,vI x3),(16,vL x4),(17,vI x5),(18,vI x6)],[],[.loop 0 none 45 161 106 [(5,vP 1),(6,vP 2),(8,vP 3)],.box 22 [kD (x7)],.box 4 [.bool (x8)],.box 22 [.g 4],rD (x9),(bx1 A B),.box 31 [kL (C)]],7,false⟩
theorem bLaQ (k:Nat) (cN:KN) (cX:KX) (x0:Int) (x1:L3) (x2 x3:Int) (x4:LL) (x5 x6:Int) (x7:LI) (x8:Bool) (x9:LI) (A:LI) (B:L3) (C:LL):zo zP (tn50 76) (TM.evF zP (tn50) dOk (k+40)) dOk (k+40) (za zP (tn0 76) 76 16) 2 16 (cLaQ x0 x1 x2 x3 x4 x5 x6 x7 x8 x9 A B C) cN cX=(cond (decide (x6 < x5)) (cond (decide (0≤x6)) (cond (decide (x6 < (x4.length:Int))) (cond (decide (0≤x0)) (cond (decide (x0 < (C.length:Int))) (cond (decide (0≤x6)) (cond (decide (x6 < (↑(List.length (List.getD C x0.toNat [])):Int))) (cond (isL (vR_1 x0 (List.getD x4 x6.toNat []) (List.getD (List.getD C x0.toNat []) x6.toNat 0) x7 x8 x9)) (cX .ret ⟨[],[],[.loop 2 (some .ret) 45 161 106 [(5,vP 1),(6,vP 2),(8,vP 3)],.box 22 [kD (x7)],.box 4 [.bool (false)],.box 22 [.g 4],rD (x9),(bx1 A B),.box 31 [kL (C)]],7,true⟩) (cond (ok (zn (vR_1 x0 (List.getD x4 x6.toNat []) (List.getD (List.getD C x0.toNat []) x6.toNat 0) x7 x8 x9))) (cN (cLaQ x0 x1 x2 x3 x4 x5 (wI (x6+(1:Int))) x7 x8 x9 A B C)) none)) none) none) none) none) none) none) (cX (.exit 2) ⟨[(0,.v (.sc (.yl 0))),(2,vP 6),(9,.v (.sc (.d 31 mT x1))),(10,vI x2),(11,vI x3)],[],[.loop 0 none 45 161 106 [(5,vP 1),(6,vP 2),(8,vP 3)],.box 22 [kD (x7)],.box 4 [.bool (x8)],.box 22 [.g 4],rD (x9),(bx1 A B),.box 31 [kL (C)]],7,false⟩)):=by kernel_rfl
theorem lLaQ (k m:Nat):∀ (n:Nat) (x0:Int) (x1:L3) (x2 x3:Int) (x4:LL) (x5 x6:Int) (x7:LI) (x8:Bool) (x9:LI) (A:LI) (B:L3) (C:LL) (r:(Bool ⊕ Unit)),LaQ n x0 x1 x2 x3 x4 x5 x6 x7 x8 x9 A B C=some r→zA zP (tn50 76) (TM.evF zP (tn50) dOk (k+40)) dOk (k+40) (za zP (tn0 76) 76 16) 2 16 (n+m) (cLaQ x0 x1 x2 x3 x4 x5 x6 x7 x8 x9 A B C)=some (xLaQ x0 x1 x2 x3 x4 x5 x6 x7 x8 x9 A B C r):=by
 intro n
 induction n with
 | zero=>intro _ _ _ _ _ _ _ _ _ _ _ _ _ r h;cases h
 | succ n ih=>
  intro x0 x1 x2 x3 x4 x5 x6 x7 x8 x9 A B C r
  rw [show n+1+m=n+m+1 by omega,zk,bLaQ,qLaQ]
  cases (decide (x6 < x5)) with
  | true=>
   cases (decide (0≤x6)) with
   | true=>
    cases (decide (x6 < (x4.length:Int))) with
    | true=>
     cases (decide (0≤x0)) with
     | true=>
      cases (decide (x0 < (C.length:Int))) with
      | true=>
       cases (decide (x6 < (↑(List.length (List.getD C x0.toNat [])):Int))) with
       | true=>
        cases (isL (vR_1 x0 (List.getD x4 x6.toNat []) (List.getD (List.getD C x0.toNat []) x6.toNat 0) x7 x8 x9)) with
        | true=>
         intro h;cases h;rfl
        | false=>
         cases (ok (zn (vR_1 x0 (List.getD x4 x6.toNat []) (List.getD (List.getD C x0.toNat []) x6.toNat 0) x7 x8 x9))) with
         | true=>
          exact ih _ _ _ _ _ _ _ _ _ _ _ _ _ r
         | false=>
          intro h;cases h
       | false=>
        intro h;cases h
      | false=>
       intro h;cases h
     | false=>
      intro h;cases h
    | false=>
     intro h;cases h
   | false=>
    intro h;cases h
  | false=>
   intro h;cases h;rfl
noncomputable def sLaQ:TellS:=fun S=>dCS 7 S fun y1 y2 y3=>dSs 0 y1 fun y5 l4=>dYl 0 y5<|dSs 2 l4 fun y7 l6=>yd 6 0 y7<|dSI 4 .i64 l6 fun x0 l8=>dSs 9 l8 fun y10 l9=>dD 31 mT y10 fun x1=>dSI 10 .i64 l9 fun x2 l11=>dSI 11 .i64 l11 fun x3 l12=>dSs 16 l12 fun y14 l13=>dD 22 lT y14 fun x4=>dSI 17 .i64 l13 fun x5 l15=>dSI 18 .i64 l15 fun x6 l16=>dE l16<|dE y2<|dC y3 fun y18 l17=>wK 0 none 45 161 106 y18 fun y19=>dSs 5 y19 fun y21 l20=>yd 1 0 y21<|dSs 6 l20 fun y23 l22=>yd 2 0 y23<|dSs 8 l22 fun y25 l24=>yd 3 0 y25<|dE l24<|dHB 22 l17 fun y27 l26=>dC y27 fun y28 l29=>dD 3 iT y28 fun x7=>dE l29<|dHB 4 l26 fun y31 l30=>dC y31 fun y32 l33=>VL y32 fun x8=>dE l33<|dHB 22 l30 fun y35 l34=>dC y35 fun y36 l37=>dG 4 y36<|dE l37<|dHR 3 iT l34 fun x9 l38=>dHB 25 l38 fun y40 l39=>dC y40 fun y41 l42=>dD 3 iT y41 fun A=>dC l42 fun y43 l44=>dD 31 mT y43 fun B=>dE l44<|dHB 31 l39 fun y46 l45=>dC y46 fun y47 l48=>dD 22 lT y47 fun C=>dE l48<|dE l45 <|  some [(isL (LaQ FU x0 x1 x2 x3 x4 x5 x6 x7 x8 x9 A B C),.ret,⟨[],[],[.loop 2 (some .ret) 45 161 106 [(5,vP 1),(6,vP 2),(8,vP 3)],.box 22 [kD (x7)],.box 4 [.bool ((zz (LaQ FU x0 x1 x2 x3 x4 x5 x6 x7 x8 x9 A B C)))],.box 22 [.g 4],rD (x9),(bx1 A B),.box 31 [kL (C)]],7,true⟩),(ok (zn (LaQ FU x0 x1 x2 x3 x4 x5 x6 x7 x8 x9 A B C)),(.exit 2),⟨[(0,.v (.sc (.yl 0))),(2,vP 6),(9,.v (.sc (.d 31 mT x1))),(10,vI x2),(11,vI x3)],[],[.loop 0 none 45 161 106 [(5,vP 1),(6,vP 2),(8,vP 3)],.box 22 [kD (x7)],.box 4 [.bool (x8)],.box 22 [.g 4],rD (x9),(bx1 A B),.box 31 [kL (C)]],7,false⟩)]
theorem wLaQ:zh zP dOk base o50 t49 ((76,16),sLaQ):=by
 refine ⟨.loop (za zP (tn0 76) 76 16),2,by kernel_rfl,?_⟩
 intro S alts e S' h1 h2
 change sLaQ S=_ at h1
 unfold sLaQ at h1
 repeat with_reducible first|replace h1:=Qd h1;obtain ⟨_,_,_,rfl,h1⟩:=h1|(first|replace h1:=ZS h1|replace h1:=TQ h1|replace h1:=dCq h1|replace h1:=Yp h1|replace h1:=Yr h1);obtain ⟨_,_,rfl,h1⟩:=h1|(first|replace h1:=WM h1|replace h1:=Zo h1|replace h1:=dEq h1|replace h1:=dGq h1);obtain ⟨rfl,h1⟩:=h1|(first|replace h1:=dDq h1|replace h1:=wq h1|replace h1:=WW h1);obtain ⟨_,rfl,h1⟩:=h1
 cases h1
 rcases zD h2 with ⟨hc0,rfl,rfl⟩ | h2
 · exact ⟨FU+40,(zb rfl).trans (lLaQ FU 40 FU _ _ _ _ _ _ _ _ _ _ _ _ _ _ (zM hc0))⟩
 obtain ⟨hc1,rfl,rfl⟩:=zf h2
 exact ⟨FU+40,(zb rfl).trans (lLaQ FU 40 FU _ _ _ _ _ _ _ _ _ _ _ _ _ _ (zG (zc hc1)))⟩
noncomputable def t51:TellT:=((76,16),sLaQ)::t49
abbrev tn51:=zd base o50 t51
theorem ok51:OKT tn51:=zi ok50 ok50 (p:=((76,16),sLaQ)) wLaQ
noncomputable def LaY:Nat→L3→Int→Int→LI→Bool→LI→LI→L3→LL→Option (Bool ⊕ Unit)
 | 0,_,_,_,_,_,_,_,_,_=>none
 | n+1,x0,x1,x2,x3,x4,x5,x6,x7,x8=>(cond (decide (x2 < x1)) (cond (decide (0≤x2)) (cond (decide (x2 < (x0.length:Int))) (cond (isL (LaQ FU x2 x0 x1 x2 (List.getD x0 x2.toNat []) (↑(List.length (List.getD x0 x2.toNat [])):Int) 0 x3 x4 x5 x6 x7 x8)) (some (.inl (zz (LaQ FU x2 x0 x1 x2 (List.getD x0 x2.toNat []) (↑(List.length (List.getD x0 x2.toNat [])):Int) 0 x3 x4 x5 x6 x7 x8)))) (cond (ok (zn (LaQ FU x2 x0 x1 x2 (List.getD x0 x2.toNat []) (↑(List.length (List.getD x0 x2.toNat [])):Int) 0 x3 x4 x5 x6 x7 x8))) (LaY n x0 x1 (wI (x2+(1:Int))) x3 x4 x5 x6 x7 x8) none)) none) none) (some (.inr ())))
theorem qLaY:type_of% @LaY.eq_2:=@LaY.eq_2
noncomputable def xLaY (x0:L3) (x1 x2:Int) (x3:LI) (x4:Bool) (x5:LI) (x6:LI) (x7:L3) (x8:LL):(Bool ⊕ Unit)→Ex×CS:=fun r=>match r with | .inl a0=>(.ret,⟨[],[],[.loop 2 (some .ret) 45 161 106 [(5,vP 1),(6,vP 2),(8,vP 3)],.box 22 [kD (x3)],.box 4 [.bool (a0)],.box 22 [.g 4],rD (x5),(bx1 x6 x7),.box 31 [kL (x8)]],7,true⟩) | .inr b0=>((.exit 0),⟨[],[],[.loop 0 none 45 161 106 [(5,vP 1),(6,vP 2),(8,vP 3)],.box 22 [kD (x3)],.box 4 [.bool (x4)],.box 22 [.g 4],rD (x5),(bx1 x6 x7),.box 31 [kL (x8)]],7,false⟩)
abbrev cLaY (x0:L3) (x1 x2:Int) (x3:LI) (x4:Bool) (x5:LI) (x6:LI) (x7:L3) (x8:LL):CS:=⟨[(0,.v (.sc (.yl 0))),(2,vP 6),(9,.v (.sc (.d 31 mT x0))),(10,vI x1),(11,vI x2)],[],[.loop 0 none 45 161 106 [(5,vP 1),(6,vP 2),(8,vP 3)],.box 22 [kD (x3)],.box 4 [.bool (x4)],.box 22 [.g 4],rD (x5),(bx1 x6 x7),.box 31 [kL (x8)]],7,false⟩
theorem bLaY (k:Nat) (cN:KN) (cX:KX) (x0:L3) (x1 x2:Int) (x3:LI) (x4:Bool) (x5:LI) (x6:LI) (x7:L3) (x8:LL):zo zP (tn51 76) (TM.evF zP (tn51) dOk (k+40)) dOk (k+40) (za zP (tn0 76) 76 0) 0 0 (cLaY x0 x1 x2 x3 x4 x5 x6 x7 x8) cN cX=(cond (decide (x2 < x1)) (cond (decide (0≤x2)) (cond (decide (x2 < (x0.length:Int))) (cond (isL (LaQ FU x2 x0 x1 x2 (List.getD x0 x2.toNat []) (↑(List.length (List.getD x0 x2.toNat [])):Int) 0 x3 x4 x5 x6 x7 x8)) (cX .ret ⟨[],[],[.loop 2 (some .ret) 45 161 106 [(5,vP 1),(6,vP 2),(8,vP 3)],.box 22 [kD (x3)],.box 4 [.bool (zz (LaQ FU x2 x0 x1 x2 (List.getD x0 x2.toNat []) (↑(List.length (List.getD x0 x2.toNat [])):Int) 0 x3 x4 x5 x6 x7 x8))],.box 22 [.g 4],rD (x5),(bx1 x6 x7),.box 31 [kL (x8)]],7,true⟩) (cond (ok (zn (LaQ FU x2 x0 x1 x2 (List.getD x0 x2.toNat []) (↑(List.length (List.getD x0 x2.toNat [])):Int) 0 x3 x4 x5 x6 x7 x8))) (cN (cLaY x0 x1 (wI (x2+(1:Int))) x3 x4 x5 x6 x7 x8)) none)) none) none) (cX (.exit 0) ⟨[],[],[.loop 0 none 45 161 106 [(5,vP 1),(6,vP 2),(8,vP 3)],.box 22 [kD (x3)],.box 4 [.bool (x4)],.box 22 [.g 4],rD (x5),(bx1 x6 x7),.box 31 [kL (x8)]],7,false⟩)):=by kernel_rfl
theorem lLaY (k m:Nat):∀ (n:Nat) (x0:L3) (x1 x2:Int) (x3:LI) (x4:Bool) (x5:LI) (x6:LI) (x7:L3) (x8:LL) (r:(Bool ⊕ Unit)),LaY n x0 x1 x2 x3 x4 x5 x6 x7 x8=some r→zA zP (tn51 76) (TM.evF zP (tn51) dOk (k+40)) dOk (k+40) (za zP (tn0 76) 76 0) 0 0 (n+m) (cLaY x0 x1 x2 x3 x4 x5 x6 x7 x8)=some (xLaY x0 x1 x2 x3 x4 x5 x6 x7 x8 r):=by
 intro n
 induction n with
 | zero=>intro _ _ _ _ _ _ _ _ _ r h;cases h
 | succ n ih=>
  intro x0 x1 x2 x3 x4 x5 x6 x7 x8 r
  rw [show n+1+m=n+m+1 by omega,zk,bLaY,qLaY]
  with_reducible repeat' refine ze ?_ ?_
  all_goals first | exact ih _ _ _ _ _ _ _ _ _ r | (intro h;cases h;done) | (intro h;cases h;rfl)
noncomputable def sLaY:TellS:=fun S=>dCS 7 S fun y1 y2 y3=>dSs 0 y1 fun y5 l4=>dYl 0 y5<|dSs 2 l4 fun y7 l6=>yd 6 0 y7<|dSs 9 l6 fun y9 l8=>dD 31 mT y9 fun x0=>dSI 10 .i64 l8 fun x1 l10=>dSI 11 .i64 l10 fun x2 l11=>dE l11<|dE y2<|dC y3 fun y13 l12=>wK 0 none 45 161 106 y13 fun y14=>dSs 5 y14 fun y16 l15=>yd 1 0 y16<|dSs 6 l15 fun y18 l17=>yd 2 0 y18<|dSs 8 l17 fun y20 l19=>yd 3 0 y20<|dE l19<|dHB 22 l12 fun y22 l21=>dC y22 fun y23 l24=>dD 3 iT y23 fun x3=>dE l24<|dHB 4 l21 fun y26 l25=>dC y26 fun y27 l28=>VL y27 fun x4=>dE l28<|dHB 22 l25 fun y30 l29=>dC y30 fun y31 l32=>dG 4 y31<|dE l32<|dHR 3 iT l29 fun x5 l33=>dHB 25 l33 fun y35 l34=>dC y35 fun y36 l37=>dD 3 iT y36 fun x6=>dC l37 fun y38 l39=>dD 31 mT y38 fun x7=>dE l39<|dHB 31 l34 fun y41 l40=>dC y41 fun y42 l43=>dD 22 lT y42 fun x8=>dE l43<|dE l40 <|  some [(isL (LaY FU x0 x1 x2 x3 x4 x5 x6 x7 x8),.ret,⟨[],[],[.loop 2 (some .ret) 45 161 106 [(5,vP 1),(6,vP 2),(8,vP 3)],.box 22 [kD (x3)],.box 4 [.bool ((zz (LaY FU x0 x1 x2 x3 x4 x5 x6 x7 x8)))],.box 22 [.g 4],rD (x5),(bx1 x6 x7),.box 31 [kL (x8)]],7,true⟩),(ok (zn (LaY FU x0 x1 x2 x3 x4 x5 x6 x7 x8)),(.exit 0),⟨[],[],[.loop 0 none 45 161 106 [(5,vP 1),(6,vP 2),(8,vP 3)],.box 22 [kD (x3)],.box 4 [.bool (x4)],.box 22 [.g 4],rD (x5),(bx1 x6 x7),.box 31 [kL (x8)]],7,false⟩)]
theorem wLaY:zh zP dOk base o50 t51 ((76,0),sLaY):=by
 refine ⟨.loop (za zP (tn0 76) 76 0),0,by kernel_rfl,?_⟩
 intro S alts e S' h1 h2
 change sLaY S=_ at h1
 unfold sLaY at h1
 repeat with_reducible first|replace h1:=Qd h1;obtain ⟨_,_,_,rfl,h1⟩:=h1|(first|replace h1:=ZS h1|replace h1:=TQ h1|replace h1:=dCq h1|replace h1:=Yp h1|replace h1:=Yr h1);obtain ⟨_,_,rfl,h1⟩:=h1|(first|replace h1:=WM h1|replace h1:=Zo h1|replace h1:=dEq h1|replace h1:=dGq h1);obtain ⟨rfl,h1⟩:=h1|(first|replace h1:=dDq h1|replace h1:=wq h1|replace h1:=WW h1);obtain ⟨_,rfl,h1⟩:=h1
 cases h1
 rcases zD h2 with ⟨hc0,rfl,rfl⟩ | h2
 · exact ⟨FU+40,(zb rfl).trans (lLaY FU 40 FU _ _ _ _ _ _ _ _ _ _ (zM hc0))⟩
 obtain ⟨hc1,rfl,rfl⟩:=zf h2
 exact ⟨FU+40,(zb rfl).trans (lLaY FU 40 FU _ _ _ _ _ _ _ _ _ _ (zG (zc hc1)))⟩
noncomputable def t52:TellT:=((76,0),sLaY)::t51
abbrev tn52:=zd base o50 t52
theorem ok52:OKT tn52:=zi ok51 ok51 (p:=((76,0),sLaY)) wLaY
noncomputable def tv76_1 {β:Type} (x0:LI) (x1:Bool) (x2:LI) (x3:LI) (x4:L3) (x5:LL) (K:(Bool ⊕ Unit)→Option β):Option β:=(cond (isL (LaY FU x4 (x4.length:Int) 0 x0 x1 x2 x3 x4 x5)) (K (.inl (zz (LaY FU x4 (x4.length:Int) 0 x0 x1 x2 x3 x4 x5)))) (cond (ok (zn (LaY FU x4 (x4.length:Int) 0 x0 x1 x2 x3 x4 x5))) (K (.inr ())) none))
noncomputable def v76_1 (x0:LI) (x1:Bool) (x2:LI) (x3:LI) (x4:L3) (x5:LL):Option (Bool ⊕ Unit):=tv76_1 x0 x1 x2 x3 x4 x5 some
noncomputable def xv76_1 (x0:LI) (x1:Bool) (x2:LI) (x3:LI) (x4:L3) (x5:LL):(Bool ⊕ Unit)→List TA×TH:=fun r=>match r with | .inl a0=>([],[.loop 2 (some .ret) 45 161 106 [(5,vP 1),(6,vP 2),(8,vP 3)],.box 22 [kD (x0)],.box 4 [.bool (a0)],.box 22 [.g 4],rD (x2),(bx1 x3 x4),.box 31 [kL (x5)]]) | .inr b0=>([],[.loop 0 none 45 161 106 [(5,vP 1),(6,vP 2),(8,vP 3)],.box 22 [kD (x0)],.box 4 [.bool (x1)],.box 22 [.g 4],rD (x2),(bx1 x3 x4),.box 31 [kL (x5)]])
theorem ev76_1 (x0:LI) (x1:Bool) (x2:LI) (x3:LI) (x4:L3) (x5:LL):zt zP (tn52 76) (TM.evF zP (tn52) dOk 40) dOk 40 76 [.sc (.yl 0),.sc (.ptr 5 0),.sc (.ptr 6 0)] [.loop 0 none 45 161 106 [(5,vP 1),(6,vP 2),(8,vP 3)],.box 22 [kD (x0)],.box 4 [.bool (x1)],.box 22 [.g 4],rD (x2),(bx1 x3 x4),.box 31 [kL (x5)]]=(v76_1 x0 x1 x2 x3 x4 x5).bind fun r=>some (xv76_1 x0 x1 x2 x3 x4 x5 r):=by
 refine Eq.trans (b:=tv76_1 x0 x1 x2 x3 x4 x5 fun r=>some (xv76_1 x0 x1 x2 x3 x4 x5 r)) (by kernel_rfl) ?_
 unfold v76_1 tv76_1
 with_reducible repeat' refine zp ?_ ?_
 all_goals rfl
noncomputable def sv76_1:OrcS:=fun al H=>dC al fun y1 l2=>dS y1 fun y3=>dYl 0 y3<|dC l2 fun y4 l5=>dS y4 fun y6=>yd 5 0 y6<|dC l5 fun y7 l8=>dS y7 fun y9=>yd 6 0 y9<|dE l8<|dC H fun y11 l10=>wK 0 none 45 161 106 y11 fun y12=>dSs 5 y12 fun y14 l13=>yd 1 0 y14<|dSs 6 l13 fun y16 l15=>yd 2 0 y16<|dSs 8 l15 fun y18 l17=>yd 3 0 y18<|dE l17<|dHB 22 l10 fun y20 l19=>dC y20 fun y21 l22=>dD 3 iT y21 fun x0=>dE l22<|dHB 4 l19 fun y24 l23=>dC y24 fun y25 l26=>VL y25 fun x1=>dE l26<|dHB 22 l23 fun y28 l27=>dC y28 fun y29 l30=>dG 4 y29<|dE l30<|dHR 3 iT l27 fun x2 l31=>dHB 25 l31 fun y33 l32=>dC y33 fun y34 l35=>dD 3 iT y34 fun x3=>dC l35 fun y36 l37=>dD 31 mT y36 fun x4=>dE l37<|dHB 31 l32 fun y39 l38=>dC y39 fun y40 l41=>dD 22 lT y40 fun x5=>dE l41<|dE l38 <|  some [(isL (v76_1 x0 x1 x2 x3 x4 x5),[],[.loop 2 (some .ret) 45 161 106 [(5,vP 1),(6,vP 2),(8,vP 3)],.box 22 [kD (x0)],.box 4 [.bool ((zz (v76_1 x0 x1 x2 x3 x4 x5)))],.box 22 [.g 4],rD (x2),(bx1 x3 x4),.box 31 [kL (x5)]]),(ok (zn (v76_1 x0 x1 x2 x3 x4 x5)),[],[.loop 0 none 45 161 106 [(5,vP 1),(6,vP 2),(8,vP 3)],.box 22 [kD (x0)],.box 4 [.bool (x1)],.box 22 [.g 4],rD (x2),(bx1 x3 x4),.box 31 [kL (x5)]])]
theorem wv76_1:zq zP dOk base o50 t52 (76,sv76_1):=by
 intro al H q hq rs H2 h2
 change sv76_1 al H=_ at hq
 unfold sv76_1 at hq
 repeat with_reducible first|(first|replace hq:=dCq hq|replace hq:=ZS hq|replace hq:=Yp hq|replace hq:=Yr hq);obtain ⟨_,_,rfl,hq⟩:=hq|(first|replace hq:=dSq hq|replace hq:=wq hq|replace hq:=dDq hq|replace hq:=WW hq);obtain ⟨_,rfl,hq⟩:=hq|(first|replace hq:=WM hq|replace hq:=Zo hq|replace hq:=dEq hq|replace hq:=dGq hq);obtain ⟨rfl,hq⟩:=hq
 cases hq
 rcases UY h2 with ⟨hc0,rfl,rfl⟩ | h2
 · exact ⟨41,(zy (by kernel_rfl)).trans ((ev76_1 _ _ _ _ _ _).trans (zm (zM hc0)))⟩
 obtain ⟨hc1,rfl,rfl⟩:=zg h2
 exact ⟨41,(zy (by kernel_rfl)).trans ((ev76_1 _ _ _ _ _ _).trans (zm (zG (zc hc1))))⟩
noncomputable def o53:OrcT:=(76,sv76_1)::o50
abbrev tn53:=zd base o53 t52
theorem ok53:OKT tn53:=zr ok52 ok52 (p:=(76,sv76_1)) wv76_1
noncomputable def tv45 {β:Type} (x0:LI) (x1:L3) (x2:LL) (x3:LI) (K:Bool→Option β):Option β:=(cond (decide ((x0.length:Int)≤(x0.length:Int))) (cond (decide ((x0.length:Int)≤(↑(nat_lit 2147483648):Int))) (cond (decide ((x1.length:Int)≤(x1.length:Int))) (cond (decide ((x1.length:Int)≤(↑(nat_lit 2147483648):Int))) (cond (ok (v76 (List.replicate (x0.length:Int).toNat 0) (List.replicate (x1.length:Int).toNat 0) x0 x1 x2)) (cond (isL (Lbg FU x2 (↑(List.length (val (v76 (List.replicate (x0.length:Int).toNat 0) (List.replicate (x1.length:Int).toNat 0) x0 x1 x2)).1):Int) 0 x0 x1 (val (v76 (List.replicate (x0.length:Int).toNat 0) (List.replicate (x1.length:Int).toNat 0) x0 x1 x2)).2 false (val (v76 (List.replicate (x0.length:Int).toNat 0) (List.replicate (x1.length:Int).toNat 0) x0 x1 x2)).1 x3)) (K (zz (Lbg FU x2 (↑(List.length (val (v76 (List.replicate (x0.length:Int).toNat 0) (List.replicate (x1.length:Int).toNat 0) x0 x1 x2)).1):Int) 0 x0 x1 (val (v76 (List.replicate (x0.length:Int).toNat 0) (List.replicate (x1.length:Int).toNat 0) x0 x1 x2)).2 false (val (v76 (List.replicate (x0.length:Int).toNat 0) (List.replicate (x1.length:Int).toNat 0) x0 x1 x2)).1 x3))) (cond (ok (zn (Lbg FU x2 (↑(List.length (val (v76 (List.replicate (x0.length:Int).toNat 0) (List.replicate (x1.length:Int).toNat 0) x0 x1 x2)).1):Int) 0 x0 x1 (val (v76 (List.replicate (x0.length:Int).toNat 0) (List.replicate (x1.length:Int).toNat 0) x0 x1 x2)).2 false (val (v76 (List.replicate (x0.length:Int).toNat 0) (List.replicate (x1.length:Int).toNat 0) x0 x1 x2)).1 x3))) (cond (isL (v76_1 x3 false (val (v76 (List.replicate (x0.length:Int).toNat 0) (List.replicate (x1.length:Int).toNat 0) x0 x1 x2)).2 x0 x1 x2)) (K (zz (v76_1 x3 false (val (v76 (List.replicate (x0.length:Int).toNat 0) (List.replicate (x1.length:Int).toNat 0) x0 x1 x2)).2 x0 x1 x2))) (cond (ok (zn (v76_1 x3 false (val (v76 (List.replicate (x0.length:Int).toNat 0) (List.replicate (x1.length:Int).toNat 0) x0 x1 x2)).2 x0 x1 x2))) (K (true)) none)) none)) none) none) none) none) none)
noncomputable def v45 (x0:LI) (x1:L3) (x2:LL) (x3:LI):Option Bool:=tv45 x0 x1 x2 x3 some
abbrev aF45 (x0:LI) (x1:L3) (x2:LL) (x3:LI):List TA:=[.agg [kD (x0),.d 31 mT (x1)],.sc (kL x2),.sc (kD x3)]
theorem ev45 (x0:LI) (x1:L3) (x2:LL) (x3:LI):zt zP (tn53 45) (TM.evF zP (tn53) dOk 40) dOk 40 45 (aF45 x0 x1 x2 x3) []=(v45 x0 x1 x2 x3).bind fun r=>some ([.sc (.bool (r))],[]):=by
 refine Eq.trans (b:=tv45 x0 x1 x2 x3 fun r=>some ([.sc (.bool (r))],[])) (by kernel_rfl) ?_
 unfold v45 tv45
 with_reducible repeat' refine zp ?_ ?_
 all_goals rfl
noncomputable def sv45:OrcS:=fun al H=>tqa (aF45 [] [] [] []) [] al H fun x0 x1 x2 x3=>some [(ok (v45 x0 x1 x2 x3),[.sc (.bool ((val (v45 x0 x1 x2 x3))))],[])]
theorem wv45:zq zP dOk base o53 t52 (45,sv45):=by
 intro al H q hq rs H2 h2
 obtain ⟨_,_,rfl,rfl,g⟩:=tqa_some hq
 clear hq
 change some _=_ at g
 cases g
 obtain ⟨hc0,rfl,rfl⟩:=zg h2
 exact ⟨41,(zy (by kernel_rfl)).trans ((ev45 _ _ _ _).trans (zm (zc hc0)))⟩
noncomputable def o54:OrcT:=(45,sv45)::o53
abbrev tn54:=zd base o54 t52
theorem ok54:OKT tn54:=zr ok53 ok53 (p:=(45,sv45)) wv45
noncomputable def LbI:Nat→Int→LI→Int→Int→LI→L3→Option Int
 | 0,_,_,_,_,_,_=>none
 | n+1,x0,x1,x2,x3,x4,x5=>(cond (decide (x3 < x2)) (cond (decide (0≤x3)) (cond (decide (x3 < (x1.length:Int))) (cond (decide (x3 < (x4.length:Int))) (LbI n (wI (x0+wI (List.getD x1 x3.toNat 0*List.getD x4 x3.toNat 0))) x1 x2 (wI (x3+(1:Int))) x4 x5) none) none) none) (some x0))
theorem qLbI:type_of% @LbI.eq_2:=@LbI.eq_2
noncomputable def xLbI (x0:Int) (x1:LI) (x2 x3:Int) (x4:LI) (x5:L3):Int→Ex×CS:=fun r=>((.exit 0),⟨[(2,.l 2 0),(5,vI (r))],[],[],0,false⟩)
abbrev cLbI (x0:Int) (x1:LI) (x2 x3:Int) (x4:LI) (x5:L3):CS:=⟨[(2,.l 2 0),(5,vI x0),(8,vD x1),(9,vI x2),(10,vI x3)],[(2,[kD (x4),.d 31 mT (x5)])],[],0,false⟩
theorem bLbI (k:Nat) (cN:KN) (cX:KX) (x0:Int) (x1:LI) (x2 x3:Int) (x4:LI) (x5:L3):zo zP (tn54 46) (TM.evF zP (tn54) dOk (k+40)) dOk (k+40) (za zP (tn0 46) 46 0) 0 0 (cLbI x0 x1 x2 x3 x4 x5) cN cX=(cond (decide (x3 < x2)) (cond (decide (0≤x3)) (cond (decide (x3 < (x1.length:Int))) (cond (decide (0≤x3)) (cond (decide (x3 < (x4.length:Int))) (cN (cLbI (wI (x0+wI (List.getD x1 x3.toNat 0*List.getD x4 x3.toNat 0))) x1 x2 (wI (x3+(1:Int))) x4 x5)) none) none) none) none) (cP cX (xLbI x0 x1 x2 x3 x4 x5 x0))):=by kernel_rfl
theorem lLbI (k m:Nat):∀ (n:Nat) (x0:Int) (x1:LI) (x2 x3:Int) (x4:LI) (x5:L3) (r:Int),LbI n x0 x1 x2 x3 x4 x5=some r→zA zP (tn54 46) (TM.evF zP (tn54) dOk (k+40)) dOk (k+40) (za zP (tn0 46) 46 0) 0 0 (n+m) (cLbI x0 x1 x2 x3 x4 x5)=some (xLbI x0 x1 x2 x3 x4 x5 r):=by
 intro n
 induction n with
 | zero=>intro _ _ _ _ _ _ r h;cases h
 | succ n ih=>
  intro x0 x1 x2 x3 x4 x5 r
  rw [show n+1+m=n+m+1 by omega,zk,bLbI,qLbI]
  cases (decide (x3 < x2)) with
  | true=>
   cases (decide (0≤x3)) with
   | true=>
    cases (decide (x3 < (x1.length:Int))) with
    | true=>
     cases (decide (x3 < (x4.length:Int))) with
     | true=>
      exact ih _ _ _ _ _ _ r
     | false=>
      intro h;cases h
    | false=>
     intro h;cases h
   | false=>
    intro h;cases h
  | false=>
   intro h;cases h;rfl
noncomputable def sLbI:TellS:=fun S=>tq (mS (cLbI 0 [] 0 0 [] [])) S fun x0 x1 x2 x3 x4 x5=>some [te (LbI FU x0 x1 x2 x3 x4 x5) (xLbI x0 x1 x2 x3 x4 x5)]
theorem wLbI:zh zP dOk base o54 t52 ((46,0),sLbI):=by
 refine ⟨.loop (za zP (tn0 46) 46 0),0,by kernel_rfl,?_⟩
 intro S alts e S' h1 h2
 obtain ⟨_,rfl,g⟩:=tq_some h1
 clear h1
 change some _=_ at g
 cases g
 obtain ⟨hc0,rfl,rfl⟩:=zf h2
 exact ⟨FU+40,(zb rfl).trans (lLbI FU 40 FU _ _ _ _ _ _ _ (zc hc0))⟩
noncomputable def t55:TellT:=((46,0),sLbI)::t52
abbrev tn55:=zd base o54 t55
theorem ok55:OKT tn55:=zi ok54 ok54 (p:=((46,0),sLbI)) wLbI
noncomputable def tv46 {β:Type} (x0:LI) (x1:L3) (x2:LI) (K:Int→Option β):Option β:=(cond (ok (LbI FU 0 x2 (x2.length:Int) 0 x0 x1)) (K (val (LbI FU 0 x2 (x2.length:Int) 0 x0 x1))) none)
noncomputable def v46 (x0:LI) (x1:L3) (x2:LI):Option Int:=tv46 x0 x1 x2 some
abbrev aF46 (x0:LI) (x1:L3) (x2:LI):List TA:=[.agg [kD (x0),.d 31 mT (x1)],.sc (kD x2)]
theorem ev46 (x0:LI) (x1:L3) (x2:LI):zt zP (tn55 46) (TM.evF zP (tn55) dOk 40) dOk 40 46 (aF46 x0 x1 x2) []=(v46 x0 x1 x2).bind fun r=>some ([.sc (I4 (r))],[]):=by
 refine Eq.trans (b:=tv46 x0 x1 x2 fun r=>some ([.sc (I4 (r))],[])) (by kernel_rfl) ?_
 unfold v46 tv46
 with_reducible repeat' refine zp ?_ ?_
 all_goals rfl
noncomputable def sv46:OrcS:=fun al H=>tqa (aF46 [] [] []) [] al H fun x0 x1 x2=>some [(ok (v46 x0 x1 x2),[.sc (I4 ((val (v46 x0 x1 x2))))],[])]
theorem wv46:zq zP dOk base o54 t55 (46,sv46):=by
 intro al H q hq rs H2 h2
 obtain ⟨_,_,rfl,rfl,g⟩:=tqa_some hq
 clear hq
 change some _=_ at g
 cases g
 obtain ⟨hc0,rfl,rfl⟩:=zg h2
 exact ⟨41,(zy (by kernel_rfl)).trans ((ev46 _ _ _).trans (zm (zc hc0)))⟩
noncomputable def o56:OrcT:=(46,sv46)::o54
abbrev tn56:=zd base o56 t55
theorem ok56:OKT tn56:=zr ok55 ok55 (p:=(46,sv46)) wv46
noncomputable def tv26 {β:Type} (x0:LI) (x1:L3) (x2:LL) (x3:LI) (K:(Int×Int)→Option β):Option β:=(cond (ok (v28 x0 x1)) (cond (!val (v28 x0 x1)) (K (0,(1:Int))) (cond (ok (v44 x0 x1 x2 x3)) (cond (!val (v44 x0 x1 x2 x3)) (K (0,(1:Int))) (cond (ok (v45 x0 x1 x2 x3)) (cond (!val (v45 x0 x1 x2 x3)) (K (0,(17:Int))) (cond (ok (v46 x0 x1 x3)) (cond (decide (max 0 (wI (val (v46 x0 x1 x3) - wI ((1000000:Int)*(x1.length:Int)))) > (1000000000000:Int))) (K (0,(3:Int))) (K (max 0 (wI (val (v46 x0 x1 x3) - wI ((1000000:Int)*(x1.length:Int)))),0))) none)) none)) none)) none)
noncomputable def v26 (x0:LI) (x1:L3) (x2:LL) (x3:LI):Option (Int×Int):=tv26 x0 x1 x2 x3 some
abbrev aF26 (x0:LI) (x1:L3) (x2:LL) (x3:LI):List TA:=[.agg [kD (x0),.d 31 mT (x1)],.sc (kL x2),.sc (kD x3)]
theorem ev26 (x0:LI) (x1:L3) (x2:LL) (x3:LI):zt zP (tn56 26) (TM.evF zP (tn56) dOk 40) dOk 40 26 (aF26 x0 x1 x2 x3) []=(v26 x0 x1 x2 x3).bind fun r=>some ([.sc (I4 (r.1)),.sc (I4 (r.2))],[]):=by
 refine Eq.trans (b:=tv26 x0 x1 x2 x3 fun r=>some ([.sc (I4 (r.1)),.sc (I4 (r.2))],[])) (by kernel_rfl) ?_
 unfold v26 tv26
 with_reducible repeat' refine zp ?_ ?_
 all_goals rfl
noncomputable def sv26:OrcS:=fun al H=>tqa (aF26 [] [] [] []) [] al H fun x0 x1 x2 x3=>some [(ok (v26 x0 x1 x2 x3),[.sc (I4 ((val (v26 x0 x1 x2 x3)).1)),.sc (I4 ((val (v26 x0 x1 x2 x3)).2))],[])]
theorem wv26:zq zP dOk base o56 t55 (26,sv26):=by
 intro al H q hq rs H2 h2
 obtain ⟨_,_,rfl,rfl,g⟩:=tqa_some hq
 clear hq
 change some _=_ at g
 cases g
 obtain ⟨hc0,rfl,rfl⟩:=zg h2
 exact ⟨41,(zy (by kernel_rfl)).trans ((ev26 _ _ _ _).trans (zm (zc hc0)))⟩
noncomputable def o57:OrcT:=(26,sv26)::o56
abbrev tn57:=zd base o57 t55
theorem ok57:OKT tn57:=zr ok56 ok56 (p:=(26,sv26)) wv26
noncomputable def Laa:Nat→Int→Int→Int→LI→L3→Int→LI→L3→LL→LI→Int→LI→LI→LL→LI→Option LI
 | 0,_,_,_,_,_,_,_,_,_,_,_,_,_,_,_=>none
 | n+1,x0,x1,x2,x3,x4,x5,x6,x7,x8,x9,A,B,C,D,E=>(cond (decide (x2 < x1)) (cond (decide (0≤x2)) (cond (decide (x2 < (B.length:Int))) (cond (decide (x2.toNat < List.length B)) (Laa n x0 x1 (wI (x2+(1:Int))) x3 x4 x5 x6 x7 x8 x9 A (List.set B x2.toNat (1024:Int)) C D E) none) none) none) (some B))
theorem qLaa:type_of% @Laa.eq_2:=@Laa.eq_2
noncomputable def xLaa (x0 x1 x2:Int) (x3:LI) (x4:L3) (x5:Int) (x6:LI) (x7:L3) (x8:LL) (x9:LI) (A:Int) (B:LI) (C:LI) (D:LL) (E:LI):LI→Ex×CS:=fun r=>((.exit 0),⟨[(1,vI x0),(2,.l 2 0),(4,.l 4 0),(6,vP 0)],[(2,[kD (x3),.d 31 mT (x4)]),(4,[.g 3,.g 4,I4 (x5)])],[(bx2 x6 x7 1 2 x8 x9 A),rD (r:LI),rD (C),rL (D),rD (E)],0,false⟩)
abbrev cLaa (x0 x1 x2:Int) (x3:LI) (x4:L3) (x5:Int) (x6:LI) (x7:L3) (x8:LL) (x9:LI) (A:Int) (B:LI) (C:LI) (D:LL) (E:LI):CS:=⟨[(1,vI x0),(2,.l 2 0),(4,.l 4 0),(6,vP 0),(38,vI x1),(39,vI x2)],[(2,[kD (x3),.d 31 mT (x4)]),(4,[.g 3,.g 4,I4 (x5)])],[(bx2 x6 x7 1 2 x8 x9 A),rD (B),rD (C),rL (D),rD (E)],0,false⟩
theorem bLaa (k:Nat) (cN:KN) (cX:KX) (x0 x1 x2:Int) (x3:LI) (x4:L3) (x5:Int) (x6:LI) (x7:L3) (x8:LL) (x9:LI) (A:Int) (B:LI) (C:LI) (D:LL) (E:LI):zo zP (tn57 14) (TM.evF zP (tn57) dOk (k+40)) dOk (k+40) (za zP (tn0 14) 14 0) 0 0 (cLaa x0 x1 x2 x3 x4 x5 x6 x7 x8 x9 A B C D E) cN cX=(cond (decide (x2 < x1)) (cond (decide (0≤x2)) (cond (decide (x2 < (B.length:Int))) (cond (decide (x2.toNat < List.length B)) (cN (cLaa x0 x1 (wI (x2+(1:Int))) x3 x4 x5 x6 x7 x8 x9 A (List.set B x2.toNat (1024:Int):LI) C D E)) none) none) none) (cP cX (xLaa x0 x1 x2 x3 x4 x5 x6 x7 x8 x9 A B C D E B))):=by kernel_rfl
theorem lLaa (k m:Nat):∀ (n:Nat) (x0 x1 x2:Int) (x3:LI) (x4:L3) (x5:Int) (x6:LI) (x7:L3) (x8:LL) (x9:LI) (A:Int) (B:LI) (C:LI) (D:LL) (E:LI) (r:LI),Laa n x0 x1 x2 x3 x4 x5 x6 x7 x8 x9 A B C D E=some r→zA zP (tn57 14) (TM.evF zP (tn57) dOk (k+40)) dOk (k+40) (za zP (tn0 14) 14 0) 0 0 (n+m) (cLaa x0 x1 x2 x3 x4 x5 x6 x7 x8 x9 A B C D E)=some (xLaa x0 x1 x2 x3 x4 x5 x6 x7 x8 x9 A B C D E r):=by
 intro n
 induction n with
 | zero=>intro _ _ _ _ _ _ _ _ _ _ _ _ _ _ _ r h;cases h
 | succ n ih=>
  intro x0 x1 x2 x3 x4 x5 x6 x7 x8 x9 A B C D E r
  rw [show n+1+m=n+m+1 by omega,zk,bLaa,qLaa]
  with_reducible repeat' refine ze ?_ ?_
  all_goals first | exact ih _ _ _ _ _ _ _ _ _ _ _ _ _ _ _ r | (intro h;cases h;done) | (intro h;cases h;rfl)
noncomputable def sLaa:TellS:=fun S=>tq (mS (cLaa 0 0 0 [] [] 0 [] [] [] [] 0 [] [] [] [])) S fun x0 x1 x2 x3 x4 x5 x6 x7 x8 x9 A B C D E=>some [te (Laa FU x0 x1 x2 x3 x4 x5 x6 x7 x8 x9 A B C D E) (xLaa x0 x1 x2 x3 x4 x5 x6 x7 x8 x9 A B C D E)]
theorem wLaa:zh zP dOk base o57 t55 ((14,0),sLaa):=by
 refine ⟨.loop (za zP (tn0 14) 14 0),0,by kernel_rfl,?_⟩
 intro S alts e S' h1 h2
 obtain ⟨_,rfl,g⟩:=tq_some h1
 clear h1
 change some _=_ at g
 cases g
 obtain ⟨hc0,rfl,rfl⟩:=zf h2
 exact ⟨FU+40,(zb rfl).trans (lLaa FU 40 FU _ _ _ _ _ _ _ _ _ _ _ _ _ _ _ _ (zc hc0))⟩
noncomputable def t58:TellT:=((14,0),sLaa)::t55
abbrev tn58:=zd base o57 t58
theorem ok58:OKT tn58:=zi ok57 ok57 (p:=((14,0),sLaa)) wLaa
noncomputable def v32 (x0 x1:Int):Option Int:=(some (0))
abbrev aF32 (x0 x1:Int):List TA:=[.sc (I4 x0),.sc (I4 x1)]
theorem ev32 (x0 x1:Int):zt zP (tn58 32) (TM.evF zP (tn58) dOk 40) dOk 40 32 (aF32 x0 x1) []=(v32 x0 x1).bind fun r=>some ([.sc (I4 (r))],[]):=by
 refine Eq.trans (b:=(some ([.sc (I4 (0))],[]))) (by kernel_rfl) ?_
 unfold v32
 with_reducible repeat' refine zp ?_ ?_
 all_goals rfl
noncomputable def sv32:OrcS:=fun al H=>tqa (aF32 0 0) [] al H fun x0 x1=>some [(ok (v32 x0 x1),[.sc (I4 ((val (v32 x0 x1))))],[])]
theorem wv32:zq zP dOk base o57 t58 (32,sv32):=by
 intro al H q hq rs H2 h2
 obtain ⟨_,_,rfl,rfl,g⟩:=tqa_some hq
 clear hq
 change some _=_ at g
 cases g
 obtain ⟨hc0,rfl,rfl⟩:=zg h2
 exact ⟨41,(zy (by kernel_rfl)).trans ((ev32 _ _).trans (zm (zc hc0)))⟩
noncomputable def o59:OrcT:=(32,sv32)::o57
abbrev tn59:=zd base o59 t58
theorem ok59:OKT tn59:=zr ok58 ok58 (p:=(32,sv32)) wv32
noncomputable def Lbo:Nat→Int→L3→Int→Int→Int→Int→LI→L3→LL→LI→Int→LI→LI→LI→LL→Option LI
 | 0,_,_,_,_,_,_,_,_,_,_,_,_,_,_,_=>none
 | n+1,x0,x1,x2,x3,x4,x5,x6,x7,x8,x9,A,B,C,D,E=>(cond (decide (x5 < x4)) (cond (decide (0≤x5)) (cond (decide (x5 < (D.length:Int))) (cond (decide (x5.toNat < List.length D)) (Lbo n x0 x1 x2 x3 x4 (wI (x5+(1:Int))) x6 x7 x8 x9 A B C (List.set D x5.toNat (val (v32 x0 x5))) E) none) none) none) (some D))
theorem qLbo:type_of% @Lbo.eq_2:=@Lbo.eq_2
noncomputable def xLbo (x0:Int) (x1:L3) (x2 x3 x4 x5:Int) (x6:LI) (x7:L3) (x8:LL) (x9:LI) (A:Int) (B:LI) (C:LI) (D:LI) (E:LL):LI→Ex×CS:=fun r=>((.exit 2),⟨[(1,.v (.sc (.fn 32 0 [] []))),(5,vG 4),(8,vG 3),(14,.v (.sc (.d 31 mT x1))),(15,vI x2),(16,vI x3)],[],[(bx2 x6 x7 1 2 x8 x9 A),rD (B),rD (C),rD (r:LI),rL (E)],3,false⟩)
abbrev cLbo (x0:Int) (x1:L3) (x2 x3 x4 x5:Int) (x6:LI) (x7:L3) (x8:LL) (x9:LI) (A:Int) (B:LI) (C:LI) (D:LI) (E:LL):CS:=⟨[(1,.v (.sc (.fn 32 0 [] []))),(5,vG 4),(6,vI x0),(8,vG 3),(14,.v (.sc (.d 31 mT x1))),(15,vI x2),(16,vI x3),(25,vI x4),(26,vI x5)],[],[(bx2 x6 x7 1 2 x8 x9 A),rD (B),rD (C),rD (D),rL (E)],3,false⟩
theorem bLbo (k:Nat) (cN:KN) (cX:KX) (x0:Int) (x1:L3) (x2 x3 x4 x5:Int) (x6:LI) (x7:L3) (x8:LL) (x9:LI) (A:Int) (B:LI) (C:LI) (D:LI) (E:LL):zo zP (tn59 31) (TM.evF zP (tn59) dOk (k+40)) dOk (k+40) (za zP (tn0 31) 31 16) 2 16 (cLbo x0 x1 x2 x3 x4 x5 x6 x7 x8 x9 A B C D E) cN cX=(cond (decide (x5 < x4)) (cond (decide (0≤x5)) (cond (decide (x5 < (D.length:Int))) (cond (decide (x5.toNat < List.length D)) (cN (cLbo x0 x1 x2 x3 x4 (wI (x5+(1:Int))) x6 x7 x8 x9 A B C (List.set D x5.toNat (val (v32 x0 x5)):LI) E)) none) none) none) (cP cX (xLbo x0 x1 x2 x3 x4 x5 x6 x7 x8 x9 A B C D E D))):=by kernel_rfl
theorem lLbo (k m:Nat):∀ (n:Nat) (x0:Int) (x1:L3) (x2 x3 x4 x5:Int) (x6:LI) (x7:L3) (x8:LL) (x9:LI) (A:Int) (B:LI) (C:LI) (D:LI) (E:LL) (r:LI),Lbo n x0 x1 x2 x3 x4 x5 x6 x7 x8 x9 A B C D E=some r→zA zP (tn59 31) (TM.evF zP (tn59) dOk (k+40)) dOk (k+40) (za zP (tn0 31) 31 16) 2 16 (n+m) (cLbo x0 x1 x2 x3 x4 x5 x6 x7 x8 x9 A B C D E)=some (xLbo x0 x1 x2 x3 x4 x5 x6 x7 x8 x9 A B C D E r):=by
 intro n
 induction n with
 | zero=>intro _ _ _ _ _ _ _ _ _ _ _ _ _ _ _ r h;cases h
 | succ n ih=>
  intro x0 x1 x2 x3 x4 x5 x6 x7 x8 x9 A B C D E r
  rw [show n+1+m=n+m+1 by omega,zk,bLbo,qLbo]
  with_reducible repeat' refine ze ?_ ?_
  all_goals first | exact ih _ _ _ _ _ _ _ _ _ _ _ _ _ _ _ r | (intro h;cases h;done) | (intro h;cases h;rfl)
noncomputable def sLbo:TellS:=fun S=>tq (mS (cLbo 0 [] 0 0 0 0 [] [] [] [] 0 [] [] [] [])) S fun x0 x1 x2 x3 x4 x5 x6 x7 x8 x9 A B C D E=>some [te (Lbo FU x0 x1 x2 x3 x4 x5 x6 x7 x8 x9 A B C D E) (xLbo x0 x1 x2 x3 x4 x5 x6 x7 x8 x9 A B C D E)]
theorem wLbo:zh zP dOk base o59 t58 ((31,16),sLbo):=by
 refine ⟨.loop (za zP (tn0 31) 31 16),2,by kernel_rfl,?_⟩
 intro S alts e S' h1 h2
 obtain ⟨_,rfl,g⟩:=tq_some h1
 clear h1
 change some _=_ at g
 cases g
 obtain ⟨hc0,rfl,rfl⟩:=zf h2
 exact ⟨FU+40,(zb rfl).trans (lLbo FU 40 FU _ _ _ _ _ _ _ _ _ _ _ _ _ _ _ _ (zc hc0))⟩
noncomputable def t60:TellT:=((31,16),sLbo)::t58
abbrev tn60:=zd base o59 t60
theorem ok60:OKT tn60:=zi ok59 ok59 (p:=((31,16),sLbo)) wLbo
noncomputable def LbH:Nat→L3→Int→Int→LI→L3→LL→LI→Int→LI→LI→LL→Option LL
 | 0,_,_,_,_,_,_,_,_,_,_,_=>none
 | n+1,x0,x1,x2,x3,x4,x5,x6,x7,x8,x9,A=>(cond (decide (x2 < x1)) (cond (decide (0≤x2)) (cond (decide (x2 < (x0.length:Int))) (cond (decide ((↑(List.length (List.getD x0 x2.toNat [])):Int)≤(↑(List.length (List.getD x0 x2.toNat [])):Int))) (cond (decide ((↑(List.length (List.getD x0 x2.toNat [])):Int)≤(↑(nat_lit 2147483648):Int))) (cond (ok (Lbo FU x2 x0 x1 x2 (↑(List.length (List.replicate (↑(List.length (List.getD x0 x2.toNat [])):Int).toNat (0:Int))):Int) 0 x3 x4 x5 x6 x7 x8 x9 (List.replicate (↑(List.length (List.getD x0 x2.toNat [])):Int).toNat 0) A)) (cond (decide (List.length A+List.length [val (Lbo FU x2 x0 x1 x2 (↑(List.length (List.replicate (↑(List.length (List.getD x0 x2.toNat [])):Int).toNat (0:Int))):Int) 0 x3 x4 x5 x6 x7 x8 x9 (List.replicate (↑(List.length (List.getD x0 x2.toNat [])):Int).toNat 0) A)]≤nat_lit 2147483648)) (LbH n x0 x1 (wI (x2+(1:Int))) x3 x4 x5 x6 x7 x8 x9 (A++[val (Lbo FU x2 x0 x1 x2 (↑(List.length (List.replicate (↑(List.length (List.getD x0 x2.toNat [])):Int).toNat (0:Int))):Int) 0 x3 x4 x5 x6 x7 x8 x9 (List.replicate (↑(List.length (List.getD x0 x2.toNat [])):Int).toNat 0) A)])) none) none) none) none) none) none) (some A))
theorem qLbH:type_of% @LbH.eq_2:=@LbH.eq_2
noncomputable def xLbH (x0:L3) (x1 x2:Int) (x3:LI) (x4:L3) (x5:LL) (x6:LI) (x7:Int) (x8:LI) (x9:LI) (A:LL):LL→Ex×CS:=fun r=>((.exit 0),⟨[(5,vG 3)],[],[(bx2 x3 x4 1 2 x5 x6 x7),rD (x8),rD (x9),rL (r:LL)],3,false⟩)
abbrev cLbH (x0:L3) (x1 x2:Int) (x3:LI) (x4:L3) (x5:LL) (x6:LI) (x7:Int) (x8:LI) (x9:LI) (A:LL):CS:=⟨[(1,.v (.sc (.fn 32 0 [] []))),(5,vG 3),(14,.v (.sc (.d 31 mT x0))),(15,vI x1),(16,vI x2)],[],[(bx2 x3 x4 1 2 x5 x6 x7),rD (x8),rD (x9),rL (A)],3,false⟩
theorem bLbH (k:Nat) (cN:KN) (cX:KX) (x0:L3) (x1 x2:Int) (x3:LI) (x4:L3) (x5:LL) (x6:LI) (x7:Int) (x8:LI) (x9:LI) (A:LL):zo zP (tn60 31) (TM.evF zP (tn60) dOk (k+40)) dOk (k+40) (za zP (tn0 31) 31 0) 0 0 (cLbH x0 x1 x2 x3 x4 x5 x6 x7 x8 x9 A) cN cX=(cond (decide (x2 < x1)) (cond (decide (0≤x2)) (cond (decide (x2 < (x0.length:Int))) (cond (decide ((↑(List.length (List.getD x0 x2.toNat [])):Int)≤(↑(List.length (List.getD x0 x2.toNat [])):Int))) (cond (decide ((↑(List.length (List.getD x0 x2.toNat [])):Int)≤(↑(nat_lit 2147483648):Int))) (ob (Lbo FU x2 x0 x1 x2 (↑(List.length (List.replicate (↑(List.length (List.getD x0 x2.toNat [])):Int).toNat (0:Int))):Int) 0 x3 x4 x5 x6 x7 x8 x9 (List.replicate (↑(List.length (List.getD x0 x2.toNat [])):Int).toNat 0) A) fun r1=>(cond (decide (List.length A+List.length [r1]≤nat_lit 2147483648)) (cN (cLbH x0 x1 (wI (x2+(1:Int))) x3 x4 x5 x6 x7 x8 x9 (A++[r1]:LL))) none)) none) none) none) none) (cP cX (xLbH x0 x1 x2 x3 x4 x5 x6 x7 x8 x9 A A))):=by kernel_rfl
theorem lLbH (k m:Nat):∀ (n:Nat) (x0:L3) (x1 x2:Int) (x3:LI) (x4:L3) (x5:LL) (x6:LI) (x7:Int) (x8:LI) (x9:LI) (A:LL) (r:LL),LbH n x0 x1 x2 x3 x4 x5 x6 x7 x8 x9 A=some r→zA zP (tn60 31) (TM.evF zP (tn60) dOk (k+40)) dOk (k+40) (za zP (tn0 31) 31 0) 0 0 (n+m) (cLbH x0 x1 x2 x3 x4 x5 x6 x7 x8 x9 A)=some (xLbH x0 x1 x2 x3 x4 x5 x6 x7 x8 x9 A r):=by
 intro n
 induction n with
 | zero=>intro _ _ _ _ _ _ _ _ _ _ _ r h;cases h
 | succ n ih=>
  intro x0 x1 x2 x3 x4 x5 x6 x7 x8 x9 A r
  rw [show n+1+m=n+m+1 by omega,zk,bLbH,qLbH]
  with_reducible repeat' refine ze ?_ ?_
  all_goals first | exact ih _ _ _ _ _ _ _ _ _ _ _ r | (intro h;cases h;done) | (intro h;cases h;rfl)
noncomputable def sLbH:TellS:=fun S=>tq (mS (cLbH [] 0 0 [] [] [] [] 0 [] [] [])) S fun x0 x1 x2 x3 x4 x5 x6 x7 x8 x9 A=>some [te (LbH FU x0 x1 x2 x3 x4 x5 x6 x7 x8 x9 A) (xLbH x0 x1 x2 x3 x4 x5 x6 x7 x8 x9 A)]
theorem wLbH:zh zP dOk base o59 t60 ((31,0),sLbH):=by
 refine ⟨.loop (za zP (tn0 31) 31 0),0,by kernel_rfl,?_⟩
 intro S alts e S' h1 h2
 obtain ⟨_,rfl,g⟩:=tq_some h1
 clear h1
 change some _=_ at g
 cases g
 obtain ⟨hc0,rfl,rfl⟩:=zf h2
 exact ⟨FU+40,(zb rfl).trans (lLbH FU 40 FU _ _ _ _ _ _ _ _ _ _ _ _ (zc hc0))⟩
noncomputable def t61:TellT:=((31,0),sLbH)::t60
abbrev tn61:=zd base o59 t61
theorem ok61:OKT tn61:=zi ok60 ok60 (p:=((31,0),sLbH)) wLbH
noncomputable def tv31 {β:Type} (x0:LI) (x1:L3) (x2:LL) (x3:LI) (x4:Int) (x5:LI) (x6:LI) (K:LL→Option β):Option β:=(cond (ok (LbH FU x1 (x1.length:Int) 0 x0 x1 x2 x3 x4 x5 x6 [])) (K (val (LbH FU x1 (x1.length:Int) 0 x0 x1 x2 x3 x4 x5 x6 []))) none)
noncomputable def v31 (x0:LI) (x1:L3) (x2:LL) (x3:LI) (x4:Int) (x5:LI) (x6:LI):Option LL:=tv31 x0 x1 x2 x3 x4 x5 x6 some
abbrev aF31:List TA:=[.sc (.ptr 0 0),.sc (.fn 32 0 [] [])]
abbrev hF31 (x0:LI) (x1:L3) (x2:LL) (x3:LI) (x4:Int) (x5:LI) (x6:LI):List TO:=[(bx2 x0 x1 1 2 x2 x3 x4),rD (x5),rD (x6)]
theorem ev31 (x0:LI) (x1:L3) (x2:LL) (x3:LI) (x4:Int) (x5:LI) (x6:LI):zt zP (tn61 31) (TM.evF zP (tn61) dOk 40) dOk 40 31 aF31 (hF31 x0 x1 x2 x3 x4 x5 x6)=(v31 x0 x1 x2 x3 x4 x5 x6).bind fun r=>some ([.sc (kL (r:LL))],[(bx2 x0 x1 1 2 x2 x3 x4),rD (x5),rD (x6)]):=by
 refine Eq.trans (b:=tv31 x0 x1 x2 x3 x4 x5 x6 fun r=>some ([.sc (kL (r:LL))],[(bx2 x0 x1 1 2 x2 x3 x4),rD (x5),rD (x6)])) (by kernel_rfl) ?_
 unfold v31 tv31
 with_reducible repeat' refine zp ?_ ?_
 all_goals rfl
noncomputable def sv31:OrcS:=fun al H=>tqa aF31 (hF31 [] [] [] [] 0 [] []) al H fun x0 x1 x2 x3 x4 x5 x6=>some [(ok (v31 x0 x1 x2 x3 x4 x5 x6),[.sc (kL ((val (v31 x0 x1 x2 x3 x4 x5 x6)):LL))],[(bx2 x0 x1 1 2 x2 x3 x4),rD (x5),rD (x6)])]
theorem wv31:zq zP dOk base o59 t61 (31,sv31):=by
 intro al H q hq rs H2 h2
 obtain ⟨_,_,rfl,rfl,g⟩:=tqa_some hq
 clear hq
 change some _=_ at g
 cases g
 obtain ⟨hc0,rfl,rfl⟩:=zg h2
 exact ⟨41,(zy (by kernel_rfl)).trans ((ev31 _ _ _ _ _ _ _).trans (zm (zc hc0)))⟩
noncomputable def o62:OrcT:=(31,sv31)::o59
abbrev tn62:=zd base o62 t61
theorem ok62:OKT tn62:=zr ok61 ok61 (p:=(31,sv31)) wv31
noncomputable def tv72 {β:Type} (x0:Int) (x1:LI) (x2:L3) (x3:LL) (x4:LL) (x5:LI) (x6:Int) (x7:LI) (x8:LI) (K:Bool→Option β):Option β:=(cond (decide (0≤x0)) (cond (decide (x0 < (x1.length:Int))) (K (List.getD x1 x0.toNat 0==0)) none) none)
noncomputable def v72 (x0:Int) (x1:LI) (x2:L3) (x3:LL) (x4:LL) (x5:LI) (x6:Int) (x7:LI) (x8:LI):Option Bool:=tv72 x0 x1 x2 x3 x4 x5 x6 x7 x8 some
abbrev aF72 (x0:Int):List TA:=[.sc (I4 x0),.sc (.ptr 0 0)]
abbrev hF72 (x1:LI) (x2:L3) (x3:LL) (x4:LL) (x5:LI) (x6:Int) (x7:LI) (x8:LI):List TO:=[.box 53 [.ptr 1 0],(bx0 x1 x2 2 x3 3 x4 x5 x6),rD (x7),rD (x8)]
theorem ev72 (x0:Int) (x1:LI) (x2:L3) (x3:LL) (x4:LL) (x5:LI) (x6:Int) (x7:LI) (x8:LI):zt zP (tn62 72) (TM.evF zP (tn62) dOk 40) dOk 40 72 (aF72 x0) (hF72 x1 x2 x3 x4 x5 x6 x7 x8)=(v72 x0 x1 x2 x3 x4 x5 x6 x7 x8).bind fun r=>some ([.sc (.bool (r))],[.box 53 [.ptr 1 0],(bx0 x1 x2 2 x3 3 x4 x5 x6),rD (x7),rD (x8)]):=by
 refine Eq.trans (b:=tv72 x0 x1 x2 x3 x4 x5 x6 x7 x8 fun r=>some ([.sc (.bool (r))],[.box 53 [.ptr 1 0],(bx0 x1 x2 2 x3 3 x4 x5 x6),rD (x7),rD (x8)])) (by kernel_rfl) ?_
 unfold v72 tv72
 with_reducible repeat' refine zp ?_ ?_
 all_goals rfl
noncomputable def sv72:OrcS:=fun al H=>tqa (aF72 0) (hF72 [] [] [] [] [] 0 [] []) al H fun x0 x1 x2 x3 x4 x5 x6 x7 x8=>some [(ok (v72 x0 x1 x2 x3 x4 x5 x6 x7 x8),[.sc (.bool ((val (v72 x0 x1 x2 x3 x4 x5 x6 x7 x8))))],[.box 53 [.ptr 1 0],(bx0 x1 x2 2 x3 3 x4 x5 x6),rD (x7),rD (x8)])]
theorem wv72:zq zP dOk base o62 t61 (72,sv72):=by
 intro al H q hq rs H2 h2
 obtain ⟨_,_,rfl,rfl,g⟩:=tqa_some hq
 clear hq
 change some _=_ at g
 cases g
 obtain ⟨hc0,rfl,rfl⟩:=zg h2
 exact ⟨41,(zy (by kernel_rfl)).trans ((ev72 _ _ _ _ _ _ _ _ _).trans (zm (zc hc0)))⟩
noncomputable def o63:OrcT:=(72,sv72)::o62
abbrev tn63:=zd base o63 t61
theorem ok63:OKT tn63:=zr ok62 ok62 (p:=(72,sv72)) wv72
end
end Go.Proofs.Ytpfphfobneehmaa
