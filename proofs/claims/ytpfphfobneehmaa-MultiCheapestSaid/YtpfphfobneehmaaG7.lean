/- What some functions and loops come to: printed and checked. Written by a program of ours. -/
import Derived.Test.YtpfphfobneehmaaG6
set_option linter.all false
set_option maxRecDepth 1000000
set_option maxHeartbeats 4000000
namespace Go.Proofs.Ytpfphfobneehmaa
open Go Go.AM Go.TM Go.Proofs
noncomputable section
noncomputable def LaN:Nat→LI→Int→Int→Option (Bool ⊕ Unit)
 | 0,_,_,_=>none
 | n+1,x0,x1,x2=>(cond (decide (x2 < (x0.length:Int))) (cond (decide (0≤x2)) (cond (List.getD x0 x2.toNat 0==x1) (some (.inl (true))) (LaN n x0 x1 (wI (x2+(1:Int))))) none) (some (.inr ())))
theorem qLaN:type_of% @LaN.eq_2:=@LaN.eq_2
noncomputable def xLaN (x0:LI) (x1 x2:Int):(Bool ⊕ Unit)→Ex×CS:=fun r=>match r with | .inl a0=>(.ret,⟨[(4,.v (.sc (.bool (a0))))],[],[],0,true⟩) | .inr b0=>((.exit 0),⟨[],[],[],0,false⟩)
abbrev cLaN (x0:LI) (x1 x2:Int):CS:=⟨[(0,vD x0),(1,vI x1),(5,vI x2)],[],[],0,false⟩
theorem bLaN (k:Nat) (cN:KN) (cX:KX) (x0:LI) (x1 x2:Int):zo zP (tn173 37) (TM.evF zP (tn173) dOk (k+40)) dOk (k+40) (za zP (tn0 37) 37 0) 0 0 (cLaN x0 x1 x2) cN cX=(cond (decide (x2 < (x0.length:Int))) (cond (decide (0≤x2)) (cond (decide (x2 < (x0.length:Int))) (cond (List.getD x0 x2.toNat 0==x1) (cX .ret ⟨[(4,.v (.sc (.bool (true))))],[],[],0,true⟩) (cN (cLaN x0 x1 (wI (x2+(1:Int)))))) none) none) (cX (.exit 0) ⟨[],[],[],0,false⟩)):=by kernel_rfl
theorem lLaN (k m:Nat):∀ (n:Nat) (x0:LI) (x1 x2:Int) (r:(Bool ⊕ Unit)),LaN n x0 x1 x2=some r→zA zP (tn173 37) (TM.evF zP (tn173) dOk (k+40)) dOk (k+40) (za zP (tn0 37) 37 0) 0 0 (n+m) (cLaN x0 x1 x2)=some (xLaN x0 x1 x2 r):=by
 intro n
 induction n with
 | zero=>intro _ _ _ r h;cases h
 | succ n ih=>
  intro x0 x1 x2 r
  rw [show n+1+m=n+m+1 by omega,zk,bLaN,qLaN]
  cases (decide (x2 < (x0.length:Int))) with
  | true=>
   cases (decide (0≤x2)) with
   | true=>
    cases (List.getD x0 x2.toNat 0==x1) with
    | true=>
     intro h;cases h;rfl
    | false=>
     exact ih _ _ _ r
   | false=>
    intro h;cases h
  | false=>
   intro h;cases h;rfl
noncomputable def sLaN:TellS:=fun S=>tq (mS (cLaN [] 0 0)) S fun x0 x1 x2=>some [(isL (LaN FU x0 x1 x2),.ret,⟨[(4,.v (.sc (.bool ((zz (LaN FU x0 x1 x2))))))],[],[],0,true⟩),(ok (zn (LaN FU x0 x1 x2)),(.exit 0),⟨[],[],[],0,false⟩)]
theorem wLaN:zh zP dOk base o173 t172 ((37,0),sLaN):=by
 refine ⟨.loop (za zP (tn0 37) 37 0),0,by kernel_rfl,?_⟩
 intro S alts e S' h1 h2
 obtain ⟨_,rfl,g⟩:=tq_some h1
 clear h1
 change some _=_ at g
 cases g
 rcases zD h2 with ⟨hc0,rfl,rfl⟩ | h2
 · exact ⟨FU+40,(zb rfl).trans (lLaN FU 40 FU _ _ _ _ (zM hc0))⟩
 obtain ⟨hc1,rfl,rfl⟩:=zf h2
 exact ⟨FU+40,(zb rfl).trans (lLaN FU 40 FU _ _ _ _ (zG (zc hc1)))⟩
noncomputable def t174:TellT:=((37,0),sLaN)::t172
abbrev tn174:=zd base o173 t174
theorem ok174:OKT tn174:=zi ok173 ok173 (p:=((37,0),sLaN)) wLaN
noncomputable def tv37 {β:Type} (x0:LI) (x1:Int) (K:Bool→Option β):Option β:=(cond (isL (LaN FU x0 x1 0)) (K (zz (LaN FU x0 x1 0))) (cond (ok (zn (LaN FU x0 x1 0))) (K (false)) none))
noncomputable def v37 (x0:LI) (x1:Int):Option Bool:=tv37 x0 x1 some
abbrev aF37 (x0:LI) (x1:Int):List TA:=[.sc (kD x0),.sc (I4 x1)]
theorem ev37 (x0:LI) (x1:Int):zt zP (tn174 37) (TM.evF zP (tn174) dOk 40) dOk 40 37 (aF37 x0 x1) []=(v37 x0 x1).bind fun r=>some ([.sc (.bool (r))],[]):=by
 refine Eq.trans (b:=tv37 x0 x1 fun r=>some ([.sc (.bool (r))],[])) (by kernel_rfl) ?_
 unfold v37 tv37
 with_reducible repeat' refine zp ?_ ?_
 all_goals rfl
noncomputable def sv37:OrcS:=fun al H=>tqa (aF37 [] 0) [] al H fun x0 x1=>some [(ok (v37 x0 x1),[.sc (.bool ((val (v37 x0 x1))))],[])]
theorem wv37:zq zP dOk base o173 t174 (37,sv37):=by
 intro al H q hq rs H2 h2
 obtain ⟨_,_,rfl,rfl,g⟩:=tqa_some hq
 clear hq
 change some _=_ at g
 cases g
 obtain ⟨hc0,rfl,rfl⟩:=zg h2
 exact ⟨41,(zy (by kernel_rfl)).trans ((ev37 _ _).trans (zm (zc hc0)))⟩
noncomputable def o175:OrcT:=(37,sv37)::o173
abbrev tn175:=zd base o175 t174
theorem ok175:OKT tn175:=zr ok174 ok174 (p:=(37,sv37)) wv37
noncomputable def Lal:Nat→LL→Int→Int→Int→Int→LI→L3→Option Int
 | 0,_,_,_,_,_,_,_=>none
 | n+1,x0,x1,x2,x3,x4,x5,x6=>(cond (decide (0≤x3)) (cond (decide (x3 < (x6.length:Int))) (cond (decide (x4 < (↑(List.length (List.getD x6 x3.toNat [])):Int))) (cond (decide (0≤x4)) (cond (ok (v37 (List.getD (List.getD x6 x3.toNat []) x4.toNat []) x1)) (cond (val (v37 (List.getD (List.getD x6 x3.toNat []) x4.toNat []) x1)) (cond (decide (x3 < (x0.length:Int))) (cond (decide (x4 < (↑(List.length (List.getD x0 x3.toNat [])):Int))) (Lal n x0 x1 (wI (x2+List.getD (List.getD x0 x3.toNat []) x4.toNat 0)) x3 (wI (x4+(1:Int))) x5 x6) none) none) (Lal n x0 x1 x2 x3 (wI (x4+(1:Int))) x5 x6)) none) none) (some x2)) none) none)
theorem qLal:type_of% @Lal.eq_2:=@Lal.eq_2
noncomputable def xLal (x0:LL) (x1 x2 x3 x4:Int) (x5:LI) (x6:L3):Int→Ex×CS:=fun r=>((.exit 2),⟨[(1,vL x0),(2,vI x1),(3,.l 3 0),(7,vI (r)),(8,vI x3),(18,.l 3 1)],[(3,[kD (x5),.d 31 mT (x6)])],[],0,false⟩)
abbrev cLal (x0:LL) (x1 x2 x3 x4:Int) (x5:LI) (x6:L3):CS:=⟨[(1,vL x0),(2,vI x1),(3,.l 3 0),(7,vI x2),(8,vI x3),(9,vI x4)],[(3,[kD (x5),.d 31 mT (x6)])],[],0,false⟩
theorem bLal (k:Nat) (cN:KN) (cX:KX) (x0:LL) (x1 x2 x3 x4:Int) (x5:LI) (x6:L3):zo zP (tn175 39) (TM.evF zP (tn175) dOk (k+40)) dOk (k+40) (za zP (tn0 39) 39 16) 2 16 (cLal x0 x1 x2 x3 x4 x5 x6) cN cX=(cond (decide (0≤x3)) (cond (decide (x3 < (x6.length:Int))) (cond (decide (x4 < (↑(List.length (List.getD x6 x3.toNat [])):Int))) (cond (decide (0≤x3)) (cond (decide (x3 < (x6.length:Int))) (cond (decide (0≤x4)) (cond (decide (x4 < (↑(List.length (List.getD x6 x3.toNat [])):Int))) (cond (ok (v37 (List.getD (List.getD x6 x3.toNat []) x4.toNat []) x1)) (cond (val (v37 (List.getD (List.getD x6 x3.toNat []) x4.toNat []) x1)) (cond (decide (0≤x3)) (cond (decide (x3 < (x0.length:Int))) (cond (decide (0≤x4)) (cond (decide (x4 < (↑(List.length (List.getD x0 x3.toNat [])):Int))) (cN (cLal x0 x1 (wI (x2+List.getD (List.getD x0 x3.toNat []) x4.toNat 0)) x3 (wI (x4+(1:Int))) x5 x6)) none) none) none) none) (cN (cLal x0 x1 x2 x3 (wI (x4+(1:Int))) x5 x6))) none) none) none) none) none) (cP cX (xLal x0 x1 x2 x3 x4 x5 x6 x2))) none) none):=by kernel_rfl
theorem lLal (k m:Nat):∀ (n:Nat) (x0:LL) (x1 x2 x3 x4:Int) (x5:LI) (x6:L3) (r:Int),Lal n x0 x1 x2 x3 x4 x5 x6=some r→zA zP (tn175 39) (TM.evF zP (tn175) dOk (k+40)) dOk (k+40) (za zP (tn0 39) 39 16) 2 16 (n+m) (cLal x0 x1 x2 x3 x4 x5 x6)=some (xLal x0 x1 x2 x3 x4 x5 x6 r):=by
 intro n
 induction n with
 | zero=>intro _ _ _ _ _ _ _ r h;cases h
 | succ n ih=>
  intro x0 x1 x2 x3 x4 x5 x6 r
  rw [show n+1+m=n+m+1 by omega,zk,bLal,qLal]
  cases (decide (0≤x3)) with
  | true=>
   cases (decide (x3 < (x6.length:Int))) with
   | true=>
    cases (decide (x4 < (↑(List.length (List.getD x6 x3.toNat [])):Int))) with
    | true=>
     cases (decide (0≤x4)) with
     | true=>
      cases (ok (v37 (List.getD (List.getD x6 x3.toNat []) x4.toNat []) x1)) with
      | true=>
       cases (val (v37 (List.getD (List.getD x6 x3.toNat []) x4.toNat []) x1)) with
       | true=>
        cases (decide (x3 < (x0.length:Int))) with
        | true=>
         cases (decide (x4 < (↑(List.length (List.getD x0 x3.toNat [])):Int))) with
         | true=>
          exact ih _ _ _ _ _ _ _ r
         | false=>
          intro h;cases h
        | false=>
         intro h;cases h
       | false=>
        exact ih _ _ _ _ _ _ _ r
      | false=>
       intro h;cases h
     | false=>
      intro h;cases h
    | false=>
     intro h;cases h;rfl
   | false=>
    intro h;cases h
  | false=>
   intro h;cases h
noncomputable def sLal:TellS:=fun S=>tq (mS (cLal [] 0 0 0 0 [] [])) S fun x0 x1 x2 x3 x4 x5 x6=>some [te (Lal FU x0 x1 x2 x3 x4 x5 x6) (xLal x0 x1 x2 x3 x4 x5 x6)]
theorem wLal:zh zP dOk base o175 t174 ((39,16),sLal):=by
 refine ⟨.loop (za zP (tn0 39) 39 16),2,by kernel_rfl,?_⟩
 intro S alts e S' h1 h2
 obtain ⟨_,rfl,g⟩:=tq_some h1
 clear h1
 change some _=_ at g
 cases g
 obtain ⟨hc0,rfl,rfl⟩:=zf h2
 exact ⟨FU+40,(zb rfl).trans (lLal FU 40 FU _ _ _ _ _ _ _ _ (zc hc0))⟩
noncomputable def t176:TellT:=((39,16),sLal)::t174
abbrev tn176:=zd base o175 t176
theorem ok176:OKT tn176:=zi ok175 ok175 (p:=((39,16),sLal)) wLal
noncomputable def Laq:Nat→LL→Int→Int→Int→LI→L3→Option Int
 | 0,_,_,_,_,_,_=>none
 | n+1,x0,x1,x2,x3,x4,x5=>(cond (decide (x3 < (x5.length:Int))) (cond (ok (Lal FU x0 x1 x2 x3 0 x4 x5)) (Laq n x0 x1 (val (Lal FU x0 x1 x2 x3 0 x4 x5)) (wI (x3+(1:Int))) x4 x5) none) (some x2))
theorem qLaq:type_of% @Laq.eq_2:=@Laq.eq_2
noncomputable def xLaq (x0:LL) (x1 x2 x3:Int) (x4:LI) (x5:L3):Int→Ex×CS:=fun r=>((.exit 0),⟨[(3,.l 3 0),(7,vI (r)),(11,.l 3 1)],[],[],0,false⟩)
abbrev cLaq (x0:LL) (x1 x2 x3:Int) (x4:LI) (x5:L3):CS:=⟨[(1,vL x0),(2,vI x1),(3,.l 3 0),(7,vI x2),(8,vI x3)],[(3,[kD (x4),.d 31 mT (x5)])],[],0,false⟩
theorem bLaq (k:Nat) (cN:KN) (cX:KX) (x0:LL) (x1 x2 x3:Int) (x4:LI) (x5:L3):zo zP (tn176 39) (TM.evF zP (tn176) dOk (k+40)) dOk (k+40) (za zP (tn0 39) 39 0) 0 0 (cLaq x0 x1 x2 x3 x4 x5) cN cX=(cond (decide (x3 < (x5.length:Int))) (cond (ok (Lal FU x0 x1 x2 x3 0 x4 x5)) (cN (cLaq x0 x1 (val (Lal FU x0 x1 x2 x3 0 x4 x5)) (wI (x3+(1:Int))) x4 x5)) none) (cP cX (xLaq x0 x1 x2 x3 x4 x5 x2))):=by kernel_rfl
theorem lLaq (k m:Nat):∀ (n:Nat) (x0:LL) (x1 x2 x3:Int) (x4:LI) (x5:L3) (r:Int),Laq n x0 x1 x2 x3 x4 x5=some r→zA zP (tn176 39) (TM.evF zP (tn176) dOk (k+40)) dOk (k+40) (za zP (tn0 39) 39 0) 0 0 (n+m) (cLaq x0 x1 x2 x3 x4 x5)=some (xLaq x0 x1 x2 x3 x4 x5 r):=by
 intro n
 induction n with
 | zero=>intro _ _ _ _ _ _ r h;cases h
 | succ n ih=>
  intro x0 x1 x2 x3 x4 x5 r
  rw [show n+1+m=n+m+1 by omega,zk,bLaq,qLaq]
  with_reducible repeat' refine ze ?_ ?_
  all_goals first | exact ih _ _ _ _ _ _ r | (intro h;cases h;done) | (intro h;cases h;rfl)
noncomputable def sLaq:TellS:=fun S=>tq (mS (cLaq [] 0 0 0 [] [])) S fun x0 x1 x2 x3 x4 x5=>some [te (Laq FU x0 x1 x2 x3 x4 x5) (xLaq x0 x1 x2 x3 x4 x5)]
theorem wLaq:zh zP dOk base o175 t176 ((39,0),sLaq):=by
 refine ⟨.loop (za zP (tn0 39) 39 0),0,by kernel_rfl,?_⟩
 intro S alts e S' h1 h2
 obtain ⟨_,rfl,g⟩:=tq_some h1
 clear h1
 change some _=_ at g
 cases g
 obtain ⟨hc0,rfl,rfl⟩:=zf h2
 exact ⟨FU+40,(zb rfl).trans (lLaq FU 40 FU _ _ _ _ _ _ _ (zc hc0))⟩
noncomputable def t177:TellT:=((39,0),sLaq)::t176
abbrev tn177:=zd base o175 t177
theorem ok177:OKT tn177:=zi ok176 ok176 (p:=((39,0),sLaq)) wLaq
noncomputable def v39 (x0:LI) (x1:L3) (x2:LL) (x3:Int):Option Int:=(cond (ok (Laq FU x2 x3 0 0 x0 x1)) (some (val (Laq FU x2 x3 0 0 x0 x1))) none)
abbrev aF39 (x0:LI) (x1:L3) (x2:LL) (x3:Int):List TA:=[.agg [kD (x0),.d 31 mT (x1)],.sc (kL x2),.sc (I4 x3)]
theorem ev39 (x0:LI) (x1:L3) (x2:LL) (x3:Int):zt zP (tn177 39) (TM.evF zP (tn177) dOk 40) dOk 40 39 (aF39 x0 x1 x2 x3) []=(v39 x0 x1 x2 x3).bind fun r=>some ([.sc (I4 (r))],[]):=by
 refine Eq.trans (b:=(cond (ok (Laq FU x2 x3 0 0 x0 x1)) (some ([.sc (I4 (val (Laq FU x2 x3 0 0 x0 x1)))],[])) none)) (by kernel_rfl) ?_
 unfold v39
 with_reducible repeat' refine zp ?_ ?_
 all_goals rfl
noncomputable def sv39:OrcS:=fun al H=>tqa (aF39 [] [] [] 0) [] al H fun x0 x1 x2 x3=>some [(ok (v39 x0 x1 x2 x3),[.sc (I4 ((val (v39 x0 x1 x2 x3))))],[])]
theorem wv39:zq zP dOk base o175 t177 (39,sv39):=by
 intro al H q hq rs H2 h2
 obtain ⟨_,_,rfl,rfl,g⟩:=tqa_some hq
 clear hq
 change some _=_ at g
 cases g
 obtain ⟨hc0,rfl,rfl⟩:=zg h2
 exact ⟨41,(zy (by kernel_rfl)).trans ((ev39 _ _ _ _).trans (zm (zc hc0)))⟩
noncomputable def o178:OrcT:=(39,sv39)::o175
abbrev tn178:=zd base o178 t177
theorem ok178:OKT tn178:=zr ok177 ok177 (p:=(39,sv39)) wv39
noncomputable def LaD:Nat→LL→Int→LI→L3→Option (Bool ⊕ Unit)
 | 0,_,_,_,_=>none
 | n+1,x0,x1,x2,x3=>(cond (decide (x1 < (x2.length:Int))) (cond (ok (v39 x2 x3 x0 x1)) (cond (decide (0≤x1)) (cond (decide (val (v39 x2 x3 x0 x1) > wI ((1000000:Int)*List.getD x2 x1.toNat 0))) (some (.inl (false))) (LaD n x0 (wI (x1+(1:Int))) x2 x3)) none) none) (some (.inr ())))
theorem qLaD:type_of% @LaD.eq_2:=@LaD.eq_2
noncomputable def xLaD (x0:LL) (x1:Int) (x2:LI) (x3:L3):(Bool ⊕ Unit)→Ex×CS:=fun r=>match r with | .inl a0=>(.ret,⟨[(4,.v (.sc (.bool (a0))))],[],[],0,true⟩) | .inr b0=>((.exit 0),⟨[(2,.l 2 0),(7,.l 2 0)],[],[],0,false⟩)
abbrev cLaD (x0:LL) (x1:Int) (x2:LI) (x3:L3):CS:=⟨[(1,vL x0),(2,.l 2 0),(5,vI x1)],[(2,[kD (x2),.d 31 mT (x3)])],[],0,false⟩
theorem bLaD (k:Nat) (cN:KN) (cX:KX) (x0:LL) (x1:Int) (x2:LI) (x3:L3):zo zP (tn178 20) (TM.evF zP (tn178) dOk (k+40)) dOk (k+40) (za zP (tn0 20) 20 0) 0 0 (cLaD x0 x1 x2 x3) cN cX=(cond (decide (x1 < (x2.length:Int))) (cond (ok (v39 x2 x3 x0 x1)) (cond (decide (0≤x1)) (cond (decide (x1 < (x2.length:Int))) (cond (decide (val (v39 x2 x3 x0 x1) > wI ((1000000:Int)*List.getD x2 x1.toNat 0))) (cX .ret ⟨[(4,.v (.sc (.bool (false))))],[],[],0,true⟩) (cN (cLaD x0 (wI (x1+(1:Int))) x2 x3))) none) none) none) (cX (.exit 0) ⟨[(2,.l 2 0),(7,.l 2 0)],[],[],0,false⟩)):=by kernel_rfl
theorem lLaD (k m:Nat):∀ (n:Nat) (x0:LL) (x1:Int) (x2:LI) (x3:L3) (r:(Bool ⊕ Unit)),LaD n x0 x1 x2 x3=some r→zA zP (tn178 20) (TM.evF zP (tn178) dOk (k+40)) dOk (k+40) (za zP (tn0 20) 20 0) 0 0 (n+m) (cLaD x0 x1 x2 x3)=some (xLaD x0 x1 x2 x3 r):=by
 intro n
 induction n with
 | zero=>intro _ _ _ _ r h;cases h
 | succ n ih=>
  intro x0 x1 x2 x3 r
  rw [show n+1+m=n+m+1 by omega,zk,bLaD,qLaD]
  cases (decide (x1 < (x2.length:Int))) with
  | true=>
   cases (ok (v39 x2 x3 x0 x1)) with
   | true=>
    cases (decide (0≤x1)) with
    | true=>
     cases (decide (val (v39 x2 x3 x0 x1) > wI ((1000000:Int)*List.getD x2 x1.toNat 0))) with
     | true=>
      intro h;cases h;rfl
     | false=>
      exact ih _ _ _ _ r
    | false=>
     intro h;cases h
   | false=>
    intro h;cases h
  | false=>
   intro h;cases h;rfl
noncomputable def sLaD:TellS:=fun S=>tq (mS (cLaD [] 0 [] [])) S fun x0 x1 x2 x3=>some [(isL (LaD FU x0 x1 x2 x3),.ret,⟨[(4,.v (.sc (.bool ((zz (LaD FU x0 x1 x2 x3))))))],[],[],0,true⟩),(ok (zn (LaD FU x0 x1 x2 x3)),(.exit 0),⟨[(2,.l 2 0),(7,.l 2 0)],[],[],0,false⟩)]
theorem wLaD:zh zP dOk base o178 t177 ((20,0),sLaD):=by
 refine ⟨.loop (za zP (tn0 20) 20 0),0,by kernel_rfl,?_⟩
 intro S alts e S' h1 h2
 obtain ⟨_,rfl,g⟩:=tq_some h1
 clear h1
 change some _=_ at g
 cases g
 rcases zD h2 with ⟨hc0,rfl,rfl⟩ | h2
 · exact ⟨FU+40,(zb rfl).trans (lLaD FU 40 FU _ _ _ _ _ (zM hc0))⟩
 obtain ⟨hc1,rfl,rfl⟩:=zf h2
 exact ⟨FU+40,(zb rfl).trans (lLaD FU 40 FU _ _ _ _ _ (zG (zc hc1)))⟩
noncomputable def t179:TellT:=((20,0),sLaD)::t177
abbrev tn179:=zd base o178 t179
theorem ok179:OKT tn179:=zi ok178 ok178 (p:=((20,0),sLaD)) wLaD
noncomputable def tv20 {β:Type} (x0:LI) (x1:L3) (x2:LL) (K:Bool→Option β):Option β:=(cond (isL (LaD FU x2 0 x0 x1)) (K (zz (LaD FU x2 0 x0 x1))) (cond (ok (zn (LaD FU x2 0 x0 x1))) (K (true)) none))
noncomputable def v20 (x0:LI) (x1:L3) (x2:LL):Option Bool:=tv20 x0 x1 x2 some
abbrev aF20 (x0:LI) (x1:L3) (x2:LL):List TA:=[.agg [kD (x0),.d 31 mT (x1)],.sc (kL x2)]
theorem ev20 (x0:LI) (x1:L3) (x2:LL):zt zP (tn179 20) (TM.evF zP (tn179) dOk 40) dOk 40 20 (aF20 x0 x1 x2) []=(v20 x0 x1 x2).bind fun r=>some ([.sc (.bool (r))],[]):=by
 refine Eq.trans (b:=tv20 x0 x1 x2 fun r=>some ([.sc (.bool (r))],[])) (by kernel_rfl) ?_
 unfold v20 tv20
 with_reducible repeat' refine zp ?_ ?_
 all_goals rfl
noncomputable def sv20:OrcS:=fun al H=>tqa (aF20 [] [] []) [] al H fun x0 x1 x2=>some [(ok (v20 x0 x1 x2),[.sc (.bool ((val (v20 x0 x1 x2))))],[])]
theorem wv20:zq zP dOk base o178 t179 (20,sv20):=by
 intro al H q hq rs H2 h2
 obtain ⟨_,_,rfl,rfl,g⟩:=tqa_some hq
 clear hq
 change some _=_ at g
 cases g
 obtain ⟨hc0,rfl,rfl⟩:=zg h2
 exact ⟨41,(zy (by kernel_rfl)).trans ((ev20 _ _ _).trans (zm (zc hc0)))⟩
noncomputable def o180:OrcT:=(20,sv20)::o178
abbrev tn180:=zd base o180 t179
theorem ok180:OKT tn180:=zr ok179 ok179 (p:=(20,sv20)) wv20
noncomputable def Lap:Nat→LI→Int→Int→Option Int
 | 0,_,_,_=>none
 | n+1,x0,x1,x2=>(cond (decide (x2 < (x0.length:Int))) (cond (decide (0≤x2)) (Lap n x0 (wI (x1+List.getD x0 x2.toNat 0)) (wI (x2+(1:Int)))) none) (some x1))
theorem qLap:type_of% @Lap.eq_2:=@Lap.eq_2
noncomputable def xLap (x0:LI) (x1 x2:Int):Int→Ex×CS:=fun r=>((.exit 0),⟨[(3,vI (r))],[],[],0,false⟩)
abbrev cLap (x0:LI) (x1 x2:Int):CS:=⟨[(0,vD x0),(3,vI x1),(4,vI x2)],[],[],0,false⟩
theorem bLap (k:Nat) (cN:KN) (cX:KX) (x0:LI) (x1 x2:Int):zo zP (tn180 21) (TM.evF zP (tn180) dOk (k+40)) dOk (k+40) (za zP (tn0 21) 21 0) 0 0 (cLap x0 x1 x2) cN cX=(cond (decide (x2 < (x0.length:Int))) (cond (decide (0≤x2)) (cond (decide (x2 < (x0.length:Int))) (cN (cLap x0 (wI (x1+List.getD x0 x2.toNat 0)) (wI (x2+(1:Int))))) none) none) (cP cX (xLap x0 x1 x2 x1))):=by kernel_rfl
theorem lLap (k m:Nat):∀ (n:Nat) (x0:LI) (x1 x2:Int) (r:Int),Lap n x0 x1 x2=some r→zA zP (tn180 21) (TM.evF zP (tn180) dOk (k+40)) dOk (k+40) (za zP (tn0 21) 21 0) 0 0 (n+m) (cLap x0 x1 x2)=some (xLap x0 x1 x2 r):=by
 intro n
 induction n with
 | zero=>intro _ _ _ r h;cases h
 | succ n ih=>
  intro x0 x1 x2 r
  rw [show n+1+m=n+m+1 by omega,zk,bLap,qLap]
  cases (decide (x2 < (x0.length:Int))) with
  | true=>
   cases (decide (0≤x2)) with
   | true=>
    exact ih _ _ _ r
   | false=>
    intro h;cases h
  | false=>
   intro h;cases h;rfl
noncomputable def sLap:TellS:=fun S=>tq (mS (cLap [] 0 0)) S fun x0 x1 x2=>some [te (Lap FU x0 x1 x2) (xLap x0 x1 x2)]
theorem wLap:zh zP dOk base o180 t179 ((21,0),sLap):=by
 refine ⟨.loop (za zP (tn0 21) 21 0),0,by kernel_rfl,?_⟩
 intro S alts e S' h1 h2
 obtain ⟨_,rfl,g⟩:=tq_some h1
 clear h1
 change some _=_ at g
 cases g
 obtain ⟨hc0,rfl,rfl⟩:=zf h2
 exact ⟨FU+40,(zb rfl).trans (lLap FU 40 FU _ _ _ _ (zc hc0))⟩
noncomputable def t181:TellT:=((21,0),sLap)::t179
abbrev tn181:=zd base o180 t181
theorem ok181:OKT tn181:=zi ok180 ok180 (p:=((21,0),sLap)) wLap
noncomputable def v21 (x0:LI):Option Int:=(cond (ok (Lap FU x0 0 0)) (some (val (Lap FU x0 0 0))) none)
abbrev aF21 (x0:LI):List TA:=[.sc (kD x0)]
theorem ev21 (x0:LI):zt zP (tn181 21) (TM.evF zP (tn181) dOk 40) dOk 40 21 (aF21 x0) []=(v21 x0).bind fun r=>some ([.sc (I4 (r))],[]):=by
 refine Eq.trans (b:=(cond (ok (Lap FU x0 0 0)) (some ([.sc (I4 (val (Lap FU x0 0 0)))],[])) none)) (by kernel_rfl) ?_
 unfold v21
 with_reducible repeat' refine zp ?_ ?_
 all_goals rfl
noncomputable def sv21:OrcS:=fun al H=>tqa (aF21 []) [] al H fun x0=>some [(ok (v21 x0),[.sc (I4 ((val (v21 x0))))],[])]
theorem wv21:zq zP dOk base o180 t181 (21,sv21):=by
 intro al H q hq rs H2 h2
 obtain ⟨_,_,rfl,rfl,g⟩:=tqa_some hq
 clear hq
 change some _=_ at g
 cases g
 obtain ⟨hc0,rfl,rfl⟩:=zg h2
 exact ⟨41,(zy (by kernel_rfl)).trans ((ev21 _).trans (zm (zc hc0)))⟩
noncomputable def o182:OrcT:=(21,sv21)::o180
abbrev tn182:=zd base o182 t181
theorem ok182:OKT tn182:=zr ok181 ok181 (p:=(21,sv21)) wv21
noncomputable def Lan:Nat→LI→LI→Int→Int→Option Int
 | 0,_,_,_,_=>none
 | n+1,x0,x1,x2,x3=>(cond (decide (x3 < (x0.length:Int))) (cond (decide (0≤x3)) (cond (decide (0≤List.getD x0 x3.toNat 0)) (cond (decide (List.getD x0 x3.toNat 0 < (x1.length:Int))) (Lan n x0 x1 (wI (x2+List.getD x1 (List.getD x0 x3.toNat 0).toNat 0)) (wI (x3+(1:Int)))) none) none) none) (some x2))
theorem qLan:type_of% @Lan.eq_2:=@Lan.eq_2
noncomputable def xLan (x0:LI) (x1:LI) (x2 x3:Int):Int→Ex×CS:=fun r=>((.exit 0),⟨[(5,vI (r))],[],[],0,false⟩)
abbrev cLan (x0:LI) (x1:LI) (x2 x3:Int):CS:=⟨[(0,vD x0),(1,vD x1),(5,vI x2),(6,vI x3)],[],[],0,false⟩
theorem bLan (k:Nat) (cN:KN) (cX:KX) (x0:LI) (x1:LI) (x2 x3:Int):zo zP (tn182 23) (TM.evF zP (tn182) dOk (k+40)) dOk (k+40) (za zP (tn0 23) 23 0) 0 0 (cLan x0 x1 x2 x3) cN cX=(cond (decide (x3 < (x0.length:Int))) (cond (decide (0≤x3)) (cond (decide (x3 < (x0.length:Int))) (cond (decide (0≤List.getD x0 x3.toNat 0)) (cond (decide (List.getD x0 x3.toNat 0 < (x1.length:Int))) (cN (cLan x0 x1 (wI (x2+List.getD x1 (List.getD x0 x3.toNat 0).toNat 0)) (wI (x3+(1:Int))))) none) none) none) none) (cP cX (xLan x0 x1 x2 x3 x2))):=by kernel_rfl
theorem lLan (k m:Nat):∀ (n:Nat) (x0:LI) (x1:LI) (x2 x3:Int) (r:Int),Lan n x0 x1 x2 x3=some r→zA zP (tn182 23) (TM.evF zP (tn182) dOk (k+40)) dOk (k+40) (za zP (tn0 23) 23 0) 0 0 (n+m) (cLan x0 x1 x2 x3)=some (xLan x0 x1 x2 x3 r):=by
 intro n
 induction n with
 | zero=>intro _ _ _ _ r h;cases h
 | succ n ih=>
  intro x0 x1 x2 x3 r
  rw [show n+1+m=n+m+1 by omega,zk,bLan,qLan]
  cases (decide (x3 < (x0.length:Int))) with
  | true=>
   cases (decide (0≤x3)) with
   | true=>
    cases (decide (0≤List.getD x0 x3.toNat 0)) with
    | true=>
     cases (decide (List.getD x0 x3.toNat 0 < (x1.length:Int))) with
     | true=>
      exact ih _ _ _ _ r
     | false=>
      intro h;cases h
    | false=>
     intro h;cases h
   | false=>
    intro h;cases h
  | false=>
   intro h;cases h;rfl
noncomputable def sLan:TellS:=fun S=>tq (mS (cLan [] [] 0 0)) S fun x0 x1 x2 x3=>some [te (Lan FU x0 x1 x2 x3) (xLan x0 x1 x2 x3)]
theorem wLan:zh zP dOk base o182 t181 ((23,0),sLan):=by
 refine ⟨.loop (za zP (tn0 23) 23 0),0,by kernel_rfl,?_⟩
 intro S alts e S' h1 h2
 obtain ⟨_,rfl,g⟩:=tq_some h1
 clear h1
 change some _=_ at g
 cases g
 obtain ⟨hc0,rfl,rfl⟩:=zf h2
 exact ⟨FU+40,(zb rfl).trans (lLan FU 40 FU _ _ _ _ _ (zc hc0))⟩
noncomputable def t183:TellT:=((23,0),sLan)::t181
abbrev tn183:=zd base o182 t183
theorem ok183:OKT tn183:=zi ok182 ok182 (p:=((23,0),sLan)) wLan
noncomputable def v23 (x0:LI) (x1:LI):Option Int:=(cond (ok (Lan FU x0 x1 0 0)) (some (val (Lan FU x0 x1 0 0))) none)
abbrev aF23 (x0:LI) (x1:LI):List TA:=[.sc (kD x0),.sc (kD x1)]
theorem ev23 (x0:LI) (x1:LI):zt zP (tn183 23) (TM.evF zP (tn183) dOk 40) dOk 40 23 (aF23 x0 x1) []=(v23 x0 x1).bind fun r=>some ([.sc (I4 (r))],[]):=by
 refine Eq.trans (b:=(cond (ok (Lan FU x0 x1 0 0)) (some ([.sc (I4 (val (Lan FU x0 x1 0 0)))],[])) none)) (by kernel_rfl) ?_
 unfold v23
 with_reducible repeat' refine zp ?_ ?_
 all_goals rfl
noncomputable def sv23:OrcS:=fun al H=>tqa (aF23 [] []) [] al H fun x0 x1=>some [(ok (v23 x0 x1),[.sc (I4 ((val (v23 x0 x1))))],[])]
theorem wv23:zq zP dOk base o182 t183 (23,sv23):=by
 intro al H q hq rs H2 h2
 obtain ⟨_,_,rfl,rfl,g⟩:=tqa_some hq
 clear hq
 change some _=_ at g
 cases g
 obtain ⟨hc0,rfl,rfl⟩:=zg h2
 exact ⟨41,(zy (by kernel_rfl)).trans ((ev23 _ _).trans (zm (zc hc0)))⟩
noncomputable def o184:OrcT:=(23,sv23)::o182
abbrev tn184:=zd base o184 t183
theorem ok184:OKT tn184:=zr ok183 ok183 (p:=(23,sv23)) wv23
noncomputable def Laj:Nat→LL→LI→Int→Int→Int→LI→L3→Option (Bool ⊕ Unit)
 | 0,_,_,_,_,_,_,_=>none
 | n+1,x0,x1,x2,x3,x4,x5,x6=>(cond (decide (0≤x2)) (cond (decide (x2 < (x6.length:Int))) (cond (decide (x4 < (↑(List.length (List.getD x6 x2.toNat [])):Int))) (cond (decide (0≤x4)) (cond (ok (v23 (List.getD (List.getD x6 x2.toNat []) x4.toNat []) x1)) (cond (decide (val (v23 (List.getD (List.getD x6 x2.toNat []) x4.toNat []) x1) < x3)) (some (.inl (false))) (Laj n x0 x1 x2 x3 (wI (x4+(1:Int))) x5 x6)) none) none) (some (.inr ()))) none) none)
theorem qLaj:type_of% @Laj.eq_2:=@Laj.eq_2
noncomputable def xLaj (x0:LL) (x1:LI) (x2 x3 x4:Int) (x5:LI) (x6:L3):(Bool ⊕ Unit)→Ex×CS:=fun r=>match r with | .inl a0=>(.ret,⟨[(6,.v (.sc (.bool (a0))))],[],[],0,true⟩) | .inr b0=>((.exit 2),⟨[(1,vL x0),(2,vD x1),(3,.l 3 0),(7,vI x2),(35,.l 3 1)],[(3,[kD (x5),.d 31 mT (x6)])],[],0,false⟩)
abbrev cLaj (x0:LL) (x1:LI) (x2 x3 x4:Int) (x5:LI) (x6:L3):CS:=⟨[(1,vL x0),(2,vD x1),(3,.l 3 0),(7,vI x2),(9,vI x3),(10,vI x4)],[(3,[kD (x5),.d 31 mT (x6)])],[],0,false⟩
theorem bLaj (k:Nat) (cN:KN) (cX:KX) (x0:LL) (x1:LI) (x2 x3 x4:Int) (x5:LI) (x6:L3):zo zP (tn184 40) (TM.evF zP (tn184) dOk (k+40)) dOk (k+40) (za zP (tn0 40) 40 16) 2 16 (cLaj x0 x1 x2 x3 x4 x5 x6) cN cX=(cond (decide (0≤x2)) (cond (decide (x2 < (x6.length:Int))) (cond (decide (x4 < (↑(List.length (List.getD x6 x2.toNat [])):Int))) (cond (decide (0≤x2)) (cond (decide (x2 < (x6.length:Int))) (cond (decide (0≤x4)) (cond (decide (x4 < (↑(List.length (List.getD x6 x2.toNat [])):Int))) (cond (ok (v23 (List.getD (List.getD x6 x2.toNat []) x4.toNat []) x1)) (cond (decide (val (v23 (List.getD (List.getD x6 x2.toNat []) x4.toNat []) x1) < x3)) (cX .ret ⟨[(6,.v (.sc (.bool (false))))],[],[],0,true⟩) (cN (cLaj x0 x1 x2 x3 (wI (x4+(1:Int))) x5 x6))) none) none) none) none) none) (cX (.exit 2) ⟨[(1,vL x0),(2,vD x1),(3,.l 3 0),(7,vI x2),(35,.l 3 1)],[(3,[kD (x5),.d 31 mT (x6)])],[],0,false⟩)) none) none):=by kernel_rfl
theorem lLaj (k m:Nat):∀ (n:Nat) (x0:LL) (x1:LI) (x2 x3 x4:Int) (x5:LI) (x6:L3) (r:(Bool ⊕ Unit)),Laj n x0 x1 x2 x3 x4 x5 x6=some r→zA zP (tn184 40) (TM.evF zP (tn184) dOk (k+40)) dOk (k+40) (za zP (tn0 40) 40 16) 2 16 (n+m) (cLaj x0 x1 x2 x3 x4 x5 x6)=some (xLaj x0 x1 x2 x3 x4 x5 x6 r):=by
 intro n
 induction n with
 | zero=>intro _ _ _ _ _ _ _ r h;cases h
 | succ n ih=>
  intro x0 x1 x2 x3 x4 x5 x6 r
  rw [show n+1+m=n+m+1 by omega,zk,bLaj,qLaj]
  cases (decide (0≤x2)) with
  | true=>
   cases (decide (x2 < (x6.length:Int))) with
   | true=>
    cases (decide (x4 < (↑(List.length (List.getD x6 x2.toNat [])):Int))) with
    | true=>
     cases (decide (0≤x4)) with
     | true=>
      cases (ok (v23 (List.getD (List.getD x6 x2.toNat []) x4.toNat []) x1)) with
      | true=>
       cases (decide (val (v23 (List.getD (List.getD x6 x2.toNat []) x4.toNat []) x1) < x3)) with
       | true=>
        intro h;cases h;rfl
       | false=>
        exact ih _ _ _ _ _ _ _ r
      | false=>
       intro h;cases h
     | false=>
      intro h;cases h
    | false=>
     intro h;cases h;rfl
   | false=>
    intro h;cases h
  | false=>
   intro h;cases h
noncomputable def sLaj:TellS:=fun S=>tq (mS (cLaj [] [] 0 0 0 [] [])) S fun x0 x1 x2 x3 x4 x5 x6=>some [(isL (Laj FU x0 x1 x2 x3 x4 x5 x6),.ret,⟨[(6,.v (.sc (.bool ((zz (Laj FU x0 x1 x2 x3 x4 x5 x6))))))],[],[],0,true⟩),(ok (zn (Laj FU x0 x1 x2 x3 x4 x5 x6)),(.exit 2),⟨[(1,vL x0),(2,vD x1),(3,.l 3 0),(7,vI x2),(35,.l 3 1)],[(3,[kD (x5),.d 31 mT (x6)])],[],0,false⟩)]
theorem wLaj:zh zP dOk base o184 t183 ((40,16),sLaj):=by
 refine ⟨.loop (za zP (tn0 40) 40 16),2,by kernel_rfl,?_⟩
 intro S alts e S' h1 h2
 obtain ⟨_,rfl,g⟩:=tq_some h1
 clear h1
 change some _=_ at g
 cases g
 rcases zD h2 with ⟨hc0,rfl,rfl⟩ | h2
 · exact ⟨FU+40,(zb rfl).trans (lLaj FU 40 FU _ _ _ _ _ _ _ _ (zM hc0))⟩
 obtain ⟨hc1,rfl,rfl⟩:=zf h2
 exact ⟨FU+40,(zb rfl).trans (lLaj FU 40 FU _ _ _ _ _ _ _ _ (zG (zc hc1)))⟩
noncomputable def t185:TellT:=((40,16),sLaj)::t183
abbrev tn185:=zd base o184 t185
theorem ok185:OKT tn185:=zi ok184 ok184 (p:=((40,16),sLaj)) wLaj
noncomputable def Lay:Nat→LL→LI→Int→LI→L3→Option (Bool ⊕ Unit)
 | 0,_,_,_,_,_=>none
 | n+1,x0,x1,x2,x3,x4=>(cond (decide (x2 < (x4.length:Int))) (cond (decide (0≤x2)) (cond (decide (x2 < (x0.length:Int))) (cond (ok (v21 (List.getD x0 x2.toNat []))) (cond (decide (val (v21 (List.getD x0 x2.toNat [])) < (1:Int))) (some (.inl (false))) (cond (decide (val (v21 (List.getD x0 x2.toNat []))≠0)) (cond (isL (Laj FU x0 x1 x2 (wI (Int.tdiv (wI (wI ((1000000000000:Int)+val (v21 (List.getD x0 x2.toNat []))) - (1:Int))) (val (v21 (List.getD x0 x2.toNat []))))) 0 x3 x4)) (some (.inl (zz (Laj FU x0 x1 x2 (wI (Int.tdiv (wI (wI ((1000000000000:Int)+val (v21 (List.getD x0 x2.toNat []))) - (1:Int))) (val (v21 (List.getD x0 x2.toNat []))))) 0 x3 x4)))) (cond (ok (zn (Laj FU x0 x1 x2 (wI (Int.tdiv (wI (wI ((1000000000000:Int)+val (v21 (List.getD x0 x2.toNat []))) - (1:Int))) (val (v21 (List.getD x0 x2.toNat []))))) 0 x3 x4))) (Lay n x0 x1 (wI (x2+(1:Int))) x3 x4) none)) none)) none) none) none) (some (.inr ())))
theorem qLay:type_of% @Lay.eq_2:=@Lay.eq_2
noncomputable def xLay (x0:LL) (x1:LI) (x2:Int) (x3:LI) (x4:L3):(Bool ⊕ Unit)→Ex×CS:=fun r=>match r with | .inl a0=>(.ret,⟨[(6,.v (.sc (.bool (a0))))],[],[],0,true⟩) | .inr b0=>((.exit 0),⟨[(3,.l 3 0),(16,.l 3 1)],[],[],0,false⟩)
abbrev cLay (x0:LL) (x1:LI) (x2:Int) (x3:LI) (x4:L3):CS:=⟨[(1,vL x0),(2,vD x1),(3,.l 3 0),(7,vI x2)],[(3,[kD (x3),.d 31 mT (x4)])],[],0,false⟩
theorem bLay (k:Nat) (cN:KN) (cX:KX) (x0:LL) (x1:LI) (x2:Int) (x3:LI) (x4:L3):zo zP (tn185 40) (TM.evF zP (tn185) dOk (k+40)) dOk (k+40) (za zP (tn0 40) 40 0) 0 0 (cLay x0 x1 x2 x3 x4) cN cX=(cond (decide (x2 < (x4.length:Int))) (cond (decide (0≤x2)) (cond (decide (x2 < (x0.length:Int))) (ob (v21 (List.getD x0 x2.toNat [])) fun r1=>(cond (decide (r1 < (1:Int))) (cX .ret ⟨[(6,.v (.sc (.bool (false))))],[],[],0,true⟩) (cond (decide (r1≠0)) (cond (isL (Laj FU x0 x1 x2 (wI (Int.tdiv (wI (wI ((1000000000000:Int)+r1) - (1:Int))) r1)) 0 x3 x4)) (cX .ret ⟨[(6,.v (.sc (.bool (zz (Laj FU x0 x1 x2 (wI (Int.tdiv (wI (wI ((1000000000000:Int)+r1) - (1:Int))) r1)) 0 x3 x4)))))],[],[],0,true⟩) (cond (ok (zn (Laj FU x0 x1 x2 (wI (Int.tdiv (wI (wI ((1000000000000:Int)+r1) - (1:Int))) r1)) 0 x3 x4))) (cN (cLay x0 x1 (wI (x2+(1:Int))) x3 x4)) none)) none))) none) none) (cX (.exit 0) ⟨[(3,.l 3 0),(16,.l 3 1)],[],[],0,false⟩)):=by kernel_rfl
theorem lLay (k m:Nat):∀ (n:Nat) (x0:LL) (x1:LI) (x2:Int) (x3:LI) (x4:L3) (r:(Bool ⊕ Unit)),Lay n x0 x1 x2 x3 x4=some r→zA zP (tn185 40) (TM.evF zP (tn185) dOk (k+40)) dOk (k+40) (za zP (tn0 40) 40 0) 0 0 (n+m) (cLay x0 x1 x2 x3 x4)=some (xLay x0 x1 x2 x3 x4 r):=by
 intro n
 induction n with
 | zero=>intro _ _ _ _ _ r h;cases h
 | succ n ih=>
  intro x0 x1 x2 x3 x4 r
  rw [show n+1+m=n+m+1 by omega,zk,bLay,qLay]
  with_reducible repeat' refine ze ?_ ?_
  all_goals first | exact ih _ _ _ _ _ r | (intro h;cases h;done) | (intro h;cases h;rfl)
noncomputable def sLay:TellS:=fun S=>tq (mS (cLay [] [] 0 [] [])) S fun x0 x1 x2 x3 x4=>some [(isL (Lay FU x0 x1 x2 x3 x4),.ret,⟨[(6,.v (.sc (.bool ((zz (Lay FU x0 x1 x2 x3 x4))))))],[],[],0,true⟩),(ok (zn (Lay FU x0 x1 x2 x3 x4)),(.exit 0),⟨[(3,.l 3 0),(16,.l 3 1)],[],[],0,false⟩)]
theorem wLay:zh zP dOk base o184 t185 ((40,0),sLay):=by
 refine ⟨.loop (za zP (tn0 40) 40 0),0,by kernel_rfl,?_⟩
 intro S alts e S' h1 h2
 obtain ⟨_,rfl,g⟩:=tq_some h1
 clear h1
 change some _=_ at g
 cases g
 rcases zD h2 with ⟨hc0,rfl,rfl⟩ | h2
 · exact ⟨FU+40,(zb rfl).trans (lLay FU 40 FU _ _ _ _ _ _ (zM hc0))⟩
 obtain ⟨hc1,rfl,rfl⟩:=zf h2
 exact ⟨FU+40,(zb rfl).trans (lLay FU 40 FU _ _ _ _ _ _ (zG (zc hc1)))⟩
noncomputable def t186:TellT:=((40,0),sLay)::t185
abbrev tn186:=zd base o184 t186
theorem ok186:OKT tn186:=zi ok185 ok185 (p:=((40,0),sLay)) wLay
noncomputable def tv40 {β:Type} (x0:LI) (x1:L3) (x2:LL) (x3:LI) (K:Bool→Option β):Option β:=(cond (ok (v20 x0 x1 x2)) (cond (!val (v20 x0 x1 x2)) (K (false)) (cond (isL (Lay FU x2 x3 0 x0 x1)) (K (zz (Lay FU x2 x3 0 x0 x1))) (cond (ok (zn (Lay FU x2 x3 0 x0 x1))) (K (true)) none))) none)
noncomputable def v40 (x0:LI) (x1:L3) (x2:LL) (x3:LI):Option Bool:=tv40 x0 x1 x2 x3 some
abbrev aF40 (x0:LI) (x1:L3) (x2:LL) (x3:LI):List TA:=[.agg [kD (x0),.d 31 mT (x1)],.sc (kL x2),.sc (kD x3)]
theorem ev40 (x0:LI) (x1:L3) (x2:LL) (x3:LI):zt zP (tn186 40) (TM.evF zP (tn186) dOk 40) dOk 40 40 (aF40 x0 x1 x2 x3) []=(v40 x0 x1 x2 x3).bind fun r=>some ([.sc (.bool (r))],[]):=by
 refine Eq.trans (b:=tv40 x0 x1 x2 x3 fun r=>some ([.sc (.bool (r))],[])) (by kernel_rfl) ?_
 unfold v40 tv40
 with_reducible repeat' refine zp ?_ ?_
 all_goals rfl
noncomputable def sv40:OrcS:=fun al H=>tqa (aF40 [] [] [] []) [] al H fun x0 x1 x2 x3=>some [(ok (v40 x0 x1 x2 x3),[.sc (.bool ((val (v40 x0 x1 x2 x3))))],[])]
theorem wv40:zq zP dOk base o184 t186 (40,sv40):=by
 intro al H q hq rs H2 h2
 obtain ⟨_,_,rfl,rfl,g⟩:=tqa_some hq
 clear hq
 change some _=_ at g
 cases g
 obtain ⟨hc0,rfl,rfl⟩:=zg h2
 exact ⟨41,(zy (by kernel_rfl)).trans ((ev40 _ _ _ _).trans (zm (zc hc0)))⟩
noncomputable def o187:OrcT:=(40,sv40)::o184
abbrev tn187:=zd base o187 t186
theorem ok187:OKT tn187:=zr ok186 ok186 (p:=(40,sv40)) wv40
noncomputable def Lar:Nat→LI→Int→Int→LI→L3→Option Int
 | 0,_,_,_,_,_=>none
 | n+1,x0,x1,x2,x3,x4=>(cond (decide (x2 < (x0.length:Int))) (cond (decide (0≤x2)) (cond (decide (x2 < (x3.length:Int))) (Lar n x0 (wI (x1+wI (List.getD x0 x2.toNat 0*List.getD x3 x2.toNat 0))) (wI (x2+(1:Int))) x3 x4) none) none) (some x1))
theorem qLar:type_of% @Lar.eq_2:=@Lar.eq_2
noncomputable def xLar (x0:LI) (x1 x2:Int) (x3:LI) (x4:L3):Int→Ex×CS:=fun r=>((.exit 0),⟨[(2,.l 2 0),(5,vI (r))],[],[],0,false⟩)
abbrev cLar (x0:LI) (x1 x2:Int) (x3:LI) (x4:L3):CS:=⟨[(1,vD x0),(2,.l 2 0),(5,vI x1),(6,vI x2)],[(2,[kD (x3),.d 31 mT (x4)])],[],0,false⟩
theorem bLar (k:Nat) (cN:KN) (cX:KX) (x0:LI) (x1 x2:Int) (x3:LI) (x4:L3):zo zP (tn187 41) (TM.evF zP (tn187) dOk (k+40)) dOk (k+40) (za zP (tn0 41) 41 0) 0 0 (cLar x0 x1 x2 x3 x4) cN cX=(cond (decide (x2 < (x0.length:Int))) (cond (decide (0≤x2)) (cond (decide (x2 < (x0.length:Int))) (cond (decide (0≤x2)) (cond (decide (x2 < (x3.length:Int))) (cN (cLar x0 (wI (x1+wI (List.getD x0 x2.toNat 0*List.getD x3 x2.toNat 0))) (wI (x2+(1:Int))) x3 x4)) none) none) none) none) (cP cX (xLar x0 x1 x2 x3 x4 x1))):=by kernel_rfl
theorem lLar (k m:Nat):∀ (n:Nat) (x0:LI) (x1 x2:Int) (x3:LI) (x4:L3) (r:Int),Lar n x0 x1 x2 x3 x4=some r→zA zP (tn187 41) (TM.evF zP (tn187) dOk (k+40)) dOk (k+40) (za zP (tn0 41) 41 0) 0 0 (n+m) (cLar x0 x1 x2 x3 x4)=some (xLar x0 x1 x2 x3 x4 r):=by
 intro n
 induction n with
 | zero=>intro _ _ _ _ _ r h;cases h
 | succ n ih=>
  intro x0 x1 x2 x3 x4 r
  rw [show n+1+m=n+m+1 by omega,zk,bLar,qLar]
  cases (decide (x2 < (x0.length:Int))) with
  | true=>
   cases (decide (0≤x2)) with
   | true=>
    cases (decide (x2 < (x3.length:Int))) with
    | true=>
     exact ih _ _ _ _ _ r
    | false=>
     intro h;cases h
   | false=>
    intro h;cases h
  | false=>
   intro h;cases h;rfl
noncomputable def sLar:TellS:=fun S=>tq (mS (cLar [] 0 0 [] [])) S fun x0 x1 x2 x3 x4=>some [te (Lar FU x0 x1 x2 x3 x4) (xLar x0 x1 x2 x3 x4)]
theorem wLar:zh zP dOk base o187 t186 ((41,0),sLar):=by
 refine ⟨.loop (za zP (tn0 41) 41 0),0,by kernel_rfl,?_⟩
 intro S alts e S' h1 h2
 obtain ⟨_,rfl,g⟩:=tq_some h1
 clear h1
 change some _=_ at g
 cases g
 obtain ⟨hc0,rfl,rfl⟩:=zf h2
 exact ⟨FU+40,(zb rfl).trans (lLar FU 40 FU _ _ _ _ _ _ (zc hc0))⟩
noncomputable def t188:TellT:=((41,0),sLar)::t186
abbrev tn188:=zd base o187 t188
theorem ok188:OKT tn188:=zi ok187 ok187 (p:=((41,0),sLar)) wLar
noncomputable def v41 (x0:LI) (x1:L3) (x2:LI):Option Int:=(cond (ok (Lar FU x2 0 0 x0 x1)) (some (val (Lar FU x2 0 0 x0 x1))) none)
abbrev aF41 (x0:LI) (x1:L3) (x2:LI):List TA:=[.agg [kD (x0),.d 31 mT (x1)],.sc (kD x2)]
theorem ev41 (x0:LI) (x1:L3) (x2:LI):zt zP (tn188 41) (TM.evF zP (tn188) dOk 40) dOk 40 41 (aF41 x0 x1 x2) []=(v41 x0 x1 x2).bind fun r=>some ([.sc (I4 (r))],[]):=by
 refine Eq.trans (b:=(cond (ok (Lar FU x2 0 0 x0 x1)) (some ([.sc (I4 (val (Lar FU x2 0 0 x0 x1)))],[])) none)) (by kernel_rfl) ?_
 unfold v41
 with_reducible repeat' refine zp ?_ ?_
 all_goals rfl
noncomputable def sv41:OrcS:=fun al H=>tqa (aF41 [] [] []) [] al H fun x0 x1 x2=>some [(ok (v41 x0 x1 x2),[.sc (I4 ((val (v41 x0 x1 x2))))],[])]
theorem wv41:zq zP dOk base o187 t188 (41,sv41):=by
 intro al H q hq rs H2 h2
 obtain ⟨_,_,rfl,rfl,g⟩:=tqa_some hq
 clear hq
 change some _=_ at g
 cases g
 obtain ⟨hc0,rfl,rfl⟩:=zg h2
 exact ⟨41,(zy (by kernel_rfl)).trans ((ev41 _ _ _).trans (zm (zc hc0)))⟩
noncomputable def o189:OrcT:=(41,sv41)::o187
abbrev tn189:=zd base o189 t188
theorem ok189:OKT tn189:=zr ok188 ok188 (p:=(41,sv41)) wv41
noncomputable def tv22 {β:Type} (x0:LI) (x1:L3) (x2:LL) (x3:LI) (x4:Int) (K:Bool→Option β):Option β:=(cond (ok (v24 x0 x1)) (cond (!val (v24 x0 x1)) (K (false)) (cond (ok (v19 x0 x1 x2)) (cond (!val (v19 x0 x1 x2)) (K (false)) (cond (ok (v30 x0 x1 x3)) (cond (!val (v30 x0 x1 x3)) (K (false)) (cond (decide (x4 < 0)) (K (false)) (cond (decide (x4 > (1000000000000:Int))) (K (false)) (cond (ok (v40 x0 x1 x2 x3)) (cond (val (v40 x0 x1 x2 x3)) (cond (ok (v41 x0 x1 x3)) (K (decide (val (v41 x0 x1 x3)≤wI (wI ((1000000:Int)*(x1.length:Int))+x4)))) none) (K (false))) none)))) none)) none)) none)
noncomputable def v22 (x0:LI) (x1:L3) (x2:LL) (x3:LI) (x4:Int):Option Bool:=tv22 x0 x1 x2 x3 x4 some
abbrev aF22 (x0:LI) (x1:L3) (x2:LL) (x3:LI) (x4:Int):List TA:=[.agg [kD (x0),.d 31 mT (x1)],.agg [kL (x2),kD (x3),I4 (x4)]]
theorem ev22 (x0:LI) (x1:L3) (x2:LL) (x3:LI) (x4:Int):zt zP (tn189 22) (TM.evF zP (tn189) dOk 40) dOk 40 22 (aF22 x0 x1 x2 x3 x4) []=(v22 x0 x1 x2 x3 x4).bind fun r=>some ([.sc (.bool (r))],[]):=by
 refine Eq.trans (b:=tv22 x0 x1 x2 x3 x4 fun r=>some ([.sc (.bool (r))],[])) (by kernel_rfl) ?_
 unfold v22 tv22
 with_reducible repeat' refine zp ?_ ?_
 all_goals rfl
noncomputable def sv22:OrcS:=fun al H=>tqa (aF22 [] [] [] [] 0) [] al H fun x0 x1 x2 x3 x4=>some [(ok (v22 x0 x1 x2 x3 x4),[.sc (.bool ((val (v22 x0 x1 x2 x3 x4))))],[])]
theorem wv22:zq zP dOk base o189 t188 (22,sv22):=by
 intro al H q hq rs H2 h2
 obtain ⟨_,_,rfl,rfl,g⟩:=tqa_some hq
 clear hq
 change some _=_ at g
 cases g
 obtain ⟨hc0,rfl,rfl⟩:=zg h2
 exact ⟨41,(zy (by kernel_rfl)).trans ((ev22 _ _ _ _ _).trans (zm (zc hc0)))⟩
noncomputable def o190:OrcT:=(22,sv22)::o189
abbrev tn190:=zd base o190 t188
theorem ok190:OKT tn190:=zr ok189 ok189 (p:=(22,sv22)) wv22
noncomputable def LaZ (x0:Int) (x1:Bool) (x2 x3 x4 x5:Int) (x6:LI) (x7:L3) (x8:LL) (x9:LI) (A:Int):Option Bool:=(cond x1 (cond (decide (x5≥x3)) (cond (decide (x4≥x2)) (some (true)) (some (decide (x5 > x3)))) (some (false))) (some (false)))
noncomputable def xLaZ (x0:Int) (x1:Bool) (x2 x3 x4 x5:Int) (x6:LI) (x7:L3) (x8:LL) (x9:LI) (A:Int):Bool→Ex×CS:=fun r=>(.normal,⟨[(2,vI x0),(3,.l 3 0),(4,.l 4 0),(7,.v (.sc (.bool (r)))),(9,vI x2),(10,vI x3),(12,vI x4)],[(3,[kD (x6),.d 31 mT (x7)]),(4,[kL (x8),kD (x9),I4 (A)])],[],0,false⟩)
abbrev cLaZ (x0:Int) (x1:Bool) (x2 x3 x4 x5:Int) (x6:LI) (x7:L3) (x8:LL) (x9:LI) (A:Int):CS:=⟨[(2,vI x0),(3,.l 3 0),(4,.l 4 0),(7,.v (.sc (.bool x1))),(9,vI x2),(10,vI x3),(12,vI x4),(13,vI x5)],[(3,[kD (x6),.d 31 mT (x7)]),(4,[kL (x8),kD (x9),I4 (A)])],[],0,false⟩
theorem bLaZ (k:Nat) (cX:Ex→CS→Option (Ex×CS)) (x0:Int) (x1:Bool) (x2 x3 x4 x5:Int) (x6:LI) (x7:L3) (x8:LL) (x9:LI) (A:Int):zl zP (tn190 7) (TM.evF zP (tn190) dOk (k+40)) dOk (k+40) (za zP (tn0 7) 7 100) 1 100 (cLaZ x0 x1 x2 x3 x4 x5 x6 x7 x8 x9 A) cX=(cond x1 (cond (decide (x5≥x3)) (cond (decide (x4≥x2)) (cP cX (xLaZ x0 x1 x2 x3 x4 x5 x6 x7 x8 x9 A (true))) (cP cX (xLaZ x0 x1 x2 x3 x4 x5 x6 x7 x8 x9 A (decide (x5 > x3))))) (cP cX (xLaZ x0 x1 x2 x3 x4 x5 x6 x7 x8 x9 A (false)))) (cP cX (xLaZ x0 x1 x2 x3 x4 x5 x6 x7 x8 x9 A (false)))):=by kernel_rfl
theorem lLaZ (k:Nat) (x0:Int) (x1:Bool) (x2 x3 x4 x5:Int) (x6:LI) (x7:L3) (x8:LL) (x9:LI) (A:Int) (r:Bool):LaZ x0 x1 x2 x3 x4 x5 x6 x7 x8 x9 A=some r→zl zP (tn190 7) (TM.evF zP (tn190) dOk (k+40)) dOk (k+40) (za zP (tn0 7) 7 100) 1 100 (cLaZ x0 x1 x2 x3 x4 x5 x6 x7 x8 x9 A) (fun e s=>some (e,s))=some (xLaZ x0 x1 x2 x3 x4 x5 x6 x7 x8 x9 A r):=by
 rw [bLaZ]
 unfold LaZ
 refine ze ?_ ?_
 refine ze ?_ ?_
 refine ze ?_ ?_
 intro h;cases h;rfl
 intro h;cases h;rfl
 intro h;cases h;rfl
 intro h;cases h;rfl
noncomputable def sLaZ:TellS:=fun S=>tq (mS (cLaZ 0 false 0 0 0 0 [] [] [] [] 0)) S fun x0 x1 x2 x3 x4 x5 x6 x7 x8 x9 A=>some [(ok (LaZ x0 x1 x2 x3 x4 x5 x6 x7 x8 x9 A),.normal,⟨[(2,vI x0),(3,.l 3 0),(4,.l 4 0),(7,.v (.sc (.bool ((val (LaZ x0 x1 x2 x3 x4 x5 x6 x7 x8 x9 A)))))),(9,vI x2),(10,vI x3),(12,vI x4)],[(3,[kD (x6),.d 31 mT (x7)]),(4,[kL (x8),kD (x9),I4 (A)])],[],0,false⟩)]
theorem wLaZ:zh zP dOk base o190 t188 ((7,100),sLaZ):=by
 refine ⟨(za zP (tn0 7) 7 100),1,by kernel_rfl,?_⟩
 intro S alts e S' h1 h2
 obtain ⟨_,rfl,g⟩:=tq_some h1
 clear h1
 change some _=_ at g
 cases g
 obtain ⟨hc0,rfl,rfl⟩:=zf h2
 exact ⟨0+40,(zx rfl).trans (lLaZ 0 _ _ _ _ _ _ _ _ _ _ _ _ (zc hc0))⟩
noncomputable def t191:TellT:=((7,100),sLaZ)::t188
abbrev tn191:=zd base o190 t191
theorem ok191:OKT tn191:=zi ok190 ok190 (p:=((7,100),sLaZ)) wLaZ
noncomputable def Lah:Nat→Int→Bool→Int→Int→Int→LI→L3→LL→LI→Int→Option Bool
 | 0,_,_,_,_,_,_,_,_,_,_=>none
 | n+1,x0,x1,x2,x3,x4,x5,x6,x7,x8,x9=>(cond (decide (0≤x0)) (cond (decide (x0 < (x6.length:Int))) (cond (decide (x4 < (↑(List.length (List.getD x6 x0.toNat [])):Int))) (cond (decide (0≤x4)) (cond (ok (v23 (List.getD (List.getD x6 x0.toNat []) x4.toNat []) x8)) (cond (ok (LaZ x0 x1 x2 x3 x4 (val (v23 (List.getD (List.getD x6 x0.toNat []) x4.toNat []) x8)) x5 x6 x7 x8 x9)) (Lah n x0 (val (LaZ x0 x1 x2 x3 x4 (val (v23 (List.getD (List.getD x6 x0.toNat []) x4.toNat []) x8)) x5 x6 x7 x8 x9)) x2 x3 (wI (x4+(1:Int))) x5 x6 x7 x8 x9) none) none) none) (some x1)) none) none)
theorem qLah:type_of% @Lah.eq_2:=@Lah.eq_2
noncomputable def xLah (x0:Int) (x1:Bool) (x2 x3 x4:Int) (x5:LI) (x6:L3) (x7:LL) (x8:LI) (x9:Int):Bool→Ex×CS:=fun r=>((.exit 0),⟨[(2,vI x0),(3,.l 3 0),(4,.l 4 0),(7,.v (.sc (.bool (r)))),(10,vI x3)],[(4,[kL (x7),kD (x8),I4 (x9)])],[],0,false⟩)
abbrev cLah (x0:Int) (x1:Bool) (x2 x3 x4:Int) (x5:LI) (x6:L3) (x7:LL) (x8:LI) (x9:Int):CS:=⟨[(2,vI x0),(3,.l 3 0),(4,.l 4 0),(7,.v (.sc (.bool x1))),(9,vI x2),(10,vI x3),(12,vI x4)],[(3,[kD (x5),.d 31 mT (x6)]),(4,[kL (x7),kD (x8),I4 (x9)])],[],0,false⟩
theorem bLah (k:Nat) (cN:KN) (cX:KX) (x0:Int) (x1:Bool) (x2 x3 x4:Int) (x5:LI) (x6:L3) (x7:LL) (x8:LI) (x9:Int):zo zP (tn191 7) (TM.evF zP (tn191) dOk (k+40)) dOk (k+40) (za zP (tn0 7) 7 0) 0 0 (cLah x0 x1 x2 x3 x4 x5 x6 x7 x8 x9) cN cX=(cond (decide (0≤x0)) (cond (decide (x0 < (x6.length:Int))) (cond (decide (x4 < (↑(List.length (List.getD x6 x0.toNat [])):Int))) (cond (decide (0≤x0)) (cond (decide (x0 < (x6.length:Int))) (cond (decide (0≤x4)) (cond (decide (x4 < (↑(List.length (List.getD x6 x0.toNat [])):Int))) (cond (ok (v23 (List.getD (List.getD x6 x0.toNat []) x4.toNat []) x8)) (cond (ok (LaZ x0 x1 x2 x3 x4 (val (v23 (List.getD (List.getD x6 x0.toNat []) x4.toNat []) x8)) x5 x6 x7 x8 x9)) (cN (cLah x0 (val (LaZ x0 x1 x2 x3 x4 (val (v23 (List.getD (List.getD x6 x0.toNat []) x4.toNat []) x8)) x5 x6 x7 x8 x9)) x2 x3 (wI (x4+(1:Int))) x5 x6 x7 x8 x9)) none) none) none) none) none) none) (cP cX (xLah x0 x1 x2 x3 x4 x5 x6 x7 x8 x9 x1))) none) none):=by kernel_rfl
theorem lLah (k m:Nat):∀ (n:Nat) (x0:Int) (x1:Bool) (x2 x3 x4:Int) (x5:LI) (x6:L3) (x7:LL) (x8:LI) (x9:Int) (r:Bool),Lah n x0 x1 x2 x3 x4 x5 x6 x7 x8 x9=some r→zA zP (tn191 7) (TM.evF zP (tn191) dOk (k+40)) dOk (k+40) (za zP (tn0 7) 7 0) 0 0 (n+m) (cLah x0 x1 x2 x3 x4 x5 x6 x7 x8 x9)=some (xLah x0 x1 x2 x3 x4 x5 x6 x7 x8 x9 r):=by
 intro n
 induction n with
 | zero=>intro _ _ _ _ _ _ _ _ _ _ r h;cases h
 | succ n ih=>
  intro x0 x1 x2 x3 x4 x5 x6 x7 x8 x9 r
  rw [show n+1+m=n+m+1 by omega,zk,bLah,qLah]
  cases (decide (0≤x0)) with
  | true=>
   cases (decide (x0 < (x6.length:Int))) with
   | true=>
    cases (decide (x4 < (↑(List.length (List.getD x6 x0.toNat [])):Int))) with
    | true=>
     cases (decide (0≤x4)) with
     | true=>
      cases (ok (v23 (List.getD (List.getD x6 x0.toNat []) x4.toNat []) x8)) with
      | true=>
       cases (ok (LaZ x0 x1 x2 x3 x4 (val (v23 (List.getD (List.getD x6 x0.toNat []) x4.toNat []) x8)) x5 x6 x7 x8 x9)) with
       | true=>
        exact ih _ _ _ _ _ _ _ _ _ _ r
       | false=>
        intro h;cases h
      | false=>
       intro h;cases h
     | false=>
      intro h;cases h
    | false=>
     intro h;cases h;rfl
   | false=>
    intro h;cases h
  | false=>
   intro h;cases h
noncomputable def sLah:TellS:=fun S=>tq (mS (cLah 0 false 0 0 0 [] [] [] [] 0)) S fun x0 x1 x2 x3 x4 x5 x6 x7 x8 x9=>some [te (Lah FU x0 x1 x2 x3 x4 x5 x6 x7 x8 x9) (xLah x0 x1 x2 x3 x4 x5 x6 x7 x8 x9)]
theorem wLah:zh zP dOk base o190 t191 ((7,0),sLah):=by
 refine ⟨.loop (za zP (tn0 7) 7 0),0,by kernel_rfl,?_⟩
 intro S alts e S' h1 h2
 obtain ⟨_,rfl,g⟩:=tq_some h1
 clear h1
 change some _=_ at g
 cases g
 obtain ⟨hc0,rfl,rfl⟩:=zf h2
 exact ⟨FU+40,(zb rfl).trans (lLah FU 40 FU _ _ _ _ _ _ _ _ _ _ _ (zc hc0))⟩
noncomputable def t192:TellT:=((7,0),sLah)::t191
abbrev tn192:=zd base o190 t192
theorem ok192:OKT tn192:=zi ok191 ok191 (p:=((7,0),sLah)) wLah
noncomputable def Lbc (x0:Int) (x1:Bool) (x2:LI) (x3:L3) (x4:LL) (x5:LI) (x6:Int):Option Bool:=(cond (ok (v12 x2 x3 x5 x0)) (cond ((val (v12 x2 x3 x5 x0)).2.2 != 0) (some (false)) (cond (decide ((val (v12 x2 x3 x5 x0)).1 < 0)) (some (false)) (cond (decide (0≤x0)) (cond (decide (x0 < (x3.length:Int))) (cond (decide ((val (v12 x2 x3 x5 x0)).1≥(↑(List.length (List.getD x3 x0.toNat [])):Int))) (some (false)) (cond (decide (0≤(val (v12 x2 x3 x5 x0)).1)) (cond (decide ((val (v12 x2 x3 x5 x0)).1 < (↑(List.length (List.getD x3 x0.toNat [])):Int))) (cond (ok (v23 (List.getD (List.getD x3 x0.toNat []) (val (v12 x2 x3 x5 x0)).1.toNat []) x5)) (cond ((val (v12 x2 x3 x5 x0)).2.1 != val (v23 (List.getD (List.getD x3 x0.toNat []) (val (v12 x2 x3 x5 x0)).1.toNat []) x5)) (some (false)) (cond (ok (Lah FU x0 x1 (val (v12 x2 x3 x5 x0)).1 (val (v12 x2 x3 x5 x0)).2.1 0 x2 x3 x4 x5 x6)) (cond (decide (x0 < (x4.length:Int))) (cond (ok (v21 (List.getD x4 x0.toNat []))) (cond (val (Lah FU x0 x1 (val (v12 x2 x3 x5 x0)).1 (val (v12 x2 x3 x5 x0)).2.1 0 x2 x3 x4 x5 x6)) (cond (decide (val (v21 (List.getD x4 x0.toNat []))≥(1:Int))) (cond (decide (val (v21 (List.getD x4 x0.toNat []))≠0)) (some (decide ((val (v12 x2 x3 x5 x0)).2.1≥wI (Int.tdiv (wI (wI ((1000000000000:Int)+val (v21 (List.getD x4 x0.toNat []))) - (1:Int))) (val (v21 (List.getD x4 x0.toNat []))))))) none) (some (false))) (some (false))) none) none) none)) none) none) none)) none) none))) none)
noncomputable def xLbc (x0:Int) (x1:Bool) (x2:LI) (x3:L3) (x4:LL) (x5:LI) (x6:Int):Bool→Ex×CS:=fun r=>(.ret,⟨[(6,.v (.sc (.bool (r))))],[],[],0,true⟩)
abbrev cLbc (x0:Int) (x1:Bool) (x2:LI) (x3:L3) (x4:LL) (x5:LI) (x6:Int):CS:=⟨[(2,vI x0),(3,.l 3 0),(4,.l 4 0),(7,.v (.sc (.bool x1)))],[(3,[kD (x2),.d 31 mT (x3)]),(4,[kL (x4),kD (x5),I4 (x6)])],[],0,false⟩
theorem bLbc (k:Nat) (cX:Ex→CS→Option (Ex×CS)) (x0:Int) (x1:Bool) (x2:LI) (x3:L3) (x4:LL) (x5:LI) (x6:Int):zl zP (tn192 7) (TM.evF zP (tn192) dOk (k+40)) dOk (k+40) (za zP (tn0 7) 7 44) 0 44 (cLbc x0 x1 x2 x3 x4 x5 x6) cX=(cond (ok (v12 x2 x3 x5 x0)) (cond ((val (v12 x2 x3 x5 x0)).2.2 != 0) (cP cX (xLbc x0 x1 x2 x3 x4 x5 x6 (false))) (cond (decide ((val (v12 x2 x3 x5 x0)).1 < 0)) (cP cX (xLbc x0 x1 x2 x3 x4 x5 x6 (false))) (cond (decide (0≤x0)) (cond (decide (x0 < (x3.length:Int))) (cond (decide ((val (v12 x2 x3 x5 x0)).1≥(↑(List.length (List.getD x3 x0.toNat [])):Int))) (cP cX (xLbc x0 x1 x2 x3 x4 x5 x6 (false))) (cond (decide (0≤x0)) (cond (decide (x0 < (x3.length:Int))) (cond (decide (0≤(val (v12 x2 x3 x5 x0)).1)) (cond (decide ((val (v12 x2 x3 x5 x0)).1 < (↑(List.length (List.getD x3 x0.toNat [])):Int))) (cond (ok (v23 (List.getD (List.getD x3 x0.toNat []) (val (v12 x2 x3 x5 x0)).1.toNat []) x5)) (cond ((val (v12 x2 x3 x5 x0)).2.1 != val (v23 (List.getD (List.getD x3 x0.toNat []) (val (v12 x2 x3 x5 x0)).1.toNat []) x5)) (cP cX (xLbc x0 x1 x2 x3 x4 x5 x6 (false))) (cond (ok (Lah FU x0 x1 (val (v12 x2 x3 x5 x0)).1 (val (v12 x2 x3 x5 x0)).2.1 0 x2 x3 x4 x5 x6)) (cond (decide (0≤x0)) (cond (decide (x0 < (x4.length:Int))) (cond (ok (v21 (List.getD x4 x0.toNat []))) (cond (val (Lah FU x0 x1 (val (v12 x2 x3 x5 x0)).1 (val (v12 x2 x3 x5 x0)).2.1 0 x2 x3 x4 x5 x6)) (cond (decide (val (v21 (List.getD x4 x0.toNat []))≥(1:Int))) (cond (decide (val (v21 (List.getD x4 x0.toNat []))≠0)) (cP cX (xLbc x0 x1 x2 x3 x4 x5 x6 (decide ((val (v12 x2 x3 x5 x0)).2.1≥wI (Int.tdiv (wI (wI ((1000000000000:Int)+val (v21 (List.getD x4 x0.toNat []))) - (1:Int))) (val (v21 (List.getD x4 x0.toNat [])))))))) none) (cP cX (xLbc x0 x1 x2 x3 x4 x5 x6 (false)))) (cP cX (xLbc x0 x1 x2 x3 x4 x5 x6 (false)))) none) none) none) none)) none) none) none) none) none)) none) none))) none):=by kernel_rfl
theorem lLbc (k:Nat) (x0:Int) (x1:Bool) (x2:LI) (x3:L3) (x4:LL) (x5:LI) (x6:Int) (r:Bool):Lbc x0 x1 x2 x3 x4 x5 x6=some r→zl zP (tn192 7) (TM.evF zP (tn192) dOk (k+40)) dOk (k+40) (za zP (tn0 7) 7 44) 0 44 (cLbc x0 x1 x2 x3 x4 x5 x6) (fun e s=>some (e,s))=some (xLbc x0 x1 x2 x3 x4 x5 x6 r):=by
 rw [bLbc]
 unfold Lbc
 cases (ok (v12 x2 x3 x5 x0)) with
 | true=>
  cases ((val (v12 x2 x3 x5 x0)).2.2 != 0) with
  | true=>
   intro h;cases h;rfl
  | false=>
   cases (decide ((val (v12 x2 x3 x5 x0)).1 < 0)) with
   | true=>
    intro h;cases h;rfl
   | false=>
    cases (decide (0≤x0)) with
    | true=>
     cases (decide (x0 < (x3.length:Int))) with
     | true=>
      cases (decide ((val (v12 x2 x3 x5 x0)).1≥(↑(List.length (List.getD x3 x0.toNat [])):Int))) with
      | true=>
       intro h;cases h;rfl
      | false=>
       cases (decide (0≤(val (v12 x2 x3 x5 x0)).1)) with
       | true=>
        cases (decide ((val (v12 x2 x3 x5 x0)).1 < (↑(List.length (List.getD x3 x0.toNat [])):Int))) with
        | true=>
         cases (ok (v23 (List.getD (List.getD x3 x0.toNat []) (val (v12 x2 x3 x5 x0)).1.toNat []) x5)) with
         | true=>
          cases ((val (v12 x2 x3 x5 x0)).2.1 != val (v23 (List.getD (List.getD x3 x0.toNat []) (val (v12 x2 x3 x5 x0)).1.toNat []) x5)) with
          | true=>
           intro h;cases h;rfl
          | false=>
           cases (ok (Lah FU x0 x1 (val (v12 x2 x3 x5 x0)).1 (val (v12 x2 x3 x5 x0)).2.1 0 x2 x3 x4 x5 x6)) with
           | true=>
            cases (decide (x0 < (x4.length:Int))) with
            | true=>
             cases (ok (v21 (List.getD x4 x0.toNat []))) with
             | true=>
              cases (val (Lah FU x0 x1 (val (v12 x2 x3 x5 x0)).1 (val (v12 x2 x3 x5 x0)).2.1 0 x2 x3 x4 x5 x6)) with
              | true=>
               cases (decide (val (v21 (List.getD x4 x0.toNat []))≥(1:Int))) with
               | true=>
                cases (decide (val (v21 (List.getD x4 x0.toNat []))≠0)) with
                | true=>
                 intro h;cases h;rfl
                | false=>
                 intro h;cases h
               | false=>
                intro h;cases h;rfl
              | false=>
               intro h;cases h;rfl
             | false=>
              intro h;cases h
            | false=>
             intro h;cases h
           | false=>
            intro h;cases h
         | false=>
          intro h;cases h
        | false=>
         intro h;cases h
       | false=>
        intro h;cases h
     | false=>
      intro h;cases h
    | false=>
     intro h;cases h
 | false=>
  intro h;cases h
noncomputable def sLbc:TellS:=fun S=>tq (mS (cLbc 0 false [] [] [] [] 0)) S fun x0 x1 x2 x3 x4 x5 x6=>some [(ok (Lbc x0 x1 x2 x3 x4 x5 x6),.ret,⟨[(6,.v (.sc (.bool ((val (Lbc x0 x1 x2 x3 x4 x5 x6))))))],[],[],0,true⟩)]
theorem wLbc:zh zP dOk base o190 t192 ((7,44),sLbc):=by
 refine ⟨(za zP (tn0 7) 7 44),0,by kernel_rfl,?_⟩
 intro S alts e S' h1 h2
 obtain ⟨_,rfl,g⟩:=tq_some h1
 clear h1
 change some _=_ at g
 cases g
 obtain ⟨hc0,rfl,rfl⟩:=zf h2
 exact ⟨0+40,(zx rfl).trans (lLbc 0 _ _ _ _ _ _ _ _ (zc hc0))⟩
noncomputable def t193:TellT:=((7,44),sLbc)::t192
abbrev tn193:=zd base o190 t193
theorem ok193:OKT tn193:=zi ok192 ok192 (p:=((7,44),sLbc)) wLbc
noncomputable def tv7 {β:Type} (x0:LI) (x1:L3) (x2:LL) (x3:LI) (x4 x5:Int) (K:Bool→Option β):Option β:=(cond (ok (v11 x0 x1 x2 x3)) (cond (!val (v11 x0 x1 x2 x3)) (K (true)) (cond (ok (v22 x0 x1 x2 x3 x4)) (cond (!val (v22 x0 x1 x2 x3 x4)) (K (true)) (cond (decide (x5 < 0)) (K (true)) (cond (decide (x5≥(x1.length:Int))) (K (true)) (cond (ok (Lbc x5 (val v10) x0 x1 x2 x3 x4)) (K (val (Lbc x5 (val v10) x0 x1 x2 x3 x4))) none)))) none)) none)
noncomputable def v7 (x0:LI) (x1:L3) (x2:LL) (x3:LI) (x4 x5:Int):Option Bool:=tv7 x0 x1 x2 x3 x4 x5 some
theorem ev7 (x0:LI) (x1:L3) (x2:LL) (x3:LI) (x4 x5:Int):zt zP (tn193 7) (TM.evF zP (tn193) dOk 40) dOk 40 7 [.agg [kD (x0),.d 31 mT (x1)],.agg [kL (x2),kD (x3),I4 (x4)],.sc (I4 x5)] []=(v7 x0 x1 x2 x3 x4 x5).bind fun r=>some ([.sc (.bool (r))],[]):=by
 refine Eq.trans (b:=tv7 x0 x1 x2 x3 x4 x5 fun r=>some ([.sc (.bool (r))],[])) (by kernel_rfl) ?_
 unfold v7 tv7
 with_reducible repeat' refine zp ?_ ?_
 all_goals rfl
end
end Go.Proofs.Ytpfphfobneehmaa
