/- What some functions and loops come to: printed and checked. Written by a program of ours. -/
import Derived.Test.YtpfphfobneehmaaG2
set_option linter.all false
set_option maxRecDepth 1000000
set_option maxHeartbeats 4000000
namespace Go.Proofs.Ytpfphfobneehmaa
open Go Go.AM Go.TM Go.Proofs
noncomputable section
noncomputable def LbF:Nat→L3→Int→Int→LI→L3→LL→LL→LI→Int→LI→LI→LL→Option LL
 | 0,_,_,_,_,_,_,_,_,_,_,_,_=>none
 | n+1,x0,x1,x2,x3,x4,x5,x6,x7,x8,x9,A,B=>(cond (decide (x2 < x1)) (cond (decide (0≤x2)) (cond (decide (x2 < (x0.length:Int))) (cond (decide ((↑(List.length (List.getD x0 x2.toNat [])):Int)≤(↑(List.length (List.getD x0 x2.toNat [])):Int))) (cond (decide ((↑(List.length (List.getD x0 x2.toNat [])):Int)≤(↑(nat_lit 2147483648):Int))) (cond (ok (Lbi FU x2 x0 x1 x2 (↑(List.length (List.replicate (↑(List.length (List.getD x0 x2.toNat [])):Int).toNat (0:Int))):Int) 0 x3 x4 x5 x6 x7 x8 x9 A (List.replicate (↑(List.length (List.getD x0 x2.toNat [])):Int).toNat 0) B)) (cond (decide (List.length B+List.length [val (Lbi FU x2 x0 x1 x2 (↑(List.length (List.replicate (↑(List.length (List.getD x0 x2.toNat [])):Int).toNat (0:Int))):Int) 0 x3 x4 x5 x6 x7 x8 x9 A (List.replicate (↑(List.length (List.getD x0 x2.toNat [])):Int).toNat 0) B)]≤nat_lit 2147483648)) (LbF n x0 x1 (wI (x2+(1:Int))) x3 x4 x5 x6 x7 x8 x9 A (B++[val (Lbi FU x2 x0 x1 x2 (↑(List.length (List.replicate (↑(List.length (List.getD x0 x2.toNat [])):Int).toNat (0:Int))):Int) 0 x3 x4 x5 x6 x7 x8 x9 A (List.replicate (↑(List.length (List.getD x0 x2.toNat [])):Int).toNat 0) B)])) none) none) none) none) none) none) (some B))
theorem qLbF:type_of% @LbF.eq_2:=@LbF.eq_2
noncomputable def xLbF (x0:L3) (x1 x2:Int) (x3:LI) (x4:L3) (x5:LL) (x6:LL) (x7:LI) (x8:Int) (x9:LI) (A:LI) (B:LL):LL→Ex×CS:=fun r=>((.exit 0),⟨[(5,vG 4)],[],[(bx0 x3 x4 1 x5 2 x6 x7 x8),rD (x9),rD (A),.box 53 [.ptr 0 0],rL (r:LL)],4,false⟩)
abbrev cLbF (x0:L3) (x1 x2:Int) (x3:LI) (x4:L3) (x5:LL) (x6:LL) (x7:LI) (x8:Int) (x9:LI) (A:LI) (B:LL):CS:=⟨[(1,.v (.sc (.fn 55 0 [none] [.ptr 3 0]))),(5,vG 4),(14,.v (.sc (.d 31 mT x0))),(15,vI x1),(16,vI x2)],[],[(bx0 x3 x4 1 x5 2 x6 x7 x8),rD (x9),rD (A),.box 53 [.ptr 0 0],rL (B)],4,false⟩
theorem bLbF (k:Nat) (cN:KN) (cX:KX) (x0:L3) (x1 x2:Int) (x3:LI) (x4:L3) (x5:LL) (x6:LL) (x7:LI) (x8:Int) (x9:LI) (A:LI) (B:LL):zo zP (tn90 31) (TM.evF zP (tn90) dOk (k+40)) dOk (k+40) (za zP (tn0 31) 31 0) 0 0 (cLbF x0 x1 x2 x3 x4 x5 x6 x7 x8 x9 A B) cN cX=(cond (decide (x2 < x1)) (cond (decide (0≤x2)) (cond (decide (x2 < (x0.length:Int))) (cond (decide ((↑(List.length (List.getD x0 x2.toNat [])):Int)≤(↑(List.length (List.getD x0 x2.toNat [])):Int))) (cond (decide ((↑(List.length (List.getD x0 x2.toNat [])):Int)≤(↑(nat_lit 2147483648):Int))) (ob (Lbi FU x2 x0 x1 x2 (↑(List.length (List.replicate (↑(List.length (List.getD x0 x2.toNat [])):Int).toNat (0:Int))):Int) 0 x3 x4 x5 x6 x7 x8 x9 A (List.replicate (↑(List.length (List.getD x0 x2.toNat [])):Int).toNat 0) B) fun r1=>(cond (decide (List.length B+List.length [r1]≤nat_lit 2147483648)) (cN (cLbF x0 x1 (wI (x2+(1:Int))) x3 x4 x5 x6 x7 x8 x9 A (B++[r1]:LL))) none)) none) none) none) none) (cP cX (xLbF x0 x1 x2 x3 x4 x5 x6 x7 x8 x9 A B B))):=by kernel_rfl
theorem lLbF (k m:Nat):∀ (n:Nat) (x0:L3) (x1 x2:Int) (x3:LI) (x4:L3) (x5:LL) (x6:LL) (x7:LI) (x8:Int) (x9:LI) (A:LI) (B:LL) (r:LL),LbF n x0 x1 x2 x3 x4 x5 x6 x7 x8 x9 A B=some r→zA zP (tn90 31) (TM.evF zP (tn90) dOk (k+40)) dOk (k+40) (za zP (tn0 31) 31 0) 0 0 (n+m) (cLbF x0 x1 x2 x3 x4 x5 x6 x7 x8 x9 A B)=some (xLbF x0 x1 x2 x3 x4 x5 x6 x7 x8 x9 A B r):=by
 intro n
 induction n with
 | zero=>intro _ _ _ _ _ _ _ _ _ _ _ _ r h;cases h
 | succ n ih=>
  intro x0 x1 x2 x3 x4 x5 x6 x7 x8 x9 A B r
  rw [show n+1+m=n+m+1 by omega,zk,bLbF,qLbF]
  with_reducible repeat' refine ze ?_ ?_
  all_goals first | exact ih _ _ _ _ _ _ _ _ _ _ _ _ r | (intro h;cases h;done) | (intro h;cases h;rfl)
noncomputable def sLbF:TellS:=fun S=>tq (mS (cLbF [] 0 0 [] [] [] [] [] 0 [] [] [])) S fun x0 x1 x2 x3 x4 x5 x6 x7 x8 x9 A B=>some [te (LbF FU x0 x1 x2 x3 x4 x5 x6 x7 x8 x9 A B) (xLbF x0 x1 x2 x3 x4 x5 x6 x7 x8 x9 A B)]
theorem wLbF:zh zP dOk base o89 t90 ((31,0),sLbF):=by
 refine ⟨.loop (za zP (tn0 31) 31 0),0,by kernel_rfl,?_⟩
 intro S alts e S' h1 h2
 obtain ⟨_,rfl,g⟩:=tq_some h1
 clear h1
 change some _=_ at g
 cases g
 obtain ⟨hc0,rfl,rfl⟩:=zf h2
 exact ⟨FU+40,(zb rfl).trans (lLbF FU 40 FU _ _ _ _ _ _ _ _ _ _ _ _ _ (zc hc0))⟩
noncomputable def t91:TellT:=((31,0),sLbF)::t90
abbrev tn91:=zd base o89 t91
theorem ok91:OKT tn91:=zi ok90 ok90 (p:=((31,0),sLbF)) wLbF
noncomputable def tv31_1 {β:Type} (x0:LI) (x1:L3) (x2:LL) (x3:LL) (x4:LI) (x5:Int) (x6:LI) (x7:LI) (K:LL→Option β):Option β:=(cond (ok (LbF FU x1 (x1.length:Int) 0 x0 x1 x2 x3 x4 x5 x6 x7 [])) (K (val (LbF FU x1 (x1.length:Int) 0 x0 x1 x2 x3 x4 x5 x6 x7 []))) none)
noncomputable def v31_1 (x0:LI) (x1:L3) (x2:LL) (x3:LL) (x4:LI) (x5:Int) (x6:LI) (x7:LI):Option LL:=tv31_1 x0 x1 x2 x3 x4 x5 x6 x7 some
abbrev aF31_1:List TA:=[.sc (.ptr 0 0),.sc (.fn 55 0 [none] [.ptr 3 0])]
abbrev hF31_1 (x0:LI) (x1:L3) (x2:LL) (x3:LL) (x4:LI) (x5:Int) (x6:LI) (x7:LI):List TO:=[(bx0 x0 x1 1 x2 2 x3 x4 x5),rD (x6),rD (x7),.box 53 [.ptr 0 0]]
theorem ev31_1 (x0:LI) (x1:L3) (x2:LL) (x3:LL) (x4:LI) (x5:Int) (x6:LI) (x7:LI):zt zP (tn91 31) (TM.evF zP (tn91) dOk 40) dOk 40 31 aF31_1 (hF31_1 x0 x1 x2 x3 x4 x5 x6 x7)=(v31_1 x0 x1 x2 x3 x4 x5 x6 x7).bind fun r=>some ([.sc (kL (r:LL))],[(bx0 x0 x1 1 x2 2 x3 x4 x5),rD (x6),rD (x7),.box 53 [.ptr 0 0]]):=by
 refine Eq.trans (b:=tv31_1 x0 x1 x2 x3 x4 x5 x6 x7 fun r=>some ([.sc (kL (r:LL))],[(bx0 x0 x1 1 x2 2 x3 x4 x5),rD (x6),rD (x7),.box 53 [.ptr 0 0]])) (by kernel_rfl) ?_
 unfold v31_1 tv31_1
 with_reducible repeat' refine zp ?_ ?_
 all_goals rfl
noncomputable def sv31_1:OrcS:=fun al H=>tqa aF31_1 (hF31_1 [] [] [] [] [] 0 [] []) al H fun x0 x1 x2 x3 x4 x5 x6 x7=>some [(ok (v31_1 x0 x1 x2 x3 x4 x5 x6 x7),[.sc (kL ((val (v31_1 x0 x1 x2 x3 x4 x5 x6 x7)):LL))],[(bx0 x0 x1 1 x2 2 x3 x4 x5),rD (x6),rD (x7),.box 53 [.ptr 0 0]])]
theorem wv31_1:zq zP dOk base o89 t91 (31,sv31_1):=by
 intro al H q hq rs H2 h2
 obtain ⟨_,_,rfl,rfl,g⟩:=tqa_some hq
 clear hq
 change some _=_ at g
 cases g
 obtain ⟨hc0,rfl,rfl⟩:=zg h2
 exact ⟨41,(zy (by kernel_rfl)).trans ((ev31_1 _ _ _ _ _ _ _ _).trans (zm (zc hc0)))⟩
noncomputable def o92:OrcT:=(31,sv31_1)::o89
abbrev tn92:=zd base o92 t91
theorem ok92:OKT tn92:=zr ok91 ok91 (p:=(31,sv31_1)) wv31_1
noncomputable def v57 (x0 x1:Int) (x2:LI) (x3:L3) (x4:LL) (x5:LL) (x6:LI) (x7:Int) (x8:LI) (x9:LI) (A:LL):Option Int:=(cond (decide (0≤x0)) (cond (decide (x0 < (x4.length:Int))) (cond (decide (0≤x1)) (cond (decide (x1 < (↑(List.length (List.getD x4 x0.toNat [])):Int))) (cond (decide (x0 < (A.length:Int))) (cond (decide (x1 < (↑(List.length (List.getD A x0.toNat [])):Int))) (some (wI (List.getD (List.getD x4 x0.toNat []) x1.toNat 0+List.getD (List.getD A x0.toNat []) x1.toNat 0))) none) none) none) none) none) none)
abbrev aF57 (x0 x1:Int):List TA:=[.sc (I4 x0),.sc (I4 x1),.sc (.ptr 0 0),.sc (.ptr 4 0)]
abbrev hF57 (x2:LI) (x3:L3) (x4:LL) (x5:LL) (x6:LI) (x7:Int) (x8:LI) (x9:LI) (A:LL):List TO:=[.box 53 [.ptr 1 0],(bx0 x2 x3 2 x4 3 x5 x6 x7),rD (x8),rD (x9),.box 31 [kL (A)]]
theorem ev57 (x0 x1:Int) (x2:LI) (x3:L3) (x4:LL) (x5:LL) (x6:LI) (x7:Int) (x8:LI) (x9:LI) (A:LL):zt zP (tn92 57) (TM.evF zP (tn92) dOk 40) dOk 40 57 (aF57 x0 x1) (hF57 x2 x3 x4 x5 x6 x7 x8 x9 A)=(v57 x0 x1 x2 x3 x4 x5 x6 x7 x8 x9 A).bind fun r=>some ([.sc (I4 (r))],[.box 53 [.ptr 1 0],(bx0 x2 x3 2 x4 3 x5 x6 x7),rD (x8),rD (x9),.box 31 [kL (A)]]):=by
 refine Eq.trans (b:=(cond (decide (0≤x0)) (cond (decide (x0 < (x4.length:Int))) (cond (decide (0≤x1)) (cond (decide (x1 < (↑(List.length (List.getD x4 x0.toNat [])):Int))) (cond (decide (0≤x0)) (cond (decide (x0 < (A.length:Int))) (cond (decide (0≤x1)) (cond (decide (x1 < (↑(List.length (List.getD A x0.toNat [])):Int))) (some ([.sc (I4 (wI (List.getD (List.getD x4 x0.toNat []) x1.toNat 0+List.getD (List.getD A x0.toNat []) x1.toNat 0)))],[.box 53 [.ptr 1 0],(bx0 x2 x3 2 x4 3 x5 x6 x7),rD (x8),rD (x9),.box 31 [kL (A)]])) none) none) none) none) none) none) none) none)) (by kernel_rfl) ?_
 unfold v57
 cases (decide (0≤x0)) with
 | true=>
  cases (decide (x0 < (x4.length:Int))) with
  | true=>
   cases (decide (0≤x1)) with
   | true=>
    cases (decide (x1 < (↑(List.length (List.getD x4 x0.toNat [])):Int))) with
    | true=>
     cases (decide (x0 < (A.length:Int))) with
     | true=>
      cases (decide (x1 < (↑(List.length (List.getD A x0.toNat [])):Int))) with
      | true=>
       rfl
      | false=>
       rfl
     | false=>
      rfl
    | false=>
     rfl
   | false=>
    rfl
  | false=>
   rfl
 | false=>
  rfl
noncomputable def sv57:OrcS:=fun al H=>tqa (aF57 0 0) (hF57 [] [] [] [] [] 0 [] [] []) al H fun x0 x1 x2 x3 x4 x5 x6 x7 x8 x9 A=>some [(ok (v57 x0 x1 x2 x3 x4 x5 x6 x7 x8 x9 A),[.sc (I4 ((val (v57 x0 x1 x2 x3 x4 x5 x6 x7 x8 x9 A))))],[.box 53 [.ptr 1 0],(bx0 x2 x3 2 x4 3 x5 x6 x7),rD (x8),rD (x9),.box 31 [kL (A)]])]
theorem wv57:zq zP dOk base o92 t91 (57,sv57):=by
 intro al H q hq rs H2 h2
 obtain ⟨_,_,rfl,rfl,g⟩:=tqa_some hq
 clear hq
 change some _=_ at g
 cases g
 obtain ⟨hc0,rfl,rfl⟩:=zg h2
 exact ⟨41,(zy (by kernel_rfl)).trans ((ev57 _ _ _ _ _ _ _ _ _ _ _).trans (zm (zc hc0)))⟩
noncomputable def o93:OrcT:=(57,sv57)::o92
abbrev tn93:=zd base o93 t91
theorem ok93:OKT tn93:=zr ok92 ok92 (p:=(57,sv57)) wv57
noncomputable def Lbm:Nat→Int→L3→Int→Int→Int→Int→LI→L3→LL→LL→LI→Int→LI→LI→LL→LI→LL→Option LI
 | 0,_,_,_,_,_,_,_,_,_,_,_,_,_,_,_,_,_=>none
 | n+1,x0,x1,x2,x3,x4,x5,x6,x7,x8,x9,A,B,C,D,E,F,G=>(cond (decide (x5 < x4)) (cond (ok (v57 x0 x5 x6 x7 x8 x9 A B C D E)) (cond (decide (0≤x5)) (cond (decide (x5 < (F.length:Int))) (cond (decide (x5.toNat < List.length F)) (Lbm n x0 x1 x2 x3 x4 (wI (x5+(1:Int))) x6 x7 x8 x9 A B C D E (List.set F x5.toNat (val (v57 x0 x5 x6 x7 x8 x9 A B C D E))) G) none) none) none) none) (some F))
theorem qLbm:type_of% @Lbm.eq_2:=@Lbm.eq_2
noncomputable def xLbm (x0:Int) (x1:L3) (x2 x3 x4 x5:Int) (x6:LI) (x7:L3) (x8:LL) (x9:LL) (A:LI) (B:Int) (C:LI) (D:LI) (E:LL) (F:LI) (G:LL):LI→Ex×CS:=fun r=>((.exit 2),⟨[(1,.v (.sc (.fn 57 0 [none,none] [.ptr 3 0,.ptr 4 0]))),(5,vG 6),(8,vG 5),(14,.v (.sc (.d 31 mT x1))),(15,vI x2),(16,vI x3)],[],[(bx0 x6 x7 1 x8 2 x9 A B),rD (C),rD (D),.box 53 [.ptr 0 0],.box 31 [kL (E)],rD (r:LI),rL (G)],5,false⟩)
abbrev cLbm (x0:Int) (x1:L3) (x2 x3 x4 x5:Int) (x6:LI) (x7:L3) (x8:LL) (x9:LL) (A:LI) (B:Int) (C:LI) (D:LI) (E:LL) (F:LI) (G:LL):CS:=⟨[(1,.v (.sc (.fn 57 0 [none,none] [.ptr 3 0,.ptr 4 0]))),(5,vG 6),(6,vI x0),(8,vG 5),(14,.v (.sc (.d 31 mT x1))),(15,vI x2),(16,vI x3),(25,vI x4),(26,vI x5)],[],[(bx0 x6 x7 1 x8 2 x9 A B),rD (C),rD (D),.box 53 [.ptr 0 0],.box 31 [kL (E)],rD (F),rL (G)],5,false⟩
theorem bLbm (k:Nat) (cN:KN) (cX:KX) (x0:Int) (x1:L3) (x2 x3 x4 x5:Int) (x6:LI) (x7:L3) (x8:LL) (x9:LL) (A:LI) (B:Int) (C:LI) (D:LI) (E:LL) (F:LI) (G:LL):zo zP (tn93 31) (TM.evF zP (tn93) dOk (k+40)) dOk (k+40) (za zP (tn0 31) 31 16) 2 16 (cLbm x0 x1 x2 x3 x4 x5 x6 x7 x8 x9 A B C D E F G) cN cX=(cond (decide (x5 < x4)) (cond (ok (v57 x0 x5 x6 x7 x8 x9 A B C D E)) (cond (decide (0≤x5)) (cond (decide (x5 < (F.length:Int))) (cond (decide (x5.toNat < List.length F)) (cN (cLbm x0 x1 x2 x3 x4 (wI (x5+(1:Int))) x6 x7 x8 x9 A B C D E (List.set F x5.toNat (val (v57 x0 x5 x6 x7 x8 x9 A B C D E)):LI) G)) none) none) none) none) (cP cX (xLbm x0 x1 x2 x3 x4 x5 x6 x7 x8 x9 A B C D E F G F))):=by kernel_rfl
theorem lLbm (k m:Nat):∀ (n:Nat) (x0:Int) (x1:L3) (x2 x3 x4 x5:Int) (x6:LI) (x7:L3) (x8:LL) (x9:LL) (A:LI) (B:Int) (C:LI) (D:LI) (E:LL) (F:LI) (G:LL) (r:LI),Lbm n x0 x1 x2 x3 x4 x5 x6 x7 x8 x9 A B C D E F G=some r→zA zP (tn93 31) (TM.evF zP (tn93) dOk (k+40)) dOk (k+40) (za zP (tn0 31) 31 16) 2 16 (n+m) (cLbm x0 x1 x2 x3 x4 x5 x6 x7 x8 x9 A B C D E F G)=some (xLbm x0 x1 x2 x3 x4 x5 x6 x7 x8 x9 A B C D E F G r):=by
 intro n
 induction n with
 | zero=>intro _ _ _ _ _ _ _ _ _ _ _ _ _ _ _ _ _ r h;cases h
 | succ n ih=>
  intro x0 x1 x2 x3 x4 x5 x6 x7 x8 x9 A B C D E F G r
  rw [show n+1+m=n+m+1 by omega,zk,bLbm,qLbm]
  with_reducible repeat' refine ze ?_ ?_
  all_goals first | exact ih _ _ _ _ _ _ _ _ _ _ _ _ _ _ _ _ _ r | (intro h;cases h;done) | (intro h;cases h;rfl)
noncomputable def sLbm:TellS:=fun S=>tq (mS (cLbm 0 [] 0 0 0 0 [] [] [] [] [] 0 [] [] [] [] [])) S fun x0 x1 x2 x3 x4 x5 x6 x7 x8 x9 A B C D E F G=>some [te (Lbm FU x0 x1 x2 x3 x4 x5 x6 x7 x8 x9 A B C D E F G) (xLbm x0 x1 x2 x3 x4 x5 x6 x7 x8 x9 A B C D E F G)]
theorem wLbm:zh zP dOk base o93 t91 ((31,16),sLbm):=by
 refine ⟨.loop (za zP (tn0 31) 31 16),2,by kernel_rfl,?_⟩
 intro S alts e S' h1 h2
 obtain ⟨_,rfl,g⟩:=tq_some h1
 clear h1
 change some _=_ at g
 cases g
 obtain ⟨hc0,rfl,rfl⟩:=zf h2
 exact ⟨FU+40,(zb rfl).trans (lLbm FU 40 FU _ _ _ _ _ _ _ _ _ _ _ _ _ _ _ _ _ _ (zc hc0))⟩
noncomputable def t94:TellT:=((31,16),sLbm)::t91
abbrev tn94:=zd base o93 t94
theorem ok94:OKT tn94:=zi ok93 ok93 (p:=((31,16),sLbm)) wLbm
noncomputable def LbL:Nat→L3→Int→Int→LI→L3→LL→LL→LI→Int→LI→LI→LL→LL→Option LL
 | 0,_,_,_,_,_,_,_,_,_,_,_,_,_=>none
 | n+1,x0,x1,x2,x3,x4,x5,x6,x7,x8,x9,A,B,C=>(cond (decide (x2 < x1)) (cond (decide (0≤x2)) (cond (decide (x2 < (x0.length:Int))) (cond (decide ((↑(List.length (List.getD x0 x2.toNat [])):Int)≤(↑(List.length (List.getD x0 x2.toNat [])):Int))) (cond (decide ((↑(List.length (List.getD x0 x2.toNat [])):Int)≤(↑(nat_lit 2147483648):Int))) (cond (ok (Lbm FU x2 x0 x1 x2 (↑(List.length (List.replicate (↑(List.length (List.getD x0 x2.toNat [])):Int).toNat (0:Int))):Int) 0 x3 x4 x5 x6 x7 x8 x9 A B (List.replicate (↑(List.length (List.getD x0 x2.toNat [])):Int).toNat 0) C)) (cond (decide (List.length C+List.length [val (Lbm FU x2 x0 x1 x2 (↑(List.length (List.replicate (↑(List.length (List.getD x0 x2.toNat [])):Int).toNat (0:Int))):Int) 0 x3 x4 x5 x6 x7 x8 x9 A B (List.replicate (↑(List.length (List.getD x0 x2.toNat [])):Int).toNat 0) C)]≤nat_lit 2147483648)) (LbL n x0 x1 (wI (x2+(1:Int))) x3 x4 x5 x6 x7 x8 x9 A B (C++[val (Lbm FU x2 x0 x1 x2 (↑(List.length (List.replicate (↑(List.length (List.getD x0 x2.toNat [])):Int).toNat (0:Int))):Int) 0 x3 x4 x5 x6 x7 x8 x9 A B (List.replicate (↑(List.length (List.getD x0 x2.toNat [])):Int).toNat 0) C)])) none) none) none) none) none) none) (some C))
theorem qLbL:type_of% @LbL.eq_2:=@LbL.eq_2
noncomputable def xLbL (x0:L3) (x1 x2:Int) (x3:LI) (x4:L3) (x5:LL) (x6:LL) (x7:LI) (x8:Int) (x9:LI) (A:LI) (B:LL) (C:LL):LL→Ex×CS:=fun r=>((.exit 0),⟨[(5,vG 5)],[],[(bx0 x3 x4 1 x5 2 x6 x7 x8),rD (x9),rD (A),.box 53 [.ptr 0 0],.box 31 [kL (B)],rL (r:LL)],5,false⟩)
abbrev cLbL (x0:L3) (x1 x2:Int) (x3:LI) (x4:L3) (x5:LL) (x6:LL) (x7:LI) (x8:Int) (x9:LI) (A:LI) (B:LL) (C:LL):CS:=⟨[(1,.v (.sc (.fn 57 0 [none,none] [.ptr 3 0,.ptr 4 0]))),(5,vG 5),(14,.v (.sc (.d 31 mT x0))),(15,vI x1),(16,vI x2)],[],[(bx0 x3 x4 1 x5 2 x6 x7 x8),rD (x9),rD (A),.box 53 [.ptr 0 0],.box 31 [kL (B)],rL (C)],5,false⟩
theorem bLbL (k:Nat) (cN:KN) (cX:KX) (x0:L3) (x1 x2:Int) (x3:LI) (x4:L3) (x5:LL) (x6:LL) (x7:LI) (x8:Int) (x9:LI) (A:LI) (B:LL) (C:LL):zo zP (tn94 31) (TM.evF zP (tn94) dOk (k+40)) dOk (k+40) (za zP (tn0 31) 31 0) 0 0 (cLbL x0 x1 x2 x3 x4 x5 x6 x7 x8 x9 A B C) cN cX=(cond (decide (x2 < x1)) (cond (decide (0≤x2)) (cond (decide (x2 < (x0.length:Int))) (cond (decide ((↑(List.length (List.getD x0 x2.toNat [])):Int)≤(↑(List.length (List.getD x0 x2.toNat [])):Int))) (cond (decide ((↑(List.length (List.getD x0 x2.toNat [])):Int)≤(↑(nat_lit 2147483648):Int))) (ob (Lbm FU x2 x0 x1 x2 (↑(List.length (List.replicate (↑(List.length (List.getD x0 x2.toNat [])):Int).toNat (0:Int))):Int) 0 x3 x4 x5 x6 x7 x8 x9 A B (List.replicate (↑(List.length (List.getD x0 x2.toNat [])):Int).toNat 0) C) fun r1=>(cond (decide (List.length C+List.length [r1]≤nat_lit 2147483648)) (cN (cLbL x0 x1 (wI (x2+(1:Int))) x3 x4 x5 x6 x7 x8 x9 A B (C++[r1]:LL))) none)) none) none) none) none) (cP cX (xLbL x0 x1 x2 x3 x4 x5 x6 x7 x8 x9 A B C C))):=by kernel_rfl
theorem lLbL (k m:Nat):∀ (n:Nat) (x0:L3) (x1 x2:Int) (x3:LI) (x4:L3) (x5:LL) (x6:LL) (x7:LI) (x8:Int) (x9:LI) (A:LI) (B:LL) (C:LL) (r:LL),LbL n x0 x1 x2 x3 x4 x5 x6 x7 x8 x9 A B C=some r→zA zP (tn94 31) (TM.evF zP (tn94) dOk (k+40)) dOk (k+40) (za zP (tn0 31) 31 0) 0 0 (n+m) (cLbL x0 x1 x2 x3 x4 x5 x6 x7 x8 x9 A B C)=some (xLbL x0 x1 x2 x3 x4 x5 x6 x7 x8 x9 A B C r):=by
 intro n
 induction n with
 | zero=>intro _ _ _ _ _ _ _ _ _ _ _ _ _ r h;cases h
 | succ n ih=>
  intro x0 x1 x2 x3 x4 x5 x6 x7 x8 x9 A B C r
  rw [show n+1+m=n+m+1 by omega,zk,bLbL,qLbL]
  with_reducible repeat' refine ze ?_ ?_
  all_goals first | exact ih _ _ _ _ _ _ _ _ _ _ _ _ _ r | (intro h;cases h;done) | (intro h;cases h;rfl)
noncomputable def sLbL:TellS:=fun S=>tq (mS (cLbL [] 0 0 [] [] [] [] [] 0 [] [] [] [])) S fun x0 x1 x2 x3 x4 x5 x6 x7 x8 x9 A B C=>some [te (LbL FU x0 x1 x2 x3 x4 x5 x6 x7 x8 x9 A B C) (xLbL x0 x1 x2 x3 x4 x5 x6 x7 x8 x9 A B C)]
theorem wLbL:zh zP dOk base o93 t94 ((31,0),sLbL):=by
 refine ⟨.loop (za zP (tn0 31) 31 0),0,by kernel_rfl,?_⟩
 intro S alts e S' h1 h2
 obtain ⟨_,rfl,g⟩:=tq_some h1
 clear h1
 change some _=_ at g
 cases g
 obtain ⟨hc0,rfl,rfl⟩:=zf h2
 exact ⟨FU+40,(zb rfl).trans (lLbL FU 40 FU _ _ _ _ _ _ _ _ _ _ _ _ _ _ (zc hc0))⟩
noncomputable def t95:TellT:=((31,0),sLbL)::t94
abbrev tn95:=zd base o93 t95
theorem ok95:OKT tn95:=zi ok94 ok94 (p:=((31,0),sLbL)) wLbL
noncomputable def tv31_2 {β:Type} (x0:LI) (x1:L3) (x2:LL) (x3:LL) (x4:LI) (x5:Int) (x6:LI) (x7:LI) (x8:LL) (K:LL→Option β):Option β:=(cond (ok (LbL FU x1 (x1.length:Int) 0 x0 x1 x2 x3 x4 x5 x6 x7 x8 [])) (K (val (LbL FU x1 (x1.length:Int) 0 x0 x1 x2 x3 x4 x5 x6 x7 x8 []))) none)
noncomputable def v31_2 (x0:LI) (x1:L3) (x2:LL) (x3:LL) (x4:LI) (x5:Int) (x6:LI) (x7:LI) (x8:LL):Option LL:=tv31_2 x0 x1 x2 x3 x4 x5 x6 x7 x8 some
abbrev aF31_2:List TA:=[.sc (.ptr 0 0),.sc (.fn 57 0 [none,none] [.ptr 3 0,.ptr 4 0])]
abbrev hF31_2 (x0:LI) (x1:L3) (x2:LL) (x3:LL) (x4:LI) (x5:Int) (x6:LI) (x7:LI) (x8:LL):List TO:=[(bx0 x0 x1 1 x2 2 x3 x4 x5),rD (x6),rD (x7),.box 53 [.ptr 0 0],.box 31 [kL (x8)]]
theorem ev31_2 (x0:LI) (x1:L3) (x2:LL) (x3:LL) (x4:LI) (x5:Int) (x6:LI) (x7:LI) (x8:LL):zt zP (tn95 31) (TM.evF zP (tn95) dOk 40) dOk 40 31 aF31_2 (hF31_2 x0 x1 x2 x3 x4 x5 x6 x7 x8)=(v31_2 x0 x1 x2 x3 x4 x5 x6 x7 x8).bind fun r=>some ([.sc (kL (r:LL))],[(bx0 x0 x1 1 x2 2 x3 x4 x5),rD (x6),rD (x7),.box 53 [.ptr 0 0],.box 31 [kL (x8)]]):=by
 refine Eq.trans (b:=tv31_2 x0 x1 x2 x3 x4 x5 x6 x7 x8 fun r=>some ([.sc (kL (r:LL))],[(bx0 x0 x1 1 x2 2 x3 x4 x5),rD (x6),rD (x7),.box 53 [.ptr 0 0],.box 31 [kL (x8)]])) (by kernel_rfl) ?_
 unfold v31_2 tv31_2
 with_reducible repeat' refine zp ?_ ?_
 all_goals rfl
noncomputable def sv31_2:OrcS:=fun al H=>tqa aF31_2 (hF31_2 [] [] [] [] [] 0 [] [] []) al H fun x0 x1 x2 x3 x4 x5 x6 x7 x8=>some [(ok (v31_2 x0 x1 x2 x3 x4 x5 x6 x7 x8),[.sc (kL ((val (v31_2 x0 x1 x2 x3 x4 x5 x6 x7 x8)):LL))],[(bx0 x0 x1 1 x2 2 x3 x4 x5),rD (x6),rD (x7),.box 53 [.ptr 0 0],.box 31 [kL (x8)]])]
theorem wv31_2:zq zP dOk base o93 t95 (31,sv31_2):=by
 intro al H q hq rs H2 h2
 obtain ⟨_,_,rfl,rfl,g⟩:=tqa_some hq
 clear hq
 change some _=_ at g
 cases g
 obtain ⟨hc0,rfl,rfl⟩:=zg h2
 exact ⟨41,(zy (by kernel_rfl)).trans ((ev31_2 _ _ _ _ _ _ _ _ _).trans (zm (zc hc0)))⟩
noncomputable def o96:OrcT:=(31,sv31_2)::o93
abbrev tn96:=zd base o96 t95
theorem ok96:OKT tn96:=zr ok95 ok95 (p:=(31,sv31_2)) wv31_2
noncomputable def LaP:Nat→Int→Int→LI→L3→LL→LL→LI→Int→LI→LI→LL→Option LI
 | 0,_,_,_,_,_,_,_,_,_,_,_=>none
 | n+1,x0,x1,x2,x3,x4,x5,x6,x7,x8,x9,A=>(cond (decide (x1 < x0)) (cond (decide (0≤x1)) (cond (decide (x1 < (x8.length:Int))) (cond (decide (x1.toNat < List.length x8)) (cond (decide (x1 < (x9.length:Int))) (cond (decide (x1.toNat < List.length x9)) (LaP n x0 (wI (x1+(1:Int))) x2 x3 x4 x5 x6 x7 x8 (List.set x9 x1.toNat (wI (List.getD x9 x1.toNat 0+List.getD x8 x1.toNat 0))) A) none) none) none) none) none) (some x9))
theorem qLaP:type_of% @LaP.eq_2:=@LaP.eq_2
noncomputable def xLaP (x0 x1:Int) (x2:LI) (x3:L3) (x4:LL) (x5:LL) (x6:LI) (x7:Int) (x8:LI) (x9:LI) (A:LL):LI→Ex×CS:=fun r=>((.exit 0),⟨[(1,vP 4),(2,vP 3)],[],[(bx0 x2 x3 1 x4 2 x5 x6 x7),rD (x8),rD (r:LI),.box 31 [kL (A)],.box 53 [.ptr 0 0]],3,false⟩)
abbrev cLaP (x0 x1:Int) (x2:LI) (x3:L3) (x4:LL) (x5:LL) (x6:LI) (x7:Int) (x8:LI) (x9:LI) (A:LL):CS:=⟨[(1,vP 4),(2,vP 3),(25,vG 1),(26,vI x0),(27,vI x1)],[],[(bx0 x2 x3 1 x4 2 x5 x6 x7),rD (x8),rD (x9),.box 31 [kL (A)],.box 53 [.ptr 0 0]],3,false⟩
theorem bLaP (k:Nat) (cN:KN) (cX:KX) (x0 x1:Int) (x2:LI) (x3:L3) (x4:LL) (x5:LL) (x6:LI) (x7:Int) (x8:LI) (x9:LI) (A:LL):zo zP (tn96 34) (TM.evF zP (tn96) dOk (k+40)) dOk (k+40) (za zP (tn0 34) 34 0) 0 0 (cLaP x0 x1 x2 x3 x4 x5 x6 x7 x8 x9 A) cN cX=(cond (decide (x1 < x0)) (cond (decide (0≤x1)) (cond (decide (x1 < (x8.length:Int))) (cond (decide (x1.toNat < List.length x8)) (cond (decide (0≤x1)) (cond (decide (x1 < (x9.length:Int))) (cond (decide (x1.toNat < List.length x9)) (cond (decide (0≤x1)) (cond (decide (x1 < (x9.length:Int))) (cond (decide (x1.toNat < List.length x9)) (cN (cLaP x0 (wI (x1+(1:Int))) x2 x3 x4 x5 x6 x7 x8 (List.set x9 x1.toNat (wI (List.getD x9 x1.toNat 0+List.getD x8 x1.toNat 0)):LI) A)) none) none) none) none) none) none) none) none) none) (cP cX (xLaP x0 x1 x2 x3 x4 x5 x6 x7 x8 x9 A x9))):=by kernel_rfl
theorem lLaP (k m:Nat):∀ (n:Nat) (x0 x1:Int) (x2:LI) (x3:L3) (x4:LL) (x5:LL) (x6:LI) (x7:Int) (x8:LI) (x9:LI) (A:LL) (r:LI),LaP n x0 x1 x2 x3 x4 x5 x6 x7 x8 x9 A=some r→zA zP (tn96 34) (TM.evF zP (tn96) dOk (k+40)) dOk (k+40) (za zP (tn0 34) 34 0) 0 0 (n+m) (cLaP x0 x1 x2 x3 x4 x5 x6 x7 x8 x9 A)=some (xLaP x0 x1 x2 x3 x4 x5 x6 x7 x8 x9 A r):=by
 intro n
 induction n with
 | zero=>intro _ _ _ _ _ _ _ _ _ _ _ r h;cases h
 | succ n ih=>
  intro x0 x1 x2 x3 x4 x5 x6 x7 x8 x9 A r
  rw [show n+1+m=n+m+1 by omega,zk,bLaP,qLaP]
  cases (decide (x1 < x0)) with
  | true=>
   cases (decide (0≤x1)) with
   | true=>
    cases (decide (x1 < (x8.length:Int))) with
    | true=>
     cases (decide (x1.toNat < List.length x8)) with
     | true=>
      cases (decide (x1 < (x9.length:Int))) with
      | true=>
       cases (decide (x1.toNat < List.length x9)) with
       | true=>
        exact ih _ _ _ _ _ _ _ _ _ _ _ r
       | false=>
        intro h;cases h
      | false=>
       intro h;cases h
     | false=>
      intro h;cases h
    | false=>
     intro h;cases h
   | false=>
    intro h;cases h
  | false=>
   intro h;cases h;rfl
noncomputable def sLaP:TellS:=fun S=>tq (mS (cLaP 0 0 [] [] [] [] [] 0 [] [] [])) S fun x0 x1 x2 x3 x4 x5 x6 x7 x8 x9 A=>some [te (LaP FU x0 x1 x2 x3 x4 x5 x6 x7 x8 x9 A) (xLaP x0 x1 x2 x3 x4 x5 x6 x7 x8 x9 A)]
theorem wLaP:zh zP dOk base o96 t95 ((34,0),sLaP):=by
 refine ⟨.loop (za zP (tn0 34) 34 0),0,by kernel_rfl,?_⟩
 intro S alts e S' h1 h2
 obtain ⟨_,rfl,g⟩:=tq_some h1
 clear h1
 change some _=_ at g
 cases g
 obtain ⟨hc0,rfl,rfl⟩:=zf h2
 exact ⟨FU+40,(zb rfl).trans (lLaP FU 40 FU _ _ _ _ _ _ _ _ _ _ _ _ (zc hc0))⟩
noncomputable def t97:TellT:=((34,0),sLaP)::t95
abbrev tn97:=zd base o96 t97
theorem ok97:OKT tn97:=zi ok96 ok96 (p:=((34,0),sLaP)) wLaP
noncomputable def Lbz:Nat→LL→Int→Int→L3→Int→Int→LL→Int→Int→LI→Int→Int→LI→L3→LL→LL→LI→Int→LI→LI→LI→Option LI
 | 0,_,_,_,_,_,_,_,_,_,_,_,_,_,_,_,_,_,_,_,_,_=>none
 | n+1,x0,x1,x2,x3,x4,x5,x6,x7,x8,x9,A,B,C,D,E,F,G,I,J,K,L=>(cond (decide (B < A)) (cond (decide (0≤B)) (cond (decide (B < (x9.length:Int))) (cond (decide (0≤List.getD x9 B.toNat 0)) (cond (decide (List.getD x9 B.toNat 0 < (L.length:Int))) (cond (decide ((List.getD x9 B.toNat 0).toNat < List.length L)) (cond (decide (0≤x1)) (cond (decide (x1 < (x0.length:Int))) (cond (decide (0≤x2)) (cond (decide (x2 < (↑(List.length (List.getD x0 x1.toNat [])):Int))) (Lbz n x0 x1 x2 x3 x4 x5 x6 x7 x8 x9 A (wI (B+(1:Int))) C D E F G I J K (List.set L (List.getD x9 B.toNat 0).toNat (wI (List.getD L (List.getD x9 B.toNat 0).toNat 0+List.getD (List.getD x0 x1.toNat []) x2.toNat 0)))) none) none) none) none) none) none) none) none) none) (some L))
theorem qLbz:type_of% @Lbz.eq_2:=@Lbz.eq_2
noncomputable def xLbz (x0:LL) (x1 x2:Int) (x3:L3) (x4 x5:Int) (x6:LL) (x7 x8:Int) (x9:LI) (A B:Int) (C:LI) (D:L3) (E:LL) (F:LL) (G:LI) (I:Int) (J:LI) (K:LI) (L:LI):LI→Ex×CS:=fun r=>((.exit 4),⟨[(1,vL x0),(5,vG 3),(6,vI x1),(23,.v (.sc (.d 31 mT x3))),(24,vI x4),(25,vI x5),(30,vL x6),(31,vI x7),(32,vI x8)],[],[(bx0 C D 1 E 2 F G I),rD (J),rD (K),rD (r:LI)],3,false⟩)
abbrev cLbz (x0:LL) (x1 x2:Int) (x3:L3) (x4 x5:Int) (x6:LL) (x7 x8:Int) (x9:LI) (A B:Int) (C:LI) (D:L3) (E:LL) (F:LL) (G:LI) (I:Int) (J:LI) (K:LI) (L:LI):CS:=⟨[(1,vL x0),(5,vG 3),(6,vI x1),(8,vI x2),(23,.v (.sc (.d 31 mT x3))),(24,vI x4),(25,vI x5),(30,vL x6),(31,vI x7),(32,vI x8),(37,vD x9),(38,vI A),(39,vI B)],[],[(bx0 C D 1 E 2 F G I),rD (J),rD (K),rD (L)],3,false⟩
theorem bLbz (k:Nat) (cN:KN) (cX:KX) (x0:LL) (x1 x2:Int) (x3:L3) (x4 x5:Int) (x6:LL) (x7 x8:Int) (x9:LI) (A B:Int) (C:LI) (D:L3) (E:LL) (F:LL) (G:LI) (I:Int) (J:LI) (K:LI) (L:LI):zo zP (tn97 60) (TM.evF zP (tn97) dOk (k+40)) dOk (k+40) (za zP (tn0 60) 60 32) 4 32 (cLbz x0 x1 x2 x3 x4 x5 x6 x7 x8 x9 A B C D E F G I J K L) cN cX=(cond (decide (B < A)) (cond (decide (0≤B)) (cond (decide (B < (x9.length:Int))) (cond (decide (0≤List.getD x9 B.toNat 0)) (cond (decide (List.getD x9 B.toNat 0 < (L.length:Int))) (cond (decide ((List.getD x9 B.toNat 0).toNat < List.length L)) (cond (decide (0≤x1)) (cond (decide (x1 < (x0.length:Int))) (cond (decide (0≤x2)) (cond (decide (x2 < (↑(List.length (List.getD x0 x1.toNat [])):Int))) (cond (decide (0≤List.getD x9 B.toNat 0)) (cond (decide (List.getD x9 B.toNat 0 < (L.length:Int))) (cond (decide ((List.getD x9 B.toNat 0).toNat < List.length L)) (cN (cLbz x0 x1 x2 x3 x4 x5 x6 x7 x8 x9 A (wI (B+(1:Int))) C D E F G I J K (List.set L (List.getD x9 B.toNat 0).toNat (wI (List.getD L (List.getD x9 B.toNat 0).toNat 0+List.getD (List.getD x0 x1.toNat []) x2.toNat 0)):LI))) none) none) none) none) none) none) none) none) none) none) none) none) (cP cX (xLbz x0 x1 x2 x3 x4 x5 x6 x7 x8 x9 A B C D E F G I J K L L))):=by kernel_rfl
theorem lLbz (k m:Nat):∀ (n:Nat) (x0:LL) (x1 x2:Int) (x3:L3) (x4 x5:Int) (x6:LL) (x7 x8:Int) (x9:LI) (A B:Int) (C:LI) (D:L3) (E:LL) (F:LL) (G:LI) (I:Int) (J:LI) (K:LI) (L:LI) (r:LI),Lbz n x0 x1 x2 x3 x4 x5 x6 x7 x8 x9 A B C D E F G I J K L=some r→zA zP (tn97 60) (TM.evF zP (tn97) dOk (k+40)) dOk (k+40) (za zP (tn0 60) 60 32) 4 32 (n+m) (cLbz x0 x1 x2 x3 x4 x5 x6 x7 x8 x9 A B C D E F G I J K L)=some (xLbz x0 x1 x2 x3 x4 x5 x6 x7 x8 x9 A B C D E F G I J K L r):=by
 intro n
 induction n with
 | zero=>intro _ _ _ _ _ _ _ _ _ _ _ _ _ _ _ _ _ _ _ _ _ r h;cases h
 | succ n ih=>
  intro x0 x1 x2 x3 x4 x5 x6 x7 x8 x9 A B C D E F G I J K L r
  rw [show n+1+m=n+m+1 by omega,zk,bLbz,qLbz]
  cases (decide (B < A)) with
  | true=>
   cases (decide (0≤B)) with
   | true=>
    cases (decide (B < (x9.length:Int))) with
    | true=>
     cases (decide (0≤List.getD x9 B.toNat 0)) with
     | true=>
      cases (decide (List.getD x9 B.toNat 0 < (L.length:Int))) with
      | true=>
       cases (decide ((List.getD x9 B.toNat 0).toNat < List.length L)) with
       | true=>
        cases (decide (0≤x1)) with
        | true=>
         cases (decide (x1 < (x0.length:Int))) with
         | true=>
          cases (decide (0≤x2)) with
          | true=>
           cases (decide (x2 < (↑(List.length (List.getD x0 x1.toNat [])):Int))) with
           | true=>
            exact ih _ _ _ _ _ _ _ _ _ _ _ _ _ _ _ _ _ _ _ _ _ r
           | false=>
            intro h;cases h
          | false=>
           intro h;cases h
         | false=>
          intro h;cases h
        | false=>
         intro h;cases h
       | false=>
        intro h;cases h
      | false=>
       intro h;cases h
     | false=>
      intro h;cases h
    | false=>
     intro h;cases h
   | false=>
    intro h;cases h
  | false=>
   intro h;cases h;rfl
noncomputable def sLbz:TellS:=fun S=>tq (mS (cLbz [] 0 0 [] 0 0 [] 0 0 [] 0 0 [] [] [] [] [] 0 [] [] [])) S fun x0 x1 x2 x3 x4 x5 x6 x7 x8 x9 A B C D E F G I J K L=>some [te (Lbz FU x0 x1 x2 x3 x4 x5 x6 x7 x8 x9 A B C D E F G I J K L) (xLbz x0 x1 x2 x3 x4 x5 x6 x7 x8 x9 A B C D E F G I J K L)]
theorem wLbz:zh zP dOk base o96 t97 ((60,32),sLbz):=by
 refine ⟨.loop (za zP (tn0 60) 60 32),4,by kernel_rfl,?_⟩
 intro S alts e S' h1 h2
 obtain ⟨_,rfl,g⟩:=tq_some h1
 clear h1
 change some _=_ at g
 cases g
 obtain ⟨hc0,rfl,rfl⟩:=zf h2
 exact ⟨FU+40,(zb rfl).trans (lLbz FU 40 FU _ _ _ _ _ _ _ _ _ _ _ _ _ _ _ _ _ _ _ _ _ _ (zc hc0))⟩
noncomputable def t98:TellT:=((60,32),sLbz)::t97
abbrev tn98:=zd base o96 t98
theorem ok98:OKT tn98:=zi ok97 ok97 (p:=((60,32),sLbz)) wLbz
noncomputable def Lbw:Nat→LL→Int→L3→Int→Int→LL→Int→Int→LI→L3→LL→LL→LI→Int→LI→LI→LI→Option LI
 | 0,_,_,_,_,_,_,_,_,_,_,_,_,_,_,_,_,_=>none
 | n+1,x0,x1,x2,x3,x4,x5,x6,x7,x8,x9,A,B,C,D,E,F,G=>(cond (decide (x7 < x6)) (cond (decide (0≤x7)) (cond (decide (x7 < (x5.length:Int))) (cond (ok (Lbz FU x0 x1 x7 x2 x3 x4 x5 x6 x7 (List.getD x5 x7.toNat []) (↑(List.length (List.getD x5 x7.toNat [])):Int) 0 x8 x9 A B C D E F G)) (Lbw n x0 x1 x2 x3 x4 x5 x6 (wI (x7+(1:Int))) x8 x9 A B C D E F (val (Lbz FU x0 x1 x7 x2 x3 x4 x5 x6 x7 (List.getD x5 x7.toNat []) (↑(List.length (List.getD x5 x7.toNat [])):Int) 0 x8 x9 A B C D E F G))) none) none) none) (some G))
theorem qLbw:type_of% @Lbw.eq_2:=@Lbw.eq_2
noncomputable def xLbw (x0:LL) (x1:Int) (x2:L3) (x3 x4:Int) (x5:LL) (x6 x7:Int) (x8:LI) (x9:L3) (A:LL) (B:LL) (C:LI) (D:Int) (E:LI) (F:LI) (G:LI):LI→Ex×CS:=fun r=>((.exit 2),⟨[(1,vL x0),(5,vG 3),(23,.v (.sc (.d 31 mT x2))),(24,vI x3),(25,vI x4)],[],[(bx0 x8 x9 1 A 2 B C D),rD (E),rD (F),rD (r:LI)],3,false⟩)
abbrev cLbw (x0:LL) (x1:Int) (x2:L3) (x3 x4:Int) (x5:LL) (x6 x7:Int) (x8:LI) (x9:L3) (A:LL) (B:LL) (C:LI) (D:Int) (E:LI) (F:LI) (G:LI):CS:=⟨[(1,vL x0),(5,vG 3),(6,vI x1),(23,.v (.sc (.d 31 mT x2))),(24,vI x3),(25,vI x4),(30,vL x5),(31,vI x6),(32,vI x7)],[],[(bx0 x8 x9 1 A 2 B C D),rD (E),rD (F),rD (G)],3,false⟩
theorem bLbw (k:Nat) (cN:KN) (cX:KX) (x0:LL) (x1:Int) (x2:L3) (x3 x4:Int) (x5:LL) (x6 x7:Int) (x8:LI) (x9:L3) (A:LL) (B:LL) (C:LI) (D:Int) (E:LI) (F:LI) (G:LI):zo zP (tn98 60) (TM.evF zP (tn98) dOk (k+40)) dOk (k+40) (za zP (tn0 60) 60 16) 2 16 (cLbw x0 x1 x2 x3 x4 x5 x6 x7 x8 x9 A B C D E F G) cN cX=(cond (decide (x7 < x6)) (cond (decide (0≤x7)) (cond (decide (x7 < (x5.length:Int))) (ob (Lbz FU x0 x1 x7 x2 x3 x4 x5 x6 x7 (List.getD x5 x7.toNat []) (↑(List.length (List.getD x5 x7.toNat [])):Int) 0 x8 x9 A B C D E F G) fun r1=>(cN (cLbw x0 x1 x2 x3 x4 x5 x6 (wI (x7+(1:Int))) x8 x9 A B C D E F (r1:LI)))) none) none) (cP cX (xLbw x0 x1 x2 x3 x4 x5 x6 x7 x8 x9 A B C D E F G G))):=by kernel_rfl
theorem lLbw (k m:Nat):∀ (n:Nat) (x0:LL) (x1:Int) (x2:L3) (x3 x4:Int) (x5:LL) (x6 x7:Int) (x8:LI) (x9:L3) (A:LL) (B:LL) (C:LI) (D:Int) (E:LI) (F:LI) (G:LI) (r:LI),Lbw n x0 x1 x2 x3 x4 x5 x6 x7 x8 x9 A B C D E F G=some r→zA zP (tn98 60) (TM.evF zP (tn98) dOk (k+40)) dOk (k+40) (za zP (tn0 60) 60 16) 2 16 (n+m) (cLbw x0 x1 x2 x3 x4 x5 x6 x7 x8 x9 A B C D E F G)=some (xLbw x0 x1 x2 x3 x4 x5 x6 x7 x8 x9 A B C D E F G r):=by
 intro n
 induction n with
 | zero=>intro _ _ _ _ _ _ _ _ _ _ _ _ _ _ _ _ _ r h;cases h
 | succ n ih=>
  intro x0 x1 x2 x3 x4 x5 x6 x7 x8 x9 A B C D E F G r
  rw [show n+1+m=n+m+1 by omega,zk,bLbw,qLbw]
  with_reducible repeat' refine ze ?_ ?_
  all_goals first | exact ih _ _ _ _ _ _ _ _ _ _ _ _ _ _ _ _ _ r | (intro h;cases h;done) | (intro h;cases h;rfl)
noncomputable def sLbw:TellS:=fun S=>tq (mS (cLbw [] 0 [] 0 0 [] 0 0 [] [] [] [] [] 0 [] [] [])) S fun x0 x1 x2 x3 x4 x5 x6 x7 x8 x9 A B C D E F G=>some [te (Lbw FU x0 x1 x2 x3 x4 x5 x6 x7 x8 x9 A B C D E F G) (xLbw x0 x1 x2 x3 x4 x5 x6 x7 x8 x9 A B C D E F G)]
theorem wLbw:zh zP dOk base o96 t98 ((60,16),sLbw):=by
 refine ⟨.loop (za zP (tn0 60) 60 16),2,by kernel_rfl,?_⟩
 intro S alts e S' h1 h2
 obtain ⟨_,rfl,g⟩:=tq_some h1
 clear h1
 change some _=_ at g
 cases g
 obtain ⟨hc0,rfl,rfl⟩:=zf h2
 exact ⟨FU+40,(zb rfl).trans (lLbw FU 40 FU _ _ _ _ _ _ _ _ _ _ _ _ _ _ _ _ _ _ (zc hc0))⟩
noncomputable def t99:TellT:=((60,16),sLbw)::t98
abbrev tn99:=zd base o96 t99
theorem ok99:OKT tn99:=zi ok98 ok98 (p:=((60,16),sLbw)) wLbw
noncomputable def LbN:Nat→LL→L3→Int→Int→LI→L3→LL→LL→LI→Int→LI→LI→LI→Option LI
 | 0,_,_,_,_,_,_,_,_,_,_,_,_,_=>none
 | n+1,x0,x1,x2,x3,x4,x5,x6,x7,x8,x9,A,B,C=>(cond (decide (x3 < x2)) (cond (decide (0≤x3)) (cond (decide (x3 < (x1.length:Int))) (cond (ok (Lbw FU x0 x3 x1 x2 x3 (List.getD x1 x3.toNat []) (↑(List.length (List.getD x1 x3.toNat [])):Int) 0 x4 x5 x6 x7 x8 x9 A B C)) (LbN n x0 x1 x2 (wI (x3+(1:Int))) x4 x5 x6 x7 x8 x9 A B (val (Lbw FU x0 x3 x1 x2 x3 (List.getD x1 x3.toNat []) (↑(List.length (List.getD x1 x3.toNat [])):Int) 0 x4 x5 x6 x7 x8 x9 A B C))) none) none) none) (some C))
theorem qLbN:type_of% @LbN.eq_2:=@LbN.eq_2
noncomputable def xLbN (x0:LL) (x1:L3) (x2 x3:Int) (x4:LI) (x5:L3) (x6:LL) (x7:LL) (x8:LI) (x9:Int) (A:LI) (B:LI) (C:LI):LI→Ex×CS:=fun r=>((.exit 0),⟨[(5,vG 3)],[],[(bx0 x4 x5 1 x6 2 x7 x8 x9),rD (A),rD (B),rD (r:LI)],3,false⟩)
abbrev cLbN (x0:LL) (x1:L3) (x2 x3:Int) (x4:LI) (x5:L3) (x6:LL) (x7:LL) (x8:LI) (x9:Int) (A:LI) (B:LI) (C:LI):CS:=⟨[(1,vL x0),(5,vG 3),(23,.v (.sc (.d 31 mT x1))),(24,vI x2),(25,vI x3)],[],[(bx0 x4 x5 1 x6 2 x7 x8 x9),rD (A),rD (B),rD (C)],3,false⟩
theorem bLbN (k:Nat) (cN:KN) (cX:KX) (x0:LL) (x1:L3) (x2 x3:Int) (x4:LI) (x5:L3) (x6:LL) (x7:LL) (x8:LI) (x9:Int) (A:LI) (B:LI) (C:LI):zo zP (tn99 60) (TM.evF zP (tn99) dOk (k+40)) dOk (k+40) (za zP (tn0 60) 60 0) 0 0 (cLbN x0 x1 x2 x3 x4 x5 x6 x7 x8 x9 A B C) cN cX=(cond (decide (x3 < x2)) (cond (decide (0≤x3)) (cond (decide (x3 < (x1.length:Int))) (ob (Lbw FU x0 x3 x1 x2 x3 (List.getD x1 x3.toNat []) (↑(List.length (List.getD x1 x3.toNat [])):Int) 0 x4 x5 x6 x7 x8 x9 A B C) fun r1=>(cN (cLbN x0 x1 x2 (wI (x3+(1:Int))) x4 x5 x6 x7 x8 x9 A B (r1:LI)))) none) none) (cP cX (xLbN x0 x1 x2 x3 x4 x5 x6 x7 x8 x9 A B C C))):=by kernel_rfl
theorem lLbN (k m:Nat):∀ (n:Nat) (x0:LL) (x1:L3) (x2 x3:Int) (x4:LI) (x5:L3) (x6:LL) (x7:LL) (x8:LI) (x9:Int) (A:LI) (B:LI) (C:LI) (r:LI),LbN n x0 x1 x2 x3 x4 x5 x6 x7 x8 x9 A B C=some r→zA zP (tn99 60) (TM.evF zP (tn99) dOk (k+40)) dOk (k+40) (za zP (tn0 60) 60 0) 0 0 (n+m) (cLbN x0 x1 x2 x3 x4 x5 x6 x7 x8 x9 A B C)=some (xLbN x0 x1 x2 x3 x4 x5 x6 x7 x8 x9 A B C r):=by
 intro n
 induction n with
 | zero=>intro _ _ _ _ _ _ _ _ _ _ _ _ _ r h;cases h
 | succ n ih=>
  intro x0 x1 x2 x3 x4 x5 x6 x7 x8 x9 A B C r
  rw [show n+1+m=n+m+1 by omega,zk,bLbN,qLbN]
  with_reducible repeat' refine ze ?_ ?_
  all_goals first | exact ih _ _ _ _ _ _ _ _ _ _ _ _ _ r | (intro h;cases h;done) | (intro h;cases h;rfl)
noncomputable def sLbN:TellS:=fun S=>tq (mS (cLbN [] [] 0 0 [] [] [] [] [] 0 [] [] [])) S fun x0 x1 x2 x3 x4 x5 x6 x7 x8 x9 A B C=>some [te (LbN FU x0 x1 x2 x3 x4 x5 x6 x7 x8 x9 A B C) (xLbN x0 x1 x2 x3 x4 x5 x6 x7 x8 x9 A B C)]
theorem wLbN:zh zP dOk base o96 t99 ((60,0),sLbN):=by
 refine ⟨.loop (za zP (tn0 60) 60 0),0,by kernel_rfl,?_⟩
 intro S alts e S' h1 h2
 obtain ⟨_,rfl,g⟩:=tq_some h1
 clear h1
 change some _=_ at g
 cases g
 obtain ⟨hc0,rfl,rfl⟩:=zf h2
 exact ⟨FU+40,(zb rfl).trans (lLbN FU 40 FU _ _ _ _ _ _ _ _ _ _ _ _ _ _ (zc hc0))⟩
noncomputable def t100:TellT:=((60,0),sLbN)::t99
abbrev tn100:=zd base o96 t100
theorem ok100:OKT tn100:=zi ok99 ok99 (p:=((60,0),sLbN)) wLbN
noncomputable def tv60 {β:Type} (x0:LL) (x1:LI) (x2:L3) (x3:LL) (x4:LL) (x5:LI) (x6:Int) (x7:LI) (x8:LI) (K:LI→Option β):Option β:=(cond (decide ((x1.length:Int)≤(x1.length:Int))) (cond (decide ((x1.length:Int)≤(↑(nat_lit 2147483648):Int))) (cond (ok (LbN FU x0 x2 (x2.length:Int) 0 x1 x2 x3 x4 x5 x6 x7 x8 (List.replicate (x1.length:Int).toNat 0))) (K (val (LbN FU x0 x2 (x2.length:Int) 0 x1 x2 x3 x4 x5 x6 x7 x8 (List.replicate (x1.length:Int).toNat 0)))) none) none) none)
noncomputable def v60 (x0:LL) (x1:LI) (x2:L3) (x3:LL) (x4:LL) (x5:LI) (x6:Int) (x7:LI) (x8:LI):Option LI:=tv60 x0 x1 x2 x3 x4 x5 x6 x7 x8 some
abbrev aF60 (x0:LL):List TA:=[.sc (.ptr 0 0),.sc (kL x0)]
abbrev hF60 (x1:LI) (x2:L3) (x3:LL) (x4:LL) (x5:LI) (x6:Int) (x7:LI) (x8:LI):List TO:=[(bx0 x1 x2 1 x3 2 x4 x5 x6),rD (x7),rD (x8)]
theorem ev60 (x0:LL) (x1:LI) (x2:L3) (x3:LL) (x4:LL) (x5:LI) (x6:Int) (x7:LI) (x8:LI):zt zP (tn100 60) (TM.evF zP (tn100) dOk 40) dOk 40 60 (aF60 x0) (hF60 x1 x2 x3 x4 x5 x6 x7 x8)=(v60 x0 x1 x2 x3 x4 x5 x6 x7 x8).bind fun r=>some ([.sc (kD (r:LI))],[(bx0 x1 x2 1 x3 2 x4 x5 x6),rD (x7),rD (x8)]):=by
 refine Eq.trans (b:=tv60 x0 x1 x2 x3 x4 x5 x6 x7 x8 fun r=>some ([.sc (kD (r:LI))],[(bx0 x1 x2 1 x3 2 x4 x5 x6),rD (x7),rD (x8)])) (by kernel_rfl) ?_
 unfold v60 tv60
 with_reducible repeat' refine zp ?_ ?_
 all_goals rfl
noncomputable def sv60:OrcS:=fun al H=>tqa (aF60 []) (hF60 [] [] [] [] [] 0 [] []) al H fun x0 x1 x2 x3 x4 x5 x6 x7 x8=>some [(ok (v60 x0 x1 x2 x3 x4 x5 x6 x7 x8),[.sc (kD ((val (v60 x0 x1 x2 x3 x4 x5 x6 x7 x8)):LI))],[(bx0 x1 x2 1 x3 2 x4 x5 x6),rD (x7),rD (x8)])]
theorem wv60:zq zP dOk base o96 t100 (60,sv60):=by
 intro al H q hq rs H2 h2
 obtain ⟨_,_,rfl,rfl,g⟩:=tqa_some hq
 clear hq
 change some _=_ at g
 cases g
 obtain ⟨hc0,rfl,rfl⟩:=zg h2
 exact ⟨41,(zy (by kernel_rfl)).trans ((ev60 _ _ _ _ _ _ _ _ _).trans (zm (zc hc0)))⟩
noncomputable def o101:OrcT:=(60,sv60)::o96
abbrev tn101:=zd base o101 t100
theorem ok101:OKT tn101:=zr ok100 ok100 (p:=(60,sv60)) wv60
noncomputable def LaR:Nat→LI→Int→LI→Int→Int→LI→L3→LL→LL→LI→Int→LI→LI→Option Int
 | 0,_,_,_,_,_,_,_,_,_,_,_,_,_=>none
 | n+1,x0,x1,x2,x3,x4,x5,x6,x7,x8,x9,A,B,C=>(cond (decide (x4 < x3)) (cond (decide (0≤x4)) (cond (decide (x4 < (x2.length:Int))) (cond (decide (List.getD x2 x4.toNat 0 > 0)) (cond (decide (x1 < 0)) (LaR n x0 x4 x2 x3 (wI (x4+(1:Int))) x5 x6 x7 x8 x9 A B C) (cond (decide (x4 < (x5.length:Int))) (cond (decide (0≤x1)) (cond (decide (x1 < (x0.length:Int))) (cond (decide (x1 < (x5.length:Int))) (cond (decide (wI (List.getD x5 x4.toNat 0*List.getD x0 x1.toNat 0) < wI (List.getD x5 x1.toNat 0*List.getD x2 x4.toNat 0))) (LaR n x0 x4 x2 x3 (wI (x4+(1:Int))) x5 x6 x7 x8 x9 A B C) (LaR n x0 x1 x2 x3 (wI (x4+(1:Int))) x5 x6 x7 x8 x9 A B C)) none) none) none) none)) (LaR n x0 x1 x2 x3 (wI (x4+(1:Int))) x5 x6 x7 x8 x9 A B C)) none) none) (some x1))
theorem qLaR:type_of% @LaR.eq_2:=@LaR.eq_2
noncomputable def xLaR (x0:LI) (x1:Int) (x2:LI) (x3 x4:Int) (x5:LI) (x6:L3) (x7:LL) (x8:LL) (x9:LI) (A:Int) (B:LI) (C:LI):Int→Ex×CS:=fun r=>((.exit 0),⟨[(5,vI (r))],[],[(bx0 x5 x6 1 x7 2 x8 x9 A),rD (B),rD (C)],3,false⟩)
abbrev cLaR (x0:LI) (x1:Int) (x2:LI) (x3 x4:Int) (x5:LI) (x6:L3) (x7:LL) (x8:LL) (x9:LI) (A:Int) (B:LI) (C:LI):CS:=⟨[(0,vP 0),(1,vD x0),(5,vI x1),(8,vD x2),(9,vI x3),(10,vI x4)],[],[(bx0 x5 x6 1 x7 2 x8 x9 A),rD (B),rD (C)],3,false⟩
theorem bLaR (k:Nat) (cN:KN) (cX:KX) (x0:LI) (x1:Int) (x2:LI) (x3 x4:Int) (x5:LI) (x6:L3) (x7:LL) (x8:LL) (x9:LI) (A:Int) (B:LI) (C:LI):zo zP (tn101 61) (TM.evF zP (tn101) dOk (k+40)) dOk (k+40) (za zP (tn0 61) 61 0) 0 0 (cLaR x0 x1 x2 x3 x4 x5 x6 x7 x8 x9 A B C) cN cX=(cond (decide (x4 < x3)) (cond (decide (0≤x4)) (cond (decide (x4 < (x2.length:Int))) (cond (decide (List.getD x2 x4.toNat 0 > 0)) (cond (decide (x1 < 0)) (cN (cLaR x0 x4 x2 x3 (wI (x4+(1:Int))) x5 x6 x7 x8 x9 A B C)) (cond (decide (0≤x4)) (cond (decide (x4 < (x5.length:Int))) (cond (decide (0≤x1)) (cond (decide (x1 < (x0.length:Int))) (cond (decide (0≤x1)) (cond (decide (x1 < (x5.length:Int))) (cond (decide (wI (List.getD x5 x4.toNat 0*List.getD x0 x1.toNat 0) < wI (List.getD x5 x1.toNat 0*List.getD x2 x4.toNat 0))) (cN (cLaR x0 x4 x2 x3 (wI (x4+(1:Int))) x5 x6 x7 x8 x9 A B C)) (cN (cLaR x0 x1 x2 x3 (wI (x4+(1:Int))) x5 x6 x7 x8 x9 A B C))) none) none) none) none) none) none)) (cN (cLaR x0 x1 x2 x3 (wI (x4+(1:Int))) x5 x6 x7 x8 x9 A B C))) none) none) (cP cX (xLaR x0 x1 x2 x3 x4 x5 x6 x7 x8 x9 A B C x1))):=by kernel_rfl
theorem lLaR (k m:Nat):∀ (n:Nat) (x0:LI) (x1:Int) (x2:LI) (x3 x4:Int) (x5:LI) (x6:L3) (x7:LL) (x8:LL) (x9:LI) (A:Int) (B:LI) (C:LI) (r:Int),LaR n x0 x1 x2 x3 x4 x5 x6 x7 x8 x9 A B C=some r→zA zP (tn101 61) (TM.evF zP (tn101) dOk (k+40)) dOk (k+40) (za zP (tn0 61) 61 0) 0 0 (n+m) (cLaR x0 x1 x2 x3 x4 x5 x6 x7 x8 x9 A B C)=some (xLaR x0 x1 x2 x3 x4 x5 x6 x7 x8 x9 A B C r):=by
 intro n
 induction n with
 | zero=>intro _ _ _ _ _ _ _ _ _ _ _ _ _ r h;cases h
 | succ n ih=>
  intro x0 x1 x2 x3 x4 x5 x6 x7 x8 x9 A B C r
  rw [show n+1+m=n+m+1 by omega,zk,bLaR,qLaR]
  cases (decide (x4 < x3)) with
  | true=>
   cases (decide (0≤x4)) with
   | true=>
    cases (decide (x4 < (x2.length:Int))) with
    | true=>
     cases (decide (List.getD x2 x4.toNat 0 > 0)) with
     | true=>
      cases (decide (x1 < 0)) with
      | true=>
       exact ih _ _ _ _ _ _ _ _ _ _ _ _ _ r
      | false=>
       cases (decide (x4 < (x5.length:Int))) with
       | true=>
        cases (decide (0≤x1)) with
        | true=>
         cases (decide (x1 < (x0.length:Int))) with
         | true=>
          cases (decide (x1 < (x5.length:Int))) with
          | true=>
           cases (decide (wI (List.getD x5 x4.toNat 0*List.getD x0 x1.toNat 0) < wI (List.getD x5 x1.toNat 0*List.getD x2 x4.toNat 0))) with
           | true=>
            exact ih _ _ _ _ _ _ _ _ _ _ _ _ _ r
           | false=>
            exact ih _ _ _ _ _ _ _ _ _ _ _ _ _ r
          | false=>
           intro h;cases h
         | false=>
          intro h;cases h
        | false=>
         intro h;cases h
       | false=>
        intro h;cases h
     | false=>
      exact ih _ _ _ _ _ _ _ _ _ _ _ _ _ r
    | false=>
     intro h;cases h
   | false=>
    intro h;cases h
  | false=>
   intro h;cases h;rfl
noncomputable def sLaR:TellS:=fun S=>tq (mS (cLaR [] 0 [] 0 0 [] [] [] [] [] 0 [] [])) S fun x0 x1 x2 x3 x4 x5 x6 x7 x8 x9 A B C=>some [te (LaR FU x0 x1 x2 x3 x4 x5 x6 x7 x8 x9 A B C) (xLaR x0 x1 x2 x3 x4 x5 x6 x7 x8 x9 A B C)]
theorem wLaR:zh zP dOk base o101 t100 ((61,0),sLaR):=by
 refine ⟨.loop (za zP (tn0 61) 61 0),0,by kernel_rfl,?_⟩
 intro S alts e S' h1 h2
 obtain ⟨_,rfl,g⟩:=tq_some h1
 clear h1
 change some _=_ at g
 cases g
 obtain ⟨hc0,rfl,rfl⟩:=zf h2
 exact ⟨FU+40,(zb rfl).trans (lLaR FU 40 FU _ _ _ _ _ _ _ _ _ _ _ _ _ _ (zc hc0))⟩
noncomputable def t102:TellT:=((61,0),sLaR)::t100
abbrev tn102:=zd base o101 t102
theorem ok102:OKT tn102:=zi ok101 ok101 (p:=((61,0),sLaR)) wLaR
noncomputable def tv61 {β:Type} (x0:LI) (x1:LI) (x2:L3) (x3:LL) (x4:LL) (x5:LI) (x6:Int) (x7:LI) (x8:LI) (K:Int→Option β):Option β:=(cond (ok (LaR FU x0 (-1:Int) x0 (x0.length:Int) 0 x1 x2 x3 x4 x5 x6 x7 x8)) (K (val (LaR FU x0 (-1:Int) x0 (x0.length:Int) 0 x1 x2 x3 x4 x5 x6 x7 x8))) none)
noncomputable def v61 (x0:LI) (x1:LI) (x2:L3) (x3:LL) (x4:LL) (x5:LI) (x6:Int) (x7:LI) (x8:LI):Option Int:=tv61 x0 x1 x2 x3 x4 x5 x6 x7 x8 some
abbrev aF61 (x0:LI):List TA:=[.sc (.ptr 0 0),.sc (kD x0)]
abbrev hF61 (x1:LI) (x2:L3) (x3:LL) (x4:LL) (x5:LI) (x6:Int) (x7:LI) (x8:LI):List TO:=[(bx0 x1 x2 1 x3 2 x4 x5 x6),rD (x7),rD (x8)]
theorem ev61 (x0:LI) (x1:LI) (x2:L3) (x3:LL) (x4:LL) (x5:LI) (x6:Int) (x7:LI) (x8:LI):zt zP (tn102 61) (TM.evF zP (tn102) dOk 40) dOk 40 61 (aF61 x0) (hF61 x1 x2 x3 x4 x5 x6 x7 x8)=(v61 x0 x1 x2 x3 x4 x5 x6 x7 x8).bind fun r=>some ([.sc (I4 (r))],[(bx0 x1 x2 1 x3 2 x4 x5 x6),rD (x7),rD (x8)]):=by
 refine Eq.trans (b:=tv61 x0 x1 x2 x3 x4 x5 x6 x7 x8 fun r=>some ([.sc (I4 (r))],[(bx0 x1 x2 1 x3 2 x4 x5 x6),rD (x7),rD (x8)])) (by kernel_rfl) ?_
 unfold v61 tv61
 with_reducible repeat' refine zp ?_ ?_
 all_goals rfl
noncomputable def sv61:OrcS:=fun al H=>tqa (aF61 []) (hF61 [] [] [] [] [] 0 [] []) al H fun x0 x1 x2 x3 x4 x5 x6 x7 x8=>some [(ok (v61 x0 x1 x2 x3 x4 x5 x6 x7 x8),[.sc (I4 ((val (v61 x0 x1 x2 x3 x4 x5 x6 x7 x8))))],[(bx0 x1 x2 1 x3 2 x4 x5 x6),rD (x7),rD (x8)])]
theorem wv61:zq zP dOk base o101 t102 (61,sv61):=by
 intro al H q hq rs H2 h2
 obtain ⟨_,_,rfl,rfl,g⟩:=tqa_some hq
 clear hq
 change some _=_ at g
 cases g
 obtain ⟨hc0,rfl,rfl⟩:=zg h2
 exact ⟨41,(zy (by kernel_rfl)).trans ((ev61 _ _ _ _ _ _ _ _ _).trans (zm (zc hc0)))⟩
noncomputable def o103:OrcT:=(61,sv61)::o101
abbrev tn103:=zd base o103 t102
theorem ok103:OKT tn103:=zr ok102 ok102 (p:=(61,sv61)) wv61
noncomputable def v81 (x0 x1:Int) (x2:LL) (x3:LI) (x4:L3) (x5:LL) (x6:LL) (x7:LI) (x8:Int) (x9:LI) (A:LI) (B:Int) (C:LI):Option Int:=(cond (decide (0≤x0)) (cond (decide (x0 < (x2.length:Int))) (cond (decide (0≤x1)) (cond (decide (x1 < (↑(List.length (List.getD x2 x0.toNat [])):Int))) (cond (decide (0≤B)) (cond (decide (B < (x3.length:Int))) (cond (decide (B < (C.length:Int))) (cond (ok (v56 (List.getD (List.getD x2 x0.toNat []) x1.toNat 0) (wI ((1000000:Int)*List.getD x3 B.toNat 0)) (List.getD C B.toNat 0))) (some (val (v56 (List.getD (List.getD x2 x0.toNat []) x1.toNat 0) (wI ((1000000:Int)*List.getD x3 B.toNat 0)) (List.getD C B.toNat 0)))) none) none) none) none) none) none) none) none)
abbrev aF81 (x0 x1:Int):List TA:=[.sc (I4 x0),.sc (I4 x1),.sc (.ptr 0 0),.sc (.ptr 1 0),.sc (.ptr 5 0),.sc (.ptr 6 0)]
abbrev hF81 (x2:LL) (x3:LI) (x4:L3) (x5:LL) (x6:LL) (x7:LI) (x8:Int) (x9:LI) (A:LI) (B:Int) (C:LI):List TO:=[.box 31 [kL (x2)],.box 53 [.ptr 2 0],(bx0 x3 x4 3 x5 4 x6 x7 x8),rD (x9),rD (A),.box 3 [I4 (B)],.box 22 [kD (C)]]
theorem ev81 (x0 x1:Int) (x2:LL) (x3:LI) (x4:L3) (x5:LL) (x6:LL) (x7:LI) (x8:Int) (x9:LI) (A:LI) (B:Int) (C:LI):zt zP (tn103 81) (TM.evF zP (tn103) dOk 40) dOk 40 81 (aF81 x0 x1) (hF81 x2 x3 x4 x5 x6 x7 x8 x9 A B C)=(v81 x0 x1 x2 x3 x4 x5 x6 x7 x8 x9 A B C).bind fun r=>some ([.sc (I4 (r))],[.box 31 [kL (x2)],.box 53 [.ptr 2 0],(bx0 x3 x4 3 x5 4 x6 x7 x8),rD (x9),rD (A),.box 3 [I4 (B)],.box 22 [kD (C)]]):=by
 refine Eq.trans (b:=(cond (decide (0≤x0)) (cond (decide (x0 < (x2.length:Int))) (cond (decide (0≤x1)) (cond (decide (x1 < (↑(List.length (List.getD x2 x0.toNat [])):Int))) (cond (decide (0≤B)) (cond (decide (B < (x3.length:Int))) (cond (decide (0≤B)) (cond (decide (B < (C.length:Int))) (cond (ok (v56 (List.getD (List.getD x2 x0.toNat []) x1.toNat 0) (wI ((1000000:Int)*List.getD x3 B.toNat 0)) (List.getD C B.toNat 0))) (some ([.sc (I4 (val (v56 (List.getD (List.getD x2 x0.toNat []) x1.toNat 0) (wI ((1000000:Int)*List.getD x3 B.toNat 0)) (List.getD C B.toNat 0))))],[.box 31 [kL (x2)],.box 53 [.ptr 2 0],(bx0 x3 x4 3 x5 4 x6 x7 x8),rD (x9),rD (A),.box 3 [I4 (B)],.box 22 [kD (C)]])) none) none) none) none) none) none) none) none) none)) (by kernel_rfl) ?_
 unfold v81
 cases (decide (0≤x0)) with
 | true=>
  cases (decide (x0 < (x2.length:Int))) with
  | true=>
   cases (decide (0≤x1)) with
   | true=>
    cases (decide (x1 < (↑(List.length (List.getD x2 x0.toNat [])):Int))) with
    | true=>
     cases (decide (0≤B)) with
     | true=>
      cases (decide (B < (x3.length:Int))) with
      | true=>
       cases (decide (B < (C.length:Int))) with
       | true=>
        cases (ok (v56 (List.getD (List.getD x2 x0.toNat []) x1.toNat 0) (wI ((1000000:Int)*List.getD x3 B.toNat 0)) (List.getD C B.toNat 0))) with
        | true=>
         rfl
        | false=>
         rfl
       | false=>
        rfl
      | false=>
       rfl
     | false=>
      rfl
    | false=>
     rfl
   | false=>
    rfl
  | false=>
   rfl
 | false=>
  rfl
noncomputable def sv81:OrcS:=fun al H=>tqa (aF81 0 0) (hF81 [] [] [] [] [] [] 0 [] [] 0 []) al H fun x0 x1 x2 x3 x4 x5 x6 x7 x8 x9 A B C=>some [(ok (v81 x0 x1 x2 x3 x4 x5 x6 x7 x8 x9 A B C),[.sc (I4 ((val (v81 x0 x1 x2 x3 x4 x5 x6 x7 x8 x9 A B C))))],[.box 31 [kL (x2)],.box 53 [.ptr 2 0],(bx0 x3 x4 3 x5 4 x6 x7 x8),rD (x9),rD (A),.box 3 [I4 (B)],.box 22 [kD (C)]])]
theorem wv81:zq zP dOk base o103 t102 (81,sv81):=by
 intro al H q hq rs H2 h2
 obtain ⟨_,_,rfl,rfl,g⟩:=tqa_some hq
 clear hq
 change some _=_ at g
 cases g
 obtain ⟨hc0,rfl,rfl⟩:=zg h2
 exact ⟨41,(zy (by kernel_rfl)).trans ((ev81 _ _ _ _ _ _ _ _ _ _ _ _ _).trans (zm (zc hc0)))⟩
noncomputable def o104:OrcT:=(81,sv81)::o103
abbrev tn104:=zd base o104 t102
theorem ok104:OKT tn104:=zr ok103 ok103 (p:=(81,sv81)) wv81
noncomputable def Lbt:Nat→Int→L3→Int→Int→Int→Int→LI→L3→LL→LL→LI→Int→LI→LI→LL→Int→LI→LI→LL→Option LI
 | 0,_,_,_,_,_,_,_,_,_,_,_,_,_,_,_,_,_,_,_=>none
 | n+1,x0,x1,x2,x3,x4,x5,x6,x7,x8,x9,A,B,C,D,E,F,G,I,J=>(cond (decide (x5 < x4)) (cond (ok (v81 x0 x5 E x6 x7 x8 x9 A B C D F G)) (cond (decide (0≤x5)) (cond (decide (x5 < (I.length:Int))) (cond (decide (x5.toNat < List.length I)) (Lbt n x0 x1 x2 x3 x4 (wI (x5+(1:Int))) x6 x7 x8 x9 A B C D E F G (List.set I x5.toNat (val (v81 x0 x5 E x6 x7 x8 x9 A B C D F G))) J) none) none) none) none) (some I))
theorem qLbt:type_of% @Lbt.eq_2:=@Lbt.eq_2
noncomputable def xLbt (x0:Int) (x1:L3) (x2 x3 x4 x5:Int) (x6:LI) (x7:L3) (x8:LL) (x9:LL) (A:LI) (B:Int) (C:LI) (D:LI) (E:LL) (F:Int) (G:LI) (I:LI) (J:LL):LI→Ex×CS:=fun r=>((.exit 2),⟨[(1,.v (.sc (.fn 81 0 [none,none,none,none] [.ptr 3 0,.ptr 4 0,.ptr 5 0,.ptr 6 0]))),(5,vG 8),(8,vG 7),(14,.v (.sc (.d 31 mT x1))),(15,vI x2),(16,vI x3)],[],[(bx0 x6 x7 1 x8 2 x9 A B),rD (C),rD (D),.box 31 [kL (E)],.box 53 [.ptr 0 0],.box 3 [I4 (F)],.box 22 [kD (G)],rD (r:LI),rL (J)],7,false⟩)
abbrev cLbt (x0:Int) (x1:L3) (x2 x3 x4 x5:Int) (x6:LI) (x7:L3) (x8:LL) (x9:LL) (A:LI) (B:Int) (C:LI) (D:LI) (E:LL) (F:Int) (G:LI) (I:LI) (J:LL):CS:=⟨[(1,.v (.sc (.fn 81 0 [none,none,none,none] [.ptr 3 0,.ptr 4 0,.ptr 5 0,.ptr 6 0]))),(5,vG 8),(6,vI x0),(8,vG 7),(14,.v (.sc (.d 31 mT x1))),(15,vI x2),(16,vI x3),(25,vI x4),(26,vI x5)],[],[(bx0 x6 x7 1 x8 2 x9 A B),rD (C),rD (D),.box 31 [kL (E)],.box 53 [.ptr 0 0],.box 3 [I4 (F)],.box 22 [kD (G)],rD (I),rL (J)],7,false⟩
theorem bLbt (k:Nat) (cN:KN) (cX:KX) (x0:Int) (x1:L3) (x2 x3 x4 x5:Int) (x6:LI) (x7:L3) (x8:LL) (x9:LL) (A:LI) (B:Int) (C:LI) (D:LI) (E:LL) (F:Int) (G:LI) (I:LI) (J:LL):zo zP (tn104 31) (TM.evF zP (tn104) dOk (k+40)) dOk (k+40) (za zP (tn0 31) 31 16) 2 16 (cLbt x0 x1 x2 x3 x4 x5 x6 x7 x8 x9 A B C D E F G I J) cN cX=(cond (decide (x5 < x4)) (cond (ok (v81 x0 x5 E x6 x7 x8 x9 A B C D F G)) (cond (decide (0≤x5)) (cond (decide (x5 < (I.length:Int))) (cond (decide (x5.toNat < List.length I)) (cN (cLbt x0 x1 x2 x3 x4 (wI (x5+(1:Int))) x6 x7 x8 x9 A B C D E F G (List.set I x5.toNat (val (v81 x0 x5 E x6 x7 x8 x9 A B C D F G)):LI) J)) none) none) none) none) (cP cX (xLbt x0 x1 x2 x3 x4 x5 x6 x7 x8 x9 A B C D E F G I J I))):=by kernel_rfl
theorem lLbt (k m:Nat):∀ (n:Nat) (x0:Int) (x1:L3) (x2 x3 x4 x5:Int) (x6:LI) (x7:L3) (x8:LL) (x9:LL) (A:LI) (B:Int) (C:LI) (D:LI) (E:LL) (F:Int) (G:LI) (I:LI) (J:LL) (r:LI),Lbt n x0 x1 x2 x3 x4 x5 x6 x7 x8 x9 A B C D E F G I J=some r→zA zP (tn104 31) (TM.evF zP (tn104) dOk (k+40)) dOk (k+40) (za zP (tn0 31) 31 16) 2 16 (n+m) (cLbt x0 x1 x2 x3 x4 x5 x6 x7 x8 x9 A B C D E F G I J)=some (xLbt x0 x1 x2 x3 x4 x5 x6 x7 x8 x9 A B C D E F G I J r):=by
 intro n
 induction n with
 | zero=>intro _ _ _ _ _ _ _ _ _ _ _ _ _ _ _ _ _ _ _ r h;cases h
 | succ n ih=>
  intro x0 x1 x2 x3 x4 x5 x6 x7 x8 x9 A B C D E F G I J r
  rw [show n+1+m=n+m+1 by omega,zk,bLbt,qLbt]
  with_reducible repeat' refine ze ?_ ?_
  all_goals first | exact ih _ _ _ _ _ _ _ _ _ _ _ _ _ _ _ _ _ _ _ r | (intro h;cases h;done) | (intro h;cases h;rfl)
noncomputable def sLbt:TellS:=fun S=>tq (mS (cLbt 0 [] 0 0 0 0 [] [] [] [] [] 0 [] [] [] 0 [] [] [])) S fun x0 x1 x2 x3 x4 x5 x6 x7 x8 x9 A B C D E F G I J=>some [te (Lbt FU x0 x1 x2 x3 x4 x5 x6 x7 x8 x9 A B C D E F G I J) (xLbt x0 x1 x2 x3 x4 x5 x6 x7 x8 x9 A B C D E F G I J)]
theorem wLbt:zh zP dOk base o104 t102 ((31,16),sLbt):=by
 refine ⟨.loop (za zP (tn0 31) 31 16),2,by kernel_rfl,?_⟩
 intro S alts e S' h1 h2
 obtain ⟨_,rfl,g⟩:=tq_some h1
 clear h1
 change some _=_ at g
 cases g
 obtain ⟨hc0,rfl,rfl⟩:=zf h2
 exact ⟨FU+40,(zb rfl).trans (lLbt FU 40 FU _ _ _ _ _ _ _ _ _ _ _ _ _ _ _ _ _ _ _ _ (zc hc0))⟩
noncomputable def t105:TellT:=((31,16),sLbt)::t102
abbrev tn105:=zd base o104 t105
theorem ok105:OKT tn105:=zi ok104 ok104 (p:=((31,16),sLbt)) wLbt
noncomputable def LbE:Nat→L3→Int→Int→LI→L3→LL→LL→LI→Int→LI→LI→LL→Int→LI→LL→Option LL
 | 0,_,_,_,_,_,_,_,_,_,_,_,_,_,_,_=>none
 | n+1,x0,x1,x2,x3,x4,x5,x6,x7,x8,x9,A,B,C,D,E=>(cond (decide (x2 < x1)) (cond (decide (0≤x2)) (cond (decide (x2 < (x0.length:Int))) (cond (decide ((↑(List.length (List.getD x0 x2.toNat [])):Int)≤(↑(List.length (List.getD x0 x2.toNat [])):Int))) (cond (decide ((↑(List.length (List.getD x0 x2.toNat [])):Int)≤(↑(nat_lit 2147483648):Int))) (cond (ok (Lbt FU x2 x0 x1 x2 (↑(List.length (List.replicate (↑(List.length (List.getD x0 x2.toNat [])):Int).toNat (0:Int))):Int) 0 x3 x4 x5 x6 x7 x8 x9 A B C D (List.replicate (↑(List.length (List.getD x0 x2.toNat [])):Int).toNat 0) E)) (cond (decide (List.length E+List.length [val (Lbt FU x2 x0 x1 x2 (↑(List.length (List.replicate (↑(List.length (List.getD x0 x2.toNat [])):Int).toNat (0:Int))):Int) 0 x3 x4 x5 x6 x7 x8 x9 A B C D (List.replicate (↑(List.length (List.getD x0 x2.toNat [])):Int).toNat 0) E)]≤nat_lit 2147483648)) (LbE n x0 x1 (wI (x2+(1:Int))) x3 x4 x5 x6 x7 x8 x9 A B C D (E++[val (Lbt FU x2 x0 x1 x2 (↑(List.length (List.replicate (↑(List.length (List.getD x0 x2.toNat [])):Int).toNat (0:Int))):Int) 0 x3 x4 x5 x6 x7 x8 x9 A B C D (List.replicate (↑(List.length (List.getD x0 x2.toNat [])):Int).toNat 0) E)])) none) none) none) none) none) none) (some E))
theorem qLbE:type_of% @LbE.eq_2:=@LbE.eq_2
noncomputable def xLbE (x0:L3) (x1 x2:Int) (x3:LI) (x4:L3) (x5:LL) (x6:LL) (x7:LI) (x8:Int) (x9:LI) (A:LI) (B:LL) (C:Int) (D:LI) (E:LL):LL→Ex×CS:=fun r=>((.exit 0),⟨[(5,vG 7)],[],[(bx0 x3 x4 1 x5 2 x6 x7 x8),rD (x9),rD (A),.box 31 [kL (B)],.box 53 [.ptr 0 0],.box 3 [I4 (C)],.box 22 [kD (D)],rL (r:LL)],7,false⟩)
abbrev cLbE (x0:L3) (x1 x2:Int) (x3:LI) (x4:L3) (x5:LL) (x6:LL) (x7:LI) (x8:Int) (x9:LI) (A:LI) (B:LL) (C:Int) (D:LI) (E:LL):CS:=⟨[(1,.v (.sc (.fn 81 0 [none,none,none,none] [.ptr 3 0,.ptr 4 0,.ptr 5 0,.ptr 6 0]))),(5,vG 7),(14,.v (.sc (.d 31 mT x0))),(15,vI x1),(16,vI x2)],[],[(bx0 x3 x4 1 x5 2 x6 x7 x8),rD (x9),rD (A),.box 31 [kL (B)],.box 53 [.ptr 0 0],.box 3 [I4 (C)],.box 22 [kD (D)],rL (E)],7,false⟩
theorem bLbE (k:Nat) (cN:KN) (cX:KX) (x0:L3) (x1 x2:Int) (x3:LI) (x4:L3) (x5:LL) (x6:LL) (x7:LI) (x8:Int) (x9:LI) (A:LI) (B:LL) (C:Int) (D:LI) (E:LL):zo zP (tn105 31) (TM.evF zP (tn105) dOk (k+40)) dOk (k+40) (za zP (tn0 31) 31 0) 0 0 (cLbE x0 x1 x2 x3 x4 x5 x6 x7 x8 x9 A B C D E) cN cX=(cond (decide (x2 < x1)) (cond (decide (0≤x2)) (cond (decide (x2 < (x0.length:Int))) (cond (decide ((↑(List.length (List.getD x0 x2.toNat [])):Int)≤(↑(List.length (List.getD x0 x2.toNat [])):Int))) (cond (decide ((↑(List.length (List.getD x0 x2.toNat [])):Int)≤(↑(nat_lit 2147483648):Int))) (ob (Lbt FU x2 x0 x1 x2 (↑(List.length (List.replicate (↑(List.length (List.getD x0 x2.toNat [])):Int).toNat (0:Int))):Int) 0 x3 x4 x5 x6 x7 x8 x9 A B C D (List.replicate (↑(List.length (List.getD x0 x2.toNat [])):Int).toNat 0) E) fun r1=>(cond (decide (List.length E+List.length [r1]≤nat_lit 2147483648)) (cN (cLbE x0 x1 (wI (x2+(1:Int))) x3 x4 x5 x6 x7 x8 x9 A B C D (E++[r1]:LL))) none)) none) none) none) none) (cP cX (xLbE x0 x1 x2 x3 x4 x5 x6 x7 x8 x9 A B C D E E))):=by kernel_rfl
theorem lLbE (k m:Nat):∀ (n:Nat) (x0:L3) (x1 x2:Int) (x3:LI) (x4:L3) (x5:LL) (x6:LL) (x7:LI) (x8:Int) (x9:LI) (A:LI) (B:LL) (C:Int) (D:LI) (E:LL) (r:LL),LbE n x0 x1 x2 x3 x4 x5 x6 x7 x8 x9 A B C D E=some r→zA zP (tn105 31) (TM.evF zP (tn105) dOk (k+40)) dOk (k+40) (za zP (tn0 31) 31 0) 0 0 (n+m) (cLbE x0 x1 x2 x3 x4 x5 x6 x7 x8 x9 A B C D E)=some (xLbE x0 x1 x2 x3 x4 x5 x6 x7 x8 x9 A B C D E r):=by
 intro n
 induction n with
 | zero=>intro _ _ _ _ _ _ _ _ _ _ _ _ _ _ _ r h;cases h
 | succ n ih=>
  intro x0 x1 x2 x3 x4 x5 x6 x7 x8 x9 A B C D E r
  rw [show n+1+m=n+m+1 by omega,zk,bLbE,qLbE]
  with_reducible repeat' refine ze ?_ ?_
  all_goals first | exact ih _ _ _ _ _ _ _ _ _ _ _ _ _ _ _ r | (intro h;cases h;done) | (intro h;cases h;rfl)
noncomputable def sLbE:TellS:=fun S=>tq (mS (cLbE [] 0 0 [] [] [] [] [] 0 [] [] [] 0 [] [])) S fun x0 x1 x2 x3 x4 x5 x6 x7 x8 x9 A B C D E=>some [te (LbE FU x0 x1 x2 x3 x4 x5 x6 x7 x8 x9 A B C D E) (xLbE x0 x1 x2 x3 x4 x5 x6 x7 x8 x9 A B C D E)]
theorem wLbE:zh zP dOk base o104 t105 ((31,0),sLbE):=by
 refine ⟨.loop (za zP (tn0 31) 31 0),0,by kernel_rfl,?_⟩
 intro S alts e S' h1 h2
 obtain ⟨_,rfl,g⟩:=tq_some h1
 clear h1
 change some _=_ at g
 cases g
 obtain ⟨hc0,rfl,rfl⟩:=zf h2
 exact ⟨FU+40,(zb rfl).trans (lLbE FU 40 FU _ _ _ _ _ _ _ _ _ _ _ _ _ _ _ _ (zc hc0))⟩
noncomputable def t106:TellT:=((31,0),sLbE)::t105
abbrev tn106:=zd base o104 t106
theorem ok106:OKT tn106:=zi ok105 ok105 (p:=((31,0),sLbE)) wLbE
noncomputable def tv31_3 {β:Type} (x0:LI) (x1:L3) (x2:LL) (x3:LL) (x4:LI) (x5:Int) (x6:LI) (x7:LI) (x8:LL) (x9:Int) (A:LI) (K:LL→Option β):Option β:=(cond (ok (LbE FU x1 (x1.length:Int) 0 x0 x1 x2 x3 x4 x5 x6 x7 x8 x9 A [])) (K (val (LbE FU x1 (x1.length:Int) 0 x0 x1 x2 x3 x4 x5 x6 x7 x8 x9 A []))) none)
noncomputable def v31_3 (x0:LI) (x1:L3) (x2:LL) (x3:LL) (x4:LI) (x5:Int) (x6:LI) (x7:LI) (x8:LL) (x9:Int) (A:LI):Option LL:=tv31_3 x0 x1 x2 x3 x4 x5 x6 x7 x8 x9 A some
abbrev aF31_3:List TA:=[.sc (.ptr 0 0),.sc (.fn 81 0 [none,none,none,none] [.ptr 3 0,.ptr 4 0,.ptr 5 0,.ptr 6 0])]
abbrev hF31_3 (x0:LI) (x1:L3) (x2:LL) (x3:LL) (x4:LI) (x5:Int) (x6:LI) (x7:LI) (x8:LL) (x9:Int) (A:LI):List TO:=[(bx0 x0 x1 1 x2 2 x3 x4 x5),rD (x6),rD (x7),.box 31 [kL (x8)],.box 53 [.ptr 0 0],.box 3 [I4 (x9)],.box 22 [kD (A)]]
theorem ev31_3 (x0:LI) (x1:L3) (x2:LL) (x3:LL) (x4:LI) (x5:Int) (x6:LI) (x7:LI) (x8:LL) (x9:Int) (A:LI):zt zP (tn106 31) (TM.evF zP (tn106) dOk 40) dOk 40 31 aF31_3 (hF31_3 x0 x1 x2 x3 x4 x5 x6 x7 x8 x9 A)=(v31_3 x0 x1 x2 x3 x4 x5 x6 x7 x8 x9 A).bind fun r=>some ([.sc (kL (r:LL))],[(bx0 x0 x1 1 x2 2 x3 x4 x5),rD (x6),rD (x7),.box 31 [kL (x8)],.box 53 [.ptr 0 0],.box 3 [I4 (x9)],.box 22 [kD (A)]]):=by
 refine Eq.trans (b:=tv31_3 x0 x1 x2 x3 x4 x5 x6 x7 x8 x9 A fun r=>some ([.sc (kL (r:LL))],[(bx0 x0 x1 1 x2 2 x3 x4 x5),rD (x6),rD (x7),.box 31 [kL (x8)],.box 53 [.ptr 0 0],.box 3 [I4 (x9)],.box 22 [kD (A)]])) (by kernel_rfl) ?_
 unfold v31_3 tv31_3
 with_reducible repeat' refine zp ?_ ?_
 all_goals rfl
noncomputable def sv31_3:OrcS:=fun al H=>tqa aF31_3 (hF31_3 [] [] [] [] [] 0 [] [] [] 0 []) al H fun x0 x1 x2 x3 x4 x5 x6 x7 x8 x9 A=>some [(ok (v31_3 x0 x1 x2 x3 x4 x5 x6 x7 x8 x9 A),[.sc (kL ((val (v31_3 x0 x1 x2 x3 x4 x5 x6 x7 x8 x9 A)):LL))],[(bx0 x0 x1 1 x2 2 x3 x4 x5),rD (x6),rD (x7),.box 31 [kL (x8)],.box 53 [.ptr 0 0],.box 3 [I4 (x9)],.box 22 [kD (A)]])]
theorem wv31_3:zq zP dOk base o104 t106 (31,sv31_3):=by
 intro al H q hq rs H2 h2
 obtain ⟨_,_,rfl,rfl,g⟩:=tqa_some hq
 clear hq
 change some _=_ at g
 cases g
 obtain ⟨hc0,rfl,rfl⟩:=zg h2
 exact ⟨41,(zy (by kernel_rfl)).trans ((ev31_3 _ _ _ _ _ _ _ _ _ _ _).trans (zm (zc hc0)))⟩
noncomputable def o107:OrcT:=(31,sv31_3)::o104
abbrev tn107:=zd base o107 t106
theorem ok107:OKT tn107:=zr ok106 ok106 (p:=(31,sv31_3)) wv31_3
noncomputable def LbG:Nat→Int→LI→Int→Int→Option Int
 | 0,_,_,_,_=>none
 | n+1,x0,x1,x2,x3=>(cond (decide (x3 < x2)) (cond (decide (0≤x3)) (cond (decide (x3 < (x1.length:Int))) (LbG n (wI (x0+List.getD x1 x3.toNat 0)) x1 x2 (wI (x3+(1:Int)))) none) none) (some x0))
theorem qLbG:type_of% @LbG.eq_2:=@LbG.eq_2
noncomputable def xLbG (x0:Int) (x1:LI) (x2 x3:Int):Int→Ex×CS:=fun r=>((.exit 0),⟨[(3,vI (r))],[],[],0,false⟩)
abbrev cLbG (x0:Int) (x1:LI) (x2 x3:Int):CS:=⟨[(3,vI x0),(6,vD x1),(7,vI x2),(8,vI x3)],[],[],0,false⟩
theorem bLbG (k:Nat) (cN:KN) (cX:KX) (x0:Int) (x1:LI) (x2 x3:Int):zo zP (tn107 82) (TM.evF zP (tn107) dOk (k+40)) dOk (k+40) (za zP (tn0 82) 82 0) 0 0 (cLbG x0 x1 x2 x3) cN cX=(cond (decide (x3 < x2)) (cond (decide (0≤x3)) (cond (decide (x3 < (x1.length:Int))) (cN (cLbG (wI (x0+List.getD x1 x3.toNat 0)) x1 x2 (wI (x3+(1:Int))))) none) none) (cP cX (xLbG x0 x1 x2 x3 x0))):=by kernel_rfl
theorem lLbG (k m:Nat):∀ (n:Nat) (x0:Int) (x1:LI) (x2 x3:Int) (r:Int),LbG n x0 x1 x2 x3=some r→zA zP (tn107 82) (TM.evF zP (tn107) dOk (k+40)) dOk (k+40) (za zP (tn0 82) 82 0) 0 0 (n+m) (cLbG x0 x1 x2 x3)=some (xLbG x0 x1 x2 x3 r):=by
 intro n
 induction n with
 | zero=>intro _ _ _ _ r h;cases h
 | succ n ih=>
  intro x0 x1 x2 x3 r
  rw [show n+1+m=n+m+1 by omega,zk,bLbG,qLbG]
  with_reducible repeat' refine ze ?_ ?_
  all_goals first | exact ih _ _ _ _ r | (intro h;cases h;done) | (intro h;cases h;rfl)
noncomputable def sLbG:TellS:=fun S=>tq (mS (cLbG 0 [] 0 0)) S fun x0 x1 x2 x3=>some [te (LbG FU x0 x1 x2 x3) (xLbG x0 x1 x2 x3)]
theorem wLbG:zh zP dOk base o107 t106 ((82,0),sLbG):=by
 refine ⟨.loop (za zP (tn0 82) 82 0),0,by kernel_rfl,?_⟩
 intro S alts e S' h1 h2
 obtain ⟨_,rfl,g⟩:=tq_some h1
 clear h1
 change some _=_ at g
 cases g
 obtain ⟨hc0,rfl,rfl⟩:=zf h2
 exact ⟨FU+40,(zb rfl).trans (lLbG FU 40 FU _ _ _ _ _ (zc hc0))⟩
noncomputable def t108:TellT:=((82,0),sLbG)::t106
abbrev tn108:=zd base o107 t108
theorem ok108:OKT tn108:=zi ok107 ok107 (p:=((82,0),sLbG)) wLbG
noncomputable def tv82 {β:Type} (x0:LI) (K:Int→Option β):Option β:=(cond (ok (LbG FU 0 x0 (x0.length:Int) 0)) (K (val (LbG FU 0 x0 (x0.length:Int) 0))) none)
noncomputable def v82 (x0:LI):Option Int:=tv82 x0 some
abbrev aF82 (x0:LI):List TA:=[.sc (kD x0)]
theorem ev82 (x0:LI):zt zP (tn108 82) (TM.evF zP (tn108) dOk 40) dOk 40 82 (aF82 x0) []=(v82 x0).bind fun r=>some ([.sc (I4 (r))],[]):=by
 refine Eq.trans (b:=tv82 x0 fun r=>some ([.sc (I4 (r))],[])) (by kernel_rfl) ?_
 unfold v82 tv82
 with_reducible repeat' refine zp ?_ ?_
 all_goals rfl
noncomputable def sv82:OrcS:=fun al H=>tqa (aF82 []) [] al H fun x0=>some [(ok (v82 x0),[.sc (I4 ((val (v82 x0))))],[])]
theorem wv82:zq zP dOk base o107 t108 (82,sv82):=by
 intro al H q hq rs H2 h2
 obtain ⟨_,_,rfl,rfl,g⟩:=tqa_some hq
 clear hq
 change some _=_ at g
 cases g
 obtain ⟨hc0,rfl,rfl⟩:=zg h2
 exact ⟨41,(zy (by kernel_rfl)).trans ((ev82 _).trans (zm (zc hc0)))⟩
noncomputable def o109:OrcT:=(82,sv82)::o107
abbrev tn109:=zd base o109 t108
theorem ok109:OKT tn109:=zr ok108 ok108 (p:=(82,sv82)) wv82
end
end Go.Proofs.Ytpfphfobneehmaa
