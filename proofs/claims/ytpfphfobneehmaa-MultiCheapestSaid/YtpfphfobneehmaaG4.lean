/- What some functions and loops come to: printed and checked. Written by a program of ours. -/
import Derived.Test.YtpfphfobneehmaaG3
set_option linter.all false
set_option maxRecDepth 1000000
set_option maxHeartbeats 4000000
namespace Go.Proofs.Ytpfphfobneehmaa
open Go Go.AM Go.TM Go.Proofs
noncomputable section
noncomputable def Lab:Nat→Int→Int→LL→Int→Int→Int→LL→Int→LI→L3→LL→LL→LI→Int→LI→LI→LI→LL→LI→Option (Bool ⊕ (Int×Int))
 | 0,_,_,_,_,_,_,_,_,_,_,_,_,_,_,_,_,_,_,_=>none
 | n+1,x0,x1,x2,x3,x4,x5,x6,x7,x8,x9,A,B,C,D,E,F,G,I,J=>(cond (decide (x4 < x3)) (cond (decide (0≤x4)) (cond (decide (x4 < (x2.length:Int))) (cond (ok (v82 (List.getD x2 x4.toNat []))) (cond (val (v82 (List.getD x2 x4.toNat []))==0) (some (.inl (false))) (cond (decide (val (v82 (List.getD x2 x4.toNat []))≠0)) (cond (ok (v33 x4 x8 x9 A B C D E F)) (cond (decide (wI (x0*(val (v33 x4 x8 x9 A B C D E F)).2) < wI (wI (Int.tdiv (wI (wI ((1000000000000:Int)+val (v82 (List.getD x2 x4.toNat []))) - (1:Int))) (val (v82 (List.getD x2 x4.toNat []))))*x1))) (Lab n (wI (Int.tdiv (wI (wI ((1000000000000:Int)+val (v82 (List.getD x2 x4.toNat []))) - (1:Int))) (val (v82 (List.getD x2 x4.toNat []))))) (val (v33 x4 x8 x9 A B C D E F)).2 x2 x3 (wI (x4+(1:Int))) x5 x6 x7 x8 x9 A B C D E F G I J) (Lab n x0 x1 x2 x3 (wI (x4+(1:Int))) x5 x6 x7 x8 x9 A B C D E F G I J)) none) none)) none) none) none) (some (.inr (x0,x1))))
theorem qLab:type_of% @Lab.eq_2:=@Lab.eq_2
noncomputable def xLab (x0 x1:Int) (x2:LL) (x3 x4 x5:Int) (x6:LL) (x7:Int) (x8:LI) (x9:L3) (A:LL) (B:LL) (C:LI) (D:Int) (E:LI) (F:LI) (G:LI) (I:LL) (J:LI):(Bool ⊕ (Int×Int))→Ex×CS:=fun r=>match r with | .inl a0=>(.ret,⟨[(6,.l 6 0),(7,.v (.sc (.bool (a0))))],[(6,[kL (x6),.g 3,I4 (x7)])],[(bx0 x8 x9 1 A 2 B C D),rD (E),rD (F),rD (G)],3,true⟩) | .inr b0=>((.exit 0),⟨[(2,vG 1),(3,vP 3),(6,.l 6 0),(10,.l 10 0),(11,vI (b0.1)),(12,vI (b0.2))],[(6,[.g 5,.g 6,I4 (x5)]),(10,[kL (x6),.g 4,I4 (x7)])],[(bx0 x8 x9 1 A 2 B C D),rD (E),rD (F),.box 53 [.ptr 0 0],rD (G),rL (I),rD (J)],3,false⟩)
abbrev cLab (x0 x1:Int) (x2:LL) (x3 x4 x5:Int) (x6:LL) (x7:Int) (x8:LI) (x9:L3) (A:LL) (B:LL) (C:LI) (D:Int) (E:LI) (F:LI) (G:LI) (I:LL) (J:LI):CS:=⟨[(2,vG 1),(3,vP 3),(6,.l 6 0),(10,.l 10 0),(11,vI x0),(12,vI x1),(43,vL x2),(44,vI x3),(45,vI x4)],[(6,[.g 5,.g 6,I4 (x5)]),(10,[kL (x6),.g 4,I4 (x7)])],[(bx0 x8 x9 1 A 2 B C D),rD (E),rD (F),.box 53 [.ptr 0 0],rD (G),rL (I),rD (J)],3,false⟩
theorem bLab (k:Nat) (cN:KN) (cX:KX) (x0 x1:Int) (x2:LL) (x3 x4 x5:Int) (x6:LL) (x7:Int) (x8:LI) (x9:L3) (A:LL) (B:LL) (C:LI) (D:Int) (E:LI) (F:LI) (G:LI) (I:LL) (J:LI):zo zP (tn109 75) (TM.evF zP (tn109) dOk (k+40)) dOk (k+40) (za zP (tn0 75) 75 0) 0 0 (cLab x0 x1 x2 x3 x4 x5 x6 x7 x8 x9 A B C D E F G I J) cN cX=(cond (decide (x4 < x3)) (cond (decide (0≤x4)) (cond (decide (x4 < (x2.length:Int))) (ob (v82 (List.getD x2 x4.toNat [])) fun r1=>(cond (r1==0) (cX .ret ⟨[(6,.l 6 0),(7,.v (.sc (.bool (false))))],[(6,[kL (x6),.g 3,I4 (x7)])],[(bx0 x8 x9 1 A 2 B C D),rD (E),rD (F),rD (G)],3,true⟩) (cond (decide (r1≠0)) (ob (v33 x4 x8 x9 A B C D E F) fun r2=>(cond (decide (wI (x0*r2.2) < wI (wI (Int.tdiv (wI (wI ((1000000000000:Int)+r1) - (1:Int))) r1)*x1))) (cN (cLab (wI (Int.tdiv (wI (wI ((1000000000000:Int)+r1) - (1:Int))) r1)) r2.2 x2 x3 (wI (x4+(1:Int))) x5 x6 x7 x8 x9 A B C D E F G I J)) (cN (cLab x0 x1 x2 x3 (wI (x4+(1:Int))) x5 x6 x7 x8 x9 A B C D E F G I J)))) none))) none) none) (cX (.exit 0) ⟨[(2,vG 1),(3,vP 3),(6,.l 6 0),(10,.l 10 0),(11,vI x0),(12,vI x1)],[(6,[.g 5,.g 6,I4 (x5)]),(10,[kL (x6),.g 4,I4 (x7)])],[(bx0 x8 x9 1 A 2 B C D),rD (E),rD (F),.box 53 [.ptr 0 0],rD (G),rL (I),rD (J)],3,false⟩)):=by kernel_rfl
theorem lLab (k m:Nat):∀ (n:Nat) (x0 x1:Int) (x2:LL) (x3 x4 x5:Int) (x6:LL) (x7:Int) (x8:LI) (x9:L3) (A:LL) (B:LL) (C:LI) (D:Int) (E:LI) (F:LI) (G:LI) (I:LL) (J:LI) (r:(Bool ⊕ (Int×Int))),Lab n x0 x1 x2 x3 x4 x5 x6 x7 x8 x9 A B C D E F G I J=some r→zA zP (tn109 75) (TM.evF zP (tn109) dOk (k+40)) dOk (k+40) (za zP (tn0 75) 75 0) 0 0 (n+m) (cLab x0 x1 x2 x3 x4 x5 x6 x7 x8 x9 A B C D E F G I J)=some (xLab x0 x1 x2 x3 x4 x5 x6 x7 x8 x9 A B C D E F G I J r):=by
 intro n
 induction n with
 | zero=>intro _ _ _ _ _ _ _ _ _ _ _ _ _ _ _ _ _ _ _ r h;cases h
 | succ n ih=>
  intro x0 x1 x2 x3 x4 x5 x6 x7 x8 x9 A B C D E F G I J r
  rw [show n+1+m=n+m+1 by omega,zk,bLab,qLab]
  with_reducible repeat' refine ze ?_ ?_
  all_goals first | exact ih _ _ _ _ _ _ _ _ _ _ _ _ _ _ _ _ _ _ _ r | (intro h;cases h;done) | (intro h;cases h;rfl)
noncomputable def sLab:TellS:=fun S=>tq (mS (cLab 0 0 [] 0 0 0 [] 0 [] [] [] [] [] 0 [] [] [] [] [])) S fun x0 x1 x2 x3 x4 x5 x6 x7 x8 x9 A B C D E F G I J=>some [(isL (Lab FU x0 x1 x2 x3 x4 x5 x6 x7 x8 x9 A B C D E F G I J),.ret,⟨[(6,.l 6 0),(7,.v (.sc (.bool ((zz (Lab FU x0 x1 x2 x3 x4 x5 x6 x7 x8 x9 A B C D E F G I J))))))],[(6,[kL (x6),.g 3,I4 (x7)])],[(bx0 x8 x9 1 A 2 B C D),rD (E),rD (F),rD (G)],3,true⟩),(ok (zn (Lab FU x0 x1 x2 x3 x4 x5 x6 x7 x8 x9 A B C D E F G I J)),(.exit 0),⟨[(2,vG 1),(3,vP 3),(6,.l 6 0),(10,.l 10 0),(11,vI ((val (zn (Lab FU x0 x1 x2 x3 x4 x5 x6 x7 x8 x9 A B C D E F G I J))).1)),(12,vI ((val (zn (Lab FU x0 x1 x2 x3 x4 x5 x6 x7 x8 x9 A B C D E F G I J))).2))],[(6,[.g 5,.g 6,I4 (x5)]),(10,[kL (x6),.g 4,I4 (x7)])],[(bx0 x8 x9 1 A 2 B C D),rD (E),rD (F),.box 53 [.ptr 0 0],rD (G),rL (I),rD (J)],3,false⟩)]
theorem wLab:zh zP dOk base o109 t108 ((75,0),sLab):=by
 refine ⟨.loop (za zP (tn0 75) 75 0),0,by kernel_rfl,?_⟩
 intro S alts e S' h1 h2
 obtain ⟨_,rfl,g⟩:=tq_some h1
 clear h1
 change some _=_ at g
 cases g
 rcases zD h2 with ⟨hc0,rfl,rfl⟩ | h2
 · exact ⟨FU+40,(zb rfl).trans (lLab FU 40 FU _ _ _ _ _ _ _ _ _ _ _ _ _ _ _ _ _ _ _ _ (zM hc0))⟩
 obtain ⟨hc1,rfl,rfl⟩:=zf h2
 exact ⟨FU+40,(zb rfl).trans (lLab FU 40 FU _ _ _ _ _ _ _ _ _ _ _ _ _ _ _ _ _ _ _ _ (zG (zc hc1)))⟩
noncomputable def t110:TellT:=((75,0),sLab)::t108
abbrev tn110:=zd base o109 t110
theorem ok110:OKT tn110:=zi ok109 ok109 (p:=((75,0),sLab)) wLab
noncomputable def v83 (x0 x1:Int):Option Int:=(some ((1:Int)))
abbrev aF83 (x0 x1:Int):List TA:=[.sc (I4 x0),.sc (I4 x1)]
theorem ev83 (x0 x1:Int):zt zP (tn110 83) (TM.evF zP (tn110) dOk 40) dOk 40 83 (aF83 x0 x1) []=(v83 x0 x1).bind fun r=>some ([.sc (I4 (r))],[]):=by
 refine Eq.trans (b:=(some ([.sc (I4 ((1:Int)))],[]))) (by kernel_rfl) ?_
 unfold v83
 with_reducible repeat' refine zp ?_ ?_
 all_goals rfl
noncomputable def sv83:OrcS:=fun al H=>tqa (aF83 0 0) [] al H fun x0 x1=>some [(ok (v83 x0 x1),[.sc (I4 ((val (v83 x0 x1))))],[])]
theorem wv83:zq zP dOk base o109 t110 (83,sv83):=by
 intro al H q hq rs H2 h2
 obtain ⟨_,_,rfl,rfl,g⟩:=tqa_some hq
 clear hq
 change some _=_ at g
 cases g
 obtain ⟨hc0,rfl,rfl⟩:=zg h2
 exact ⟨41,(zy (by kernel_rfl)).trans ((ev83 _ _).trans (zm (zc hc0)))⟩
noncomputable def o111:OrcT:=(83,sv83)::o109
abbrev tn111:=zd base o111 t110
theorem ok111:OKT tn111:=zr ok110 ok110 (p:=(83,sv83)) wv83
noncomputable def Lbp:Nat→Int→L3→Int→Int→Int→Int→LI→L3→LL→LL→LI→Int→LI→LI→LI→LL→Option LI
 | 0,_,_,_,_,_,_,_,_,_,_,_,_,_,_,_,_=>none
 | n+1,x0,x1,x2,x3,x4,x5,x6,x7,x8,x9,A,B,C,D,E,F=>(cond (decide (x5 < x4)) (cond (decide (0≤x5)) (cond (decide (x5 < (E.length:Int))) (cond (decide (x5.toNat < List.length E)) (Lbp n x0 x1 x2 x3 x4 (wI (x5+(1:Int))) x6 x7 x8 x9 A B C D (List.set E x5.toNat (val (v83 x0 x5))) F) none) none) none) (some E))
theorem qLbp:type_of% @Lbp.eq_2:=@Lbp.eq_2
noncomputable def xLbp (x0:Int) (x1:L3) (x2 x3 x4 x5:Int) (x6:LI) (x7:L3) (x8:LL) (x9:LL) (A:LI) (B:Int) (C:LI) (D:LI) (E:LI) (F:LL):LI→Ex×CS:=fun r=>((.exit 2),⟨[(1,.v (.sc (.fn 83 0 [] []))),(5,vG 4),(8,vG 3),(14,.v (.sc (.d 31 mT x1))),(15,vI x2),(16,vI x3)],[],[(bx0 x6 x7 1 x8 2 x9 A B),rD (C),rD (D),rD (r:LI),rL (F)],3,false⟩)
abbrev cLbp (x0:Int) (x1:L3) (x2 x3 x4 x5:Int) (x6:LI) (x7:L3) (x8:LL) (x9:LL) (A:LI) (B:Int) (C:LI) (D:LI) (E:LI) (F:LL):CS:=⟨[(1,.v (.sc (.fn 83 0 [] []))),(5,vG 4),(6,vI x0),(8,vG 3),(14,.v (.sc (.d 31 mT x1))),(15,vI x2),(16,vI x3),(25,vI x4),(26,vI x5)],[],[(bx0 x6 x7 1 x8 2 x9 A B),rD (C),rD (D),rD (E),rL (F)],3,false⟩
theorem bLbp (k:Nat) (cN:KN) (cX:KX) (x0:Int) (x1:L3) (x2 x3 x4 x5:Int) (x6:LI) (x7:L3) (x8:LL) (x9:LL) (A:LI) (B:Int) (C:LI) (D:LI) (E:LI) (F:LL):zo zP (tn111 31) (TM.evF zP (tn111) dOk (k+40)) dOk (k+40) (za zP (tn0 31) 31 16) 2 16 (cLbp x0 x1 x2 x3 x4 x5 x6 x7 x8 x9 A B C D E F) cN cX=(cond (decide (x5 < x4)) (cond (decide (0≤x5)) (cond (decide (x5 < (E.length:Int))) (cond (decide (x5.toNat < List.length E)) (cN (cLbp x0 x1 x2 x3 x4 (wI (x5+(1:Int))) x6 x7 x8 x9 A B C D (List.set E x5.toNat (val (v83 x0 x5)):LI) F)) none) none) none) (cP cX (xLbp x0 x1 x2 x3 x4 x5 x6 x7 x8 x9 A B C D E F E))):=by kernel_rfl
theorem lLbp (k m:Nat):∀ (n:Nat) (x0:Int) (x1:L3) (x2 x3 x4 x5:Int) (x6:LI) (x7:L3) (x8:LL) (x9:LL) (A:LI) (B:Int) (C:LI) (D:LI) (E:LI) (F:LL) (r:LI),Lbp n x0 x1 x2 x3 x4 x5 x6 x7 x8 x9 A B C D E F=some r→zA zP (tn111 31) (TM.evF zP (tn111) dOk (k+40)) dOk (k+40) (za zP (tn0 31) 31 16) 2 16 (n+m) (cLbp x0 x1 x2 x3 x4 x5 x6 x7 x8 x9 A B C D E F)=some (xLbp x0 x1 x2 x3 x4 x5 x6 x7 x8 x9 A B C D E F r):=by
 intro n
 induction n with
 | zero=>intro _ _ _ _ _ _ _ _ _ _ _ _ _ _ _ _ r h;cases h
 | succ n ih=>
  intro x0 x1 x2 x3 x4 x5 x6 x7 x8 x9 A B C D E F r
  rw [show n+1+m=n+m+1 by omega,zk,bLbp,qLbp]
  with_reducible repeat' refine ze ?_ ?_
  all_goals first | exact ih _ _ _ _ _ _ _ _ _ _ _ _ _ _ _ _ r | (intro h;cases h;done) | (intro h;cases h;rfl)
noncomputable def sLbp:TellS:=fun S=>tq (mS (cLbp 0 [] 0 0 0 0 [] [] [] [] [] 0 [] [] [] [])) S fun x0 x1 x2 x3 x4 x5 x6 x7 x8 x9 A B C D E F=>some [te (Lbp FU x0 x1 x2 x3 x4 x5 x6 x7 x8 x9 A B C D E F) (xLbp x0 x1 x2 x3 x4 x5 x6 x7 x8 x9 A B C D E F)]
theorem wLbp:zh zP dOk base o111 t110 ((31,16),sLbp):=by
 refine ⟨.loop (za zP (tn0 31) 31 16),2,by kernel_rfl,?_⟩
 intro S alts e S' h1 h2
 obtain ⟨_,rfl,g⟩:=tq_some h1
 clear h1
 change some _=_ at g
 cases g
 obtain ⟨hc0,rfl,rfl⟩:=zf h2
 exact ⟨FU+40,(zb rfl).trans (lLbp FU 40 FU _ _ _ _ _ _ _ _ _ _ _ _ _ _ _ _ _ (zc hc0))⟩
noncomputable def t112:TellT:=((31,16),sLbp)::t110
abbrev tn112:=zd base o111 t112
theorem ok112:OKT tn112:=zi ok111 ok111 (p:=((31,16),sLbp)) wLbp
noncomputable def LbK:Nat→L3→Int→Int→LI→L3→LL→LL→LI→Int→LI→LI→LL→Option LL
 | 0,_,_,_,_,_,_,_,_,_,_,_,_=>none
 | n+1,x0,x1,x2,x3,x4,x5,x6,x7,x8,x9,A,B=>(cond (decide (x2 < x1)) (cond (decide (0≤x2)) (cond (decide (x2 < (x0.length:Int))) (cond (decide ((↑(List.length (List.getD x0 x2.toNat [])):Int)≤(↑(List.length (List.getD x0 x2.toNat [])):Int))) (cond (decide ((↑(List.length (List.getD x0 x2.toNat [])):Int)≤(↑(nat_lit 2147483648):Int))) (cond (ok (Lbp FU x2 x0 x1 x2 (↑(List.length (List.replicate (↑(List.length (List.getD x0 x2.toNat [])):Int).toNat (0:Int))):Int) 0 x3 x4 x5 x6 x7 x8 x9 A (List.replicate (↑(List.length (List.getD x0 x2.toNat [])):Int).toNat 0) B)) (cond (decide (List.length B+List.length [val (Lbp FU x2 x0 x1 x2 (↑(List.length (List.replicate (↑(List.length (List.getD x0 x2.toNat [])):Int).toNat (0:Int))):Int) 0 x3 x4 x5 x6 x7 x8 x9 A (List.replicate (↑(List.length (List.getD x0 x2.toNat [])):Int).toNat 0) B)]≤nat_lit 2147483648)) (LbK n x0 x1 (wI (x2+(1:Int))) x3 x4 x5 x6 x7 x8 x9 A (B++[val (Lbp FU x2 x0 x1 x2 (↑(List.length (List.replicate (↑(List.length (List.getD x0 x2.toNat [])):Int).toNat (0:Int))):Int) 0 x3 x4 x5 x6 x7 x8 x9 A (List.replicate (↑(List.length (List.getD x0 x2.toNat [])):Int).toNat 0) B)])) none) none) none) none) none) none) (some B))
theorem qLbK:type_of% @LbK.eq_2:=@LbK.eq_2
noncomputable def xLbK (x0:L3) (x1 x2:Int) (x3:LI) (x4:L3) (x5:LL) (x6:LL) (x7:LI) (x8:Int) (x9:LI) (A:LI) (B:LL):LL→Ex×CS:=fun r=>((.exit 0),⟨[(5,vG 3)],[],[(bx0 x3 x4 1 x5 2 x6 x7 x8),rD (x9),rD (A),rL (r:LL)],3,false⟩)
abbrev cLbK (x0:L3) (x1 x2:Int) (x3:LI) (x4:L3) (x5:LL) (x6:LL) (x7:LI) (x8:Int) (x9:LI) (A:LI) (B:LL):CS:=⟨[(1,.v (.sc (.fn 83 0 [] []))),(5,vG 3),(14,.v (.sc (.d 31 mT x0))),(15,vI x1),(16,vI x2)],[],[(bx0 x3 x4 1 x5 2 x6 x7 x8),rD (x9),rD (A),rL (B)],3,false⟩
theorem bLbK (k:Nat) (cN:KN) (cX:KX) (x0:L3) (x1 x2:Int) (x3:LI) (x4:L3) (x5:LL) (x6:LL) (x7:LI) (x8:Int) (x9:LI) (A:LI) (B:LL):zo zP (tn112 31) (TM.evF zP (tn112) dOk (k+40)) dOk (k+40) (za zP (tn0 31) 31 0) 0 0 (cLbK x0 x1 x2 x3 x4 x5 x6 x7 x8 x9 A B) cN cX=(cond (decide (x2 < x1)) (cond (decide (0≤x2)) (cond (decide (x2 < (x0.length:Int))) (cond (decide ((↑(List.length (List.getD x0 x2.toNat [])):Int)≤(↑(List.length (List.getD x0 x2.toNat [])):Int))) (cond (decide ((↑(List.length (List.getD x0 x2.toNat [])):Int)≤(↑(nat_lit 2147483648):Int))) (ob (Lbp FU x2 x0 x1 x2 (↑(List.length (List.replicate (↑(List.length (List.getD x0 x2.toNat [])):Int).toNat (0:Int))):Int) 0 x3 x4 x5 x6 x7 x8 x9 A (List.replicate (↑(List.length (List.getD x0 x2.toNat [])):Int).toNat 0) B) fun r1=>(cond (decide (List.length B+List.length [r1]≤nat_lit 2147483648)) (cN (cLbK x0 x1 (wI (x2+(1:Int))) x3 x4 x5 x6 x7 x8 x9 A (B++[r1]:LL))) none)) none) none) none) none) (cP cX (xLbK x0 x1 x2 x3 x4 x5 x6 x7 x8 x9 A B B))):=by kernel_rfl
theorem lLbK (k m:Nat):∀ (n:Nat) (x0:L3) (x1 x2:Int) (x3:LI) (x4:L3) (x5:LL) (x6:LL) (x7:LI) (x8:Int) (x9:LI) (A:LI) (B:LL) (r:LL),LbK n x0 x1 x2 x3 x4 x5 x6 x7 x8 x9 A B=some r→zA zP (tn112 31) (TM.evF zP (tn112) dOk (k+40)) dOk (k+40) (za zP (tn0 31) 31 0) 0 0 (n+m) (cLbK x0 x1 x2 x3 x4 x5 x6 x7 x8 x9 A B)=some (xLbK x0 x1 x2 x3 x4 x5 x6 x7 x8 x9 A B r):=by
 intro n
 induction n with
 | zero=>intro _ _ _ _ _ _ _ _ _ _ _ _ r h;cases h
 | succ n ih=>
  intro x0 x1 x2 x3 x4 x5 x6 x7 x8 x9 A B r
  rw [show n+1+m=n+m+1 by omega,zk,bLbK,qLbK]
  with_reducible repeat' refine ze ?_ ?_
  all_goals first | exact ih _ _ _ _ _ _ _ _ _ _ _ _ r | (intro h;cases h;done) | (intro h;cases h;rfl)
noncomputable def sLbK:TellS:=fun S=>tq (mS (cLbK [] 0 0 [] [] [] [] [] 0 [] [] [])) S fun x0 x1 x2 x3 x4 x5 x6 x7 x8 x9 A B=>some [te (LbK FU x0 x1 x2 x3 x4 x5 x6 x7 x8 x9 A B) (xLbK x0 x1 x2 x3 x4 x5 x6 x7 x8 x9 A B)]
theorem wLbK:zh zP dOk base o111 t112 ((31,0),sLbK):=by
 refine ⟨.loop (za zP (tn0 31) 31 0),0,by kernel_rfl,?_⟩
 intro S alts e S' h1 h2
 obtain ⟨_,rfl,g⟩:=tq_some h1
 clear h1
 change some _=_ at g
 cases g
 obtain ⟨hc0,rfl,rfl⟩:=zf h2
 exact ⟨FU+40,(zb rfl).trans (lLbK FU 40 FU _ _ _ _ _ _ _ _ _ _ _ _ _ (zc hc0))⟩
noncomputable def t113:TellT:=((31,0),sLbK)::t112
abbrev tn113:=zd base o111 t113
theorem ok113:OKT tn113:=zi ok112 ok112 (p:=((31,0),sLbK)) wLbK
noncomputable def tv31_4 {β:Type} (x0:LI) (x1:L3) (x2:LL) (x3:LL) (x4:LI) (x5:Int) (x6:LI) (x7:LI) (K:LL→Option β):Option β:=(cond (ok (LbK FU x1 (x1.length:Int) 0 x0 x1 x2 x3 x4 x5 x6 x7 [])) (K (val (LbK FU x1 (x1.length:Int) 0 x0 x1 x2 x3 x4 x5 x6 x7 []))) none)
noncomputable def v31_4 (x0:LI) (x1:L3) (x2:LL) (x3:LL) (x4:LI) (x5:Int) (x6:LI) (x7:LI):Option LL:=tv31_4 x0 x1 x2 x3 x4 x5 x6 x7 some
abbrev aF31_4:List TA:=[.sc (.ptr 0 0),.sc (.fn 83 0 [] [])]
abbrev hF31_4 (x0:LI) (x1:L3) (x2:LL) (x3:LL) (x4:LI) (x5:Int) (x6:LI) (x7:LI):List TO:=[(bx0 x0 x1 1 x2 2 x3 x4 x5),rD (x6),rD (x7)]
theorem ev31_4 (x0:LI) (x1:L3) (x2:LL) (x3:LL) (x4:LI) (x5:Int) (x6:LI) (x7:LI):zt zP (tn113 31) (TM.evF zP (tn113) dOk 40) dOk 40 31 aF31_4 (hF31_4 x0 x1 x2 x3 x4 x5 x6 x7)=(v31_4 x0 x1 x2 x3 x4 x5 x6 x7).bind fun r=>some ([.sc (kL (r:LL))],[(bx0 x0 x1 1 x2 2 x3 x4 x5),rD (x6),rD (x7)]):=by
 refine Eq.trans (b:=tv31_4 x0 x1 x2 x3 x4 x5 x6 x7 fun r=>some ([.sc (kL (r:LL))],[(bx0 x0 x1 1 x2 2 x3 x4 x5),rD (x6),rD (x7)])) (by kernel_rfl) ?_
 unfold v31_4 tv31_4
 with_reducible repeat' refine zp ?_ ?_
 all_goals rfl
noncomputable def sv31_4:OrcS:=fun al H=>tqa aF31_4 (hF31_4 [] [] [] [] [] 0 [] []) al H fun x0 x1 x2 x3 x4 x5 x6 x7=>some [(ok (v31_4 x0 x1 x2 x3 x4 x5 x6 x7),[.sc (kL ((val (v31_4 x0 x1 x2 x3 x4 x5 x6 x7)):LL))],[(bx0 x0 x1 1 x2 2 x3 x4 x5),rD (x6),rD (x7)])]
theorem wv31_4:zq zP dOk base o111 t113 (31,sv31_4):=by
 intro al H q hq rs H2 h2
 obtain ⟨_,_,rfl,rfl,g⟩:=tqa_some hq
 clear hq
 change some _=_ at g
 cases g
 obtain ⟨hc0,rfl,rfl⟩:=zg h2
 exact ⟨41,(zy (by kernel_rfl)).trans ((ev31_4 _ _ _ _ _ _ _ _).trans (zm (zc hc0)))⟩
noncomputable def o114:OrcT:=(31,sv31_4)::o111
abbrev tn114:=zd base o114 t113
theorem ok114:OKT tn114:=zr ok113 ok113 (p:=(31,sv31_4)) wv31_4
noncomputable def LaA:Nat→Int→Int→LI→LI→Int→Int→Int→LL→Int→LI→L3→LL→LL→LI→Int→LI→LI→LI→LL→LI→Option LI
 | 0,_,_,_,_,_,_,_,_,_,_,_,_,_,_,_,_,_,_,_,_=>none
 | n+1,x0,x1,x2,x3,x4,x5,x6,x7,x8,x9,A,B,C,D,E,F,G,I,J,K=>(cond (decide (x5 < x4)) (cond (decide (0≤x5)) (cond (decide (x5 < (x3.length:Int))) (cond (List.getD x3 x5.toNat 0==0) (cond (decide (x5 < (I.length:Int))) (cond (decide (x5.toNat < List.length I)) (LaA n x0 x1 x2 x3 x4 (wI (x5+(1:Int))) x6 x7 x8 x9 A B C D E F G (List.set I x5.toNat (1000000000000:Int)) J K) none) none) (cond (decide (x5 < (x2.length:Int))) (cond (decide (List.getD x2 x5.toNat 0 > 0)) (cond (decide (x5 < (F.length:Int))) (cond (decide (x5.toNat < List.length F)) (cond (decide (x1≠0)) (cond (decide (x5 < (I.length:Int))) (cond (decide (x5.toNat < List.length I)) (LaA n x0 x1 x2 x3 x4 (wI (x5+(1:Int))) x6 x7 x8 x9 A B C D E F G (List.set I x5.toNat (wI (Int.tdiv (wI (wI (wI (x0*List.getD F x5.toNat 0)+x1) - (1:Int))) x1))) J K) none) none) none) none) none) (LaA n x0 x1 x2 x3 x4 (wI (x5+(1:Int))) x6 x7 x8 x9 A B C D E F G I J K)) none)) none) none) (some I))
theorem qLaA:type_of% @LaA.eq_2:=@LaA.eq_2
noncomputable def xLaA (x0 x1:Int) (x2:LI) (x3:LI) (x4 x5 x6:Int) (x7:LL) (x8:Int) (x9:LI) (A:L3) (B:LL) (C:LL) (D:LI) (E:Int) (F:LI) (G:LI) (I:LI) (J:LL) (K:LI):LI→Ex×CS:=fun r=>((.exit 2),⟨[(3,vP 3),(6,.l 6 0),(10,.l 10 0)],[(6,[.g 5,.g 6,I4 (x6)]),(10,[kL (x7),.g 4,I4 (x8)])],[(bx0 x9 A 1 B 2 C D E),rD (F),rD (G),.box 53 [.ptr 0 0],rD (r:LI),rL (J),rD (K)],3,false⟩)
abbrev cLaA (x0 x1:Int) (x2:LI) (x3:LI) (x4 x5 x6:Int) (x7:LL) (x8:Int) (x9:LI) (A:L3) (B:LL) (C:LL) (D:LI) (E:Int) (F:LI) (G:LI) (I:LI) (J:LL) (K:LI):CS:=⟨[(2,vG 1),(3,vP 3),(6,.l 6 0),(10,.l 10 0),(11,vI x0),(12,vI x1),(19,vD x2),(85,vD x3),(86,vI x4),(87,vI x5)],[(6,[.g 5,.g 6,I4 (x6)]),(10,[kL (x7),.g 4,I4 (x8)])],[(bx0 x9 A 1 B 2 C D E),rD (F),rD (G),.box 53 [.ptr 0 0],rD (I),rL (J),rD (K)],3,false⟩
theorem bLaA (k:Nat) (cN:KN) (cX:KX) (x0 x1:Int) (x2:LI) (x3:LI) (x4 x5 x6:Int) (x7:LL) (x8:Int) (x9:LI) (A:L3) (B:LL) (C:LL) (D:LI) (E:Int) (F:LI) (G:LI) (I:LI) (J:LL) (K:LI):zo zP (tn114 75) (TM.evF zP (tn114) dOk (k+40)) dOk (k+40) (za zP (tn0 75) 75 16) 2 16 (cLaA x0 x1 x2 x3 x4 x5 x6 x7 x8 x9 A B C D E F G I J K) cN cX=(cond (decide (x5 < x4)) (cond (decide (0≤x5)) (cond (decide (x5 < (x3.length:Int))) (cond (List.getD x3 x5.toNat 0==0) (cond (decide (0≤x5)) (cond (decide (x5 < (I.length:Int))) (cond (decide (x5.toNat < List.length I)) (cN (cLaA x0 x1 x2 x3 x4 (wI (x5+(1:Int))) x6 x7 x8 x9 A B C D E F G (List.set I x5.toNat (1000000000000:Int):LI) J K)) none) none) none) (cond (decide (0≤x5)) (cond (decide (x5 < (x2.length:Int))) (cond (decide (List.getD x2 x5.toNat 0 > 0)) (cond (decide (0≤x5)) (cond (decide (x5 < (F.length:Int))) (cond (decide (x5.toNat < List.length F)) (cond (decide (x1≠0)) (cond (decide (0≤x5)) (cond (decide (x5 < (I.length:Int))) (cond (decide (x5.toNat < List.length I)) (cN (cLaA x0 x1 x2 x3 x4 (wI (x5+(1:Int))) x6 x7 x8 x9 A B C D E F G (List.set I x5.toNat (wI (Int.tdiv (wI (wI (wI (x0*List.getD F x5.toNat 0)+x1) - (1:Int))) x1)):LI) J K)) none) none) none) none) none) none) none) (cN (cLaA x0 x1 x2 x3 x4 (wI (x5+(1:Int))) x6 x7 x8 x9 A B C D E F G I J K))) none) none)) none) none) (cP cX (xLaA x0 x1 x2 x3 x4 x5 x6 x7 x8 x9 A B C D E F G I J K I))):=by kernel_rfl
theorem lLaA (k m:Nat):∀ (n:Nat) (x0 x1:Int) (x2:LI) (x3:LI) (x4 x5 x6:Int) (x7:LL) (x8:Int) (x9:LI) (A:L3) (B:LL) (C:LL) (D:LI) (E:Int) (F:LI) (G:LI) (I:LI) (J:LL) (K:LI) (r:LI),LaA n x0 x1 x2 x3 x4 x5 x6 x7 x8 x9 A B C D E F G I J K=some r→zA zP (tn114 75) (TM.evF zP (tn114) dOk (k+40)) dOk (k+40) (za zP (tn0 75) 75 16) 2 16 (n+m) (cLaA x0 x1 x2 x3 x4 x5 x6 x7 x8 x9 A B C D E F G I J K)=some (xLaA x0 x1 x2 x3 x4 x5 x6 x7 x8 x9 A B C D E F G I J K r):=by
 intro n
 induction n with
 | zero=>intro _ _ _ _ _ _ _ _ _ _ _ _ _ _ _ _ _ _ _ _ r h;cases h
 | succ n ih=>
  intro x0 x1 x2 x3 x4 x5 x6 x7 x8 x9 A B C D E F G I J K r
  rw [show n+1+m=n+m+1 by omega,zk,bLaA,qLaA]
  cases (decide (x5 < x4)) with
  | true=>
   cases (decide (0≤x5)) with
   | true=>
    cases (decide (x5 < (x3.length:Int))) with
    | true=>
     cases (List.getD x3 x5.toNat 0==0) with
     | true=>
      cases (decide (x5 < (I.length:Int))) with
      | true=>
       cases (decide (x5.toNat < List.length I)) with
       | true=>
        exact ih _ _ _ _ _ _ _ _ _ _ _ _ _ _ _ _ _ _ _ _ r
       | false=>
        intro h;cases h
      | false=>
       intro h;cases h
     | false=>
      cases (decide (x5 < (x2.length:Int))) with
      | true=>
       cases (decide (List.getD x2 x5.toNat 0 > 0)) with
       | true=>
        cases (decide (x5 < (F.length:Int))) with
        | true=>
         cases (decide (x5.toNat < List.length F)) with
         | true=>
          cases (decide (x1≠0)) with
          | true=>
           cases (decide (x5 < (I.length:Int))) with
           | true=>
            cases (decide (x5.toNat < List.length I)) with
            | true=>
             exact ih _ _ _ _ _ _ _ _ _ _ _ _ _ _ _ _ _ _ _ _ r
            | false=>
             intro h;cases h
           | false=>
            intro h;cases h
          | false=>
           intro h;cases h
         | false=>
          intro h;cases h
        | false=>
         intro h;cases h
       | false=>
        exact ih _ _ _ _ _ _ _ _ _ _ _ _ _ _ _ _ _ _ _ _ r
      | false=>
       intro h;cases h
    | false=>
     intro h;cases h
   | false=>
    intro h;cases h
  | false=>
   intro h;cases h;rfl
noncomputable def sLaA:TellS:=fun S=>tq (mS (cLaA 0 0 [] [] 0 0 0 [] 0 [] [] [] [] [] 0 [] [] [] [] [])) S fun x0 x1 x2 x3 x4 x5 x6 x7 x8 x9 A B C D E F G I J K=>some [te (LaA FU x0 x1 x2 x3 x4 x5 x6 x7 x8 x9 A B C D E F G I J K) (xLaA x0 x1 x2 x3 x4 x5 x6 x7 x8 x9 A B C D E F G I J K)]
theorem wLaA:zh zP dOk base o114 t113 ((75,16),sLaA):=by
 refine ⟨.loop (za zP (tn0 75) 75 16),2,by kernel_rfl,?_⟩
 intro S alts e S' h1 h2
 obtain ⟨_,rfl,g⟩:=tq_some h1
 clear h1
 change some _=_ at g
 cases g
 obtain ⟨hc0,rfl,rfl⟩:=zf h2
 exact ⟨FU+40,(zb rfl).trans (lLaA FU 40 FU _ _ _ _ _ _ _ _ _ _ _ _ _ _ _ _ _ _ _ _ _ (zc hc0))⟩
noncomputable def t115:TellT:=((75,16),sLaA)::t113
abbrev tn115:=zd base o114 t115
theorem ok115:OKT tn115:=zi ok114 ok114 (p:=((75,16),sLaA)) wLaA
noncomputable def Lbl (x0:Int) (x1:LL) (x2:Int) (x3:LI) (x4:L3) (x5:LL) (x6:LL) (x7:LI) (x8:Int) (x9:LI) (A:LI) (B:LI) (C:LL) (D:LI):Option (Bool×Int):=(cond (ok (v26 x3 x4 x1 B)) (some ((val (v26 x3 x4 x1 B)).2==0,(val (v26 x3 x4 x1 B)).1)) none)
noncomputable def xLbl (x0:Int) (x1:LL) (x2:Int) (x3:LI) (x4:L3) (x5:LL) (x6:LL) (x7:LI) (x8:Int) (x9:LI) (A:LI) (B:LI) (C:LL) (D:LI):(Bool×Int)→Ex×CS:=fun r=>(.ret,⟨[(6,.l 6 0),(7,.v (.sc (.bool (r.1))))],[(6,[kL (x1),.g 3,I4 (r.2)])],[(bx0 x3 x4 1 x5 2 x6 x7 x8),rD (x9),rD (A),rD (B)],3,true⟩)
abbrev cLbl (x0:Int) (x1:LL) (x2:Int) (x3:LI) (x4:L3) (x5:LL) (x6:LL) (x7:LI) (x8:Int) (x9:LI) (A:LI) (B:LI) (C:LL) (D:LI):CS:=⟨[(3,vP 3),(6,.l 6 0),(10,.l 10 0)],[(6,[.g 5,.g 6,I4 (x0)]),(10,[kL (x1),.g 4,I4 (x2)])],[(bx0 x3 x4 1 x5 2 x6 x7 x8),rD (x9),rD (A),.box 53 [.ptr 0 0],rD (B),rL (C),rD (D)],3,false⟩
theorem bLbl (k:Nat) (cX:Ex→CS→Option (Ex×CS)) (x0:Int) (x1:LL) (x2:Int) (x3:LI) (x4:L3) (x5:LL) (x6:LL) (x7:LI) (x8:Int) (x9:LI) (A:LI) (B:LI) (C:LL) (D:LI):zl zP (tn115 75) (TM.evF zP (tn115) dOk (k+40)) dOk (k+40) (za zP (tn0 75) 75 212) 0 212 (cLbl x0 x1 x2 x3 x4 x5 x6 x7 x8 x9 A B C D) cX=(cond (ok (v26 x3 x4 x1 B)) (cP cX (xLbl x0 x1 x2 x3 x4 x5 x6 x7 x8 x9 A B C D (((val (v26 x3 x4 x1 B)).2==0),(val (v26 x3 x4 x1 B)).1))) none):=by kernel_rfl
theorem lLbl (k:Nat) (x0:Int) (x1:LL) (x2:Int) (x3:LI) (x4:L3) (x5:LL) (x6:LL) (x7:LI) (x8:Int) (x9:LI) (A:LI) (B:LI) (C:LL) (D:LI) (r:(Bool×Int)):Lbl x0 x1 x2 x3 x4 x5 x6 x7 x8 x9 A B C D=some r→zl zP (tn115 75) (TM.evF zP (tn115) dOk (k+40)) dOk (k+40) (za zP (tn0 75) 75 212) 0 212 (cLbl x0 x1 x2 x3 x4 x5 x6 x7 x8 x9 A B C D) (fun e s=>some (e,s))=some (xLbl x0 x1 x2 x3 x4 x5 x6 x7 x8 x9 A B C D r):=by
 rw [bLbl]
 unfold Lbl
 refine ze ?_ ?_
 intro h;cases h;rfl
 intro h;cases h
noncomputable def sLbl:TellS:=fun S=>tq (mS (cLbl 0 [] 0 [] [] [] [] [] 0 [] [] [] [] [])) S fun x0 x1 x2 x3 x4 x5 x6 x7 x8 x9 A B C D=>some [(ok (Lbl x0 x1 x2 x3 x4 x5 x6 x7 x8 x9 A B C D),.ret,⟨[(6,.l 6 0),(7,.v (.sc (.bool ((val (Lbl x0 x1 x2 x3 x4 x5 x6 x7 x8 x9 A B C D)).1))))],[(6,[kL (x1),.g 3,I4 ((val (Lbl x0 x1 x2 x3 x4 x5 x6 x7 x8 x9 A B C D)).2)])],[(bx0 x3 x4 1 x5 2 x6 x7 x8),rD (x9),rD (A),rD (B)],3,true⟩)]
theorem wLbl:zh zP dOk base o114 t115 ((75,212),sLbl):=by
 refine ⟨(za zP (tn0 75) 75 212),0,by kernel_rfl,?_⟩
 intro S alts e S' h1 h2
 obtain ⟨_,rfl,g⟩:=tq_some h1
 clear h1
 change some _=_ at g
 cases g
 obtain ⟨hc0,rfl,rfl⟩:=zf h2
 exact ⟨0+40,(zx rfl).trans (lLbl 0 _ _ _ _ _ _ _ _ _ _ _ _ _ _ _ (zc hc0))⟩
noncomputable def t116:TellT:=((75,212),sLbl)::t115
abbrev tn116:=zd base o114 t116
theorem ok116:OKT tn116:=zi ok115 ok115 (p:=((75,212),sLbl)) wLbl
noncomputable def LbM (x0 x1:Int) (x2:LI) (x3:Int) (x4:LL) (x5:Int) (x6:LI) (x7:L3) (x8:LL) (x9:LL) (A:LI) (B:Int) (C:LI) (D:LI) (E:LI) (F:LL) (G:LI):Option (Bool×Int×(LI)):=(cond (ok (LaA FU x0 x1 x2 x6 (x6.length:Int) 0 x3 x4 x5 x6 x7 x8 x9 A B C D E F G)) (cond (ok (Lbl x3 x4 x5 x6 x7 x8 x9 A B C D (val (LaA FU x0 x1 x2 x6 (x6.length:Int) 0 x3 x4 x5 x6 x7 x8 x9 A B C D E F G)) F G)) (some ((val (Lbl x3 x4 x5 x6 x7 x8 x9 A B C D (val (LaA FU x0 x1 x2 x6 (x6.length:Int) 0 x3 x4 x5 x6 x7 x8 x9 A B C D E F G)) F G)).1,(val (Lbl x3 x4 x5 x6 x7 x8 x9 A B C D (val (LaA FU x0 x1 x2 x6 (x6.length:Int) 0 x3 x4 x5 x6 x7 x8 x9 A B C D E F G)) F G)).2,val (LaA FU x0 x1 x2 x6 (x6.length:Int) 0 x3 x4 x5 x6 x7 x8 x9 A B C D E F G))) none) none)
noncomputable def xLbM (x0 x1:Int) (x2:LI) (x3:Int) (x4:LL) (x5:Int) (x6:LI) (x7:L3) (x8:LL) (x9:LL) (A:LI) (B:Int) (C:LI) (D:LI) (E:LI) (F:LL) (G:LI):(Bool×Int×(LI))→Ex×CS:=fun r=>(.ret,⟨[(6,.l 6 0),(7,.v (.sc (.bool (r.1))))],[(6,[kL (x4),.g 3,I4 (r.2.1)])],[(bx0 x6 x7 1 x8 2 x9 A B),rD (C),rD (D),rD (r.2.2:LI)],3,true⟩)
abbrev cLbM (x0 x1:Int) (x2:LI) (x3:Int) (x4:LL) (x5:Int) (x6:LI) (x7:L3) (x8:LL) (x9:LL) (A:LI) (B:Int) (C:LI) (D:LI) (E:LI) (F:LL) (G:LI):CS:=⟨[(2,vG 1),(3,vP 3),(6,.l 6 0),(10,.l 10 0),(11,vI x0),(12,vI x1),(19,vD x2)],[(6,[.g 5,.g 6,I4 (x3)]),(10,[kL (x4),.g 4,I4 (x5)])],[(bx0 x6 x7 1 x8 2 x9 A B),rD (C),rD (D),.box 53 [.ptr 0 0],rD (E),rL (F),rD (G)],3,false⟩
theorem bLbM (k:Nat) (cX:Ex→CS→Option (Ex×CS)) (x0 x1:Int) (x2:LI) (x3:Int) (x4:LL) (x5:Int) (x6:LI) (x7:L3) (x8:LL) (x9:LL) (A:LI) (B:Int) (C:LI) (D:LI) (E:LI) (F:LL) (G:LI):zl zP (tn116 75) (TM.evF zP (tn116) dOk (k+40)) dOk (k+40) (za zP (tn0 75) 75 148) 0 148 (cLbM x0 x1 x2 x3 x4 x5 x6 x7 x8 x9 A B C D E F G) cX=(ob (LaA FU x0 x1 x2 x6 (x6.length:Int) 0 x3 x4 x5 x6 x7 x8 x9 A B C D E F G) fun r1=>(ob (Lbl x3 x4 x5 x6 x7 x8 x9 A B C D r1 F G) fun r2=>(cP cX (xLbM x0 x1 x2 x3 x4 x5 x6 x7 x8 x9 A B C D E F G (r2.1,r2.2,(r1:LI)))))):=by kernel_rfl
theorem lLbM (k:Nat) (x0 x1:Int) (x2:LI) (x3:Int) (x4:LL) (x5:Int) (x6:LI) (x7:L3) (x8:LL) (x9:LL) (A:LI) (B:Int) (C:LI) (D:LI) (E:LI) (F:LL) (G:LI) (r:(Bool×Int×(LI))):LbM x0 x1 x2 x3 x4 x5 x6 x7 x8 x9 A B C D E F G=some r→zl zP (tn116 75) (TM.evF zP (tn116) dOk (k+40)) dOk (k+40) (za zP (tn0 75) 75 148) 0 148 (cLbM x0 x1 x2 x3 x4 x5 x6 x7 x8 x9 A B C D E F G) (fun e s=>some (e,s))=some (xLbM x0 x1 x2 x3 x4 x5 x6 x7 x8 x9 A B C D E F G r):=by
 rw [bLbM]
 unfold LbM
 refine ze ?_ ?_
 refine ze ?_ ?_
 intro h;cases h;rfl
 intro h;cases h
 intro h;cases h
noncomputable def sLbM:TellS:=fun S=>tq (mS (cLbM 0 0 [] 0 [] 0 [] [] [] [] [] 0 [] [] [] [] [])) S fun x0 x1 x2 x3 x4 x5 x6 x7 x8 x9 A B C D E F G=>some [(ok (LbM x0 x1 x2 x3 x4 x5 x6 x7 x8 x9 A B C D E F G),.ret,⟨[(6,.l 6 0),(7,.v (.sc (.bool ((val (LbM x0 x1 x2 x3 x4 x5 x6 x7 x8 x9 A B C D E F G)).1))))],[(6,[kL (x4),.g 3,I4 ((val (LbM x0 x1 x2 x3 x4 x5 x6 x7 x8 x9 A B C D E F G)).2.1)])],[(bx0 x6 x7 1 x8 2 x9 A B),rD (C),rD (D),rD ((val (LbM x0 x1 x2 x3 x4 x5 x6 x7 x8 x9 A B C D E F G)).2.2:LI)],3,true⟩)]
theorem wLbM:zh zP dOk base o114 t116 ((75,148),sLbM):=by
 refine ⟨(za zP (tn0 75) 75 148),0,by kernel_rfl,?_⟩
 intro S alts e S' h1 h2
 obtain ⟨_,rfl,g⟩:=tq_some h1
 clear h1
 change some _=_ at g
 cases g
 obtain ⟨hc0,rfl,rfl⟩:=zf h2
 exact ⟨0+40,(zx rfl).trans (lLbM 0 _ _ _ _ _ _ _ _ _ _ _ _ _ _ _ _ _ _ (zc hc0))⟩
noncomputable def t117:TellT:=((75,148),sLbM)::t116
abbrev tn117:=zd base o114 t117
theorem ok117:OKT tn117:=zi ok116 ok116 (p:=((75,148),sLbM)) wLbM
noncomputable def LbB (x0:Int) (x1:LL) (x2:Int) (x3:LI) (x4:L3) (x5:LL) (x6:LL) (x7:LI) (x8:Int) (x9:LI) (A:LI) (B:LI) (C:LL) (D:LI):Option (Bool×Int×(LI)):=(cond (isL (Lab FU 0 (1:Int) x1 (x1.length:Int) 0 x0 x1 x2 x3 x4 x5 x6 x7 x8 x9 A B C D)) (some (zz (Lab FU 0 (1:Int) x1 (x1.length:Int) 0 x0 x1 x2 x3 x4 x5 x6 x7 x8 x9 A B C D),x2,B)) (cond (ok (zn (Lab FU 0 (1:Int) x1 (x1.length:Int) 0 x0 x1 x2 x3 x4 x5 x6 x7 x8 x9 A B C D))) (cond (ok (v31_4 x3 x4 x5 x6 x7 x8 x9 A)) (cond (ok (v60 (val (v31_4 x3 x4 x5 x6 x7 x8 x9 A)) x3 x4 x5 x6 x7 x8 x9 A)) (cond (ok (LbM (val (zn (Lab FU 0 (1:Int) x1 (x1.length:Int) 0 x0 x1 x2 x3 x4 x5 x6 x7 x8 x9 A B C D))).1 (val (zn (Lab FU 0 (1:Int) x1 (x1.length:Int) 0 x0 x1 x2 x3 x4 x5 x6 x7 x8 x9 A B C D))).2 (val (v60 (val (v31_4 x3 x4 x5 x6 x7 x8 x9 A)) x3 x4 x5 x6 x7 x8 x9 A)) x0 x1 x2 x3 x4 x5 x6 x7 x8 x9 A B C D)) (some ((val (LbM (val (zn (Lab FU 0 (1:Int) x1 (x1.length:Int) 0 x0 x1 x2 x3 x4 x5 x6 x7 x8 x9 A B C D))).1 (val (zn (Lab FU 0 (1:Int) x1 (x1.length:Int) 0 x0 x1 x2 x3 x4 x5 x6 x7 x8 x9 A B C D))).2 (val (v60 (val (v31_4 x3 x4 x5 x6 x7 x8 x9 A)) x3 x4 x5 x6 x7 x8 x9 A)) x0 x1 x2 x3 x4 x5 x6 x7 x8 x9 A B C D)).1,(val (LbM (val (zn (Lab FU 0 (1:Int) x1 (x1.length:Int) 0 x0 x1 x2 x3 x4 x5 x6 x7 x8 x9 A B C D))).1 (val (zn (Lab FU 0 (1:Int) x1 (x1.length:Int) 0 x0 x1 x2 x3 x4 x5 x6 x7 x8 x9 A B C D))).2 (val (v60 (val (v31_4 x3 x4 x5 x6 x7 x8 x9 A)) x3 x4 x5 x6 x7 x8 x9 A)) x0 x1 x2 x3 x4 x5 x6 x7 x8 x9 A B C D)).2.1,(val (LbM (val (zn (Lab FU 0 (1:Int) x1 (x1.length:Int) 0 x0 x1 x2 x3 x4 x5 x6 x7 x8 x9 A B C D))).1 (val (zn (Lab FU 0 (1:Int) x1 (x1.length:Int) 0 x0 x1 x2 x3 x4 x5 x6 x7 x8 x9 A B C D))).2 (val (v60 (val (v31_4 x3 x4 x5 x6 x7 x8 x9 A)) x3 x4 x5 x6 x7 x8 x9 A)) x0 x1 x2 x3 x4 x5 x6 x7 x8 x9 A B C D)).2.2)) none) none) none) none))
noncomputable def xLbB (x0:Int) (x1:LL) (x2:Int) (x3:LI) (x4:L3) (x5:LL) (x6:LL) (x7:LI) (x8:Int) (x9:LI) (A:LI) (B:LI) (C:LL) (D:LI):(Bool×Int×(LI))→Ex×CS:=fun r=>(.ret,⟨[(6,.l 6 0),(7,.v (.sc (.bool (r.1))))],[(6,[kL (x1),.g 3,I4 (r.2.1)])],[(bx0 x3 x4 1 x5 2 x6 x7 x8),rD (x9),rD (A),rD (r.2.2:LI)],3,true⟩)
abbrev cLbB (x0:Int) (x1:LL) (x2:Int) (x3:LI) (x4:L3) (x5:LL) (x6:LL) (x7:LI) (x8:Int) (x9:LI) (A:LI) (B:LI) (C:LL) (D:LI):CS:=⟨[(2,vG 1),(3,vP 3),(6,.l 6 0),(10,.l 10 0),(41,.l 10 0)],[(6,[.g 5,.g 6,I4 (x0)]),(10,[kL (x1),.g 4,I4 (x2)])],[(bx0 x3 x4 1 x5 2 x6 x7 x8),rD (x9),rD (A),.box 53 [.ptr 0 0],rD (B),rL (C),rD (D)],3,false⟩
theorem bLbB (k:Nat) (cX:Ex→CS→Option (Ex×CS)) (x0:Int) (x1:LL) (x2:Int) (x3:LI) (x4:L3) (x5:LL) (x6:LL) (x7:LI) (x8:Int) (x9:LI) (A:LI) (B:LI) (C:LL) (D:LI):zl zP (tn117 75) (TM.evF zP (tn117) dOk (k+40)) dOk (k+40) (za zP (tn0 75) 75 44) 0 44 (cLbB x0 x1 x2 x3 x4 x5 x6 x7 x8 x9 A B C D) cX=(cond (isL (Lab FU 0 (1:Int) x1 (x1.length:Int) 0 x0 x1 x2 x3 x4 x5 x6 x7 x8 x9 A B C D)) (cP cX (xLbB x0 x1 x2 x3 x4 x5 x6 x7 x8 x9 A B C D ((zz (Lab FU 0 (1:Int) x1 (x1.length:Int) 0 x0 x1 x2 x3 x4 x5 x6 x7 x8 x9 A B C D)),(x2),B))) (ob (zn (Lab FU 0 (1:Int) x1 (x1.length:Int) 0 x0 x1 x2 x3 x4 x5 x6 x7 x8 x9 A B C D)) fun r1=>(ob (v31_4 x3 x4 x5 x6 x7 x8 x9 A) fun r2=>(ob (v60 r2 x3 x4 x5 x6 x7 x8 x9 A) fun r3=>(ob (LbM r1.1 r1.2 r3 x0 x1 x2 x3 x4 x5 x6 x7 x8 x9 A B C D) fun r4=>(cP cX (xLbB x0 x1 x2 x3 x4 x5 x6 x7 x8 x9 A B C D (r4.1,r4.2.1,(r4.2.2:LI))))))))):=by kernel_rfl
theorem lLbB (k:Nat) (x0:Int) (x1:LL) (x2:Int) (x3:LI) (x4:L3) (x5:LL) (x6:LL) (x7:LI) (x8:Int) (x9:LI) (A:LI) (B:LI) (C:LL) (D:LI) (r:(Bool×Int×(LI))):LbB x0 x1 x2 x3 x4 x5 x6 x7 x8 x9 A B C D=some r→zl zP (tn117 75) (TM.evF zP (tn117) dOk (k+40)) dOk (k+40) (za zP (tn0 75) 75 44) 0 44 (cLbB x0 x1 x2 x3 x4 x5 x6 x7 x8 x9 A B C D) (fun e s=>some (e,s))=some (xLbB x0 x1 x2 x3 x4 x5 x6 x7 x8 x9 A B C D r):=by
 rw [bLbB]
 unfold LbB
 refine ze ?_ ?_
 intro h;cases h;rfl
 refine ze ?_ ?_
 refine ze ?_ ?_
 refine ze ?_ ?_
 refine ze ?_ ?_
 intro h;cases h;rfl
 intro h;cases h
 intro h;cases h
 intro h;cases h
 intro h;cases h
noncomputable def sLbB:TellS:=fun S=>tq (mS (cLbB 0 [] 0 [] [] [] [] [] 0 [] [] [] [] [])) S fun x0 x1 x2 x3 x4 x5 x6 x7 x8 x9 A B C D=>some [(ok (LbB x0 x1 x2 x3 x4 x5 x6 x7 x8 x9 A B C D),.ret,⟨[(6,.l 6 0),(7,.v (.sc (.bool ((val (LbB x0 x1 x2 x3 x4 x5 x6 x7 x8 x9 A B C D)).1))))],[(6,[kL (x1),.g 3,I4 ((val (LbB x0 x1 x2 x3 x4 x5 x6 x7 x8 x9 A B C D)).2.1)])],[(bx0 x3 x4 1 x5 2 x6 x7 x8),rD (x9),rD (A),rD ((val (LbB x0 x1 x2 x3 x4 x5 x6 x7 x8 x9 A B C D)).2.2:LI)],3,true⟩)]
theorem wLbB:zh zP dOk base o114 t117 ((75,44),sLbB):=by
 refine ⟨(za zP (tn0 75) 75 44),0,by kernel_rfl,?_⟩
 intro S alts e S' h1 h2
 obtain ⟨_,rfl,g⟩:=tq_some h1
 clear h1
 change some _=_ at g
 cases g
 obtain ⟨hc0,rfl,rfl⟩:=zf h2
 exact ⟨0+40,(zx rfl).trans (lLbB 0 _ _ _ _ _ _ _ _ _ _ _ _ _ _ _ (zc hc0))⟩
noncomputable def t118:TellT:=((75,44),sLbB)::t117
abbrev tn118:=zd base o114 t118
theorem ok118:OKT tn118:=zi ok117 ok117 (p:=((75,44),sLbB)) wLbB
noncomputable def LbA (x0 x1:Int) (x2:LI) (x3:L3) (x4:LL) (x5:LL) (x6:LI) (x7:Int) (x8:LI) (x9:LI) (A:LI) (B:LL) (C:Int) (D:LL) (E:LI) (F:LL) (G:LI):Option (Bool×(LL)×Int×(LI)):=(cond (ok (v31_3 x2 x3 x4 x5 x6 x7 x8 x9 B C A)) (cond (ok (LbB x0 (val (v31_3 x2 x3 x4 x5 x6 x7 x8 x9 B C A)) x1 x2 x3 x4 x5 x6 x7 x8 x9 E F G)) (some ((val (LbB x0 (val (v31_3 x2 x3 x4 x5 x6 x7 x8 x9 B C A)) x1 x2 x3 x4 x5 x6 x7 x8 x9 E F G)).1,val (v31_3 x2 x3 x4 x5 x6 x7 x8 x9 B C A),(val (LbB x0 (val (v31_3 x2 x3 x4 x5 x6 x7 x8 x9 B C A)) x1 x2 x3 x4 x5 x6 x7 x8 x9 E F G)).2.1,(val (LbB x0 (val (v31_3 x2 x3 x4 x5 x6 x7 x8 x9 B C A)) x1 x2 x3 x4 x5 x6 x7 x8 x9 E F G)).2.2)) none) none)
noncomputable def xLbA (x0 x1:Int) (x2:LI) (x3:L3) (x4:LL) (x5:LL) (x6:LI) (x7:Int) (x8:LI) (x9:LI) (A:LI) (B:LL) (C:Int) (D:LL) (E:LI) (F:LL) (G:LI):(Bool×(LL)×Int×(LI))→Ex×CS:=fun r=>(.ret,⟨[(6,.l 6 0),(7,.v (.sc (.bool (r.1))))],[(6,[kL (r.2.1:LL),.g 3,I4 (r.2.2.1)])],[(bx0 x2 x3 1 x4 2 x5 x6 x7),rD (x8),rD (x9),rD (r.2.2.2:LI)],3,true⟩)
abbrev cLbA (x0 x1:Int) (x2:LI) (x3:L3) (x4:LL) (x5:LL) (x6:LI) (x7:Int) (x8:LI) (x9:LI) (A:LI) (B:LL) (C:Int) (D:LL) (E:LI) (F:LL) (G:LI):CS:=⟨[(2,vG 1),(3,vP 6),(4,vP 4),(6,.l 6 0),(8,vP 3),(9,vP 5),(10,.l 10 0)],[(6,[.g 9,.g 10,I4 (x0)]),(10,[.g 7,.g 8,I4 (x1)])],[(bx0 x2 x3 1 x4 2 x5 x6 x7),rD (x8),rD (x9),.box 22 [kD (A)],.box 31 [kL (B)],.box 3 [I4 (C)],.box 53 [.ptr 0 0],rL (D),rD (E),rL (F),rD (G)],3,false⟩
theorem bLbA (k:Nat) (cX:Ex→CS→Option (Ex×CS)) (x0 x1:Int) (x2:LI) (x3:L3) (x4:LL) (x5:LL) (x6:LI) (x7:Int) (x8:LI) (x9:LI) (A:LI) (B:LL) (C:Int) (D:LL) (E:LI) (F:LL) (G:LI):zl zP (tn118 75) (TM.evF zP (tn118) dOk (k+40)) dOk (k+40) (za zP (tn0 75) 75 36) 0 36 (cLbA x0 x1 x2 x3 x4 x5 x6 x7 x8 x9 A B C D E F G) cX=(ob (v31_3 x2 x3 x4 x5 x6 x7 x8 x9 B C A) fun r1=>(ob (LbB x0 r1 x1 x2 x3 x4 x5 x6 x7 x8 x9 E F G) fun r2=>(cP cX (xLbA x0 x1 x2 x3 x4 x5 x6 x7 x8 x9 A B C D E F G (r2.1,(r1:LL),r2.2.1,(r2.2.2:LI)))))):=by kernel_rfl
theorem lLbA (k:Nat) (x0 x1:Int) (x2:LI) (x3:L3) (x4:LL) (x5:LL) (x6:LI) (x7:Int) (x8:LI) (x9:LI) (A:LI) (B:LL) (C:Int) (D:LL) (E:LI) (F:LL) (G:LI) (r:(Bool×(LL)×Int×(LI))):LbA x0 x1 x2 x3 x4 x5 x6 x7 x8 x9 A B C D E F G=some r→zl zP (tn118 75) (TM.evF zP (tn118) dOk (k+40)) dOk (k+40) (za zP (tn0 75) 75 36) 0 36 (cLbA x0 x1 x2 x3 x4 x5 x6 x7 x8 x9 A B C D E F G) (fun e s=>some (e,s))=some (xLbA x0 x1 x2 x3 x4 x5 x6 x7 x8 x9 A B C D E F G r):=by
 rw [bLbA]
 unfold LbA
 refine ze ?_ ?_
 refine ze ?_ ?_
 intro h;cases h;rfl
 intro h;cases h
 intro h;cases h
noncomputable def sLbA:TellS:=fun S=>tq (mS (cLbA 0 0 [] [] [] [] [] 0 [] [] [] [] 0 [] [] [] [])) S fun x0 x1 x2 x3 x4 x5 x6 x7 x8 x9 A B C D E F G=>some [(ok (LbA x0 x1 x2 x3 x4 x5 x6 x7 x8 x9 A B C D E F G),.ret,⟨[(6,.l 6 0),(7,.v (.sc (.bool ((val (LbA x0 x1 x2 x3 x4 x5 x6 x7 x8 x9 A B C D E F G)).1))))],[(6,[kL ((val (LbA x0 x1 x2 x3 x4 x5 x6 x7 x8 x9 A B C D E F G)).2.1:LL),.g 3,I4 ((val (LbA x0 x1 x2 x3 x4 x5 x6 x7 x8 x9 A B C D E F G)).2.2.1)])],[(bx0 x2 x3 1 x4 2 x5 x6 x7),rD (x8),rD (x9),rD ((val (LbA x0 x1 x2 x3 x4 x5 x6 x7 x8 x9 A B C D E F G)).2.2.2:LI)],3,true⟩)]
theorem wLbA:zh zP dOk base o114 t118 ((75,36),sLbA):=by
 refine ⟨(za zP (tn0 75) 75 36),0,by kernel_rfl,?_⟩
 intro S alts e S' h1 h2
 obtain ⟨_,rfl,g⟩:=tq_some h1
 clear h1
 change some _=_ at g
 cases g
 obtain ⟨hc0,rfl,rfl⟩:=zf h2
 exact ⟨0+40,(zx rfl).trans (lLbA 0 _ _ _ _ _ _ _ _ _ _ _ _ _ _ _ _ _ _ (zc hc0))⟩
noncomputable def t119:TellT:=((75,36),sLbA)::t118
abbrev tn119:=zd base o114 t119
theorem ok119:OKT tn119:=zi ok118 ok118 (p:=((75,36),sLbA)) wLbA
noncomputable def tv75 {β:Type} (x0:LL) (x1:LI) (x2:L3) (x3:LL) (x4:LL) (x5:LI) (x6:Int) (x7:LI) (x8:LI) (K:((LL)×(LI)×Int×Bool)→Option β):Option β:=(cond (ok (v60 x0 x1 x2 x3 x4 x5 x6 x7 x8)) (cond (ok (v61 (val (v60 x0 x1 x2 x3 x4 x5 x6 x7 x8)) x1 x2 x3 x4 x5 x6 x7 x8)) (cond (decide ((x1.length:Int)≤(x1.length:Int))) (cond (decide ((x1.length:Int)≤(↑(nat_lit 2147483648):Int))) (cond (ok (LbA 0 0 x1 x2 x3 x4 x5 x6 x7 x8 (val (v60 x0 x1 x2 x3 x4 x5 x6 x7 x8)) x0 (val (v61 (val (v60 x0 x1 x2 x3 x4 x5 x6 x7 x8)) x1 x2 x3 x4 x5 x6 x7 x8)) [] (List.replicate (x1.length:Int).toNat 0) [] [])) (K ((val (LbA 0 0 x1 x2 x3 x4 x5 x6 x7 x8 (val (v60 x0 x1 x2 x3 x4 x5 x6 x7 x8)) x0 (val (v61 (val (v60 x0 x1 x2 x3 x4 x5 x6 x7 x8)) x1 x2 x3 x4 x5 x6 x7 x8)) [] (List.replicate (x1.length:Int).toNat 0) [] [])).2.1,(val (LbA 0 0 x1 x2 x3 x4 x5 x6 x7 x8 (val (v60 x0 x1 x2 x3 x4 x5 x6 x7 x8)) x0 (val (v61 (val (v60 x0 x1 x2 x3 x4 x5 x6 x7 x8)) x1 x2 x3 x4 x5 x6 x7 x8)) [] (List.replicate (x1.length:Int).toNat 0) [] [])).2.2.2,(val (LbA 0 0 x1 x2 x3 x4 x5 x6 x7 x8 (val (v60 x0 x1 x2 x3 x4 x5 x6 x7 x8)) x0 (val (v61 (val (v60 x0 x1 x2 x3 x4 x5 x6 x7 x8)) x1 x2 x3 x4 x5 x6 x7 x8)) [] (List.replicate (x1.length:Int).toNat 0) [] [])).2.2.1,(val (LbA 0 0 x1 x2 x3 x4 x5 x6 x7 x8 (val (v60 x0 x1 x2 x3 x4 x5 x6 x7 x8)) x0 (val (v61 (val (v60 x0 x1 x2 x3 x4 x5 x6 x7 x8)) x1 x2 x3 x4 x5 x6 x7 x8)) [] (List.replicate (x1.length:Int).toNat 0) [] [])).1)) none) none) none) none) none)
noncomputable def v75 (x0:LL) (x1:LI) (x2:L3) (x3:LL) (x4:LL) (x5:LI) (x6:Int) (x7:LI) (x8:LI):Option ((LL)×(LI)×Int×Bool):=tv75 x0 x1 x2 x3 x4 x5 x6 x7 x8 some
abbrev aF75 (x0:LL):List TA:=[.sc (.ptr 0 0),.sc (kL x0),.sc (.g 1)]
abbrev hF75 (x1:LI) (x2:L3) (x3:LL) (x4:LL) (x5:LI) (x6:Int) (x7:LI) (x8:LI):List TO:=[(bx0 x1 x2 1 x3 2 x4 x5 x6),rD (x7),rD (x8)]
theorem ev75 (x0:LL) (x1:LI) (x2:L3) (x3:LL) (x4:LL) (x5:LI) (x6:Int) (x7:LI) (x8:LI):zt zP (tn119 75) (TM.evF zP (tn119) dOk 40) dOk 40 75 (aF75 x0) (hF75 x1 x2 x3 x4 x5 x6 x7 x8)=(v75 x0 x1 x2 x3 x4 x5 x6 x7 x8).bind fun r=>some ([.agg [kL (r.1:LL),kD (r.2.1:LI),I4 (r.2.2.1)],.sc (.bool (r.2.2.2))],[(bx0 x1 x2 1 x3 2 x4 x5 x6),rD (x7),rD (x8)]):=by
 refine Eq.trans (b:=tv75 x0 x1 x2 x3 x4 x5 x6 x7 x8 fun r=>some ([.agg [kL (r.1:LL),kD (r.2.1:LI),I4 (r.2.2.1)],.sc (.bool (r.2.2.2))],[(bx0 x1 x2 1 x3 2 x4 x5 x6),rD (x7),rD (x8)])) (by kernel_rfl) ?_
 unfold v75 tv75
 with_reducible repeat' refine zp ?_ ?_
 all_goals rfl
noncomputable def sv75:OrcS:=fun al H=>tqa (aF75 []) (hF75 [] [] [] [] [] 0 [] []) al H fun x0 x1 x2 x3 x4 x5 x6 x7 x8=>some [(ok (v75 x0 x1 x2 x3 x4 x5 x6 x7 x8),[.agg [kL ((val (v75 x0 x1 x2 x3 x4 x5 x6 x7 x8)).1:LL),kD ((val (v75 x0 x1 x2 x3 x4 x5 x6 x7 x8)).2.1:LI),I4 ((val (v75 x0 x1 x2 x3 x4 x5 x6 x7 x8)).2.2.1)],.sc (.bool ((val (v75 x0 x1 x2 x3 x4 x5 x6 x7 x8)).2.2.2))],[(bx0 x1 x2 1 x3 2 x4 x5 x6),rD (x7),rD (x8)])]
theorem wv75:zq zP dOk base o114 t119 (75,sv75):=by
 intro al H q hq rs H2 h2
 obtain ⟨_,_,rfl,rfl,g⟩:=tqa_some hq
 clear hq
 change some _=_ at g
 cases g
 obtain ⟨hc0,rfl,rfl⟩:=zg h2
 exact ⟨41,(zy (by kernel_rfl)).trans ((ev75 _ _ _ _ _ _ _ _ _).trans (zm (zc hc0)))⟩
noncomputable def o120:OrcT:=(75,sv75)::o114
abbrev tn120:=zd base o120 t119
theorem ok120:OKT tn120:=zr ok119 ok119 (p:=(75,sv75)) wv75
noncomputable def tv58 {β:Type} (x0:LL) (x1:LI) (x2:L3) (x3:LL) (x4:LL) (x5:LI) (x6:Int) (x7:LI) (x8:LI) (K:((LL)×(LI)×Int)→Option β):Option β:=(cond (ok (v75 x0 x1 x2 x3 x4 x5 x6 x7 x8)) (cond (val (v75 x0 x1 x2 x3 x4 x5 x6 x7 x8)).2.2.2 (cond ((x4.length:Int)==0) (K ((val (v75 x0 x1 x2 x3 x4 x5 x6 x7 x8)).1,(val (v75 x0 x1 x2 x3 x4 x5 x6 x7 x8)).2.1,(val (v75 x0 x1 x2 x3 x4 x5 x6 x7 x8)).2.2.1)) (cond (decide ((val (v75 x0 x1 x2 x3 x4 x5 x6 x7 x8)).2.2.1 < x6)) (K ((val (v75 x0 x1 x2 x3 x4 x5 x6 x7 x8)).1,(val (v75 x0 x1 x2 x3 x4 x5 x6 x7 x8)).2.1,(val (v75 x0 x1 x2 x3 x4 x5 x6 x7 x8)).2.2.1)) (K (x4,x5,x6)))) (K (x4,x5,x6))) none)
noncomputable def v58 (x0:LL) (x1:LI) (x2:L3) (x3:LL) (x4:LL) (x5:LI) (x6:Int) (x7:LI) (x8:LI):Option ((LL)×(LI)×Int):=tv58 x0 x1 x2 x3 x4 x5 x6 x7 x8 some
abbrev aF58 (x0:LL):List TA:=[.sc (.ptr 0 0),.sc (kL x0),.sc (.g 1)]
abbrev hF58 (x1:LI) (x2:L3) (x3:LL) (x4:LL) (x5:LI) (x6:Int) (x7:LI) (x8:LI):List TO:=[(bx0 x1 x2 1 x3 2 x4 x5 x6),rD (x7),rD (x8)]
theorem ev58 (x0:LL) (x1:LI) (x2:L3) (x3:LL) (x4:LL) (x5:LI) (x6:Int) (x7:LI) (x8:LI):zt zP (tn120 58) (TM.evF zP (tn120) dOk 40) dOk 40 58 (aF58 x0) (hF58 x1 x2 x3 x4 x5 x6 x7 x8)=(v58 x0 x1 x2 x3 x4 x5 x6 x7 x8).bind fun r=>some ([],[(bx0 x1 x2 1 x3 2 (r.1:LL) (r.2.1:LI) (r.2.2)),rD (x7),rD (x8)]):=by
 refine Eq.trans (b:=tv58 x0 x1 x2 x3 x4 x5 x6 x7 x8 fun r=>some ([],[(bx0 x1 x2 1 x3 2 (r.1:LL) (r.2.1:LI) (r.2.2)),rD (x7),rD (x8)])) (by kernel_rfl) ?_
 unfold v58 tv58
 with_reducible repeat' refine zp ?_ ?_
 all_goals rfl
noncomputable def sv58:OrcS:=fun al H=>tqa (aF58 []) (hF58 [] [] [] [] [] 0 [] []) al H fun x0 x1 x2 x3 x4 x5 x6 x7 x8=>some [(ok (v58 x0 x1 x2 x3 x4 x5 x6 x7 x8),[],[(bx0 x1 x2 1 x3 2 ((val (v58 x0 x1 x2 x3 x4 x5 x6 x7 x8)).1:LL) ((val (v58 x0 x1 x2 x3 x4 x5 x6 x7 x8)).2.1:LI) ((val (v58 x0 x1 x2 x3 x4 x5 x6 x7 x8)).2.2)),rD (x7),rD (x8)])]
theorem wv58:zq zP dOk base o120 t119 (58,sv58):=by
 intro al H q hq rs H2 h2
 obtain ⟨_,_,rfl,rfl,g⟩:=tqa_some hq
 clear hq
 change some _=_ at g
 cases g
 obtain ⟨hc0,rfl,rfl⟩:=zg h2
 exact ⟨41,(zy (by kernel_rfl)).trans ((ev58 _ _ _ _ _ _ _ _ _).trans (zm (zc hc0)))⟩
noncomputable def o121:OrcT:=(58,sv58)::o120
abbrev tn121:=zd base o121 t119
theorem ok121:OKT tn121:=zr ok120 ok120 (p:=(58,sv58)) wv58
noncomputable def LbO:Nat→LI→Int→Int→Option Int
 | 0,_,_,_=>none
 | n+1,x0,x1,x2=>(cond (decide (x2 < (x0.length:Int))) (cond (decide (0≤x2)) (LbO n x0 (max x1 (List.getD x0 x2.toNat 0)) (wI (x2+(1:Int)))) none) (some x1))
theorem qLbO:type_of% @LbO.eq_2:=@LbO.eq_2
noncomputable def xLbO (x0:LI) (x1 x2:Int):Int→Ex×CS:=fun r=>((.exit 0),⟨[(3,vI (r))],[],[],0,false⟩)
abbrev cLbO (x0:LI) (x1 x2:Int):CS:=⟨[(0,vD x0),(3,vI x1),(4,vI x2)],[],[],0,false⟩
theorem bLbO (k:Nat) (cN:KN) (cX:KX) (x0:LI) (x1 x2:Int):zo zP (tn121 59) (TM.evF zP (tn121) dOk (k+40)) dOk (k+40) (za zP (tn0 59) 59 0) 0 0 (cLbO x0 x1 x2) cN cX=(cond (decide (x2 < (x0.length:Int))) (cond (decide (0≤x2)) (cond (decide (x2 < (x0.length:Int))) (cN (cLbO x0 (max x1 (List.getD x0 x2.toNat 0)) (wI (x2+(1:Int))))) none) none) (cP cX (xLbO x0 x1 x2 x1))):=by kernel_rfl
theorem lLbO (k m:Nat):∀ (n:Nat) (x0:LI) (x1 x2:Int) (r:Int),LbO n x0 x1 x2=some r→zA zP (tn121 59) (TM.evF zP (tn121) dOk (k+40)) dOk (k+40) (za zP (tn0 59) 59 0) 0 0 (n+m) (cLbO x0 x1 x2)=some (xLbO x0 x1 x2 r):=by
 intro n
 induction n with
 | zero=>intro _ _ _ r h;cases h
 | succ n ih=>
  intro x0 x1 x2 r
  rw [show n+1+m=n+m+1 by omega,zk,bLbO,qLbO]
  cases (decide (x2 < (x0.length:Int))) with
  | true=>
   cases (decide (0≤x2)) with
   | true=>
    exact ih _ _ _ r
   | false=>
    intro h;cases h
  | false=>
   intro h;cases h;rfl
noncomputable def sLbO:TellS:=fun S=>tq (mS (cLbO [] 0 0)) S fun x0 x1 x2=>some [te (LbO FU x0 x1 x2) (xLbO x0 x1 x2)]
theorem wLbO:zh zP dOk base o121 t119 ((59,0),sLbO):=by
 refine ⟨.loop (za zP (tn0 59) 59 0),0,by kernel_rfl,?_⟩
 intro S alts e S' h1 h2
 obtain ⟨_,rfl,g⟩:=tq_some h1
 clear h1
 change some _=_ at g
 cases g
 obtain ⟨hc0,rfl,rfl⟩:=zf h2
 exact ⟨FU+40,(zb rfl).trans (lLbO FU 40 FU _ _ _ _ (zc hc0))⟩
noncomputable def t122:TellT:=((59,0),sLbO)::t119
abbrev tn122:=zd base o121 t122
theorem ok122:OKT tn122:=zi ok121 ok121 (p:=((59,0),sLbO)) wLbO
noncomputable def tv59 {β:Type} (x0:LI) (K:Int→Option β):Option β:=(cond (decide ((x0.length:Int) < (1:Int))) none (cond (decide (0 < (x0.length:Int))) (cond (ok (LbO FU x0 (List.getD x0 (Int.toNat 0) 0) (1:Int))) (K (val (LbO FU x0 (List.getD x0 (Int.toNat 0) 0) (1:Int)))) none) none))
noncomputable def v59 (x0:LI):Option Int:=tv59 x0 some
abbrev aF59 (x0:LI):List TA:=[.sc (kD x0)]
theorem ev59 (x0:LI):zt zP (tn122 59) (TM.evF zP (tn122) dOk 40) dOk 40 59 (aF59 x0) []=(v59 x0).bind fun r=>some ([.sc (I4 (r))],[]):=by
 refine Eq.trans (b:=tv59 x0 fun r=>some ([.sc (I4 (r))],[])) (by kernel_rfl) ?_
 unfold v59 tv59
 with_reducible repeat' refine zp ?_ ?_
 all_goals rfl
noncomputable def sv59:OrcS:=fun al H=>tqa (aF59 []) [] al H fun x0=>some [(ok (v59 x0),[.sc (I4 ((val (v59 x0))))],[])]
theorem wv59:zq zP dOk base o121 t122 (59,sv59):=by
 intro al H q hq rs H2 h2
 obtain ⟨_,_,rfl,rfl,g⟩:=tqa_some hq
 clear hq
 change some _=_ at g
 cases g
 obtain ⟨hc0,rfl,rfl⟩:=zg h2
 exact ⟨41,(zy (by kernel_rfl)).trans ((ev59 _).trans (zm (zc hc0)))⟩
noncomputable def o123:OrcT:=(59,sv59)::o121
abbrev tn123:=zd base o123 t122
theorem ok123:OKT tn123:=zr ok122 ok122 (p:=(59,sv59)) wv59
noncomputable def LaU:Nat→Int→Int→LI→L3→LL→LL→LI→Int→LI→LI→LL→LI→Option LI
 | 0,_,_,_,_,_,_,_,_,_,_,_,_=>none
 | n+1,x0,x1,x2,x3,x4,x5,x6,x7,x8,x9,A,B=>(cond (decide (x1 < x0)) (cond (decide (0≤x1)) (cond (decide (x1 < (x9.length:Int))) (cond (decide (x1.toNat < List.length x9)) (cond (ok (v59 x9)) (cond (decide (max (1:Int) (val (v59 x9))≠0)) (cond (decide (x1 < (B.length:Int))) (cond (decide (x1.toNat < List.length B)) (LaU n x0 (wI (x1+(1:Int))) x2 x3 x4 x5 x6 x7 x8 x9 A (List.set B x1.toNat (max (16:Int) (wI (Int.tdiv (wI (List.getD x9 x1.toNat 0*(1024:Int))) (max (1:Int) (val (v59 x9)))))))) none) none) none) none) none) none) none) (some B))
theorem qLaU:type_of% @LaU.eq_2:=@LaU.eq_2
noncomputable def xLaU (x0 x1:Int) (x2:LI) (x3:L3) (x4:LL) (x5:LL) (x6:LI) (x7:Int) (x8:LI) (x9:LI) (A:LL) (B:LI):LI→Ex×CS:=fun r=>((.exit 2),⟨[(1,vP 4),(2,vP 3),(5,vG 5)],[],[(bx0 x2 x3 1 x4 2 x5 x6 x7),rD (x8),rD (x9),.box 31 [kL (A)],.box 53 [.ptr 0 0],rD (r:LI)],3,false⟩)
abbrev cLaU (x0 x1:Int) (x2:LI) (x3:L3) (x4:LL) (x5:LL) (x6:LI) (x7:Int) (x8:LI) (x9:LI) (A:LL) (B:LI):CS:=⟨[(1,vP 4),(2,vP 3),(5,vG 5),(59,vG 2),(60,vI x0),(61,vI x1)],[],[(bx0 x2 x3 1 x4 2 x5 x6 x7),rD (x8),rD (x9),.box 31 [kL (A)],.box 53 [.ptr 0 0],rD (B)],3,false⟩
theorem bLaU (k:Nat) (cN:KN) (cX:KX) (x0 x1:Int) (x2:LI) (x3:L3) (x4:LL) (x5:LL) (x6:LI) (x7:Int) (x8:LI) (x9:LI) (A:LL) (B:LI):zo zP (tn123 34) (TM.evF zP (tn123) dOk (k+40)) dOk (k+40) (za zP (tn0 34) 34 16) 2 16 (cLaU x0 x1 x2 x3 x4 x5 x6 x7 x8 x9 A B) cN cX=(cond (decide (x1 < x0)) (cond (decide (0≤x1)) (cond (decide (x1 < (x9.length:Int))) (cond (decide (x1.toNat < List.length x9)) (cond (ok (v59 x9)) (cond (decide (max (1:Int) (val (v59 x9))≠0)) (cond (decide (0≤x1)) (cond (decide (x1 < (B.length:Int))) (cond (decide (x1.toNat < List.length B)) (cN (cLaU x0 (wI (x1+(1:Int))) x2 x3 x4 x5 x6 x7 x8 x9 A (List.set B x1.toNat (max (16:Int) (wI (Int.tdiv (wI (List.getD x9 x1.toNat 0*(1024:Int))) (max (1:Int) (val (v59 x9)))))):LI))) none) none) none) none) none) none) none) none) (cP cX (xLaU x0 x1 x2 x3 x4 x5 x6 x7 x8 x9 A B B))):=by kernel_rfl
theorem lLaU (k m:Nat):∀ (n:Nat) (x0 x1:Int) (x2:LI) (x3:L3) (x4:LL) (x5:LL) (x6:LI) (x7:Int) (x8:LI) (x9:LI) (A:LL) (B:LI) (r:LI),LaU n x0 x1 x2 x3 x4 x5 x6 x7 x8 x9 A B=some r→zA zP (tn123 34) (TM.evF zP (tn123) dOk (k+40)) dOk (k+40) (za zP (tn0 34) 34 16) 2 16 (n+m) (cLaU x0 x1 x2 x3 x4 x5 x6 x7 x8 x9 A B)=some (xLaU x0 x1 x2 x3 x4 x5 x6 x7 x8 x9 A B r):=by
 intro n
 induction n with
 | zero=>intro _ _ _ _ _ _ _ _ _ _ _ _ r h;cases h
 | succ n ih=>
  intro x0 x1 x2 x3 x4 x5 x6 x7 x8 x9 A B r
  rw [show n+1+m=n+m+1 by omega,zk,bLaU,qLaU]
  cases (decide (x1 < x0)) with
  | true=>
   cases (decide (0≤x1)) with
   | true=>
    cases (decide (x1 < (x9.length:Int))) with
    | true=>
     cases (decide (x1.toNat < List.length x9)) with
     | true=>
      cases (ok (v59 x9)) with
      | true=>
       cases (decide (max (1:Int) (val (v59 x9))≠0)) with
       | true=>
        cases (decide (x1 < (B.length:Int))) with
        | true=>
         cases (decide (x1.toNat < List.length B)) with
         | true=>
          exact ih _ _ _ _ _ _ _ _ _ _ _ _ r
         | false=>
          intro h;cases h
        | false=>
         intro h;cases h
       | false=>
        intro h;cases h
      | false=>
       intro h;cases h
     | false=>
      intro h;cases h
    | false=>
     intro h;cases h
   | false=>
    intro h;cases h
  | false=>
   intro h;cases h;rfl
noncomputable def sLaU:TellS:=fun S=>tq (mS (cLaU 0 0 [] [] [] [] [] 0 [] [] [] [])) S fun x0 x1 x2 x3 x4 x5 x6 x7 x8 x9 A B=>some [te (LaU FU x0 x1 x2 x3 x4 x5 x6 x7 x8 x9 A B) (xLaU x0 x1 x2 x3 x4 x5 x6 x7 x8 x9 A B)]
theorem wLaU:zh zP dOk base o123 t122 ((34,16),sLaU):=by
 refine ⟨.loop (za zP (tn0 34) 34 16),2,by kernel_rfl,?_⟩
 intro S alts e S' h1 h2
 obtain ⟨_,rfl,g⟩:=tq_some h1
 clear h1
 change some _=_ at g
 cases g
 obtain ⟨hc0,rfl,rfl⟩:=zf h2
 exact ⟨FU+40,(zb rfl).trans (lLaU FU 40 FU _ _ _ _ _ _ _ _ _ _ _ _ _ (zc hc0))⟩
noncomputable def t124:TellT:=((34,16),sLaU)::t122
abbrev tn124:=zd base o123 t124
theorem ok124:OKT tn124:=zi ok123 ok123 (p:=((34,16),sLaU)) wLaU
noncomputable def Lat:Nat→LI→Int→Int→LL→Int→Int→LI→L3→LL→LL→LI→Int→LI→LI→Option (Int×Int)
 | 0,_,_,_,_,_,_,_,_,_,_,_,_,_,_=>none
 | n+1,x0,x1,x2,x3,x4,x5,x6,x7,x8,x9,A,B,C,D=>(cond (decide (x5 < x4)) (cond (decide (0≤x5)) (cond (decide (x5 < (x3.length:Int))) (cond (ok (v29 (List.getD x3 x5.toNat []) x0)) (cond (ok (v54 (List.getD x3 x5.toNat []) x6 x7 x8 x9 A B C D)) (cond (val (v54 (List.getD x3 x5.toNat []) x6 x7 x8 x9 A B C D)) (cond (decide (x1 < 0)) (Lat n x0 x5 (val (v29 (List.getD x3 x5.toNat []) x0)) x3 x4 (wI (x5+(1:Int))) x6 x7 x8 x9 A B C D) (cond (decide (val (v29 (List.getD x3 x5.toNat []) x0) < x2)) (Lat n x0 x5 (val (v29 (List.getD x3 x5.toNat []) x0)) x3 x4 (wI (x5+(1:Int))) x6 x7 x8 x9 A B C D) (Lat n x0 x1 x2 x3 x4 (wI (x5+(1:Int))) x6 x7 x8 x9 A B C D))) (Lat n x0 x1 x2 x3 x4 (wI (x5+(1:Int))) x6 x7 x8 x9 A B C D)) none) none) none) none) (some (x1,x2)))
theorem qLat:type_of% @Lat.eq_2:=@Lat.eq_2
noncomputable def xLat (x0:LI) (x1 x2:Int) (x3:LL) (x4 x5:Int) (x6:LI) (x7:L3) (x8:LL) (x9:LL) (A:LI) (B:Int) (C:LI) (D:LI):(Int×Int)→Ex×CS:=fun r=>((.exit 0),⟨[(8,vI (r.1)),(9,vI (r.2))],[],[(bx0 x6 x7 1 x8 2 x9 A B),rD (C),rD (D)],3,false⟩)
abbrev cLat (x0:LI) (x1 x2:Int) (x3:LL) (x4 x5:Int) (x6:LI) (x7:L3) (x8:LL) (x9:LL) (A:LI) (B:Int) (C:LI) (D:LI):CS:=⟨[(0,vP 0),(2,vD x0),(8,vI x1),(9,vI x2),(20,vL x3),(21,vI x4),(22,vI x5)],[],[(bx0 x6 x7 1 x8 2 x9 A B),rD (C),rD (D)],3,false⟩
theorem bLat (k:Nat) (cN:KN) (cX:KX) (x0:LI) (x1 x2:Int) (x3:LL) (x4 x5:Int) (x6:LI) (x7:L3) (x8:LL) (x9:LL) (A:LI) (B:Int) (C:LI) (D:LI):zo zP (tn124 33) (TM.evF zP (tn124) dOk (k+40)) dOk (k+40) (za zP (tn0 33) 33 0) 0 0 (cLat x0 x1 x2 x3 x4 x5 x6 x7 x8 x9 A B C D) cN cX=(cond (decide (x5 < x4)) (cond (decide (0≤x5)) (cond (decide (x5 < (x3.length:Int))) (ob (v29 (List.getD x3 x5.toNat []) x0) fun r1=>(cond (ok (v54 (List.getD x3 x5.toNat []) x6 x7 x8 x9 A B C D)) (cond (val (v54 (List.getD x3 x5.toNat []) x6 x7 x8 x9 A B C D)) (cond (decide (x1 < 0)) (cN (cLat x0 x5 r1 x3 x4 (wI (x5+(1:Int))) x6 x7 x8 x9 A B C D)) (cond (decide (r1 < x2)) (cN (cLat x0 x5 r1 x3 x4 (wI (x5+(1:Int))) x6 x7 x8 x9 A B C D)) (cN (cLat x0 x1 x2 x3 x4 (wI (x5+(1:Int))) x6 x7 x8 x9 A B C D)))) (cN (cLat x0 x1 x2 x3 x4 (wI (x5+(1:Int))) x6 x7 x8 x9 A B C D))) none)) none) none) (cP cX (xLat x0 x1 x2 x3 x4 x5 x6 x7 x8 x9 A B C D ((x1),x2)))):=by kernel_rfl
theorem lLat (k m:Nat):∀ (n:Nat) (x0:LI) (x1 x2:Int) (x3:LL) (x4 x5:Int) (x6:LI) (x7:L3) (x8:LL) (x9:LL) (A:LI) (B:Int) (C:LI) (D:LI) (r:(Int×Int)),Lat n x0 x1 x2 x3 x4 x5 x6 x7 x8 x9 A B C D=some r→zA zP (tn124 33) (TM.evF zP (tn124) dOk (k+40)) dOk (k+40) (za zP (tn0 33) 33 0) 0 0 (n+m) (cLat x0 x1 x2 x3 x4 x5 x6 x7 x8 x9 A B C D)=some (xLat x0 x1 x2 x3 x4 x5 x6 x7 x8 x9 A B C D r):=by
 intro n
 induction n with
 | zero=>intro _ _ _ _ _ _ _ _ _ _ _ _ _ _ r h;cases h
 | succ n ih=>
  intro x0 x1 x2 x3 x4 x5 x6 x7 x8 x9 A B C D r
  rw [show n+1+m=n+m+1 by omega,zk,bLat,qLat]
  with_reducible repeat' refine ze ?_ ?_
  all_goals first | exact ih _ _ _ _ _ _ _ _ _ _ _ _ _ _ r | (intro h;cases h;done) | (intro h;cases h;rfl)
noncomputable def sLat:TellS:=fun S=>tq (mS (cLat [] 0 0 [] 0 0 [] [] [] [] [] 0 [] [])) S fun x0 x1 x2 x3 x4 x5 x6 x7 x8 x9 A B C D=>some [(ok (Lat FU x0 x1 x2 x3 x4 x5 x6 x7 x8 x9 A B C D),(.exit 0),⟨[(8,vI ((val (Lat FU x0 x1 x2 x3 x4 x5 x6 x7 x8 x9 A B C D)).1)),(9,vI ((val (Lat FU x0 x1 x2 x3 x4 x5 x6 x7 x8 x9 A B C D)).2))],[],[(bx0 x6 x7 1 x8 2 x9 A B),rD (C),rD (D)],3,false⟩)]
theorem wLat:zh zP dOk base o123 t124 ((33,0),sLat):=by
 refine ⟨.loop (za zP (tn0 33) 33 0),0,by kernel_rfl,?_⟩
 intro S alts e S' h1 h2
 obtain ⟨_,rfl,g⟩:=tq_some h1
 clear h1
 change some _=_ at g
 cases g
 obtain ⟨hc0,rfl,rfl⟩:=zf h2
 exact ⟨FU+40,(zb rfl).trans (lLat FU 40 FU _ _ _ _ _ _ _ _ _ _ _ _ _ _ _ (zc hc0))⟩
noncomputable def t125:TellT:=((33,0),sLat)::t124
abbrev tn125:=zd base o123 t125
theorem ok125:OKT tn125:=zi ok124 ok124 (p:=((33,0),sLat)) wLat
noncomputable def tv33_1 {β:Type} (x0:Int) (x1:LI) (x2:LI) (x3:L3) (x4:LL) (x5:LL) (x6:LI) (x7:Int) (x8:LI) (x9:LI) (K:(Int×Int)→Option β):Option β:=(cond (decide (0≤x0)) (cond (decide (x0 < (x3.length:Int))) (cond (ok (Lat FU x1 (-1:Int) 0 (List.getD x3 x0.toNat []) (↑(List.length (List.getD x3 x0.toNat [])):Int) 0 x2 x3 x4 x5 x6 x7 x8 x9)) (K ((val (Lat FU x1 (-1:Int) 0 (List.getD x3 x0.toNat []) (↑(List.length (List.getD x3 x0.toNat [])):Int) 0 x2 x3 x4 x5 x6 x7 x8 x9)).1,(val (Lat FU x1 (-1:Int) 0 (List.getD x3 x0.toNat []) (↑(List.length (List.getD x3 x0.toNat [])):Int) 0 x2 x3 x4 x5 x6 x7 x8 x9)).2)) none) none) none)
noncomputable def v33_1 (x0:Int) (x1:LI) (x2:LI) (x3:L3) (x4:LL) (x5:LL) (x6:LI) (x7:Int) (x8:LI) (x9:LI):Option (Int×Int):=tv33_1 x0 x1 x2 x3 x4 x5 x6 x7 x8 x9 some
abbrev aF33_1 (x0:Int) (x1:LI):List TA:=[.sc (.ptr 0 0),.sc (I4 x0),.sc (kD x1)]
abbrev hF33_1 (x2:LI) (x3:L3) (x4:LL) (x5:LL) (x6:LI) (x7:Int) (x8:LI) (x9:LI):List TO:=[(bx0 x2 x3 1 x4 2 x5 x6 x7),rD (x8),rD (x9)]
theorem ev33_1 (x0:Int) (x1:LI) (x2:LI) (x3:L3) (x4:LL) (x5:LL) (x6:LI) (x7:Int) (x8:LI) (x9:LI):zt zP (tn125 33) (TM.evF zP (tn125) dOk 40) dOk 40 33 (aF33_1 x0 x1) (hF33_1 x2 x3 x4 x5 x6 x7 x8 x9)=(v33_1 x0 x1 x2 x3 x4 x5 x6 x7 x8 x9).bind fun r=>some ([.sc (I4 (r.1)),.sc (I4 (r.2))],[(bx0 x2 x3 1 x4 2 x5 x6 x7),rD (x8),rD (x9)]):=by
 refine Eq.trans (b:=tv33_1 x0 x1 x2 x3 x4 x5 x6 x7 x8 x9 fun r=>some ([.sc (I4 (r.1)),.sc (I4 (r.2))],[(bx0 x2 x3 1 x4 2 x5 x6 x7),rD (x8),rD (x9)])) (by kernel_rfl) ?_
 unfold v33_1 tv33_1
 with_reducible repeat' refine zp ?_ ?_
 all_goals rfl
noncomputable def sv33_1:OrcS:=fun al H=>tqa (aF33_1 0 []) (hF33_1 [] [] [] [] [] 0 [] []) al H fun x0 x1 x2 x3 x4 x5 x6 x7 x8 x9=>some [(ok (v33_1 x0 x1 x2 x3 x4 x5 x6 x7 x8 x9),[.sc (I4 ((val (v33_1 x0 x1 x2 x3 x4 x5 x6 x7 x8 x9)).1)),.sc (I4 ((val (v33_1 x0 x1 x2 x3 x4 x5 x6 x7 x8 x9)).2))],[(bx0 x2 x3 1 x4 2 x5 x6 x7),rD (x8),rD (x9)])]
theorem wv33_1:zq zP dOk base o123 t125 (33,sv33_1):=by
 intro al H q hq rs H2 h2
 obtain ⟨_,_,rfl,rfl,g⟩:=tqa_some hq
 clear hq
 change some _=_ at g
 cases g
 obtain ⟨hc0,rfl,rfl⟩:=zg h2
 exact ⟨41,(zy (by kernel_rfl)).trans ((ev33_1 _ _ _ _ _ _ _ _ _ _).trans (zm (zc hc0)))⟩
noncomputable def o126:OrcT:=(33,sv33_1)::o123
abbrev tn126:=zd base o126 t125
theorem ok126:OKT tn126:=zr ok125 ok125 (p:=(33,sv33_1)) wv33_1
end
end Go.Proofs.Ytpfphfobneehmaa
