/- What some functions and loops come to: printed and checked. Written by a program of ours. -/
import Derived.Test.YtpfphfobneehmaaG4
set_option linter.all false
set_option maxRecDepth 1000000
set_option maxHeartbeats 4000000
namespace Go.Proofs.Ytpfphfobneehmaa
open Go Go.AM Go.TM Go.Proofs
noncomputable section
noncomputable def Lad:Nat→LI→Int→Int→LL→Int→Int→Int→LL→Int→LI→L3→LL→LL→LI→Int→LI→LI→LI→LL→LI→Option (Bool ⊕ (Int×Int))
 | 0,_,_,_,_,_,_,_,_,_,_,_,_,_,_,_,_,_,_,_,_=>none
 | n+1,x0,x1,x2,x3,x4,x5,x6,x7,x8,x9,A,B,C,D,E,F,G,I,J,K=>(cond (decide (x5 < x4)) (cond (decide (0≤x5)) (cond (decide (x5 < (x3.length:Int))) (cond (ok (v82 (List.getD x3 x5.toNat []))) (cond (val (v82 (List.getD x3 x5.toNat []))==0) (some (.inl (false))) (cond (decide (val (v82 (List.getD x3 x5.toNat []))≠0)) (cond (ok (v33_1 x5 x0 x9 A B C D E F G)) (cond (decide (wI (x1*(val (v33_1 x5 x0 x9 A B C D E F G)).2) < wI (wI (Int.tdiv (wI (wI ((1000000000000:Int)+val (v82 (List.getD x3 x5.toNat []))) - (1:Int))) (val (v82 (List.getD x3 x5.toNat []))))*x2))) (Lad n x0 (wI (Int.tdiv (wI (wI ((1000000000000:Int)+val (v82 (List.getD x3 x5.toNat []))) - (1:Int))) (val (v82 (List.getD x3 x5.toNat []))))) (val (v33_1 x5 x0 x9 A B C D E F G)).2 x3 x4 (wI (x5+(1:Int))) x6 x7 x8 x9 A B C D E F G I J K) (Lad n x0 x1 x2 x3 x4 (wI (x5+(1:Int))) x6 x7 x8 x9 A B C D E F G I J K)) none) none)) none) none) none) (some (.inr (x1,x2))))
theorem qLad:type_of% @Lad.eq_2:=@Lad.eq_2
noncomputable def xLad (x0:LI) (x1 x2:Int) (x3:LL) (x4 x5 x6:Int) (x7:LL) (x8:Int) (x9:LI) (A:L3) (B:LL) (C:LL) (D:LI) (E:Int) (F:LI) (G:LI) (I:LI) (J:LL) (K:LI):(Bool ⊕ (Int×Int))→Ex×CS:=fun r=>match r with | .inl a0=>(.ret,⟨[(6,.l 6 0),(7,.v (.sc (.bool (a0))))],[(6,[kL (x7),.g 3,I4 (x8)])],[(bx0 x9 A 1 B 2 C D E),rD (F),rD (G),rD (I)],3,true⟩) | .inr b0=>((.exit 0),⟨[(2,vD x0),(3,vP 3),(6,.l 6 0),(10,.l 10 0),(11,vI (b0.1)),(12,vI (b0.2))],[(6,[.g 5,.g 6,I4 (x6)]),(10,[kL (x7),.g 4,I4 (x8)])],[(bx0 x9 A 1 B 2 C D E),rD (F),rD (G),.box 53 [.ptr 0 0],rD (I),rL (J),rD (K)],3,false⟩)
abbrev cLad (x0:LI) (x1 x2:Int) (x3:LL) (x4 x5 x6:Int) (x7:LL) (x8:Int) (x9:LI) (A:L3) (B:LL) (C:LL) (D:LI) (E:Int) (F:LI) (G:LI) (I:LI) (J:LL) (K:LI):CS:=⟨[(2,vD x0),(3,vP 3),(6,.l 6 0),(10,.l 10 0),(11,vI x1),(12,vI x2),(43,vL x3),(44,vI x4),(45,vI x5)],[(6,[.g 5,.g 6,I4 (x6)]),(10,[kL (x7),.g 4,I4 (x8)])],[(bx0 x9 A 1 B 2 C D E),rD (F),rD (G),.box 53 [.ptr 0 0],rD (I),rL (J),rD (K)],3,false⟩
theorem bLad (k:Nat) (cN:KN) (cX:KX) (x0:LI) (x1 x2:Int) (x3:LL) (x4 x5 x6:Int) (x7:LL) (x8:Int) (x9:LI) (A:L3) (B:LL) (C:LL) (D:LI) (E:Int) (F:LI) (G:LI) (I:LI) (J:LL) (K:LI):zo zP (tn126 75) (TM.evF zP (tn126) dOk (k+40)) dOk (k+40) (za zP (tn0 75) 75 0) 0 0 (cLad x0 x1 x2 x3 x4 x5 x6 x7 x8 x9 A B C D E F G I J K) cN cX=(cond (decide (x5 < x4)) (cond (decide (0≤x5)) (cond (decide (x5 < (x3.length:Int))) (ob (v82 (List.getD x3 x5.toNat [])) fun r1=>(cond (r1==0) (cX .ret ⟨[(6,.l 6 0),(7,.v (.sc (.bool (false))))],[(6,[kL (x7),.g 3,I4 (x8)])],[(bx0 x9 A 1 B 2 C D E),rD (F),rD (G),rD (I)],3,true⟩) (cond (decide (r1≠0)) (ob (v33_1 x5 x0 x9 A B C D E F G) fun r2=>(cond (decide (wI (x1*r2.2) < wI (wI (Int.tdiv (wI (wI ((1000000000000:Int)+r1) - (1:Int))) r1)*x2))) (cN (cLad x0 (wI (Int.tdiv (wI (wI ((1000000000000:Int)+r1) - (1:Int))) r1)) r2.2 x3 x4 (wI (x5+(1:Int))) x6 x7 x8 x9 A B C D E F G I J K)) (cN (cLad x0 x1 x2 x3 x4 (wI (x5+(1:Int))) x6 x7 x8 x9 A B C D E F G I J K)))) none))) none) none) (cX (.exit 0) ⟨[(2,vD x0),(3,vP 3),(6,.l 6 0),(10,.l 10 0),(11,vI x1),(12,vI x2)],[(6,[.g 5,.g 6,I4 (x6)]),(10,[kL (x7),.g 4,I4 (x8)])],[(bx0 x9 A 1 B 2 C D E),rD (F),rD (G),.box 53 [.ptr 0 0],rD (I),rL (J),rD (K)],3,false⟩)):=by kernel_rfl
theorem lLad (k m:Nat):∀ (n:Nat) (x0:LI) (x1 x2:Int) (x3:LL) (x4 x5 x6:Int) (x7:LL) (x8:Int) (x9:LI) (A:L3) (B:LL) (C:LL) (D:LI) (E:Int) (F:LI) (G:LI) (I:LI) (J:LL) (K:LI) (r:(Bool ⊕ (Int×Int))),Lad n x0 x1 x2 x3 x4 x5 x6 x7 x8 x9 A B C D E F G I J K=some r→zA zP (tn126 75) (TM.evF zP (tn126) dOk (k+40)) dOk (k+40) (za zP (tn0 75) 75 0) 0 0 (n+m) (cLad x0 x1 x2 x3 x4 x5 x6 x7 x8 x9 A B C D E F G I J K)=some (xLad x0 x1 x2 x3 x4 x5 x6 x7 x8 x9 A B C D E F G I J K r):=by
 intro n
 induction n with
 | zero=>intro _ _ _ _ _ _ _ _ _ _ _ _ _ _ _ _ _ _ _ _ r h;cases h
 | succ n ih=>
  intro x0 x1 x2 x3 x4 x5 x6 x7 x8 x9 A B C D E F G I J K r
  rw [show n+1+m=n+m+1 by omega,zk,bLad,qLad]
  with_reducible repeat' refine ze ?_ ?_
  all_goals first | exact ih _ _ _ _ _ _ _ _ _ _ _ _ _ _ _ _ _ _ _ _ r | (intro h;cases h;done) | (intro h;cases h;rfl)
noncomputable def sLad:TellS:=fun S=>tq (mS (cLad [] 0 0 [] 0 0 0 [] 0 [] [] [] [] [] 0 [] [] [] [] [])) S fun x0 x1 x2 x3 x4 x5 x6 x7 x8 x9 A B C D E F G I J K=>some [(isL (Lad FU x0 x1 x2 x3 x4 x5 x6 x7 x8 x9 A B C D E F G I J K),.ret,⟨[(6,.l 6 0),(7,.v (.sc (.bool ((zz (Lad FU x0 x1 x2 x3 x4 x5 x6 x7 x8 x9 A B C D E F G I J K))))))],[(6,[kL (x7),.g 3,I4 (x8)])],[(bx0 x9 A 1 B 2 C D E),rD (F),rD (G),rD (I)],3,true⟩),(ok (zn (Lad FU x0 x1 x2 x3 x4 x5 x6 x7 x8 x9 A B C D E F G I J K)),(.exit 0),⟨[(2,vD x0),(3,vP 3),(6,.l 6 0),(10,.l 10 0),(11,vI ((val (zn (Lad FU x0 x1 x2 x3 x4 x5 x6 x7 x8 x9 A B C D E F G I J K))).1)),(12,vI ((val (zn (Lad FU x0 x1 x2 x3 x4 x5 x6 x7 x8 x9 A B C D E F G I J K))).2))],[(6,[.g 5,.g 6,I4 (x6)]),(10,[kL (x7),.g 4,I4 (x8)])],[(bx0 x9 A 1 B 2 C D E),rD (F),rD (G),.box 53 [.ptr 0 0],rD (I),rL (J),rD (K)],3,false⟩)]
theorem wLad:zh zP dOk base o126 t125 ((75,0),sLad):=by
 refine ⟨.loop (za zP (tn0 75) 75 0),0,by kernel_rfl,?_⟩
 intro S alts e S' h1 h2
 obtain ⟨_,rfl,g⟩:=tq_some h1
 clear h1
 change some _=_ at g
 cases g
 rcases zD h2 with ⟨hc0,rfl,rfl⟩ | h2
 · exact ⟨FU+40,(zb rfl).trans (lLad FU 40 FU _ _ _ _ _ _ _ _ _ _ _ _ _ _ _ _ _ _ _ _ _ (zM hc0))⟩
 obtain ⟨hc1,rfl,rfl⟩:=zf h2
 exact ⟨FU+40,(zb rfl).trans (lLad FU 40 FU _ _ _ _ _ _ _ _ _ _ _ _ _ _ _ _ _ _ _ _ _ (zG (zc hc1)))⟩
noncomputable def t127:TellT:=((75,0),sLad)::t125
abbrev tn127:=zd base o126 t127
theorem ok127:OKT tn127:=zi ok126 ok126 (p:=((75,0),sLad)) wLad
noncomputable def LaC:Nat→LI→Int→Int→LI→LI→Int→Int→Int→LL→Int→LI→L3→LL→LL→LI→Int→LI→LI→LI→LL→LI→Option LI
 | 0,_,_,_,_,_,_,_,_,_,_,_,_,_,_,_,_,_,_,_,_,_=>none
 | n+1,x0,x1,x2,x3,x4,x5,x6,x7,x8,x9,A,B,C,D,E,F,G,I,J,K,L=>(cond (decide (x6 < x5)) (cond (decide (0≤x6)) (cond (decide (x6 < (x4.length:Int))) (cond (List.getD x4 x6.toNat 0==0) (cond (decide (x6 < (J.length:Int))) (cond (decide (x6.toNat < List.length J)) (LaC n x0 x1 x2 x3 x4 x5 (wI (x6+(1:Int))) x7 x8 x9 A B C D E F G I (List.set J x6.toNat (1000000000000:Int)) K L) none) none) (cond (decide (x6 < (x3.length:Int))) (cond (decide (List.getD x3 x6.toNat 0 > 0)) (cond (decide (x6 < (x0.length:Int))) (cond (decide (x2≠0)) (cond (decide (x6 < (J.length:Int))) (cond (decide (x6.toNat < List.length J)) (LaC n x0 x1 x2 x3 x4 x5 (wI (x6+(1:Int))) x7 x8 x9 A B C D E F G I (List.set J x6.toNat (wI (Int.tdiv (wI (wI (wI (x1*List.getD x0 x6.toNat 0)+x2) - (1:Int))) x2))) K L) none) none) none) none) (LaC n x0 x1 x2 x3 x4 x5 (wI (x6+(1:Int))) x7 x8 x9 A B C D E F G I J K L)) none)) none) none) (some J))
theorem qLaC:type_of% @LaC.eq_2:=@LaC.eq_2
noncomputable def xLaC (x0:LI) (x1 x2:Int) (x3:LI) (x4:LI) (x5 x6 x7:Int) (x8:LL) (x9:Int) (A:LI) (B:L3) (C:LL) (D:LL) (E:LI) (F:Int) (G:LI) (I:LI) (J:LI) (K:LL) (L:LI):LI→Ex×CS:=fun r=>((.exit 2),⟨[(3,vP 3),(6,.l 6 0),(10,.l 10 0)],[(6,[.g 5,.g 6,I4 (x7)]),(10,[kL (x8),.g 4,I4 (x9)])],[(bx0 A B 1 C 2 D E F),rD (G),rD (I),.box 53 [.ptr 0 0],rD (r:LI),rL (K),rD (L)],3,false⟩)
abbrev cLaC (x0:LI) (x1 x2:Int) (x3:LI) (x4:LI) (x5 x6 x7:Int) (x8:LL) (x9:Int) (A:LI) (B:L3) (C:LL) (D:LL) (E:LI) (F:Int) (G:LI) (I:LI) (J:LI) (K:LL) (L:LI):CS:=⟨[(2,vD x0),(3,vP 3),(6,.l 6 0),(10,.l 10 0),(11,vI x1),(12,vI x2),(19,vD x3),(85,vD x4),(86,vI x5),(87,vI x6)],[(6,[.g 5,.g 6,I4 (x7)]),(10,[kL (x8),.g 4,I4 (x9)])],[(bx0 A B 1 C 2 D E F),rD (G),rD (I),.box 53 [.ptr 0 0],rD (J),rL (K),rD (L)],3,false⟩
theorem bLaC (k:Nat) (cN:KN) (cX:KX) (x0:LI) (x1 x2:Int) (x3:LI) (x4:LI) (x5 x6 x7:Int) (x8:LL) (x9:Int) (A:LI) (B:L3) (C:LL) (D:LL) (E:LI) (F:Int) (G:LI) (I:LI) (J:LI) (K:LL) (L:LI):zo zP (tn127 75) (TM.evF zP (tn127) dOk (k+40)) dOk (k+40) (za zP (tn0 75) 75 16) 2 16 (cLaC x0 x1 x2 x3 x4 x5 x6 x7 x8 x9 A B C D E F G I J K L) cN cX=(cond (decide (x6 < x5)) (cond (decide (0≤x6)) (cond (decide (x6 < (x4.length:Int))) (cond (List.getD x4 x6.toNat 0==0) (cond (decide (0≤x6)) (cond (decide (x6 < (J.length:Int))) (cond (decide (x6.toNat < List.length J)) (cN (cLaC x0 x1 x2 x3 x4 x5 (wI (x6+(1:Int))) x7 x8 x9 A B C D E F G I (List.set J x6.toNat (1000000000000:Int):LI) K L)) none) none) none) (cond (decide (0≤x6)) (cond (decide (x6 < (x3.length:Int))) (cond (decide (List.getD x3 x6.toNat 0 > 0)) (cond (decide (0≤x6)) (cond (decide (x6 < (x0.length:Int))) (cond (decide (x2≠0)) (cond (decide (0≤x6)) (cond (decide (x6 < (J.length:Int))) (cond (decide (x6.toNat < List.length J)) (cN (cLaC x0 x1 x2 x3 x4 x5 (wI (x6+(1:Int))) x7 x8 x9 A B C D E F G I (List.set J x6.toNat (wI (Int.tdiv (wI (wI (wI (x1*List.getD x0 x6.toNat 0)+x2) - (1:Int))) x2)):LI) K L)) none) none) none) none) none) none) (cN (cLaC x0 x1 x2 x3 x4 x5 (wI (x6+(1:Int))) x7 x8 x9 A B C D E F G I J K L))) none) none)) none) none) (cP cX (xLaC x0 x1 x2 x3 x4 x5 x6 x7 x8 x9 A B C D E F G I J K L J))):=by kernel_rfl
theorem lLaC (k m:Nat):∀ (n:Nat) (x0:LI) (x1 x2:Int) (x3:LI) (x4:LI) (x5 x6 x7:Int) (x8:LL) (x9:Int) (A:LI) (B:L3) (C:LL) (D:LL) (E:LI) (F:Int) (G:LI) (I:LI) (J:LI) (K:LL) (L:LI) (r:LI),LaC n x0 x1 x2 x3 x4 x5 x6 x7 x8 x9 A B C D E F G I J K L=some r→zA zP (tn127 75) (TM.evF zP (tn127) dOk (k+40)) dOk (k+40) (za zP (tn0 75) 75 16) 2 16 (n+m) (cLaC x0 x1 x2 x3 x4 x5 x6 x7 x8 x9 A B C D E F G I J K L)=some (xLaC x0 x1 x2 x3 x4 x5 x6 x7 x8 x9 A B C D E F G I J K L r):=by
 intro n
 induction n with
 | zero=>intro _ _ _ _ _ _ _ _ _ _ _ _ _ _ _ _ _ _ _ _ _ r h;cases h
 | succ n ih=>
  intro x0 x1 x2 x3 x4 x5 x6 x7 x8 x9 A B C D E F G I J K L r
  rw [show n+1+m=n+m+1 by omega,zk,bLaC,qLaC]
  cases (decide (x6 < x5)) with
  | true=>
   cases (decide (0≤x6)) with
   | true=>
    cases (decide (x6 < (x4.length:Int))) with
    | true=>
     cases (List.getD x4 x6.toNat 0==0) with
     | true=>
      cases (decide (x6 < (J.length:Int))) with
      | true=>
       cases (decide (x6.toNat < List.length J)) with
       | true=>
        exact ih _ _ _ _ _ _ _ _ _ _ _ _ _ _ _ _ _ _ _ _ _ r
       | false=>
        intro h;cases h
      | false=>
       intro h;cases h
     | false=>
      cases (decide (x6 < (x3.length:Int))) with
      | true=>
       cases (decide (List.getD x3 x6.toNat 0 > 0)) with
       | true=>
        cases (decide (x6 < (x0.length:Int))) with
        | true=>
         cases (decide (x2≠0)) with
         | true=>
          cases (decide (x6 < (J.length:Int))) with
          | true=>
           cases (decide (x6.toNat < List.length J)) with
           | true=>
            exact ih _ _ _ _ _ _ _ _ _ _ _ _ _ _ _ _ _ _ _ _ _ r
           | false=>
            intro h;cases h
          | false=>
           intro h;cases h
         | false=>
          intro h;cases h
        | false=>
         intro h;cases h
       | false=>
        exact ih _ _ _ _ _ _ _ _ _ _ _ _ _ _ _ _ _ _ _ _ _ r
      | false=>
       intro h;cases h
    | false=>
     intro h;cases h
   | false=>
    intro h;cases h
  | false=>
   intro h;cases h;rfl
noncomputable def sLaC:TellS:=fun S=>tq (mS (cLaC [] 0 0 [] [] 0 0 0 [] 0 [] [] [] [] [] 0 [] [] [] [] [])) S fun x0 x1 x2 x3 x4 x5 x6 x7 x8 x9 A B C D E F G I J K L=>some [te (LaC FU x0 x1 x2 x3 x4 x5 x6 x7 x8 x9 A B C D E F G I J K L) (xLaC x0 x1 x2 x3 x4 x5 x6 x7 x8 x9 A B C D E F G I J K L)]
theorem wLaC:zh zP dOk base o126 t127 ((75,16),sLaC):=by
 refine ⟨.loop (za zP (tn0 75) 75 16),2,by kernel_rfl,?_⟩
 intro S alts e S' h1 h2
 obtain ⟨_,rfl,g⟩:=tq_some h1
 clear h1
 change some _=_ at g
 cases g
 obtain ⟨hc0,rfl,rfl⟩:=zf h2
 exact ⟨FU+40,(zb rfl).trans (lLaC FU 40 FU _ _ _ _ _ _ _ _ _ _ _ _ _ _ _ _ _ _ _ _ _ _ (zc hc0))⟩
noncomputable def t128:TellT:=((75,16),sLaC)::t127
abbrev tn128:=zd base o126 t128
theorem ok128:OKT tn128:=zi ok127 ok127 (p:=((75,16),sLaC)) wLaC
noncomputable def LbD (x0:LI) (x1 x2:Int) (x3:LI) (x4:Int) (x5:LL) (x6:Int) (x7:LI) (x8:L3) (x9:LL) (A:LL) (B:LI) (C:Int) (D:LI) (E:LI) (F:LI) (G:LL) (I:LI):Option (Bool×Int×(LI)):=(cond (ok (LaC FU x0 x1 x2 x3 x7 (x7.length:Int) 0 x4 x5 x6 x7 x8 x9 A B C D E F G I)) (cond (ok (Lbl x4 x5 x6 x7 x8 x9 A B C D E (val (LaC FU x0 x1 x2 x3 x7 (x7.length:Int) 0 x4 x5 x6 x7 x8 x9 A B C D E F G I)) G I)) (some ((val (Lbl x4 x5 x6 x7 x8 x9 A B C D E (val (LaC FU x0 x1 x2 x3 x7 (x7.length:Int) 0 x4 x5 x6 x7 x8 x9 A B C D E F G I)) G I)).1,(val (Lbl x4 x5 x6 x7 x8 x9 A B C D E (val (LaC FU x0 x1 x2 x3 x7 (x7.length:Int) 0 x4 x5 x6 x7 x8 x9 A B C D E F G I)) G I)).2,val (LaC FU x0 x1 x2 x3 x7 (x7.length:Int) 0 x4 x5 x6 x7 x8 x9 A B C D E F G I))) none) none)
noncomputable def xLbD (x0:LI) (x1 x2:Int) (x3:LI) (x4:Int) (x5:LL) (x6:Int) (x7:LI) (x8:L3) (x9:LL) (A:LL) (B:LI) (C:Int) (D:LI) (E:LI) (F:LI) (G:LL) (I:LI):(Bool×Int×(LI))→Ex×CS:=fun r=>(.ret,⟨[(6,.l 6 0),(7,.v (.sc (.bool (r.1))))],[(6,[kL (x5),.g 3,I4 (r.2.1)])],[(bx0 x7 x8 1 x9 2 A B C),rD (D),rD (E),rD (r.2.2:LI)],3,true⟩)
abbrev cLbD (x0:LI) (x1 x2:Int) (x3:LI) (x4:Int) (x5:LL) (x6:Int) (x7:LI) (x8:L3) (x9:LL) (A:LL) (B:LI) (C:Int) (D:LI) (E:LI) (F:LI) (G:LL) (I:LI):CS:=⟨[(2,vD x0),(3,vP 3),(6,.l 6 0),(10,.l 10 0),(11,vI x1),(12,vI x2),(19,vD x3)],[(6,[.g 5,.g 6,I4 (x4)]),(10,[kL (x5),.g 4,I4 (x6)])],[(bx0 x7 x8 1 x9 2 A B C),rD (D),rD (E),.box 53 [.ptr 0 0],rD (F),rL (G),rD (I)],3,false⟩
theorem bLbD (k:Nat) (cX:Ex→CS→Option (Ex×CS)) (x0:LI) (x1 x2:Int) (x3:LI) (x4:Int) (x5:LL) (x6:Int) (x7:LI) (x8:L3) (x9:LL) (A:LL) (B:LI) (C:Int) (D:LI) (E:LI) (F:LI) (G:LL) (I:LI):zl zP (tn128 75) (TM.evF zP (tn128) dOk (k+40)) dOk (k+40) (za zP (tn0 75) 75 148) 0 148 (cLbD x0 x1 x2 x3 x4 x5 x6 x7 x8 x9 A B C D E F G I) cX=(ob (LaC FU x0 x1 x2 x3 x7 (x7.length:Int) 0 x4 x5 x6 x7 x8 x9 A B C D E F G I) fun r1=>(ob (Lbl x4 x5 x6 x7 x8 x9 A B C D E r1 G I) fun r2=>(cP cX (xLbD x0 x1 x2 x3 x4 x5 x6 x7 x8 x9 A B C D E F G I (r2.1,r2.2,(r1:LI)))))):=by kernel_rfl
theorem lLbD (k:Nat) (x0:LI) (x1 x2:Int) (x3:LI) (x4:Int) (x5:LL) (x6:Int) (x7:LI) (x8:L3) (x9:LL) (A:LL) (B:LI) (C:Int) (D:LI) (E:LI) (F:LI) (G:LL) (I:LI) (r:(Bool×Int×(LI))):LbD x0 x1 x2 x3 x4 x5 x6 x7 x8 x9 A B C D E F G I=some r→zl zP (tn128 75) (TM.evF zP (tn128) dOk (k+40)) dOk (k+40) (za zP (tn0 75) 75 148) 0 148 (cLbD x0 x1 x2 x3 x4 x5 x6 x7 x8 x9 A B C D E F G I) (fun e s=>some (e,s))=some (xLbD x0 x1 x2 x3 x4 x5 x6 x7 x8 x9 A B C D E F G I r):=by
 rw [bLbD]
 unfold LbD
 refine ze ?_ ?_
 refine ze ?_ ?_
 intro h;cases h;rfl
 intro h;cases h
 intro h;cases h
noncomputable def sLbD:TellS:=fun S=>tq (mS (cLbD [] 0 0 [] 0 [] 0 [] [] [] [] [] 0 [] [] [] [] [])) S fun x0 x1 x2 x3 x4 x5 x6 x7 x8 x9 A B C D E F G I=>some [(ok (LbD x0 x1 x2 x3 x4 x5 x6 x7 x8 x9 A B C D E F G I),.ret,⟨[(6,.l 6 0),(7,.v (.sc (.bool ((val (LbD x0 x1 x2 x3 x4 x5 x6 x7 x8 x9 A B C D E F G I)).1))))],[(6,[kL (x5),.g 3,I4 ((val (LbD x0 x1 x2 x3 x4 x5 x6 x7 x8 x9 A B C D E F G I)).2.1)])],[(bx0 x7 x8 1 x9 2 A B C),rD (D),rD (E),rD ((val (LbD x0 x1 x2 x3 x4 x5 x6 x7 x8 x9 A B C D E F G I)).2.2:LI)],3,true⟩)]
theorem wLbD:zh zP dOk base o126 t128 ((75,148),sLbD):=by
 refine ⟨(za zP (tn0 75) 75 148),0,by kernel_rfl,?_⟩
 intro S alts e S' h1 h2
 obtain ⟨_,rfl,g⟩:=tq_some h1
 clear h1
 change some _=_ at g
 cases g
 obtain ⟨hc0,rfl,rfl⟩:=zf h2
 exact ⟨0+40,(zx rfl).trans (lLbD 0 _ _ _ _ _ _ _ _ _ _ _ _ _ _ _ _ _ _ _ (zc hc0))⟩
noncomputable def t129:TellT:=((75,148),sLbD)::t128
abbrev tn129:=zd base o126 t129
theorem ok129:OKT tn129:=zi ok128 ok128 (p:=((75,148),sLbD)) wLbD
noncomputable def Lbx (x0:LI) (x1:Int) (x2:LL) (x3:Int) (x4:LI) (x5:L3) (x6:LL) (x7:LL) (x8:LI) (x9:Int) (A:LI) (B:LI) (C:LI) (D:LL) (E:LI):Option (Bool×Int×(LI)):=(cond (isL (Lad FU x0 0 (1:Int) x2 (x2.length:Int) 0 x1 x2 x3 x4 x5 x6 x7 x8 x9 A B C D E)) (some (zz (Lad FU x0 0 (1:Int) x2 (x2.length:Int) 0 x1 x2 x3 x4 x5 x6 x7 x8 x9 A B C D E),x3,C)) (cond (ok (zn (Lad FU x0 0 (1:Int) x2 (x2.length:Int) 0 x1 x2 x3 x4 x5 x6 x7 x8 x9 A B C D E))) (cond (ok (v31_4 x4 x5 x6 x7 x8 x9 A B)) (cond (ok (v60 (val (v31_4 x4 x5 x6 x7 x8 x9 A B)) x4 x5 x6 x7 x8 x9 A B)) (cond (ok (LbD x0 (val (zn (Lad FU x0 0 (1:Int) x2 (x2.length:Int) 0 x1 x2 x3 x4 x5 x6 x7 x8 x9 A B C D E))).1 (val (zn (Lad FU x0 0 (1:Int) x2 (x2.length:Int) 0 x1 x2 x3 x4 x5 x6 x7 x8 x9 A B C D E))).2 (val (v60 (val (v31_4 x4 x5 x6 x7 x8 x9 A B)) x4 x5 x6 x7 x8 x9 A B)) x1 x2 x3 x4 x5 x6 x7 x8 x9 A B C D E)) (some ((val (LbD x0 (val (zn (Lad FU x0 0 (1:Int) x2 (x2.length:Int) 0 x1 x2 x3 x4 x5 x6 x7 x8 x9 A B C D E))).1 (val (zn (Lad FU x0 0 (1:Int) x2 (x2.length:Int) 0 x1 x2 x3 x4 x5 x6 x7 x8 x9 A B C D E))).2 (val (v60 (val (v31_4 x4 x5 x6 x7 x8 x9 A B)) x4 x5 x6 x7 x8 x9 A B)) x1 x2 x3 x4 x5 x6 x7 x8 x9 A B C D E)).1,(val (LbD x0 (val (zn (Lad FU x0 0 (1:Int) x2 (x2.length:Int) 0 x1 x2 x3 x4 x5 x6 x7 x8 x9 A B C D E))).1 (val (zn (Lad FU x0 0 (1:Int) x2 (x2.length:Int) 0 x1 x2 x3 x4 x5 x6 x7 x8 x9 A B C D E))).2 (val (v60 (val (v31_4 x4 x5 x6 x7 x8 x9 A B)) x4 x5 x6 x7 x8 x9 A B)) x1 x2 x3 x4 x5 x6 x7 x8 x9 A B C D E)).2.1,(val (LbD x0 (val (zn (Lad FU x0 0 (1:Int) x2 (x2.length:Int) 0 x1 x2 x3 x4 x5 x6 x7 x8 x9 A B C D E))).1 (val (zn (Lad FU x0 0 (1:Int) x2 (x2.length:Int) 0 x1 x2 x3 x4 x5 x6 x7 x8 x9 A B C D E))).2 (val (v60 (val (v31_4 x4 x5 x6 x7 x8 x9 A B)) x4 x5 x6 x7 x8 x9 A B)) x1 x2 x3 x4 x5 x6 x7 x8 x9 A B C D E)).2.2)) none) none) none) none))
noncomputable def xLbx (x0:LI) (x1:Int) (x2:LL) (x3:Int) (x4:LI) (x5:L3) (x6:LL) (x7:LL) (x8:LI) (x9:Int) (A:LI) (B:LI) (C:LI) (D:LL) (E:LI):(Bool×Int×(LI))→Ex×CS:=fun r=>(.ret,⟨[(6,.l 6 0),(7,.v (.sc (.bool (r.1))))],[(6,[kL (x2),.g 3,I4 (r.2.1)])],[(bx0 x4 x5 1 x6 2 x7 x8 x9),rD (A),rD (B),rD (r.2.2:LI)],3,true⟩)
abbrev cLbx (x0:LI) (x1:Int) (x2:LL) (x3:Int) (x4:LI) (x5:L3) (x6:LL) (x7:LL) (x8:LI) (x9:Int) (A:LI) (B:LI) (C:LI) (D:LL) (E:LI):CS:=⟨[(2,vD x0),(3,vP 3),(6,.l 6 0),(10,.l 10 0),(41,.l 10 0)],[(6,[.g 5,.g 6,I4 (x1)]),(10,[kL (x2),.g 4,I4 (x3)])],[(bx0 x4 x5 1 x6 2 x7 x8 x9),rD (A),rD (B),.box 53 [.ptr 0 0],rD (C),rL (D),rD (E)],3,false⟩
theorem bLbx (k:Nat) (cX:Ex→CS→Option (Ex×CS)) (x0:LI) (x1:Int) (x2:LL) (x3:Int) (x4:LI) (x5:L3) (x6:LL) (x7:LL) (x8:LI) (x9:Int) (A:LI) (B:LI) (C:LI) (D:LL) (E:LI):zl zP (tn129 75) (TM.evF zP (tn129) dOk (k+40)) dOk (k+40) (za zP (tn0 75) 75 44) 0 44 (cLbx x0 x1 x2 x3 x4 x5 x6 x7 x8 x9 A B C D E) cX=(cond (isL (Lad FU x0 0 (1:Int) x2 (x2.length:Int) 0 x1 x2 x3 x4 x5 x6 x7 x8 x9 A B C D E)) (cP cX (xLbx x0 x1 x2 x3 x4 x5 x6 x7 x8 x9 A B C D E ((zz (Lad FU x0 0 (1:Int) x2 (x2.length:Int) 0 x1 x2 x3 x4 x5 x6 x7 x8 x9 A B C D E)),(x3),C))) (ob (zn (Lad FU x0 0 (1:Int) x2 (x2.length:Int) 0 x1 x2 x3 x4 x5 x6 x7 x8 x9 A B C D E)) fun r1=>(ob (v31_4 x4 x5 x6 x7 x8 x9 A B) fun r2=>(ob (v60 r2 x4 x5 x6 x7 x8 x9 A B) fun r3=>(ob (LbD x0 r1.1 r1.2 r3 x1 x2 x3 x4 x5 x6 x7 x8 x9 A B C D E) fun r4=>(cP cX (xLbx x0 x1 x2 x3 x4 x5 x6 x7 x8 x9 A B C D E (r4.1,r4.2.1,(r4.2.2:LI))))))))):=by kernel_rfl
theorem lLbx (k:Nat) (x0:LI) (x1:Int) (x2:LL) (x3:Int) (x4:LI) (x5:L3) (x6:LL) (x7:LL) (x8:LI) (x9:Int) (A:LI) (B:LI) (C:LI) (D:LL) (E:LI) (r:(Bool×Int×(LI))):Lbx x0 x1 x2 x3 x4 x5 x6 x7 x8 x9 A B C D E=some r→zl zP (tn129 75) (TM.evF zP (tn129) dOk (k+40)) dOk (k+40) (za zP (tn0 75) 75 44) 0 44 (cLbx x0 x1 x2 x3 x4 x5 x6 x7 x8 x9 A B C D E) (fun e s=>some (e,s))=some (xLbx x0 x1 x2 x3 x4 x5 x6 x7 x8 x9 A B C D E r):=by
 rw [bLbx]
 unfold Lbx
 refine ze ?_ ?_
 intro h;cases h;rfl
 refine ze ?_ ?_
 refine ze ?_ ?_
 refine ze ?_ ?_
 refine ze ?_ ?_
 intro h;cases h;rfl
 intro h;cases h
 intro h;cases h
 intro h;cases h
 intro h;cases h
noncomputable def sLbx:TellS:=fun S=>tq (mS (cLbx [] 0 [] 0 [] [] [] [] [] 0 [] [] [] [] [])) S fun x0 x1 x2 x3 x4 x5 x6 x7 x8 x9 A B C D E=>some [(ok (Lbx x0 x1 x2 x3 x4 x5 x6 x7 x8 x9 A B C D E),.ret,⟨[(6,.l 6 0),(7,.v (.sc (.bool ((val (Lbx x0 x1 x2 x3 x4 x5 x6 x7 x8 x9 A B C D E)).1))))],[(6,[kL (x2),.g 3,I4 ((val (Lbx x0 x1 x2 x3 x4 x5 x6 x7 x8 x9 A B C D E)).2.1)])],[(bx0 x4 x5 1 x6 2 x7 x8 x9),rD (A),rD (B),rD ((val (Lbx x0 x1 x2 x3 x4 x5 x6 x7 x8 x9 A B C D E)).2.2:LI)],3,true⟩)]
theorem wLbx:zh zP dOk base o126 t129 ((75,44),sLbx):=by
 refine ⟨(za zP (tn0 75) 75 44),0,by kernel_rfl,?_⟩
 intro S alts e S' h1 h2
 obtain ⟨_,rfl,g⟩:=tq_some h1
 clear h1
 change some _=_ at g
 cases g
 obtain ⟨hc0,rfl,rfl⟩:=zf h2
 exact ⟨0+40,(zx rfl).trans (lLbx 0 _ _ _ _ _ _ _ _ _ _ _ _ _ _ _ _ (zc hc0))⟩
noncomputable def t130:TellT:=((75,44),sLbx)::t129
abbrev tn130:=zd base o126 t130
theorem ok130:OKT tn130:=zi ok129 ok129 (p:=((75,44),sLbx)) wLbx
noncomputable def LbC (x0:LI) (x1 x2:Int) (x3:LI) (x4:L3) (x5:LL) (x6:LL) (x7:LI) (x8:Int) (x9:LI) (A:LI) (B:LI) (C:LL) (D:Int) (E:LL) (F:LI) (G:LL) (I:LI):Option (Bool×(LL)×Int×(LI)):=(cond (ok (v31_3 x3 x4 x5 x6 x7 x8 x9 A C D B)) (cond (ok (Lbx x0 x1 (val (v31_3 x3 x4 x5 x6 x7 x8 x9 A C D B)) x2 x3 x4 x5 x6 x7 x8 x9 A F G I)) (some ((val (Lbx x0 x1 (val (v31_3 x3 x4 x5 x6 x7 x8 x9 A C D B)) x2 x3 x4 x5 x6 x7 x8 x9 A F G I)).1,val (v31_3 x3 x4 x5 x6 x7 x8 x9 A C D B),(val (Lbx x0 x1 (val (v31_3 x3 x4 x5 x6 x7 x8 x9 A C D B)) x2 x3 x4 x5 x6 x7 x8 x9 A F G I)).2.1,(val (Lbx x0 x1 (val (v31_3 x3 x4 x5 x6 x7 x8 x9 A C D B)) x2 x3 x4 x5 x6 x7 x8 x9 A F G I)).2.2)) none) none)
noncomputable def xLbC (x0:LI) (x1 x2:Int) (x3:LI) (x4:L3) (x5:LL) (x6:LL) (x7:LI) (x8:Int) (x9:LI) (A:LI) (B:LI) (C:LL) (D:Int) (E:LL) (F:LI) (G:LL) (I:LI):(Bool×(LL)×Int×(LI))→Ex×CS:=fun r=>(.ret,⟨[(6,.l 6 0),(7,.v (.sc (.bool (r.1))))],[(6,[kL (r.2.1:LL),.g 3,I4 (r.2.2.1)])],[(bx0 x3 x4 1 x5 2 x6 x7 x8),rD (x9),rD (A),rD (r.2.2.2:LI)],3,true⟩)
abbrev cLbC (x0:LI) (x1 x2:Int) (x3:LI) (x4:L3) (x5:LL) (x6:LL) (x7:LI) (x8:Int) (x9:LI) (A:LI) (B:LI) (C:LL) (D:Int) (E:LL) (F:LI) (G:LL) (I:LI):CS:=⟨[(2,vD x0),(3,vP 6),(4,vP 4),(6,.l 6 0),(8,vP 3),(9,vP 5),(10,.l 10 0)],[(6,[.g 9,.g 10,I4 (x1)]),(10,[.g 7,.g 8,I4 (x2)])],[(bx0 x3 x4 1 x5 2 x6 x7 x8),rD (x9),rD (A),.box 22 [kD (B)],.box 31 [kL (C)],.box 3 [I4 (D)],.box 53 [.ptr 0 0],rL (E),rD (F),rL (G),rD (I)],3,false⟩
theorem bLbC (k:Nat) (cX:Ex→CS→Option (Ex×CS)) (x0:LI) (x1 x2:Int) (x3:LI) (x4:L3) (x5:LL) (x6:LL) (x7:LI) (x8:Int) (x9:LI) (A:LI) (B:LI) (C:LL) (D:Int) (E:LL) (F:LI) (G:LL) (I:LI):zl zP (tn130 75) (TM.evF zP (tn130) dOk (k+40)) dOk (k+40) (za zP (tn0 75) 75 36) 0 36 (cLbC x0 x1 x2 x3 x4 x5 x6 x7 x8 x9 A B C D E F G I) cX=(ob (v31_3 x3 x4 x5 x6 x7 x8 x9 A C D B) fun r1=>(ob (Lbx x0 x1 r1 x2 x3 x4 x5 x6 x7 x8 x9 A F G I) fun r2=>(cP cX (xLbC x0 x1 x2 x3 x4 x5 x6 x7 x8 x9 A B C D E F G I (r2.1,(r1:LL),r2.2.1,(r2.2.2:LI)))))):=by kernel_rfl
theorem lLbC (k:Nat) (x0:LI) (x1 x2:Int) (x3:LI) (x4:L3) (x5:LL) (x6:LL) (x7:LI) (x8:Int) (x9:LI) (A:LI) (B:LI) (C:LL) (D:Int) (E:LL) (F:LI) (G:LL) (I:LI) (r:(Bool×(LL)×Int×(LI))):LbC x0 x1 x2 x3 x4 x5 x6 x7 x8 x9 A B C D E F G I=some r→zl zP (tn130 75) (TM.evF zP (tn130) dOk (k+40)) dOk (k+40) (za zP (tn0 75) 75 36) 0 36 (cLbC x0 x1 x2 x3 x4 x5 x6 x7 x8 x9 A B C D E F G I) (fun e s=>some (e,s))=some (xLbC x0 x1 x2 x3 x4 x5 x6 x7 x8 x9 A B C D E F G I r):=by
 rw [bLbC]
 unfold LbC
 refine ze ?_ ?_
 refine ze ?_ ?_
 intro h;cases h;rfl
 intro h;cases h
 intro h;cases h
noncomputable def sLbC:TellS:=fun S=>tq (mS (cLbC [] 0 0 [] [] [] [] [] 0 [] [] [] [] 0 [] [] [] [])) S fun x0 x1 x2 x3 x4 x5 x6 x7 x8 x9 A B C D E F G I=>some [(ok (LbC x0 x1 x2 x3 x4 x5 x6 x7 x8 x9 A B C D E F G I),.ret,⟨[(6,.l 6 0),(7,.v (.sc (.bool ((val (LbC x0 x1 x2 x3 x4 x5 x6 x7 x8 x9 A B C D E F G I)).1))))],[(6,[kL ((val (LbC x0 x1 x2 x3 x4 x5 x6 x7 x8 x9 A B C D E F G I)).2.1:LL),.g 3,I4 ((val (LbC x0 x1 x2 x3 x4 x5 x6 x7 x8 x9 A B C D E F G I)).2.2.1)])],[(bx0 x3 x4 1 x5 2 x6 x7 x8),rD (x9),rD (A),rD ((val (LbC x0 x1 x2 x3 x4 x5 x6 x7 x8 x9 A B C D E F G I)).2.2.2:LI)],3,true⟩)]
theorem wLbC:zh zP dOk base o126 t130 ((75,36),sLbC):=by
 refine ⟨(za zP (tn0 75) 75 36),0,by kernel_rfl,?_⟩
 intro S alts e S' h1 h2
 obtain ⟨_,rfl,g⟩:=tq_some h1
 clear h1
 change some _=_ at g
 cases g
 obtain ⟨hc0,rfl,rfl⟩:=zf h2
 exact ⟨0+40,(zx rfl).trans (lLbC 0 _ _ _ _ _ _ _ _ _ _ _ _ _ _ _ _ _ _ _ (zc hc0))⟩
noncomputable def t131:TellT:=((75,36),sLbC)::t130
abbrev tn131:=zd base o126 t131
theorem ok131:OKT tn131:=zi ok130 ok130 (p:=((75,36),sLbC)) wLbC
noncomputable def tv75_1 {β:Type} (x0:LL) (x1:LI) (x2:LI) (x3:L3) (x4:LL) (x5:LL) (x6:LI) (x7:Int) (x8:LI) (x9:LI) (K:((LL)×(LI)×Int×Bool)→Option β):Option β:=(cond (ok (v60 x0 x2 x3 x4 x5 x6 x7 x8 x9)) (cond (ok (v61 (val (v60 x0 x2 x3 x4 x5 x6 x7 x8 x9)) x2 x3 x4 x5 x6 x7 x8 x9)) (cond (decide ((x2.length:Int)≤(x2.length:Int))) (cond (decide ((x2.length:Int)≤(↑(nat_lit 2147483648):Int))) (cond (ok (LbC x1 0 0 x2 x3 x4 x5 x6 x7 x8 x9 (val (v60 x0 x2 x3 x4 x5 x6 x7 x8 x9)) x0 (val (v61 (val (v60 x0 x2 x3 x4 x5 x6 x7 x8 x9)) x2 x3 x4 x5 x6 x7 x8 x9)) [] (List.replicate (x2.length:Int).toNat 0) [] [])) (K ((val (LbC x1 0 0 x2 x3 x4 x5 x6 x7 x8 x9 (val (v60 x0 x2 x3 x4 x5 x6 x7 x8 x9)) x0 (val (v61 (val (v60 x0 x2 x3 x4 x5 x6 x7 x8 x9)) x2 x3 x4 x5 x6 x7 x8 x9)) [] (List.replicate (x2.length:Int).toNat 0) [] [])).2.1,(val (LbC x1 0 0 x2 x3 x4 x5 x6 x7 x8 x9 (val (v60 x0 x2 x3 x4 x5 x6 x7 x8 x9)) x0 (val (v61 (val (v60 x0 x2 x3 x4 x5 x6 x7 x8 x9)) x2 x3 x4 x5 x6 x7 x8 x9)) [] (List.replicate (x2.length:Int).toNat 0) [] [])).2.2.2,(val (LbC x1 0 0 x2 x3 x4 x5 x6 x7 x8 x9 (val (v60 x0 x2 x3 x4 x5 x6 x7 x8 x9)) x0 (val (v61 (val (v60 x0 x2 x3 x4 x5 x6 x7 x8 x9)) x2 x3 x4 x5 x6 x7 x8 x9)) [] (List.replicate (x2.length:Int).toNat 0) [] [])).2.2.1,(val (LbC x1 0 0 x2 x3 x4 x5 x6 x7 x8 x9 (val (v60 x0 x2 x3 x4 x5 x6 x7 x8 x9)) x0 (val (v61 (val (v60 x0 x2 x3 x4 x5 x6 x7 x8 x9)) x2 x3 x4 x5 x6 x7 x8 x9)) [] (List.replicate (x2.length:Int).toNat 0) [] [])).1)) none) none) none) none) none)
noncomputable def v75_1 (x0:LL) (x1:LI) (x2:LI) (x3:L3) (x4:LL) (x5:LL) (x6:LI) (x7:Int) (x8:LI) (x9:LI):Option ((LL)×(LI)×Int×Bool):=tv75_1 x0 x1 x2 x3 x4 x5 x6 x7 x8 x9 some
abbrev aF75_1 (x0:LL) (x1:LI):List TA:=[.sc (.ptr 0 0),.sc (kL x0),.sc (kD x1)]
abbrev hF75_1 (x2:LI) (x3:L3) (x4:LL) (x5:LL) (x6:LI) (x7:Int) (x8:LI) (x9:LI):List TO:=[(bx0 x2 x3 1 x4 2 x5 x6 x7),rD (x8),rD (x9)]
theorem ev75_1 (x0:LL) (x1:LI) (x2:LI) (x3:L3) (x4:LL) (x5:LL) (x6:LI) (x7:Int) (x8:LI) (x9:LI):zt zP (tn131 75) (TM.evF zP (tn131) dOk 40) dOk 40 75 (aF75_1 x0 x1) (hF75_1 x2 x3 x4 x5 x6 x7 x8 x9)=(v75_1 x0 x1 x2 x3 x4 x5 x6 x7 x8 x9).bind fun r=>some ([.agg [kL (r.1:LL),kD (r.2.1:LI),I4 (r.2.2.1)],.sc (.bool (r.2.2.2))],[(bx0 x2 x3 1 x4 2 x5 x6 x7),rD (x8),rD (x9)]):=by
 refine Eq.trans (b:=tv75_1 x0 x1 x2 x3 x4 x5 x6 x7 x8 x9 fun r=>some ([.agg [kL (r.1:LL),kD (r.2.1:LI),I4 (r.2.2.1)],.sc (.bool (r.2.2.2))],[(bx0 x2 x3 1 x4 2 x5 x6 x7),rD (x8),rD (x9)])) (by kernel_rfl) ?_
 unfold v75_1 tv75_1
 with_reducible repeat' refine zp ?_ ?_
 all_goals rfl
noncomputable def sv75_1:OrcS:=fun al H=>tqa (aF75_1 [] []) (hF75_1 [] [] [] [] [] 0 [] []) al H fun x0 x1 x2 x3 x4 x5 x6 x7 x8 x9=>some [(ok (v75_1 x0 x1 x2 x3 x4 x5 x6 x7 x8 x9),[.agg [kL ((val (v75_1 x0 x1 x2 x3 x4 x5 x6 x7 x8 x9)).1:LL),kD ((val (v75_1 x0 x1 x2 x3 x4 x5 x6 x7 x8 x9)).2.1:LI),I4 ((val (v75_1 x0 x1 x2 x3 x4 x5 x6 x7 x8 x9)).2.2.1)],.sc (.bool ((val (v75_1 x0 x1 x2 x3 x4 x5 x6 x7 x8 x9)).2.2.2))],[(bx0 x2 x3 1 x4 2 x5 x6 x7),rD (x8),rD (x9)])]
theorem wv75_1:zq zP dOk base o126 t131 (75,sv75_1):=by
 intro al H q hq rs H2 h2
 obtain ⟨_,_,rfl,rfl,g⟩:=tqa_some hq
 clear hq
 change some _=_ at g
 cases g
 obtain ⟨hc0,rfl,rfl⟩:=zg h2
 exact ⟨41,(zy (by kernel_rfl)).trans ((ev75_1 _ _ _ _ _ _ _ _ _ _).trans (zm (zc hc0)))⟩
noncomputable def o132:OrcT:=(75,sv75_1)::o126
abbrev tn132:=zd base o132 t131
theorem ok132:OKT tn132:=zr ok131 ok131 (p:=(75,sv75_1)) wv75_1
noncomputable def tv58_1 {β:Type} (x0:LL) (x1:LI) (x2:LI) (x3:L3) (x4:LL) (x5:LL) (x6:LI) (x7:Int) (x8:LI) (x9:LI) (K:((LL)×(LI)×Int)→Option β):Option β:=(cond (ok (v75_1 x0 x1 x2 x3 x4 x5 x6 x7 x8 x9)) (cond (val (v75_1 x0 x1 x2 x3 x4 x5 x6 x7 x8 x9)).2.2.2 (cond ((x5.length:Int)==0) (K ((val (v75_1 x0 x1 x2 x3 x4 x5 x6 x7 x8 x9)).1,(val (v75_1 x0 x1 x2 x3 x4 x5 x6 x7 x8 x9)).2.1,(val (v75_1 x0 x1 x2 x3 x4 x5 x6 x7 x8 x9)).2.2.1)) (cond (decide ((val (v75_1 x0 x1 x2 x3 x4 x5 x6 x7 x8 x9)).2.2.1 < x7)) (K ((val (v75_1 x0 x1 x2 x3 x4 x5 x6 x7 x8 x9)).1,(val (v75_1 x0 x1 x2 x3 x4 x5 x6 x7 x8 x9)).2.1,(val (v75_1 x0 x1 x2 x3 x4 x5 x6 x7 x8 x9)).2.2.1)) (K (x5,x6,x7)))) (K (x5,x6,x7))) none)
noncomputable def v58_1 (x0:LL) (x1:LI) (x2:LI) (x3:L3) (x4:LL) (x5:LL) (x6:LI) (x7:Int) (x8:LI) (x9:LI):Option ((LL)×(LI)×Int):=tv58_1 x0 x1 x2 x3 x4 x5 x6 x7 x8 x9 some
abbrev aF58_1 (x0:LL) (x1:LI):List TA:=[.sc (.ptr 0 0),.sc (kL x0),.sc (kD x1)]
abbrev hF58_1 (x2:LI) (x3:L3) (x4:LL) (x5:LL) (x6:LI) (x7:Int) (x8:LI) (x9:LI):List TO:=[(bx0 x2 x3 1 x4 2 x5 x6 x7),rD (x8),rD (x9)]
theorem ev58_1 (x0:LL) (x1:LI) (x2:LI) (x3:L3) (x4:LL) (x5:LL) (x6:LI) (x7:Int) (x8:LI) (x9:LI):zt zP (tn132 58) (TM.evF zP (tn132) dOk 40) dOk 40 58 (aF58_1 x0 x1) (hF58_1 x2 x3 x4 x5 x6 x7 x8 x9)=(v58_1 x0 x1 x2 x3 x4 x5 x6 x7 x8 x9).bind fun r=>some ([],[(bx0 x2 x3 1 x4 2 (r.1:LL) (r.2.1:LI) (r.2.2)),rD (x8),rD (x9)]):=by
 refine Eq.trans (b:=tv58_1 x0 x1 x2 x3 x4 x5 x6 x7 x8 x9 fun r=>some ([],[(bx0 x2 x3 1 x4 2 (r.1:LL) (r.2.1:LI) (r.2.2)),rD (x8),rD (x9)])) (by kernel_rfl) ?_
 unfold v58_1 tv58_1
 with_reducible repeat' refine zp ?_ ?_
 all_goals rfl
noncomputable def sv58_1:OrcS:=fun al H=>tqa (aF58_1 [] []) (hF58_1 [] [] [] [] [] 0 [] []) al H fun x0 x1 x2 x3 x4 x5 x6 x7 x8 x9=>some [(ok (v58_1 x0 x1 x2 x3 x4 x5 x6 x7 x8 x9),[],[(bx0 x2 x3 1 x4 2 ((val (v58_1 x0 x1 x2 x3 x4 x5 x6 x7 x8 x9)).1:LL) ((val (v58_1 x0 x1 x2 x3 x4 x5 x6 x7 x8 x9)).2.1:LI) ((val (v58_1 x0 x1 x2 x3 x4 x5 x6 x7 x8 x9)).2.2)),rD (x8),rD (x9)])]
theorem wv58_1:zq zP dOk base o132 t131 (58,sv58_1):=by
 intro al H q hq rs H2 h2
 obtain ⟨_,_,rfl,rfl,g⟩:=tqa_some hq
 clear hq
 change some _=_ at g
 cases g
 obtain ⟨hc0,rfl,rfl⟩:=zg h2
 exact ⟨41,(zy (by kernel_rfl)).trans ((ev58_1 _ _ _ _ _ _ _ _ _ _).trans (zm (zc hc0)))⟩
noncomputable def o133:OrcT:=(58,sv58_1)::o132
abbrev tn133:=zd base o133 t131
theorem ok133:OKT tn133:=zr ok132 ok132 (p:=(58,sv58_1)) wv58_1
noncomputable def Lba:Nat→LI→Int→Int→Int→LI→L3→LL→LL→LI→Int→LI→LI→Option LI
 | 0,_,_,_,_,_,_,_,_,_,_,_,_=>none
 | n+1,x0,x1,x2,x3,x4,x5,x6,x7,x8,x9,A,B=>(cond (decide (x3 < x2)) (cond (decide (0≤x3)) (cond (decide (x3 < (A.length:Int))) (cond (decide (x3.toNat < List.length A)) (cond (decide (x3 < (x4.length:Int))) (cond (decide (List.getD x4 x3.toNat 0 > 0)) (cond (decide (x3 < (x0.length:Int))) (cond (decide (0≤x1)) (cond (decide (x1 < (x4.length:Int))) (cond (decide (x1 < (x0.length:Int))) (cond (decide (List.getD x0 x1.toNat 0≠0)) (cond (decide (List.getD x4 x3.toNat 0≠0)) (Lba n x0 x1 x2 (wI (x3+(1:Int))) x4 x5 x6 x7 x8 x9 (List.set A x3.toNat (min (1048576:Int) (max (16:Int) (wI (Int.tdiv (wI (List.getD A x3.toNat 0*wI ((1000:Int)+min (wI (Int.tdiv (wI (wI (Int.tdiv (wI (List.getD x0 x3.toNat 0*List.getD x4 x1.toNat 0)) (List.getD x0 x1.toNat 0))*(1000:Int))) (List.getD x4 x3.toNat 0))) (1000:Int)))) (1500:Int)))))) B) none) none) none) none) none) none) (Lba n x0 x1 x2 (wI (x3+(1:Int))) x4 x5 x6 x7 x8 x9 A B)) none) none) none) none) (some A))
theorem qLba:type_of% @Lba.eq_2:=@Lba.eq_2
noncomputable def xLba (x0:LI) (x1 x2 x3:Int) (x4:LI) (x5:L3) (x6:LL) (x7:LL) (x8:LI) (x9:Int) (A:LI) (B:LI):LI→Ex×CS:=fun r=>((.exit 4),⟨[],[],[(bx0 x4 x5 1 x6 2 x7 x8 x9),rD (r:LI),rD (B)],3,false⟩)
abbrev cLba (x0:LI) (x1 x2 x3:Int) (x4:LI) (x5:L3) (x6:LL) (x7:LL) (x8:LI) (x9:Int) (A:LI) (B:LI):CS:=⟨[(1,vP 3),(8,vD x0),(9,vI x1),(96,vG 1),(97,vI x2),(98,vI x3)],[],[(bx0 x4 x5 1 x6 2 x7 x8 x9),rD (A),rD (B),.box 53 [.ptr 0 0]],3,false⟩
theorem bLba (k:Nat) (cN:KN) (cX:KX) (x0:LI) (x1 x2 x3:Int) (x4:LI) (x5:L3) (x6:LL) (x7:LL) (x8:LI) (x9:Int) (A:LI) (B:LI):zo zP (tn133 34) (TM.evF zP (tn133) dOk (k+40)) dOk (k+40) (za zP (tn0 34) 34 32) 4 32 (cLba x0 x1 x2 x3 x4 x5 x6 x7 x8 x9 A B) cN cX=(cond (decide (x3 < x2)) (cond (decide (0≤x3)) (cond (decide (x3 < (A.length:Int))) (cond (decide (x3.toNat < List.length A)) (cond (decide (0≤x3)) (cond (decide (x3 < (x4.length:Int))) (cond (decide (List.getD x4 x3.toNat 0 > 0)) (cond (decide (0≤x3)) (cond (decide (x3 < (x0.length:Int))) (cond (decide (0≤x1)) (cond (decide (x1 < (x4.length:Int))) (cond (decide (0≤x1)) (cond (decide (x1 < (x0.length:Int))) (cond (decide (List.getD x0 x1.toNat 0≠0)) (cond (decide (0≤x3)) (cond (decide (x3 < (x4.length:Int))) (cond (decide (List.getD x4 x3.toNat 0≠0)) (cond (decide (0≤x3)) (cond (decide (x3 < (A.length:Int))) (cond (decide (x3.toNat < List.length A)) (cN (cLba x0 x1 x2 (wI (x3+(1:Int))) x4 x5 x6 x7 x8 x9 (List.set A x3.toNat (min (1048576:Int) (max (16:Int) (wI (Int.tdiv (wI (List.getD A x3.toNat 0*wI ((1000:Int)+min (wI (Int.tdiv (wI (wI (Int.tdiv (wI (List.getD x0 x3.toNat 0*List.getD x4 x1.toNat 0)) (List.getD x0 x1.toNat 0))*(1000:Int))) (List.getD x4 x3.toNat 0))) (1000:Int)))) (1500:Int))))):LI) B)) none) none) none) none) none) none) none) none) none) none) none) none) none) (cN (cLba x0 x1 x2 (wI (x3+(1:Int))) x4 x5 x6 x7 x8 x9 A B))) none) none) none) none) none) (cP cX (xLba x0 x1 x2 x3 x4 x5 x6 x7 x8 x9 A B A))):=by kernel_rfl
theorem lLba (k m:Nat):∀ (n:Nat) (x0:LI) (x1 x2 x3:Int) (x4:LI) (x5:L3) (x6:LL) (x7:LL) (x8:LI) (x9:Int) (A:LI) (B:LI) (r:LI),Lba n x0 x1 x2 x3 x4 x5 x6 x7 x8 x9 A B=some r→zA zP (tn133 34) (TM.evF zP (tn133) dOk (k+40)) dOk (k+40) (za zP (tn0 34) 34 32) 4 32 (n+m) (cLba x0 x1 x2 x3 x4 x5 x6 x7 x8 x9 A B)=some (xLba x0 x1 x2 x3 x4 x5 x6 x7 x8 x9 A B r):=by
 intro n
 induction n with
 | zero=>intro _ _ _ _ _ _ _ _ _ _ _ _ r h;cases h
 | succ n ih=>
  intro x0 x1 x2 x3 x4 x5 x6 x7 x8 x9 A B r
  rw [show n+1+m=n+m+1 by omega,zk,bLba,qLba]
  cases (decide (x3 < x2)) with
  | true=>
   cases (decide (0≤x3)) with
   | true=>
    cases (decide (x3 < (A.length:Int))) with
    | true=>
     cases (decide (x3.toNat < List.length A)) with
     | true=>
      cases (decide (x3 < (x4.length:Int))) with
      | true=>
       cases (decide (List.getD x4 x3.toNat 0 > 0)) with
       | true=>
        cases (decide (x3 < (x0.length:Int))) with
        | true=>
         cases (decide (0≤x1)) with
         | true=>
          cases (decide (x1 < (x4.length:Int))) with
          | true=>
           cases (decide (x1 < (x0.length:Int))) with
           | true=>
            cases (decide (List.getD x0 x1.toNat 0≠0)) with
            | true=>
             cases (decide (List.getD x4 x3.toNat 0≠0)) with
             | true=>
              exact ih _ _ _ _ _ _ _ _ _ _ _ _ r
             | false=>
              intro h;cases h
            | false=>
             intro h;cases h
           | false=>
            intro h;cases h
          | false=>
           intro h;cases h
         | false=>
          intro h;cases h
        | false=>
         intro h;cases h
       | false=>
        exact ih _ _ _ _ _ _ _ _ _ _ _ _ r
      | false=>
       intro h;cases h
     | false=>
      intro h;cases h
    | false=>
     intro h;cases h
   | false=>
    intro h;cases h
  | false=>
   intro h;cases h;rfl
noncomputable def sLba:TellS:=fun S=>tq (mS (cLba [] 0 0 0 [] [] [] [] [] 0 [] [])) S fun x0 x1 x2 x3 x4 x5 x6 x7 x8 x9 A B=>some [te (Lba FU x0 x1 x2 x3 x4 x5 x6 x7 x8 x9 A B) (xLba x0 x1 x2 x3 x4 x5 x6 x7 x8 x9 A B)]
theorem wLba:zh zP dOk base o133 t131 ((34,32),sLba):=by
 refine ⟨.loop (za zP (tn0 34) 34 32),4,by kernel_rfl,?_⟩
 intro S alts e S' h1 h2
 obtain ⟨_,rfl,g⟩:=tq_some h1
 clear h1
 change some _=_ at g
 cases g
 obtain ⟨hc0,rfl,rfl⟩:=zf h2
 exact ⟨FU+40,(zb rfl).trans (lLba FU 40 FU _ _ _ _ _ _ _ _ _ _ _ _ _ (zc hc0))⟩
noncomputable def t134:TellT:=((34,32),sLba)::t131
abbrev tn134:=zd base o133 t134
theorem ok134:OKT tn134:=zi ok133 ok133 (p:=((34,32),sLba)) wLba
noncomputable def LbX (x0:LI) (x1:Int) (x2:LI) (x3:L3) (x4:LL) (x5:LL) (x6:LI) (x7:Int) (x8:LI) (x9:LI):Option LI:=(cond (ok (Lba FU x0 x1 (x8.length:Int) 0 x2 x3 x4 x5 x6 x7 x8 x9)) (some (val (Lba FU x0 x1 (x8.length:Int) 0 x2 x3 x4 x5 x6 x7 x8 x9))) none)
noncomputable def xLbX (x0:LI) (x1:Int) (x2:LI) (x3:L3) (x4:LL) (x5:LL) (x6:LI) (x7:Int) (x8:LI) (x9:LI):LI→Ex×CS:=fun r=>(.normal,⟨[],[],[(bx0 x2 x3 1 x4 2 x5 x6 x7),rD (r:LI),rD (x9)],3,false⟩)
abbrev cLbX (x0:LI) (x1:Int) (x2:LI) (x3:L3) (x4:LL) (x5:LL) (x6:LI) (x7:Int) (x8:LI) (x9:LI):CS:=⟨[(1,vP 3),(8,vD x0),(9,vI x1)],[],[(bx0 x2 x3 1 x4 2 x5 x6 x7),rD (x8),rD (x9),.box 53 [.ptr 0 0]],3,false⟩
theorem bLbX (k:Nat) (cX:Ex→CS→Option (Ex×CS)) (x0:LI) (x1:Int) (x2:LI) (x3:L3) (x4:LL) (x5:LL) (x6:LI) (x7:Int) (x8:LI) (x9:LI):zl zP (tn134 34) (TM.evF zP (tn134) dOk (k+40)) dOk (k+40) (za zP (tn0 34) 34 148) 0 148 (cLbX x0 x1 x2 x3 x4 x5 x6 x7 x8 x9) cX=(ob (Lba FU x0 x1 (x8.length:Int) 0 x2 x3 x4 x5 x6 x7 x8 x9) fun r1=>(cP cX (xLbX x0 x1 x2 x3 x4 x5 x6 x7 x8 x9 r1))):=by kernel_rfl
theorem lLbX (k:Nat) (x0:LI) (x1:Int) (x2:LI) (x3:L3) (x4:LL) (x5:LL) (x6:LI) (x7:Int) (x8:LI) (x9:LI) (r:LI):LbX x0 x1 x2 x3 x4 x5 x6 x7 x8 x9=some r→zl zP (tn134 34) (TM.evF zP (tn134) dOk (k+40)) dOk (k+40) (za zP (tn0 34) 34 148) 0 148 (cLbX x0 x1 x2 x3 x4 x5 x6 x7 x8 x9) (fun e s=>some (e,s))=some (xLbX x0 x1 x2 x3 x4 x5 x6 x7 x8 x9 r):=by
 rw [bLbX]
 unfold LbX
 refine ze ?_ ?_
 intro h;cases h;rfl
 intro h;cases h
noncomputable def sLbX:TellS:=fun S=>tq (mS (cLbX [] 0 [] [] [] [] [] 0 [] [])) S fun x0 x1 x2 x3 x4 x5 x6 x7 x8 x9=>some [(ok (LbX x0 x1 x2 x3 x4 x5 x6 x7 x8 x9),.normal,⟨[],[],[(bx0 x2 x3 1 x4 2 x5 x6 x7),rD ((val (LbX x0 x1 x2 x3 x4 x5 x6 x7 x8 x9)):LI),rD (x9)],3,false⟩)]
theorem wLbX:zh zP dOk base o133 t134 ((34,148),sLbX):=by
 refine ⟨(za zP (tn0 34) 34 148),0,by kernel_rfl,?_⟩
 intro S alts e S' h1 h2
 obtain ⟨_,rfl,g⟩:=tq_some h1
 clear h1
 change some _=_ at g
 cases g
 obtain ⟨hc0,rfl,rfl⟩:=zf h2
 exact ⟨0+40,(zx rfl).trans (lLbX 0 _ _ _ _ _ _ _ _ _ _ _ (zc hc0))⟩
noncomputable def t135:TellT:=((34,148),sLbX)::t134
abbrev tn135:=zd base o133 t135
theorem ok135:OKT tn135:=zi ok134 ok134 (p:=((34,148),sLbX)) wLbX
noncomputable def LbZ (x0:LI) (x1:L3) (x2:LL) (x3:LL) (x4:LI) (x5:Int) (x6:LI) (x7:LI) (x8:LL):Option LI:=(cond (ok (v60 x8 x0 x1 x2 x3 x4 x5 x6 x7)) (cond (ok (v61 (val (v60 x8 x0 x1 x2 x3 x4 x5 x6 x7)) x0 x1 x2 x3 x4 x5 x6 x7)) (cond (ok (LbX (val (v60 x8 x0 x1 x2 x3 x4 x5 x6 x7)) (val (v61 (val (v60 x8 x0 x1 x2 x3 x4 x5 x6 x7)) x0 x1 x2 x3 x4 x5 x6 x7)) x0 x1 x2 x3 x4 x5 x6 x7)) (some (val (LbX (val (v60 x8 x0 x1 x2 x3 x4 x5 x6 x7)) (val (v61 (val (v60 x8 x0 x1 x2 x3 x4 x5 x6 x7)) x0 x1 x2 x3 x4 x5 x6 x7)) x0 x1 x2 x3 x4 x5 x6 x7))) none) none) none)
noncomputable def xLbZ (x0:LI) (x1:L3) (x2:LL) (x3:LL) (x4:LI) (x5:Int) (x6:LI) (x7:LI) (x8:LL):LI→Ex×CS:=fun r=>(.normal,⟨[],[],[(bx0 x0 x1 1 x2 2 x3 x4 x5),rD (r:LI),rD (x7)],3,false⟩)
abbrev cLbZ (x0:LI) (x1:L3) (x2:LL) (x3:LL) (x4:LI) (x5:Int) (x6:LI) (x7:LI) (x8:LL):CS:=⟨[(1,vP 4),(2,vP 3)],[],[(bx0 x0 x1 1 x2 2 x3 x4 x5),rD (x6),rD (x7),.box 31 [kL (x8)],.box 53 [.ptr 0 0]],3,false⟩
theorem bLbZ (k:Nat) (cX:Ex→CS→Option (Ex×CS)) (x0:LI) (x1:L3) (x2:LL) (x3:LL) (x4:LI) (x5:Int) (x6:LI) (x7:LI) (x8:LL):zl zP (tn135 34) (TM.evF zP (tn135) dOk (k+40)) dOk (k+40) (za zP (tn0 34) 34 132) 0 132 (cLbZ x0 x1 x2 x3 x4 x5 x6 x7 x8) cX=(ob (v60 x8 x0 x1 x2 x3 x4 x5 x6 x7) fun r1=>(ob (v61 r1 x0 x1 x2 x3 x4 x5 x6 x7) fun r2=>(cond (ok (LbX r1 r2 x0 x1 x2 x3 x4 x5 x6 x7)) (cP cX (xLbZ x0 x1 x2 x3 x4 x5 x6 x7 x8 (val (LbX r1 r2 x0 x1 x2 x3 x4 x5 x6 x7)))) none))):=by kernel_rfl
theorem lLbZ (k:Nat) (x0:LI) (x1:L3) (x2:LL) (x3:LL) (x4:LI) (x5:Int) (x6:LI) (x7:LI) (x8:LL) (r:LI):LbZ x0 x1 x2 x3 x4 x5 x6 x7 x8=some r→zl zP (tn135 34) (TM.evF zP (tn135) dOk (k+40)) dOk (k+40) (za zP (tn0 34) 34 132) 0 132 (cLbZ x0 x1 x2 x3 x4 x5 x6 x7 x8) (fun e s=>some (e,s))=some (xLbZ x0 x1 x2 x3 x4 x5 x6 x7 x8 r):=by
 rw [bLbZ]
 unfold LbZ
 refine ze ?_ ?_
 refine ze ?_ ?_
 refine ze ?_ ?_
 intro h;cases h;rfl
 intro h;cases h
 intro h;cases h
 intro h;cases h
noncomputable def sLbZ:TellS:=fun S=>tq (mS (cLbZ [] [] [] [] [] 0 [] [] [])) S fun x0 x1 x2 x3 x4 x5 x6 x7 x8=>some [(ok (LbZ x0 x1 x2 x3 x4 x5 x6 x7 x8),.normal,⟨[],[],[(bx0 x0 x1 1 x2 2 x3 x4 x5),rD ((val (LbZ x0 x1 x2 x3 x4 x5 x6 x7 x8)):LI),rD (x7)],3,false⟩)]
theorem wLbZ:zh zP dOk base o133 t135 ((34,132),sLbZ):=by
 refine ⟨(za zP (tn0 34) 34 132),0,by kernel_rfl,?_⟩
 intro S alts e S' h1 h2
 obtain ⟨_,rfl,g⟩:=tq_some h1
 clear h1
 change some _=_ at g
 cases g
 obtain ⟨hc0,rfl,rfl⟩:=zf h2
 exact ⟨0+40,(zx rfl).trans (lLbZ 0 _ _ _ _ _ _ _ _ _ _ (zc hc0))⟩
noncomputable def t136:TellT:=((34,132),sLbZ)::t135
abbrev tn136:=zd base o133 t136
theorem ok136:OKT tn136:=zi ok135 ok135 (p:=((34,132),sLbZ)) wLbZ
noncomputable def Lbj (x0:LI) (x1:L3) (x2:LL) (x3:LL) (x4:LI) (x5:Int) (x6:LI) (x7:LI) (x8:LL) (x9:LI):Option ((LL)×(LI)×Int×(LI)):=(cond (ok (v58_1 x2 x9 x0 x1 x2 x3 x4 x5 x6 x7)) (cond (ok (LbZ x0 x1 x2 (val (v58_1 x2 x9 x0 x1 x2 x3 x4 x5 x6 x7)).1 (val (v58_1 x2 x9 x0 x1 x2 x3 x4 x5 x6 x7)).2.1 (val (v58_1 x2 x9 x0 x1 x2 x3 x4 x5 x6 x7)).2.2 x6 x7 x8)) (some ((val (v58_1 x2 x9 x0 x1 x2 x3 x4 x5 x6 x7)).1,(val (v58_1 x2 x9 x0 x1 x2 x3 x4 x5 x6 x7)).2.1,(val (v58_1 x2 x9 x0 x1 x2 x3 x4 x5 x6 x7)).2.2,val (LbZ x0 x1 x2 (val (v58_1 x2 x9 x0 x1 x2 x3 x4 x5 x6 x7)).1 (val (v58_1 x2 x9 x0 x1 x2 x3 x4 x5 x6 x7)).2.1 (val (v58_1 x2 x9 x0 x1 x2 x3 x4 x5 x6 x7)).2.2 x6 x7 x8))) none) none)
noncomputable def xLbj (x0:LI) (x1:L3) (x2:LL) (x3:LL) (x4:LI) (x5:Int) (x6:LI) (x7:LI) (x8:LL) (x9:LI):((LL)×(LI)×Int×(LI))→Ex×CS:=fun r=>(.normal,⟨[],[],[(bx0 x0 x1 1 x2 2 (r.1:LL) (r.2.1:LI) (r.2.2.1)),rD (r.2.2.2:LI),rD (x7)],3,false⟩)
abbrev cLbj (x0:LI) (x1:L3) (x2:LL) (x3:LL) (x4:LI) (x5:Int) (x6:LI) (x7:LI) (x8:LL) (x9:LI):CS:=⟨[(1,vP 4),(2,vP 3),(5,vG 5)],[],[(bx0 x0 x1 1 x2 2 x3 x4 x5),rD (x6),rD (x7),.box 31 [kL (x8)],.box 53 [.ptr 0 0],rD (x9)],3,false⟩
theorem bLbj (k:Nat) (cX:Ex→CS→Option (Ex×CS)) (x0:LI) (x1:L3) (x2:LL) (x3:LL) (x4:LI) (x5:Int) (x6:LI) (x7:LI) (x8:LL) (x9:LI):zl zP (tn136 34) (TM.evF zP (tn136) dOk (k+40)) dOk (k+40) (za zP (tn0 34) 34 124) 0 124 (cLbj x0 x1 x2 x3 x4 x5 x6 x7 x8 x9) cX=(ob (v58_1 x2 x9 x0 x1 x2 x3 x4 x5 x6 x7) fun r1=>(cond (ok (LbZ x0 x1 x2 r1.1 r1.2.1 r1.2.2 x6 x7 x8)) (cP cX (xLbj x0 x1 x2 x3 x4 x5 x6 x7 x8 x9 ((r1.1:LL),(r1.2.1:LI),r1.2.2,(val (LbZ x0 x1 x2 r1.1 r1.2.1 r1.2.2 x6 x7 x8):LI)))) none)):=by kernel_rfl
theorem lLbj (k:Nat) (x0:LI) (x1:L3) (x2:LL) (x3:LL) (x4:LI) (x5:Int) (x6:LI) (x7:LI) (x8:LL) (x9:LI) (r:((LL)×(LI)×Int×(LI))):Lbj x0 x1 x2 x3 x4 x5 x6 x7 x8 x9=some r→zl zP (tn136 34) (TM.evF zP (tn136) dOk (k+40)) dOk (k+40) (za zP (tn0 34) 34 124) 0 124 (cLbj x0 x1 x2 x3 x4 x5 x6 x7 x8 x9) (fun e s=>some (e,s))=some (xLbj x0 x1 x2 x3 x4 x5 x6 x7 x8 x9 r):=by
 rw [bLbj]
 unfold Lbj
 refine ze ?_ ?_
 refine ze ?_ ?_
 intro h;cases h;rfl
 intro h;cases h
 intro h;cases h
noncomputable def sLbj:TellS:=fun S=>tq (mS (cLbj [] [] [] [] [] 0 [] [] [] [])) S fun x0 x1 x2 x3 x4 x5 x6 x7 x8 x9=>some [(ok (Lbj x0 x1 x2 x3 x4 x5 x6 x7 x8 x9),.normal,⟨[],[],[(bx0 x0 x1 1 x2 2 ((val (Lbj x0 x1 x2 x3 x4 x5 x6 x7 x8 x9)).1:LL) ((val (Lbj x0 x1 x2 x3 x4 x5 x6 x7 x8 x9)).2.1:LI) ((val (Lbj x0 x1 x2 x3 x4 x5 x6 x7 x8 x9)).2.2.1)),rD ((val (Lbj x0 x1 x2 x3 x4 x5 x6 x7 x8 x9)).2.2.2:LI),rD (x7)],3,false⟩)]
theorem wLbj:zh zP dOk base o133 t136 ((34,124),sLbj):=by
 refine ⟨(za zP (tn0 34) 34 124),0,by kernel_rfl,?_⟩
 intro S alts e S' h1 h2
 obtain ⟨_,rfl,g⟩:=tq_some h1
 clear h1
 change some _=_ at g
 cases g
 obtain ⟨hc0,rfl,rfl⟩:=zf h2
 exact ⟨0+40,(zx rfl).trans (lLbj 0 _ _ _ _ _ _ _ _ _ _ _ (zc hc0))⟩
noncomputable def t137:TellT:=((34,124),sLbj)::t136
abbrev tn137:=zd base o133 t137
theorem ok137:OKT tn137:=zi ok136 ok136 (p:=((34,124),sLbj)) wLbj
noncomputable def Lbs (x0:LI) (x1:L3) (x2:LL) (x3:LL) (x4:LI) (x5:Int) (x6:LI) (x7:LI) (x8:LL):Option ((LL)×(LI)×Int×(LI)):=(cond (decide ((x7.length:Int)≤(x7.length:Int))) (cond (decide ((x7.length:Int)≤(↑(nat_lit 2147483648):Int))) (cond (ok (LaU FU (x7.length:Int) 0 x0 x1 x2 x3 x4 x5 x6 x7 x8 (List.replicate (x7.length:Int).toNat 0))) (cond (ok (Lbj x0 x1 x2 x3 x4 x5 x6 x7 x8 (val (LaU FU (x7.length:Int) 0 x0 x1 x2 x3 x4 x5 x6 x7 x8 (List.replicate (x7.length:Int).toNat 0))))) (some ((val (Lbj x0 x1 x2 x3 x4 x5 x6 x7 x8 (val (LaU FU (x7.length:Int) 0 x0 x1 x2 x3 x4 x5 x6 x7 x8 (List.replicate (x7.length:Int).toNat 0))))).1,(val (Lbj x0 x1 x2 x3 x4 x5 x6 x7 x8 (val (LaU FU (x7.length:Int) 0 x0 x1 x2 x3 x4 x5 x6 x7 x8 (List.replicate (x7.length:Int).toNat 0))))).2.1,(val (Lbj x0 x1 x2 x3 x4 x5 x6 x7 x8 (val (LaU FU (x7.length:Int) 0 x0 x1 x2 x3 x4 x5 x6 x7 x8 (List.replicate (x7.length:Int).toNat 0))))).2.2.1,(val (Lbj x0 x1 x2 x3 x4 x5 x6 x7 x8 (val (LaU FU (x7.length:Int) 0 x0 x1 x2 x3 x4 x5 x6 x7 x8 (List.replicate (x7.length:Int).toNat 0))))).2.2.2)) none) none) none) none)
noncomputable def xLbs (x0:LI) (x1:L3) (x2:LL) (x3:LL) (x4:LI) (x5:Int) (x6:LI) (x7:LI) (x8:LL):((LL)×(LI)×Int×(LI))→Ex×CS:=fun r=>(.normal,⟨[],[],[(bx0 x0 x1 1 x2 2 (r.1:LL) (r.2.1:LI) (r.2.2.1)),rD (r.2.2.2:LI),rD (x7)],3,false⟩)
abbrev cLbs (x0:LI) (x1:L3) (x2:LL) (x3:LL) (x4:LI) (x5:Int) (x6:LI) (x7:LI) (x8:LL):CS:=⟨[(1,vP 4),(2,vP 3)],[],[(bx0 x0 x1 1 x2 2 x3 x4 x5),rD (x6),rD (x7),.box 31 [kL (x8)],.box 53 [.ptr 0 0]],3,false⟩
theorem bLbs (k:Nat) (cX:Ex→CS→Option (Ex×CS)) (x0:LI) (x1:L3) (x2:LL) (x3:LL) (x4:LI) (x5:Int) (x6:LI) (x7:LI) (x8:LL):zl zP (tn137 34) (TM.evF zP (tn137) dOk (k+40)) dOk (k+40) (za zP (tn0 34) 34 76) 0 76 (cLbs x0 x1 x2 x3 x4 x5 x6 x7 x8) cX=(cond (decide ((x7.length:Int)≤(x7.length:Int))) (cond (decide ((x7.length:Int)≤(↑(nat_lit 2147483648):Int))) (ob (LaU FU (x7.length:Int) 0 x0 x1 x2 x3 x4 x5 x6 x7 x8 (List.replicate (x7.length:Int).toNat 0)) fun r1=>(ob (Lbj x0 x1 x2 x3 x4 x5 x6 x7 x8 r1) fun r2=>(cP cX (xLbs x0 x1 x2 x3 x4 x5 x6 x7 x8 ((r2.1:LL),(r2.2.1:LI),r2.2.2.1,(r2.2.2.2:LI)))))) none) none):=by kernel_rfl
theorem lLbs (k:Nat) (x0:LI) (x1:L3) (x2:LL) (x3:LL) (x4:LI) (x5:Int) (x6:LI) (x7:LI) (x8:LL) (r:((LL)×(LI)×Int×(LI))):Lbs x0 x1 x2 x3 x4 x5 x6 x7 x8=some r→zl zP (tn137 34) (TM.evF zP (tn137) dOk (k+40)) dOk (k+40) (za zP (tn0 34) 34 76) 0 76 (cLbs x0 x1 x2 x3 x4 x5 x6 x7 x8) (fun e s=>some (e,s))=some (xLbs x0 x1 x2 x3 x4 x5 x6 x7 x8 r):=by
 rw [bLbs]
 unfold Lbs
 refine ze ?_ ?_
 refine ze ?_ ?_
 refine ze ?_ ?_
 refine ze ?_ ?_
 intro h;cases h;rfl
 intro h;cases h
 intro h;cases h
 intro h;cases h
 intro h;cases h
noncomputable def sLbs:TellS:=fun S=>tq (mS (cLbs [] [] [] [] [] 0 [] [] [])) S fun x0 x1 x2 x3 x4 x5 x6 x7 x8=>some [(ok (Lbs x0 x1 x2 x3 x4 x5 x6 x7 x8),.normal,⟨[],[],[(bx0 x0 x1 1 x2 2 ((val (Lbs x0 x1 x2 x3 x4 x5 x6 x7 x8)).1:LL) ((val (Lbs x0 x1 x2 x3 x4 x5 x6 x7 x8)).2.1:LI) ((val (Lbs x0 x1 x2 x3 x4 x5 x6 x7 x8)).2.2.1)),rD ((val (Lbs x0 x1 x2 x3 x4 x5 x6 x7 x8)).2.2.2:LI),rD (x7)],3,false⟩)]
theorem wLbs:zh zP dOk base o133 t137 ((34,76),sLbs):=by
 refine ⟨(za zP (tn0 34) 34 76),0,by kernel_rfl,?_⟩
 intro S alts e S' h1 h2
 obtain ⟨_,rfl,g⟩:=tq_some h1
 clear h1
 change some _=_ at g
 cases g
 obtain ⟨hc0,rfl,rfl⟩:=zf h2
 exact ⟨0+40,(zx rfl).trans (lLbs 0 _ _ _ _ _ _ _ _ _ _ (zc hc0))⟩
noncomputable def t138:TellT:=((34,76),sLbs)::t137
abbrev tn138:=zd base o133 t138
theorem ok138:OKT tn138:=zi ok137 ok137 (p:=((34,76),sLbs)) wLbs
noncomputable def Lbf (x0:LI) (x1:L3) (x2:LL) (x3:LL) (x4:LI) (x5:Int) (x6:LI) (x7:LI) (x8:LL):Option ((LL)×(LI)×Int×(LI)):=(cond (ok (v58 x8 x0 x1 x2 x3 x4 x5 x6 x7)) (cond (ok (Lbs x0 x1 x2 (val (v58 x8 x0 x1 x2 x3 x4 x5 x6 x7)).1 (val (v58 x8 x0 x1 x2 x3 x4 x5 x6 x7)).2.1 (val (v58 x8 x0 x1 x2 x3 x4 x5 x6 x7)).2.2 x6 x7 x8)) (some ((val (Lbs x0 x1 x2 (val (v58 x8 x0 x1 x2 x3 x4 x5 x6 x7)).1 (val (v58 x8 x0 x1 x2 x3 x4 x5 x6 x7)).2.1 (val (v58 x8 x0 x1 x2 x3 x4 x5 x6 x7)).2.2 x6 x7 x8)).1,(val (Lbs x0 x1 x2 (val (v58 x8 x0 x1 x2 x3 x4 x5 x6 x7)).1 (val (v58 x8 x0 x1 x2 x3 x4 x5 x6 x7)).2.1 (val (v58 x8 x0 x1 x2 x3 x4 x5 x6 x7)).2.2 x6 x7 x8)).2.1,(val (Lbs x0 x1 x2 (val (v58 x8 x0 x1 x2 x3 x4 x5 x6 x7)).1 (val (v58 x8 x0 x1 x2 x3 x4 x5 x6 x7)).2.1 (val (v58 x8 x0 x1 x2 x3 x4 x5 x6 x7)).2.2 x6 x7 x8)).2.2.1,(val (Lbs x0 x1 x2 (val (v58 x8 x0 x1 x2 x3 x4 x5 x6 x7)).1 (val (v58 x8 x0 x1 x2 x3 x4 x5 x6 x7)).2.1 (val (v58 x8 x0 x1 x2 x3 x4 x5 x6 x7)).2.2 x6 x7 x8)).2.2.2)) none) none)
noncomputable def xLbf (x0:LI) (x1:L3) (x2:LL) (x3:LL) (x4:LI) (x5:Int) (x6:LI) (x7:LI) (x8:LL):((LL)×(LI)×Int×(LI))→Ex×CS:=fun r=>(.normal,⟨[],[],[(bx0 x0 x1 1 x2 2 (r.1:LL) (r.2.1:LI) (r.2.2.1)),rD (r.2.2.2:LI),rD (x7)],3,false⟩)
abbrev cLbf (x0:LI) (x1:L3) (x2:LL) (x3:LL) (x4:LI) (x5:Int) (x6:LI) (x7:LI) (x8:LL):CS:=⟨[(1,vP 4),(2,vP 3)],[],[(bx0 x0 x1 1 x2 2 x3 x4 x5),rD (x6),rD (x7),.box 31 [kL (x8)],.box 53 [.ptr 0 0]],3,false⟩
theorem bLbf (k:Nat) (cX:Ex→CS→Option (Ex×CS)) (x0:LI) (x1:L3) (x2:LL) (x3:LL) (x4:LI) (x5:Int) (x6:LI) (x7:LI) (x8:LL):zl zP (tn138 34) (TM.evF zP (tn138) dOk (k+40)) dOk (k+40) (za zP (tn0 34) 34 68) 0 68 (cLbf x0 x1 x2 x3 x4 x5 x6 x7 x8) cX=(ob (v58 x8 x0 x1 x2 x3 x4 x5 x6 x7) fun r1=>(ob (Lbs x0 x1 x2 r1.1 r1.2.1 r1.2.2 x6 x7 x8) fun r2=>(cP cX (xLbf x0 x1 x2 x3 x4 x5 x6 x7 x8 ((r2.1:LL),(r2.2.1:LI),r2.2.2.1,(r2.2.2.2:LI)))))):=by kernel_rfl
theorem lLbf (k:Nat) (x0:LI) (x1:L3) (x2:LL) (x3:LL) (x4:LI) (x5:Int) (x6:LI) (x7:LI) (x8:LL) (r:((LL)×(LI)×Int×(LI))):Lbf x0 x1 x2 x3 x4 x5 x6 x7 x8=some r→zl zP (tn138 34) (TM.evF zP (tn138) dOk (k+40)) dOk (k+40) (za zP (tn0 34) 34 68) 0 68 (cLbf x0 x1 x2 x3 x4 x5 x6 x7 x8) (fun e s=>some (e,s))=some (xLbf x0 x1 x2 x3 x4 x5 x6 x7 x8 r):=by
 rw [bLbf]
 unfold Lbf
 refine ze ?_ ?_
 refine ze ?_ ?_
 intro h;cases h;rfl
 intro h;cases h
 intro h;cases h
noncomputable def sLbf:TellS:=fun S=>tq (mS (cLbf [] [] [] [] [] 0 [] [] [])) S fun x0 x1 x2 x3 x4 x5 x6 x7 x8=>some [(ok (Lbf x0 x1 x2 x3 x4 x5 x6 x7 x8),.normal,⟨[],[],[(bx0 x0 x1 1 x2 2 ((val (Lbf x0 x1 x2 x3 x4 x5 x6 x7 x8)).1:LL) ((val (Lbf x0 x1 x2 x3 x4 x5 x6 x7 x8)).2.1:LI) ((val (Lbf x0 x1 x2 x3 x4 x5 x6 x7 x8)).2.2.1)),rD ((val (Lbf x0 x1 x2 x3 x4 x5 x6 x7 x8)).2.2.2:LI),rD (x7)],3,false⟩)]
theorem wLbf:zh zP dOk base o133 t138 ((34,68),sLbf):=by
 refine ⟨(za zP (tn0 34) 34 68),0,by kernel_rfl,?_⟩
 intro S alts e S' h1 h2
 obtain ⟨_,rfl,g⟩:=tq_some h1
 clear h1
 change some _=_ at g
 cases g
 obtain ⟨hc0,rfl,rfl⟩:=zf h2
 exact ⟨0+40,(zx rfl).trans (lLbf 0 _ _ _ _ _ _ _ _ _ _ (zc hc0))⟩
noncomputable def t139:TellT:=((34,68),sLbf)::t138
abbrev tn139:=zd base o133 t139
theorem ok139:OKT tn139:=zi ok138 ok138 (p:=((34,68),sLbf)) wLbf
noncomputable def LaS (x0:LI) (x1:L3) (x2:LL) (x3:LL) (x4:LI) (x5:Int) (x6:LI) (x7:LI) (x8:LL):Option ((LL)×(LL)×(LI)×Int×(LI)×(LI)):=(cond (ok (v31_2 x0 x1 x2 x3 x4 x5 x6 x7 x8)) (cond (ok (LaP FU (x6.length:Int) 0 x0 x1 (val (v31_2 x0 x1 x2 x3 x4 x5 x6 x7 x8)) x3 x4 x5 x6 x7 x8)) (cond (ok (Lbf x0 x1 (val (v31_2 x0 x1 x2 x3 x4 x5 x6 x7 x8)) x3 x4 x5 x6 (val (LaP FU (x6.length:Int) 0 x0 x1 (val (v31_2 x0 x1 x2 x3 x4 x5 x6 x7 x8)) x3 x4 x5 x6 x7 x8)) x8)) (some (val (v31_2 x0 x1 x2 x3 x4 x5 x6 x7 x8),(val (Lbf x0 x1 (val (v31_2 x0 x1 x2 x3 x4 x5 x6 x7 x8)) x3 x4 x5 x6 (val (LaP FU (x6.length:Int) 0 x0 x1 (val (v31_2 x0 x1 x2 x3 x4 x5 x6 x7 x8)) x3 x4 x5 x6 x7 x8)) x8)).1,(val (Lbf x0 x1 (val (v31_2 x0 x1 x2 x3 x4 x5 x6 x7 x8)) x3 x4 x5 x6 (val (LaP FU (x6.length:Int) 0 x0 x1 (val (v31_2 x0 x1 x2 x3 x4 x5 x6 x7 x8)) x3 x4 x5 x6 x7 x8)) x8)).2.1,(val (Lbf x0 x1 (val (v31_2 x0 x1 x2 x3 x4 x5 x6 x7 x8)) x3 x4 x5 x6 (val (LaP FU (x6.length:Int) 0 x0 x1 (val (v31_2 x0 x1 x2 x3 x4 x5 x6 x7 x8)) x3 x4 x5 x6 x7 x8)) x8)).2.2.1,(val (Lbf x0 x1 (val (v31_2 x0 x1 x2 x3 x4 x5 x6 x7 x8)) x3 x4 x5 x6 (val (LaP FU (x6.length:Int) 0 x0 x1 (val (v31_2 x0 x1 x2 x3 x4 x5 x6 x7 x8)) x3 x4 x5 x6 x7 x8)) x8)).2.2.2,val (LaP FU (x6.length:Int) 0 x0 x1 (val (v31_2 x0 x1 x2 x3 x4 x5 x6 x7 x8)) x3 x4 x5 x6 x7 x8))) none) none) none)
noncomputable def xLaS (x0:LI) (x1:L3) (x2:LL) (x3:LL) (x4:LI) (x5:Int) (x6:LI) (x7:LI) (x8:LL):((LL)×(LL)×(LI)×Int×(LI)×(LI))→Ex×CS:=fun r=>(.normal,⟨[],[],[(bx0 x0 x1 1 (r.1:LL) 2 (r.2.1:LL) (r.2.2.1:LI) (r.2.2.2.1)),rD (r.2.2.2.2.1:LI),rD (r.2.2.2.2.2:LI)],3,false⟩)
abbrev cLaS (x0:LI) (x1:L3) (x2:LL) (x3:LL) (x4:LI) (x5:Int) (x6:LI) (x7:LI) (x8:LL):CS:=⟨[(1,vP 4),(2,vP 3)],[],[(bx0 x0 x1 1 x2 2 x3 x4 x5),rD (x6),rD (x7),.box 31 [kL (x8)],.box 53 [.ptr 0 0]],3,false⟩
theorem bLaS (k:Nat) (cX:Ex→CS→Option (Ex×CS)) (x0:LI) (x1:L3) (x2:LL) (x3:LL) (x4:LI) (x5:Int) (x6:LI) (x7:LI) (x8:LL):zl zP (tn139 34) (TM.evF zP (tn139) dOk (k+40)) dOk (k+40) (za zP (tn0 34) 34 20) 0 20 (cLaS x0 x1 x2 x3 x4 x5 x6 x7 x8) cX=(ob (v31_2 x0 x1 x2 x3 x4 x5 x6 x7 x8) fun r1=>(ob (LaP FU (x6.length:Int) 0 x0 x1 r1 x3 x4 x5 x6 x7 x8) fun r2=>(ob (Lbf x0 x1 r1 x3 x4 x5 x6 r2 x8) fun r3=>(cP cX (xLaS x0 x1 x2 x3 x4 x5 x6 x7 x8 ((r1:LL),(r3.1:LL),(r3.2.1:LI),r3.2.2.1,(r3.2.2.2:LI),(r2:LI))))))):=by kernel_rfl
theorem lLaS (k:Nat) (x0:LI) (x1:L3) (x2:LL) (x3:LL) (x4:LI) (x5:Int) (x6:LI) (x7:LI) (x8:LL) (r:((LL)×(LL)×(LI)×Int×(LI)×(LI))):LaS x0 x1 x2 x3 x4 x5 x6 x7 x8=some r→zl zP (tn139 34) (TM.evF zP (tn139) dOk (k+40)) dOk (k+40) (za zP (tn0 34) 34 20) 0 20 (cLaS x0 x1 x2 x3 x4 x5 x6 x7 x8) (fun e s=>some (e,s))=some (xLaS x0 x1 x2 x3 x4 x5 x6 x7 x8 r):=by
 rw [bLaS]
 unfold LaS
 refine ze ?_ ?_
 refine ze ?_ ?_
 refine ze ?_ ?_
 intro h;cases h;rfl
 intro h;cases h
 intro h;cases h
 intro h;cases h
noncomputable def sLaS:TellS:=fun S=>tq (mS (cLaS [] [] [] [] [] 0 [] [] [])) S fun x0 x1 x2 x3 x4 x5 x6 x7 x8=>some [(ok (LaS x0 x1 x2 x3 x4 x5 x6 x7 x8),.normal,⟨[],[],[(bx0 x0 x1 1 ((val (LaS x0 x1 x2 x3 x4 x5 x6 x7 x8)).1:LL) 2 ((val (LaS x0 x1 x2 x3 x4 x5 x6 x7 x8)).2.1:LL) ((val (LaS x0 x1 x2 x3 x4 x5 x6 x7 x8)).2.2.1:LI) ((val (LaS x0 x1 x2 x3 x4 x5 x6 x7 x8)).2.2.2.1)),rD ((val (LaS x0 x1 x2 x3 x4 x5 x6 x7 x8)).2.2.2.2.1:LI),rD ((val (LaS x0 x1 x2 x3 x4 x5 x6 x7 x8)).2.2.2.2.2:LI)],3,false⟩)]
theorem wLaS:zh zP dOk base o133 t139 ((34,20),sLaS):=by
 refine ⟨(za zP (tn0 34) 34 20),0,by kernel_rfl,?_⟩
 intro S alts e S' h1 h2
 obtain ⟨_,rfl,g⟩:=tq_some h1
 clear h1
 change some _=_ at g
 cases g
 obtain ⟨hc0,rfl,rfl⟩:=zf h2
 exact ⟨0+40,(zx rfl).trans (lLaS 0 _ _ _ _ _ _ _ _ _ _ (zc hc0))⟩
noncomputable def t140:TellT:=((34,20),sLaS)::t139
abbrev tn140:=zd base o133 t140
theorem ok140:OKT tn140:=zi ok139 ok139 (p:=((34,20),sLaS)) wLaS
noncomputable def tv34 {β:Type} (x0:LI) (x1:L3) (x2:LL) (x3:LL) (x4:LI) (x5:Int) (x6:LI) (x7:LI) (K:((LL)×(LL)×(LI)×Int×(LI)×(LI))→Option β):Option β:=(cond (ok (v31_1 x0 x1 x2 x3 x4 x5 x6 x7)) (cond (ok (LaS x0 x1 x2 x3 x4 x5 x6 x7 (val (v31_1 x0 x1 x2 x3 x4 x5 x6 x7)))) (K ((val (LaS x0 x1 x2 x3 x4 x5 x6 x7 (val (v31_1 x0 x1 x2 x3 x4 x5 x6 x7)))).1,(val (LaS x0 x1 x2 x3 x4 x5 x6 x7 (val (v31_1 x0 x1 x2 x3 x4 x5 x6 x7)))).2.1,(val (LaS x0 x1 x2 x3 x4 x5 x6 x7 (val (v31_1 x0 x1 x2 x3 x4 x5 x6 x7)))).2.2.1,(val (LaS x0 x1 x2 x3 x4 x5 x6 x7 (val (v31_1 x0 x1 x2 x3 x4 x5 x6 x7)))).2.2.2.1,(val (LaS x0 x1 x2 x3 x4 x5 x6 x7 (val (v31_1 x0 x1 x2 x3 x4 x5 x6 x7)))).2.2.2.2.1,(val (LaS x0 x1 x2 x3 x4 x5 x6 x7 (val (v31_1 x0 x1 x2 x3 x4 x5 x6 x7)))).2.2.2.2.2)) none) none)
noncomputable def v34 (x0:LI) (x1:L3) (x2:LL) (x3:LL) (x4:LI) (x5:Int) (x6:LI) (x7:LI):Option ((LL)×(LL)×(LI)×Int×(LI)×(LI)):=tv34 x0 x1 x2 x3 x4 x5 x6 x7 some
abbrev aF34:List TA:=[.sc (.ptr 0 0)]
abbrev hF34 (x0:LI) (x1:L3) (x2:LL) (x3:LL) (x4:LI) (x5:Int) (x6:LI) (x7:LI):List TO:=[(bx0 x0 x1 1 x2 2 x3 x4 x5),rD (x6),rD (x7)]
theorem ev34 (x0:LI) (x1:L3) (x2:LL) (x3:LL) (x4:LI) (x5:Int) (x6:LI) (x7:LI):zt zP (tn140 34) (TM.evF zP (tn140) dOk 40) dOk 40 34 aF34 (hF34 x0 x1 x2 x3 x4 x5 x6 x7)=(v34 x0 x1 x2 x3 x4 x5 x6 x7).bind fun r=>some ([],[(bx0 x0 x1 1 (r.1:LL) 2 (r.2.1:LL) (r.2.2.1:LI) (r.2.2.2.1)),rD (r.2.2.2.2.1:LI),rD (r.2.2.2.2.2:LI)]):=by
 refine Eq.trans (b:=tv34 x0 x1 x2 x3 x4 x5 x6 x7 fun r=>some ([],[(bx0 x0 x1 1 (r.1:LL) 2 (r.2.1:LL) (r.2.2.1:LI) (r.2.2.2.1)),rD (r.2.2.2.2.1:LI),rD (r.2.2.2.2.2:LI)])) (by kernel_rfl) ?_
 unfold v34 tv34
 with_reducible repeat' refine zp ?_ ?_
 all_goals rfl
noncomputable def sv34:OrcS:=fun al H=>tqa aF34 (hF34 [] [] [] [] [] 0 [] []) al H fun x0 x1 x2 x3 x4 x5 x6 x7=>some [(ok (v34 x0 x1 x2 x3 x4 x5 x6 x7),[],[(bx0 x0 x1 1 ((val (v34 x0 x1 x2 x3 x4 x5 x6 x7)).1:LL) 2 ((val (v34 x0 x1 x2 x3 x4 x5 x6 x7)).2.1:LL) ((val (v34 x0 x1 x2 x3 x4 x5 x6 x7)).2.2.1:LI) ((val (v34 x0 x1 x2 x3 x4 x5 x6 x7)).2.2.2.1)),rD ((val (v34 x0 x1 x2 x3 x4 x5 x6 x7)).2.2.2.2.1:LI),rD ((val (v34 x0 x1 x2 x3 x4 x5 x6 x7)).2.2.2.2.2:LI)])]
theorem wv34:zq zP dOk base o133 t140 (34,sv34):=by
 intro al H q hq rs H2 h2
 obtain ⟨_,_,rfl,rfl,g⟩:=tqa_some hq
 clear hq
 change some _=_ at g
 cases g
 obtain ⟨hc0,rfl,rfl⟩:=zg h2
 exact ⟨41,(zy (by kernel_rfl)).trans ((ev34 _ _ _ _ _ _ _ _).trans (zm (zc hc0)))⟩
noncomputable def o141:OrcT:=(34,sv34)::o133
abbrev tn141:=zd base o141 t140
theorem ok141:OKT tn141:=zr ok140 ok140 (p:=(34,sv34)) wv34
noncomputable def Las:Nat→Int→Int→Int→LI→L3→LL→LL→LI→Int→LI→LI→LL→LI→Option ((LL)×(LL)×(LI)×Int×(LI)×(LI))
 | 0,_,_,_,_,_,_,_,_,_,_,_,_,_=>none
 | n+1,x0,x1,x2,x3,x4,x5,x6,x7,x8,x9,A,B,C=>(cond (decide (x1 < x0)) (cond (ok (v34 x3 x4 x5 x6 x7 x8 x9 A)) (Las n x0 (wI (x1+(1:Int))) x2 x3 x4 (val (v34 x3 x4 x5 x6 x7 x8 x9 A)).1 (val (v34 x3 x4 x5 x6 x7 x8 x9 A)).2.1 (val (v34 x3 x4 x5 x6 x7 x8 x9 A)).2.2.1 (val (v34 x3 x4 x5 x6 x7 x8 x9 A)).2.2.2.1 (val (v34 x3 x4 x5 x6 x7 x8 x9 A)).2.2.2.2.1 (val (v34 x3 x4 x5 x6 x7 x8 x9 A)).2.2.2.2.2 B C) none) (some (x5,x6,x7,x8,x9,A)))
theorem qLas:type_of% @Las.eq_2:=@Las.eq_2
noncomputable def xLas (x0 x1 x2:Int) (x3:LI) (x4:L3) (x5:LL) (x6:LL) (x7:LI) (x8:Int) (x9:LI) (A:LI) (B:LL) (C:LI):((LL)×(LL)×(LI)×Int×(LI)×(LI))→Ex×CS:=fun r=>((.exit 4),⟨[(4,.l 4 0),(6,vP 0)],[(4,[.g 3,.g 4,I4 (x2)])],[(bx0 x3 x4 1 (r.1:LL) 2 (r.2.1:LL) (r.2.2.1:LI) (r.2.2.2.1)),rD (r.2.2.2.2.1:LI),rD (r.2.2.2.2.2:LI),rL (B),rD (C)],0,false⟩)
abbrev cLas (x0 x1 x2:Int) (x3:LI) (x4:L3) (x5:LL) (x6:LL) (x7:LI) (x8:Int) (x9:LI) (A:LI) (B:LL) (C:LI):CS:=⟨[(4,.l 4 0),(6,vP 0),(75,vI x0),(76,vI x1)],[(4,[.g 3,.g 4,I4 (x2)])],[(bx0 x3 x4 1 x5 2 x6 x7 x8),rD (x9),rD (A),rL (B),rD (C)],0,false⟩
theorem bLas (k:Nat) (cN:KN) (cX:KX) (x0 x1 x2:Int) (x3:LI) (x4:L3) (x5:LL) (x6:LL) (x7:LI) (x8:Int) (x9:LI) (A:LI) (B:LL) (C:LI):zo zP (tn141 14) (TM.evF zP (tn141) dOk (k+40)) dOk (k+40) (za zP (tn0 14) 14 32) 4 32 (cLas x0 x1 x2 x3 x4 x5 x6 x7 x8 x9 A B C) cN cX=(cond (decide (x1 < x0)) (ob (v34 x3 x4 x5 x6 x7 x8 x9 A) fun r1=>(cN (cLas x0 (wI (x1+(1:Int))) x2 x3 x4 (r1.1:LL) (r1.2.1:LL) (r1.2.2.1:LI) r1.2.2.2.1 (r1.2.2.2.2.1:LI) (r1.2.2.2.2.2:LI) B C))) (cP cX (xLas x0 x1 x2 x3 x4 x5 x6 x7 x8 x9 A B C ((x5),(x6),(x7),(x8),(x9),A)))):=by kernel_rfl
theorem lLas (k m:Nat):∀ (n:Nat) (x0 x1 x2:Int) (x3:LI) (x4:L3) (x5:LL) (x6:LL) (x7:LI) (x8:Int) (x9:LI) (A:LI) (B:LL) (C:LI) (r:((LL)×(LL)×(LI)×Int×(LI)×(LI))),Las n x0 x1 x2 x3 x4 x5 x6 x7 x8 x9 A B C=some r→zA zP (tn141 14) (TM.evF zP (tn141) dOk (k+40)) dOk (k+40) (za zP (tn0 14) 14 32) 4 32 (n+m) (cLas x0 x1 x2 x3 x4 x5 x6 x7 x8 x9 A B C)=some (xLas x0 x1 x2 x3 x4 x5 x6 x7 x8 x9 A B C r):=by
 intro n
 induction n with
 | zero=>intro _ _ _ _ _ _ _ _ _ _ _ _ _ r h;cases h
 | succ n ih=>
  intro x0 x1 x2 x3 x4 x5 x6 x7 x8 x9 A B C r
  rw [show n+1+m=n+m+1 by omega,zk,bLas,qLas]
  with_reducible repeat' refine ze ?_ ?_
  all_goals first | exact ih _ _ _ _ _ _ _ _ _ _ _ _ _ r | (intro h;cases h;done) | (intro h;cases h;rfl)
noncomputable def sLas:TellS:=fun S=>tq (mS (cLas 0 0 0 [] [] [] [] [] 0 [] [] [] [])) S fun x0 x1 x2 x3 x4 x5 x6 x7 x8 x9 A B C=>some [(ok (Las FU x0 x1 x2 x3 x4 x5 x6 x7 x8 x9 A B C),(.exit 4),⟨[(4,.l 4 0),(6,vP 0)],[(4,[.g 3,.g 4,I4 (x2)])],[(bx0 x3 x4 1 ((val (Las FU x0 x1 x2 x3 x4 x5 x6 x7 x8 x9 A B C)).1:LL) 2 ((val (Las FU x0 x1 x2 x3 x4 x5 x6 x7 x8 x9 A B C)).2.1:LL) ((val (Las FU x0 x1 x2 x3 x4 x5 x6 x7 x8 x9 A B C)).2.2.1:LI) ((val (Las FU x0 x1 x2 x3 x4 x5 x6 x7 x8 x9 A B C)).2.2.2.1)),rD ((val (Las FU x0 x1 x2 x3 x4 x5 x6 x7 x8 x9 A B C)).2.2.2.2.1:LI),rD ((val (Las FU x0 x1 x2 x3 x4 x5 x6 x7 x8 x9 A B C)).2.2.2.2.2:LI),rL (B),rD (C)],0,false⟩)]
theorem wLas:zh zP dOk base o141 t140 ((14,32),sLas):=by
 refine ⟨.loop (za zP (tn0 14) 14 32),4,by kernel_rfl,?_⟩
 intro S alts e S' h1 h2
 obtain ⟨_,rfl,g⟩:=tq_some h1
 clear h1
 change some _=_ at g
 cases g
 obtain ⟨hc0,rfl,rfl⟩:=zf h2
 exact ⟨FU+40,(zb rfl).trans (lLas FU 40 FU _ _ _ _ _ _ _ _ _ _ _ _ _ _ (zc hc0))⟩
noncomputable def t142:TellT:=((14,32),sLas)::t140
abbrev tn142:=zd base o141 t142
theorem ok142:OKT tn142:=zi ok141 ok141 (p:=((14,32),sLas)) wLas
end
end Go.Proofs.Ytpfphfobneehmaa
