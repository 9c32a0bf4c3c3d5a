/- What some functions and loops come to: printed and checked. Written by a program of ours. -/
import Derived.Test.YtpfphfobneehmaaG5
set_option linter.all false
set_option maxRecDepth 1000000
set_option maxHeartbeats 4000000
namespace Go.Proofs.Ytpfphfobneehmaa
open Go Go.AM Go.TM Go.Proofs
noncomputable section
noncomputable def Lbh (x0 x1:Int) (x2:LI) (x3:L3) (x4:LL) (x5:LL) (x6:LI) (x7:Int) (x8:LI) (x9:LI) (A:LL) (B:LI):Option (Int×(LL)×(LI)×Int):=(cond (ok (Las FU (wI (x0+(1:Int))) 0 x1 x2 x3 x4 x5 x6 x7 x8 x9 A B)) (some (0,(val (Las FU (wI (x0+(1:Int))) 0 x1 x2 x3 x4 x5 x6 x7 x8 x9 A B)).2.1,(val (Las FU (wI (x0+(1:Int))) 0 x1 x2 x3 x4 x5 x6 x7 x8 x9 A B)).2.2.1,(val (Las FU (wI (x0+(1:Int))) 0 x1 x2 x3 x4 x5 x6 x7 x8 x9 A B)).2.2.2.1)) none)
noncomputable def xLbh (x0 x1:Int) (x2:LI) (x3:L3) (x4:LL) (x5:LL) (x6:LI) (x7:Int) (x8:LI) (x9:LI) (A:LL) (B:LI):(Int×(LL)×(LI)×Int)→Ex×CS:=fun r=>(.ret,⟨[(4,.l 4 0),(5,vI (r.1))],[(4,[kL (r.2.1:LL),kD (r.2.2.1:LI),I4 (r.2.2.2)])],[],0,true⟩)
abbrev cLbh (x0 x1:Int) (x2:LI) (x3:L3) (x4:LL) (x5:LL) (x6:LI) (x7:Int) (x8:LI) (x9:LI) (A:LL) (B:LI):CS:=⟨[(1,vI x0),(4,.l 4 0),(6,vP 0)],[(4,[.g 3,.g 4,I4 (x1)])],[(bx0 x2 x3 1 x4 2 x5 x6 x7),rD (x8),rD (x9),rL (A),rD (B)],0,false⟩
theorem bLbh (k:Nat) (cX:Ex→CS→Option (Ex×CS)) (x0 x1:Int) (x2:LI) (x3:L3) (x4:LL) (x5:LL) (x6:LI) (x7:Int) (x8:LI) (x9:LI) (A:LL) (B:LI):zl zP (tn142 14) (TM.evF zP (tn142) dOk (k+40)) dOk (k+40) (za zP (tn0 14) 14 140) 0 140 (cLbh x0 x1 x2 x3 x4 x5 x6 x7 x8 x9 A B) cX=(ob (Las FU (wI (x0+(1:Int))) 0 x1 x2 x3 x4 x5 x6 x7 x8 x9 A B) fun r1=>(cP cX (xLbh x0 x1 x2 x3 x4 x5 x6 x7 x8 x9 A B ((0),(r1.2.1:LL),(r1.2.2.1:LI),r1.2.2.2.1)))):=by kernel_rfl
theorem lLbh (k:Nat) (x0 x1:Int) (x2:LI) (x3:L3) (x4:LL) (x5:LL) (x6:LI) (x7:Int) (x8:LI) (x9:LI) (A:LL) (B:LI) (r:(Int×(LL)×(LI)×Int)):Lbh x0 x1 x2 x3 x4 x5 x6 x7 x8 x9 A B=some r→zl zP (tn142 14) (TM.evF zP (tn142) dOk (k+40)) dOk (k+40) (za zP (tn0 14) 14 140) 0 140 (cLbh x0 x1 x2 x3 x4 x5 x6 x7 x8 x9 A B) (fun e s=>some (e,s))=some (xLbh x0 x1 x2 x3 x4 x5 x6 x7 x8 x9 A B r):=by
 rw [bLbh]
 unfold Lbh
 refine ze ?_ ?_
 intro h;cases h;rfl
 intro h;cases h
noncomputable def sLbh:TellS:=fun S=>tq (mS (cLbh 0 0 [] [] [] [] [] 0 [] [] [] [])) S fun x0 x1 x2 x3 x4 x5 x6 x7 x8 x9 A B=>some [(ok (Lbh x0 x1 x2 x3 x4 x5 x6 x7 x8 x9 A B),.ret,⟨[(4,.l 4 0),(5,vI ((val (Lbh x0 x1 x2 x3 x4 x5 x6 x7 x8 x9 A B)).1))],[(4,[kL ((val (Lbh x0 x1 x2 x3 x4 x5 x6 x7 x8 x9 A B)).2.1:LL),kD ((val (Lbh x0 x1 x2 x3 x4 x5 x6 x7 x8 x9 A B)).2.2.1:LI),I4 ((val (Lbh x0 x1 x2 x3 x4 x5 x6 x7 x8 x9 A B)).2.2.2)])],[],0,true⟩)]
theorem wLbh:zh zP dOk base o141 t142 ((14,140),sLbh):=by
 refine ⟨(za zP (tn0 14) 14 140),0,by kernel_rfl,?_⟩
 intro S alts e S' h1 h2
 obtain ⟨_,rfl,g⟩:=tq_some h1
 clear h1
 change some _=_ at g
 cases g
 obtain ⟨hc0,rfl,rfl⟩:=zf h2
 exact ⟨0+40,(zx rfl).trans (lLbh 0 _ _ _ _ _ _ _ _ _ _ _ _ _ (zc hc0))⟩
noncomputable def t143:TellT:=((14,140),sLbh)::t142
abbrev tn143:=zd base o141 t143
theorem ok143:OKT tn143:=zi ok142 ok142 (p:=((14,140),sLbh)) wLbh
noncomputable def Lak (x0:Int) (x1:LI) (x2:L3) (x3:Int) (x4:LI) (x5:L3) (x6:LL) (x7:LL) (x8:LI) (x9:Int) (A:LI) (B:LI) (C:LL) (D:LI):Option ((Int×Int) ⊕ (Int×(LL)×(LI)×Int)):=(cond (isL (Lau FU x0 (x2.length:Int) 0 x3 x4 x5 x6 x7 x8 x9 A B C D)) (some (.inl ((zz (Lau FU x0 (x2.length:Int) 0 x3 x4 x5 x6 x7 x8 x9 A B C D)).1,(zz (Lau FU x0 (x2.length:Int) 0 x3 x4 x5 x6 x7 x8 x9 A B C D)).2))) (cond (ok (zn (Lau FU x0 (x2.length:Int) 0 x3 x4 x5 x6 x7 x8 x9 A B C D))) (cond (ok (Lbh x0 x3 x4 x5 x6 x7 x8 x9 A B C D)) (some (.inr ((val (Lbh x0 x3 x4 x5 x6 x7 x8 x9 A B C D)).1,(val (Lbh x0 x3 x4 x5 x6 x7 x8 x9 A B C D)).2.1,(val (Lbh x0 x3 x4 x5 x6 x7 x8 x9 A B C D)).2.2.1,(val (Lbh x0 x3 x4 x5 x6 x7 x8 x9 A B C D)).2.2.2))) none) none))
noncomputable def xLak (x0:Int) (x1:LI) (x2:L3) (x3:Int) (x4:LI) (x5:L3) (x6:LL) (x7:LL) (x8:LI) (x9:Int) (A:LI) (B:LI) (C:LL) (D:LI):((Int×Int) ⊕ (Int×(LL)×(LI)×Int))→Ex×CS:=fun r=>match r with | .inl a0=>(.ret,⟨[(4,.l 4 0),(5,vI (a0.1))],[(4,[.nil,.nil,I4 (a0.2)])],[],0,true⟩) | .inr b0=>(.ret,⟨[(4,.l 4 0),(5,vI (b0.1))],[(4,[kL (b0.2.1:LL),kD (b0.2.2.1:LI),I4 (b0.2.2.2)])],[],0,true⟩)
abbrev cLak (x0:Int) (x1:LI) (x2:L3) (x3:Int) (x4:LI) (x5:L3) (x6:LL) (x7:LL) (x8:LI) (x9:Int) (A:LI) (B:LI) (C:LL) (D:LI):CS:=⟨[(1,vI x0),(2,.l 2 0),(4,.l 4 0),(6,vP 0)],[(2,[kD (x1),.d 31 mT (x2)]),(4,[.g 3,.g 4,I4 (x3)])],[(bx0 x4 x5 1 x6 2 x7 x8 x9),rD (A),rD (B),rL (C),rD (D)],0,false⟩
theorem bLak (k:Nat) (cX:Ex→CS→Option (Ex×CS)) (x0:Int) (x1:LI) (x2:L3) (x3:Int) (x4:LI) (x5:L3) (x6:LL) (x7:LL) (x8:LI) (x9:Int) (A:LI) (B:LI) (C:LL) (D:LI):zl zP (tn143 14) (TM.evF zP (tn143) dOk (k+40)) dOk (k+40) (za zP (tn0 14) 14 84) 0 84 (cLak x0 x1 x2 x3 x4 x5 x6 x7 x8 x9 A B C D) cX=(cond (isL (Lau FU x0 (x2.length:Int) 0 x3 x4 x5 x6 x7 x8 x9 A B C D)) (cX .ret ⟨[(4,.l 4 0),(5,.v (.sc (I4 (zz (Lau FU x0 (x2.length:Int) 0 x3 x4 x5 x6 x7 x8 x9 A B C D)).1)))],[(4,[.nil,.nil,I4 (zz (Lau FU x0 (x2.length:Int) 0 x3 x4 x5 x6 x7 x8 x9 A B C D)).2])],[],0,true⟩) (cond (ok (zn (Lau FU x0 (x2.length:Int) 0 x3 x4 x5 x6 x7 x8 x9 A B C D))) (ob (Lbh x0 x3 x4 x5 x6 x7 x8 x9 A B C D) fun r1=>(cX .ret ⟨[(4,.l 4 0),(5,.v (.sc (I4 r1.1)))],[(4,[kL (r1.2.1:LL),kD (r1.2.2.1:LI),I4 r1.2.2.2])],[],0,true⟩)) none)):=by kernel_rfl
theorem lLak (k:Nat) (x0:Int) (x1:LI) (x2:L3) (x3:Int) (x4:LI) (x5:L3) (x6:LL) (x7:LL) (x8:LI) (x9:Int) (A:LI) (B:LI) (C:LL) (D:LI) (r:((Int×Int) ⊕ (Int×(LL)×(LI)×Int))):Lak x0 x1 x2 x3 x4 x5 x6 x7 x8 x9 A B C D=some r→zl zP (tn143 14) (TM.evF zP (tn143) dOk (k+40)) dOk (k+40) (za zP (tn0 14) 14 84) 0 84 (cLak x0 x1 x2 x3 x4 x5 x6 x7 x8 x9 A B C D) (fun e s=>some (e,s))=some (xLak x0 x1 x2 x3 x4 x5 x6 x7 x8 x9 A B C D r):=by
 rw [bLak]
 unfold Lak
 refine ze ?_ ?_
 intro h;cases h;rfl
 refine ze ?_ ?_
 refine ze ?_ ?_
 intro h;cases h;rfl
 intro h;cases h
 intro h;cases h
noncomputable def sLak:TellS:=fun S=>tq (mS (cLak 0 [] [] 0 [] [] [] [] [] 0 [] [] [] [])) S fun x0 x1 x2 x3 x4 x5 x6 x7 x8 x9 A B C D=>some [(isL (Lak x0 x1 x2 x3 x4 x5 x6 x7 x8 x9 A B C D),.ret,⟨[(4,.l 4 0),(5,vI ((zz (Lak x0 x1 x2 x3 x4 x5 x6 x7 x8 x9 A B C D)).1))],[(4,[.nil,.nil,I4 ((zz (Lak x0 x1 x2 x3 x4 x5 x6 x7 x8 x9 A B C D)).2)])],[],0,true⟩),(ok (zn (Lak x0 x1 x2 x3 x4 x5 x6 x7 x8 x9 A B C D)),.ret,⟨[(4,.l 4 0),(5,vI ((val (zn (Lak x0 x1 x2 x3 x4 x5 x6 x7 x8 x9 A B C D))).1))],[(4,[kL ((val (zn (Lak x0 x1 x2 x3 x4 x5 x6 x7 x8 x9 A B C D))).2.1:LL),kD ((val (zn (Lak x0 x1 x2 x3 x4 x5 x6 x7 x8 x9 A B C D))).2.2.1:LI),I4 ((val (zn (Lak x0 x1 x2 x3 x4 x5 x6 x7 x8 x9 A B C D))).2.2.2)])],[],0,true⟩)]
theorem wLak:zh zP dOk base o141 t143 ((14,84),sLak):=by
 refine ⟨(za zP (tn0 14) 14 84),0,by kernel_rfl,?_⟩
 intro S alts e S' h1 h2
 obtain ⟨_,rfl,g⟩:=tq_some h1
 clear h1
 change some _=_ at g
 cases g
 rcases zD h2 with ⟨hc0,rfl,rfl⟩ | h2
 · exact ⟨0+40,(zx rfl).trans (lLak 0 _ _ _ _ _ _ _ _ _ _ _ _ _ _ _ (zM hc0))⟩
 obtain ⟨hc1,rfl,rfl⟩:=zf h2
 exact ⟨0+40,(zx rfl).trans (lLak 0 _ _ _ _ _ _ _ _ _ _ _ _ _ _ _ (zG (zc hc1)))⟩
noncomputable def t144:TellT:=((14,84),sLak)::t143
abbrev tn144:=zd base o141 t144
theorem ok144:OKT tn144:=zi ok143 ok143 (p:=((14,84),sLak)) wLak
noncomputable def Lac (x0:Int) (x1:LI) (x2:L3) (x3:Int) (x4:LI) (x5:L3) (x6:LL) (x7:LI) (x8:Int) (x9:LI) (A:LI) (B:LL) (C:LI):Option ((Int×Int) ⊕ (Int×(LL)×(LI)×Int)):=(cond (ok (Laa FU x0 (x9.length:Int) 0 x1 x2 x3 x4 x5 x6 x7 x8 x9 A B C)) (cond (ok (v31 x4 x5 x6 x7 x8 (val (Laa FU x0 (x9.length:Int) 0 x1 x2 x3 x4 x5 x6 x7 x8 x9 A B C)) A)) (cond (isL (Lak x0 x1 x2 x3 x4 x5 (val (v31 x4 x5 x6 x7 x8 (val (Laa FU x0 (x9.length:Int) 0 x1 x2 x3 x4 x5 x6 x7 x8 x9 A B C)) A)) x6 x7 x8 (val (Laa FU x0 (x9.length:Int) 0 x1 x2 x3 x4 x5 x6 x7 x8 x9 A B C)) A B C)) (some (.inl ((zz (Lak x0 x1 x2 x3 x4 x5 (val (v31 x4 x5 x6 x7 x8 (val (Laa FU x0 (x9.length:Int) 0 x1 x2 x3 x4 x5 x6 x7 x8 x9 A B C)) A)) x6 x7 x8 (val (Laa FU x0 (x9.length:Int) 0 x1 x2 x3 x4 x5 x6 x7 x8 x9 A B C)) A B C)).1,(zz (Lak x0 x1 x2 x3 x4 x5 (val (v31 x4 x5 x6 x7 x8 (val (Laa FU x0 (x9.length:Int) 0 x1 x2 x3 x4 x5 x6 x7 x8 x9 A B C)) A)) x6 x7 x8 (val (Laa FU x0 (x9.length:Int) 0 x1 x2 x3 x4 x5 x6 x7 x8 x9 A B C)) A B C)).2))) (cond (ok (zn (Lak x0 x1 x2 x3 x4 x5 (val (v31 x4 x5 x6 x7 x8 (val (Laa FU x0 (x9.length:Int) 0 x1 x2 x3 x4 x5 x6 x7 x8 x9 A B C)) A)) x6 x7 x8 (val (Laa FU x0 (x9.length:Int) 0 x1 x2 x3 x4 x5 x6 x7 x8 x9 A B C)) A B C))) (some (.inr ((val (zn (Lak x0 x1 x2 x3 x4 x5 (val (v31 x4 x5 x6 x7 x8 (val (Laa FU x0 (x9.length:Int) 0 x1 x2 x3 x4 x5 x6 x7 x8 x9 A B C)) A)) x6 x7 x8 (val (Laa FU x0 (x9.length:Int) 0 x1 x2 x3 x4 x5 x6 x7 x8 x9 A B C)) A B C))).1,(val (zn (Lak x0 x1 x2 x3 x4 x5 (val (v31 x4 x5 x6 x7 x8 (val (Laa FU x0 (x9.length:Int) 0 x1 x2 x3 x4 x5 x6 x7 x8 x9 A B C)) A)) x6 x7 x8 (val (Laa FU x0 (x9.length:Int) 0 x1 x2 x3 x4 x5 x6 x7 x8 x9 A B C)) A B C))).2.1,(val (zn (Lak x0 x1 x2 x3 x4 x5 (val (v31 x4 x5 x6 x7 x8 (val (Laa FU x0 (x9.length:Int) 0 x1 x2 x3 x4 x5 x6 x7 x8 x9 A B C)) A)) x6 x7 x8 (val (Laa FU x0 (x9.length:Int) 0 x1 x2 x3 x4 x5 x6 x7 x8 x9 A B C)) A B C))).2.2.1,(val (zn (Lak x0 x1 x2 x3 x4 x5 (val (v31 x4 x5 x6 x7 x8 (val (Laa FU x0 (x9.length:Int) 0 x1 x2 x3 x4 x5 x6 x7 x8 x9 A B C)) A)) x6 x7 x8 (val (Laa FU x0 (x9.length:Int) 0 x1 x2 x3 x4 x5 x6 x7 x8 x9 A B C)) A B C))).2.2.2))) none)) none) none)
noncomputable def xLac (x0:Int) (x1:LI) (x2:L3) (x3:Int) (x4:LI) (x5:L3) (x6:LL) (x7:LI) (x8:Int) (x9:LI) (A:LI) (B:LL) (C:LI):((Int×Int) ⊕ (Int×(LL)×(LI)×Int))→Ex×CS:=fun r=>match r with | .inl a0=>(.ret,⟨[(4,.l 4 0),(5,vI (a0.1))],[(4,[.nil,.nil,I4 (a0.2)])],[],0,true⟩) | .inr b0=>(.ret,⟨[(4,.l 4 0),(5,vI (b0.1))],[(4,[kL (b0.2.1:LL),kD (b0.2.2.1:LI),I4 (b0.2.2.2)])],[],0,true⟩)
abbrev cLac (x0:Int) (x1:LI) (x2:L3) (x3:Int) (x4:LI) (x5:L3) (x6:LL) (x7:LI) (x8:Int) (x9:LI) (A:LI) (B:LL) (C:LI):CS:=⟨[(1,vI x0),(2,.l 2 0),(4,.l 4 0),(6,vP 0),(24,.l 2 0),(28,.l 2 0)],[(2,[kD (x1),.d 31 mT (x2)]),(4,[.g 3,.g 4,I4 (x3)])],[(bx2 x4 x5 1 2 x6 x7 x8),rD (x9),rD (A),rL (B),rD (C)],0,false⟩
theorem bLac (k:Nat) (cX:Ex→CS→Option (Ex×CS)) (x0:Int) (x1:LI) (x2:L3) (x3:Int) (x4:LI) (x5:L3) (x6:LL) (x7:LI) (x8:Int) (x9:LI) (A:LI) (B:LL) (C:LI):zl zP (tn144 14) (TM.evF zP (tn144) dOk (k+40)) dOk (k+40) (za zP (tn0 14) 14 36) 0 36 (cLac x0 x1 x2 x3 x4 x5 x6 x7 x8 x9 A B C) cX=(ob (Laa FU x0 (x9.length:Int) 0 x1 x2 x3 x4 x5 x6 x7 x8 x9 A B C) fun r1=>(ob (v31 x4 x5 x6 x7 x8 r1 A) fun r2=>(cond (isL (Lak x0 x1 x2 x3 x4 x5 r2 x6 x7 x8 r1 A B C)) (cX .ret ⟨[(4,.l 4 0),(5,.v (.sc (I4 (zz (Lak x0 x1 x2 x3 x4 x5 r2 x6 x7 x8 r1 A B C)).1)))],[(4,[.nil,.nil,I4 (zz (Lak x0 x1 x2 x3 x4 x5 r2 x6 x7 x8 r1 A B C)).2])],[],0,true⟩) (ob (zn (Lak x0 x1 x2 x3 x4 x5 r2 x6 x7 x8 r1 A B C)) fun r3=>(cX .ret ⟨[(4,.l 4 0),(5,.v (.sc (I4 r3.1)))],[(4,[kL (r3.2.1:LL),kD (r3.2.2.1:LI),I4 r3.2.2.2])],[],0,true⟩))))):=by kernel_rfl
theorem lLac (k:Nat) (x0:Int) (x1:LI) (x2:L3) (x3:Int) (x4:LI) (x5:L3) (x6:LL) (x7:LI) (x8:Int) (x9:LI) (A:LI) (B:LL) (C:LI) (r:((Int×Int) ⊕ (Int×(LL)×(LI)×Int))):Lac x0 x1 x2 x3 x4 x5 x6 x7 x8 x9 A B C=some r→zl zP (tn144 14) (TM.evF zP (tn144) dOk (k+40)) dOk (k+40) (za zP (tn0 14) 14 36) 0 36 (cLac x0 x1 x2 x3 x4 x5 x6 x7 x8 x9 A B C) (fun e s=>some (e,s))=some (xLac x0 x1 x2 x3 x4 x5 x6 x7 x8 x9 A B C r):=by
 rw [bLac]
 unfold Lac
 refine ze ?_ ?_
 refine ze ?_ ?_
 refine ze ?_ ?_
 intro h;cases h;rfl
 refine ze ?_ ?_
 intro h;cases h;rfl
 intro h;cases h
 intro h;cases h
 intro h;cases h
noncomputable def sLac:TellS:=fun S=>tq (mS (cLac 0 [] [] 0 [] [] [] [] 0 [] [] [] [])) S fun x0 x1 x2 x3 x4 x5 x6 x7 x8 x9 A B C=>some [(isL (Lac x0 x1 x2 x3 x4 x5 x6 x7 x8 x9 A B C),.ret,⟨[(4,.l 4 0),(5,vI ((zz (Lac x0 x1 x2 x3 x4 x5 x6 x7 x8 x9 A B C)).1))],[(4,[.nil,.nil,I4 ((zz (Lac x0 x1 x2 x3 x4 x5 x6 x7 x8 x9 A B C)).2)])],[],0,true⟩),(ok (zn (Lac x0 x1 x2 x3 x4 x5 x6 x7 x8 x9 A B C)),.ret,⟨[(4,.l 4 0),(5,vI ((val (zn (Lac x0 x1 x2 x3 x4 x5 x6 x7 x8 x9 A B C))).1))],[(4,[kL ((val (zn (Lac x0 x1 x2 x3 x4 x5 x6 x7 x8 x9 A B C))).2.1:LL),kD ((val (zn (Lac x0 x1 x2 x3 x4 x5 x6 x7 x8 x9 A B C))).2.2.1:LI),I4 ((val (zn (Lac x0 x1 x2 x3 x4 x5 x6 x7 x8 x9 A B C))).2.2.2)])],[],0,true⟩)]
theorem wLac:zh zP dOk base o141 t144 ((14,36),sLac):=by
 refine ⟨(za zP (tn0 14) 14 36),0,by kernel_rfl,?_⟩
 intro S alts e S' h1 h2
 obtain ⟨_,rfl,g⟩:=tq_some h1
 clear h1
 change some _=_ at g
 cases g
 rcases zD h2 with ⟨hc0,rfl,rfl⟩ | h2
 · exact ⟨0+40,(zx rfl).trans (lLac 0 _ _ _ _ _ _ _ _ _ _ _ _ _ _ (zM hc0))⟩
 obtain ⟨hc1,rfl,rfl⟩:=zf h2
 exact ⟨0+40,(zx rfl).trans (lLac 0 _ _ _ _ _ _ _ _ _ _ _ _ _ _ (zG (zc hc1)))⟩
noncomputable def t145:TellT:=((14,36),sLac)::t144
abbrev tn145:=zd base o141 t145
theorem ok145:OKT tn145:=zi ok144 ok144 (p:=((14,36),sLac)) wLac
noncomputable def v14 (x0:LI) (x1:L3) (x2:Int):Option ((LL)×(LI)×Int×Int):=(cond (ok (v28 x0 x1)) (cond (!val (v28 x0 x1)) (some ([],[],0,(1:Int))) (cond (decide (x2 < 0)) (some ([],[],0,(1:Int))) (cond (decide (x2 > (1000:Int))) (some ([],[],0,(1:Int))) (cond (decide ((x0.length:Int)≤(x0.length:Int))) (cond (decide ((x0.length:Int)≤(↑(nat_lit 2147483648):Int))) (cond (isL (Lac x2 x0 x1 0 x0 x1 [] [] 0 (List.replicate (x0.length:Int).toNat 0) (List.replicate (x0.length:Int).toNat 0) [] [])) (some ([],[],(zz (Lac x2 x0 x1 0 x0 x1 [] [] 0 (List.replicate (x0.length:Int).toNat 0) (List.replicate (x0.length:Int).toNat 0) [] [])).2,(zz (Lac x2 x0 x1 0 x0 x1 [] [] 0 (List.replicate (x0.length:Int).toNat 0) (List.replicate (x0.length:Int).toNat 0) [] [])).1)) (cond (ok (zn (Lac x2 x0 x1 0 x0 x1 [] [] 0 (List.replicate (x0.length:Int).toNat 0) (List.replicate (x0.length:Int).toNat 0) [] []))) (some ((val (zn (Lac x2 x0 x1 0 x0 x1 [] [] 0 (List.replicate (x0.length:Int).toNat 0) (List.replicate (x0.length:Int).toNat 0) [] []))).2.1,(val (zn (Lac x2 x0 x1 0 x0 x1 [] [] 0 (List.replicate (x0.length:Int).toNat 0) (List.replicate (x0.length:Int).toNat 0) [] []))).2.2.1,(val (zn (Lac x2 x0 x1 0 x0 x1 [] [] 0 (List.replicate (x0.length:Int).toNat 0) (List.replicate (x0.length:Int).toNat 0) [] []))).2.2.2,(val (zn (Lac x2 x0 x1 0 x0 x1 [] [] 0 (List.replicate (x0.length:Int).toNat 0) (List.replicate (x0.length:Int).toNat 0) [] []))).1)) none)) none) none)))) none)
abbrev aF14 (x0:LI) (x1:L3) (x2:Int):List TA:=[.agg [kD (x0),.d 31 mT (x1)],.sc (I4 x2)]
theorem ev14 (x0:LI) (x1:L3) (x2:Int):zt zP (tn145 14) (TM.evF zP (tn145) dOk 40) dOk 40 14 (aF14 x0 x1 x2) []=(v14 x0 x1 x2).bind fun r=>some ([.agg [kL (r.1:LL),kD (r.2.1:LI),I4 (r.2.2.1)],.sc (I4 (r.2.2.2))],[]):=by
 refine Eq.trans (b:=(cond (ok (v28 x0 x1)) (cond (!val (v28 x0 x1)) (some ([.agg [kL ([]:LL),kD ([]:LI),I4 (0)],.sc (I4 ((1:Int)))],[])) (cond (decide (x2 < 0)) (some ([.agg [kL ([]:LL),kD ([]:LI),I4 (0)],.sc (I4 ((1:Int)))],[])) (cond (decide (x2 > (1000:Int))) (some ([.agg [kL ([]:LL),kD ([]:LI),I4 (0)],.sc (I4 ((1:Int)))],[])) (cond (decide ((x0.length:Int)≤(x0.length:Int))) (cond (decide ((x0.length:Int)≤(↑(nat_lit 2147483648):Int))) (cond (decide ((x0.length:Int)≤(x0.length:Int))) (cond (decide ((x0.length:Int)≤(↑(nat_lit 2147483648):Int))) (cond (isL (Lac x2 x0 x1 0 x0 x1 [] [] 0 (List.replicate (x0.length:Int).toNat 0) (List.replicate (x0.length:Int).toNat 0) [] [])) (some ([.agg [kL ([]:LL),kD ([]:LI),I4 (zz (Lac x2 x0 x1 0 x0 x1 [] [] 0 (List.replicate (x0.length:Int).toNat 0) (List.replicate (x0.length:Int).toNat 0) [] [])).2],.sc (I4 (zz (Lac x2 x0 x1 0 x0 x1 [] [] 0 (List.replicate (x0.length:Int).toNat 0) (List.replicate (x0.length:Int).toNat 0) [] [])).1)],[])) (cond (ok (zn (Lac x2 x0 x1 0 x0 x1 [] [] 0 (List.replicate (x0.length:Int).toNat 0) (List.replicate (x0.length:Int).toNat 0) [] []))) (some ([.agg [kL ((val (zn (Lac x2 x0 x1 0 x0 x1 [] [] 0 (List.replicate (x0.length:Int).toNat 0) (List.replicate (x0.length:Int).toNat 0) [] []))).2.1:LL),kD ((val (zn (Lac x2 x0 x1 0 x0 x1 [] [] 0 (List.replicate (x0.length:Int).toNat 0) (List.replicate (x0.length:Int).toNat 0) [] []))).2.2.1:LI),I4 (val (zn (Lac x2 x0 x1 0 x0 x1 [] [] 0 (List.replicate (x0.length:Int).toNat 0) (List.replicate (x0.length:Int).toNat 0) [] []))).2.2.2],.sc (I4 (val (zn (Lac x2 x0 x1 0 x0 x1 [] [] 0 (List.replicate (x0.length:Int).toNat 0) (List.replicate (x0.length:Int).toNat 0) [] []))).1)],[])) none)) none) none) none) none)))) none)) (by kernel_rfl) ?_
 unfold v14
 cases (ok (v28 x0 x1)) with
 | true=>
  cases (!val (v28 x0 x1)) with
  | true=>
   rfl
  | false=>
   cases (decide (x2 < 0)) with
   | true=>
    rfl
   | false=>
    cases (decide (x2 > (1000:Int))) with
    | true=>
     rfl
    | false=>
     cases (decide ((x0.length:Int)≤(x0.length:Int))) with
     | true=>
      cases (decide ((x0.length:Int)≤(↑(nat_lit 2147483648):Int))) with
      | true=>
       cases (isL (Lac x2 x0 x1 0 x0 x1 [] [] 0 (List.replicate (x0.length:Int).toNat 0) (List.replicate (x0.length:Int).toNat 0) [] [])) with
       | true=>
        rfl
       | false=>
        cases (ok (zn (Lac x2 x0 x1 0 x0 x1 [] [] 0 (List.replicate (x0.length:Int).toNat 0) (List.replicate (x0.length:Int).toNat 0) [] []))) with
        | true=>
         rfl
        | false=>
         rfl
      | false=>
       rfl
     | false=>
      rfl
 | false=>
  rfl
noncomputable def sv14:OrcS:=fun al H=>tqa (aF14 [] [] 0) [] al H fun x0 x1 x2=>some [(ok (v14 x0 x1 x2),[.agg [kL ((val (v14 x0 x1 x2)).1:LL),kD ((val (v14 x0 x1 x2)).2.1:LI),I4 ((val (v14 x0 x1 x2)).2.2.1)],.sc (I4 ((val (v14 x0 x1 x2)).2.2.2))],[])]
theorem wv14:zq zP dOk base o141 t145 (14,sv14):=by
 intro al H q hq rs H2 h2
 obtain ⟨_,_,rfl,rfl,g⟩:=tqa_some hq
 clear hq
 change some _=_ at g
 cases g
 obtain ⟨hc0,rfl,rfl⟩:=zg h2
 exact ⟨41,(zy (by kernel_rfl)).trans ((ev14 _ _ _).trans (zm (zc hc0)))⟩
noncomputable def o146:OrcT:=(14,sv14)::o141
abbrev tn146:=zd base o146 t145
theorem ok146:OKT tn146:=zr ok145 ok145 (p:=(14,sv14)) wv14
noncomputable def Lai:Nat→LL→Int→Int→LI→L3→Option (Bool ⊕ Unit)
 | 0,_,_,_,_,_=>none
 | n+1,x0,x1,x2,x3,x4=>(cond (decide (0≤x1)) (cond (decide (x1 < (x4.length:Int))) (cond (decide (x2 < (↑(List.length (List.getD x4 x1.toNat [])):Int))) (cond (decide (0≤x2)) (cond (decide ((↑(List.length (List.getD (List.getD x4 x1.toNat []) x2.toNat [])):Int) > (20:Int))) (some (.inl (false))) (Lai n x0 x1 (wI (x2+(1:Int))) x3 x4)) none) (some (.inr ()))) none) none)
theorem qLai:type_of% @Lai.eq_2:=@Lai.eq_2
noncomputable def xLai (x0:LL) (x1 x2:Int) (x3:LI) (x4:L3):(Bool ⊕ Unit)→Ex×CS:=fun r=>match r with | .inl a0=>(.ret,⟨[(6,.v (.sc (.bool (a0))))],[],[],0,true⟩) | .inr b0=>((.exit 2),⟨[(1,vL x0),(3,.l 3 0),(7,vI x1),(45,.l 3 1)],[(3,[kD (x3),.d 31 mT (x4)])],[],0,false⟩)
abbrev cLai (x0:LL) (x1 x2:Int) (x3:LI) (x4:L3):CS:=⟨[(1,vL x0),(3,.l 3 0),(7,vI x1),(8,vI x2)],[(3,[kD (x3),.d 31 mT (x4)])],[],0,false⟩
theorem bLai (k:Nat) (cN:KN) (cX:KX) (x0:LL) (x1 x2:Int) (x3:LI) (x4:L3):zo zP (tn146 11) (TM.evF zP (tn146) dOk (k+40)) dOk (k+40) (za zP (tn0 11) 11 16) 2 16 (cLai x0 x1 x2 x3 x4) cN cX=(cond (decide (0≤x1)) (cond (decide (x1 < (x4.length:Int))) (cond (decide (x2 < (↑(List.length (List.getD x4 x1.toNat [])):Int))) (cond (decide (0≤x1)) (cond (decide (x1 < (x4.length:Int))) (cond (decide (0≤x2)) (cond (decide (x2 < (↑(List.length (List.getD x4 x1.toNat [])):Int))) (cond (decide ((↑(List.length (List.getD (List.getD x4 x1.toNat []) x2.toNat [])):Int) > (20:Int))) (cX .ret ⟨[(6,.v (.sc (.bool (false))))],[],[],0,true⟩) (cN (cLai x0 x1 (wI (x2+(1:Int))) x3 x4))) none) none) none) none) (cX (.exit 2) ⟨[(1,vL x0),(3,.l 3 0),(7,vI x1),(45,.l 3 1)],[(3,[kD (x3),.d 31 mT (x4)])],[],0,false⟩)) none) none):=by kernel_rfl
theorem lLai (k m:Nat):∀ (n:Nat) (x0:LL) (x1 x2:Int) (x3:LI) (x4:L3) (r:(Bool ⊕ Unit)),Lai n x0 x1 x2 x3 x4=some r→zA zP (tn146 11) (TM.evF zP (tn146) dOk (k+40)) dOk (k+40) (za zP (tn0 11) 11 16) 2 16 (n+m) (cLai x0 x1 x2 x3 x4)=some (xLai x0 x1 x2 x3 x4 r):=by
 intro n
 induction n with
 | zero=>intro _ _ _ _ _ r h;cases h
 | succ n ih=>
  intro x0 x1 x2 x3 x4 r
  rw [show n+1+m=n+m+1 by omega,zk,bLai,qLai]
  cases (decide (0≤x1)) with
  | true=>
   cases (decide (x1 < (x4.length:Int))) with
   | true=>
    cases (decide (x2 < (↑(List.length (List.getD x4 x1.toNat [])):Int))) with
    | true=>
     cases (decide (0≤x2)) with
     | true=>
      cases (decide ((↑(List.length (List.getD (List.getD x4 x1.toNat []) x2.toNat [])):Int) > (20:Int))) with
      | true=>
       intro h;cases h;rfl
      | false=>
       exact ih _ _ _ _ _ r
     | false=>
      intro h;cases h
    | false=>
     intro h;cases h;rfl
   | false=>
    intro h;cases h
  | false=>
   intro h;cases h
noncomputable def sLai:TellS:=fun S=>tq (mS (cLai [] 0 0 [] [])) S fun x0 x1 x2 x3 x4=>some [(isL (Lai FU x0 x1 x2 x3 x4),.ret,⟨[(6,.v (.sc (.bool ((zz (Lai FU x0 x1 x2 x3 x4))))))],[],[],0,true⟩),(ok (zn (Lai FU x0 x1 x2 x3 x4)),(.exit 2),⟨[(1,vL x0),(3,.l 3 0),(7,vI x1),(45,.l 3 1)],[(3,[kD (x3),.d 31 mT (x4)])],[],0,false⟩)]
theorem wLai:zh zP dOk base o146 t145 ((11,16),sLai):=by
 refine ⟨.loop (za zP (tn0 11) 11 16),2,by kernel_rfl,?_⟩
 intro S alts e S' h1 h2
 obtain ⟨_,rfl,g⟩:=tq_some h1
 clear h1
 change some _=_ at g
 cases g
 rcases zD h2 with ⟨hc0,rfl,rfl⟩ | h2
 · exact ⟨FU+40,(zb rfl).trans (lLai FU 40 FU _ _ _ _ _ _ (zM hc0))⟩
 obtain ⟨hc1,rfl,rfl⟩:=zf h2
 exact ⟨FU+40,(zb rfl).trans (lLai FU 40 FU _ _ _ _ _ _ (zG (zc hc1)))⟩
noncomputable def t147:TellT:=((11,16),sLai)::t145
abbrev tn147:=zd base o146 t147
theorem ok147:OKT tn147:=zi ok146 ok146 (p:=((11,16),sLai)) wLai
noncomputable def LaB:Nat→LL→Int→LI→L3→Option (Bool ⊕ Unit)
 | 0,_,_,_,_=>none
 | n+1,x0,x1,x2,x3=>(cond (decide (x1 < (x3.length:Int))) (cond (decide (0≤x1)) (cond (decide ((↑(List.length (List.getD x3 x1.toNat [])):Int) > (20:Int))) (some (.inl (false))) (cond (isL (Lai FU x0 x1 0 x2 x3)) (some (.inl (zz (Lai FU x0 x1 0 x2 x3)))) (cond (ok (zn (Lai FU x0 x1 0 x2 x3))) (LaB n x0 (wI (x1+(1:Int))) x2 x3) none))) none) (some (.inr ())))
theorem qLaB:type_of% @LaB.eq_2:=@LaB.eq_2
noncomputable def xLaB (x0:LL) (x1:Int) (x2:LI) (x3:L3):(Bool ⊕ Unit)→Ex×CS:=fun r=>match r with | .inl a0=>(.ret,⟨[(6,.v (.sc (.bool (a0))))],[],[],0,true⟩) | .inr b0=>((.exit 0),⟨[(1,vL x0),(3,.l 3 0),(31,.l 3 1)],[],[],0,false⟩)
abbrev cLaB (x0:LL) (x1:Int) (x2:LI) (x3:L3):CS:=⟨[(1,vL x0),(3,.l 3 0),(7,vI x1)],[(3,[kD (x2),.d 31 mT (x3)])],[],0,false⟩
theorem bLaB (k:Nat) (cN:KN) (cX:KX) (x0:LL) (x1:Int) (x2:LI) (x3:L3):zo zP (tn147 11) (TM.evF zP (tn147) dOk (k+40)) dOk (k+40) (za zP (tn0 11) 11 0) 0 0 (cLaB x0 x1 x2 x3) cN cX=(cond (decide (x1 < (x3.length:Int))) (cond (decide (0≤x1)) (cond (decide (x1 < (x3.length:Int))) (cond (decide ((↑(List.length (List.getD x3 x1.toNat [])):Int) > (20:Int))) (cX .ret ⟨[(6,.v (.sc (.bool (false))))],[],[],0,true⟩) (cond (isL (Lai FU x0 x1 0 x2 x3)) (cX .ret ⟨[(6,.v (.sc (.bool (zz (Lai FU x0 x1 0 x2 x3)))))],[],[],0,true⟩) (cond (ok (zn (Lai FU x0 x1 0 x2 x3))) (cN (cLaB x0 (wI (x1+(1:Int))) x2 x3)) none))) none) none) (cX (.exit 0) ⟨[(1,vL x0),(3,.l 3 0),(31,.l 3 1)],[],[],0,false⟩)):=by kernel_rfl
theorem lLaB (k m:Nat):∀ (n:Nat) (x0:LL) (x1:Int) (x2:LI) (x3:L3) (r:(Bool ⊕ Unit)),LaB n x0 x1 x2 x3=some r→zA zP (tn147 11) (TM.evF zP (tn147) dOk (k+40)) dOk (k+40) (za zP (tn0 11) 11 0) 0 0 (n+m) (cLaB x0 x1 x2 x3)=some (xLaB x0 x1 x2 x3 r):=by
 intro n
 induction n with
 | zero=>intro _ _ _ _ r h;cases h
 | succ n ih=>
  intro x0 x1 x2 x3 r
  rw [show n+1+m=n+m+1 by omega,zk,bLaB,qLaB]
  cases (decide (x1 < (x3.length:Int))) with
  | true=>
   cases (decide (0≤x1)) with
   | true=>
    cases (decide ((↑(List.length (List.getD x3 x1.toNat [])):Int) > (20:Int))) with
    | true=>
     intro h;cases h;rfl
    | false=>
     cases (isL (Lai FU x0 x1 0 x2 x3)) with
     | true=>
      intro h;cases h;rfl
     | false=>
      cases (ok (zn (Lai FU x0 x1 0 x2 x3))) with
      | true=>
       exact ih _ _ _ _ r
      | false=>
       intro h;cases h
   | false=>
    intro h;cases h
  | false=>
   intro h;cases h;rfl
noncomputable def sLaB:TellS:=fun S=>tq (mS (cLaB [] 0 [] [])) S fun x0 x1 x2 x3=>some [(isL (LaB FU x0 x1 x2 x3),.ret,⟨[(6,.v (.sc (.bool ((zz (LaB FU x0 x1 x2 x3))))))],[],[],0,true⟩),(ok (zn (LaB FU x0 x1 x2 x3)),(.exit 0),⟨[(1,vL x0),(3,.l 3 0),(31,.l 3 1)],[],[],0,false⟩)]
theorem wLaB:zh zP dOk base o146 t147 ((11,0),sLaB):=by
 refine ⟨.loop (za zP (tn0 11) 11 0),0,by kernel_rfl,?_⟩
 intro S alts e S' h1 h2
 obtain ⟨_,rfl,g⟩:=tq_some h1
 clear h1
 change some _=_ at g
 cases g
 rcases zD h2 with ⟨hc0,rfl,rfl⟩ | h2
 · exact ⟨FU+40,(zb rfl).trans (lLaB FU 40 FU _ _ _ _ _ (zM hc0))⟩
 obtain ⟨hc1,rfl,rfl⟩:=zf h2
 exact ⟨FU+40,(zb rfl).trans (lLaB FU 40 FU _ _ _ _ _ (zG (zc hc1)))⟩
noncomputable def t148:TellT:=((11,0),sLaB)::t147
abbrev tn148:=zd base o146 t148
theorem ok148:OKT tn148:=zi ok147 ok147 (p:=((11,0),sLaB)) wLaB
noncomputable def Lav:Nat→LL→Int→Option (Bool ⊕ Unit)
 | 0,_,_=>none
 | n+1,x0,x1=>(cond (decide (x1 < (x0.length:Int))) (cond (decide (0≤x1)) (cond (decide ((↑(List.length (List.getD x0 x1.toNat [])):Int) > (20:Int))) (some (.inl (false))) (Lav n x0 (wI (x1+(1:Int))))) none) (some (.inr ())))
theorem qLav:type_of% @Lav.eq_2:=@Lav.eq_2
noncomputable def xLav (x0:LL) (x1:Int):(Bool ⊕ Unit)→Ex×CS:=fun r=>match r with | .inl a0=>(.ret,⟨[(6,.v (.sc (.bool (a0))))],[],[],0,true⟩) | .inr b0=>((.exit 4),⟨[],[],[],0,false⟩)
abbrev cLav (x0:LL) (x1:Int):CS:=⟨[(1,vL x0),(9,vI x1)],[],[],0,false⟩
theorem bLav (k:Nat) (cN:KN) (cX:KX) (x0:LL) (x1:Int):zo zP (tn148 11) (TM.evF zP (tn148) dOk (k+40)) dOk (k+40) (za zP (tn0 11) 11 32) 4 32 (cLav x0 x1) cN cX=(cond (decide (x1 < (x0.length:Int))) (cond (decide (0≤x1)) (cond (decide (x1 < (x0.length:Int))) (cond (decide ((↑(List.length (List.getD x0 x1.toNat [])):Int) > (20:Int))) (cX .ret ⟨[(6,.v (.sc (.bool (false))))],[],[],0,true⟩) (cN (cLav x0 (wI (x1+(1:Int)))))) none) none) (cX (.exit 4) ⟨[],[],[],0,false⟩)):=by kernel_rfl
theorem lLav (k m:Nat):∀ (n:Nat) (x0:LL) (x1:Int) (r:(Bool ⊕ Unit)),Lav n x0 x1=some r→zA zP (tn148 11) (TM.evF zP (tn148) dOk (k+40)) dOk (k+40) (za zP (tn0 11) 11 32) 4 32 (n+m) (cLav x0 x1)=some (xLav x0 x1 r):=by
 intro n
 induction n with
 | zero=>intro _ _ r h;cases h
 | succ n ih=>
  intro x0 x1 r
  rw [show n+1+m=n+m+1 by omega,zk,bLav,qLav]
  cases (decide (x1 < (x0.length:Int))) with
  | true=>
   cases (decide (0≤x1)) with
   | true=>
    cases (decide ((↑(List.length (List.getD x0 x1.toNat [])):Int) > (20:Int))) with
    | true=>
     intro h;cases h;rfl
    | false=>
     exact ih _ _ r
   | false=>
    intro h;cases h
  | false=>
   intro h;cases h;rfl
noncomputable def sLav:TellS:=fun S=>tq (mS (cLav [] 0)) S fun x0 x1=>some [(isL (Lav FU x0 x1),.ret,⟨[(6,.v (.sc (.bool ((zz (Lav FU x0 x1))))))],[],[],0,true⟩),(ok (zn (Lav FU x0 x1)),(.exit 4),⟨[],[],[],0,false⟩)]
theorem wLav:zh zP dOk base o146 t148 ((11,32),sLav):=by
 refine ⟨.loop (za zP (tn0 11) 11 32),4,by kernel_rfl,?_⟩
 intro S alts e S' h1 h2
 obtain ⟨_,rfl,g⟩:=tq_some h1
 clear h1
 change some _=_ at g
 cases g
 rcases zD h2 with ⟨hc0,rfl,rfl⟩ | h2
 · exact ⟨FU+40,(zb rfl).trans (lLav FU 40 FU _ _ _ (zM hc0))⟩
 obtain ⟨hc1,rfl,rfl⟩:=zf h2
 exact ⟨FU+40,(zb rfl).trans (lLav FU 40 FU _ _ _ (zG (zc hc1)))⟩
noncomputable def t149:TellT:=((11,32),sLav)::t148
abbrev tn149:=zd base o146 t149
theorem ok149:OKT tn149:=zi ok148 ok148 (p:=((11,32),sLav)) wLav
noncomputable def tv11 {β:Type} (x0:LI) (x1:L3) (x2:LL) (x3:LI) (K:Bool→Option β):Option β:=(cond (decide ((x0.length:Int) > (20:Int))) (K (false)) (cond (decide ((x1.length:Int) > (20:Int))) (K (false)) (cond (decide ((x2.length:Int) > (20:Int))) (K (false)) (cond (decide ((x3.length:Int) > (20:Int))) (K (false)) (cond (isL (LaB FU x2 0 x0 x1)) (K (zz (LaB FU x2 0 x0 x1))) (cond (ok (zn (LaB FU x2 0 x0 x1))) (cond (isL (Lav FU x2 0)) (K (zz (Lav FU x2 0))) (cond (ok (zn (Lav FU x2 0))) (K (true)) none)) none))))))
noncomputable def v11 (x0:LI) (x1:L3) (x2:LL) (x3:LI):Option Bool:=tv11 x0 x1 x2 x3 some
abbrev aF11 (x0:LI) (x1:L3) (x2:LL) (x3:LI):List TA:=[.agg [kD (x0),.d 31 mT (x1)],.sc (kL x2),.sc (kD x3)]
theorem ev11 (x0:LI) (x1:L3) (x2:LL) (x3:LI):zt zP (tn149 11) (TM.evF zP (tn149) dOk 40) dOk 40 11 (aF11 x0 x1 x2 x3) []=(v11 x0 x1 x2 x3).bind fun r=>some ([.sc (.bool (r))],[]):=by
 refine Eq.trans (b:=tv11 x0 x1 x2 x3 fun r=>some ([.sc (.bool (r))],[])) (by kernel_rfl) ?_
 unfold v11 tv11
 with_reducible repeat' refine zp ?_ ?_
 all_goals rfl
noncomputable def sv11:OrcS:=fun al H=>tqa (aF11 [] [] [] []) [] al H fun x0 x1 x2 x3=>some [(ok (v11 x0 x1 x2 x3),[.sc (.bool ((val (v11 x0 x1 x2 x3))))],[])]
theorem wv11:zq zP dOk base o146 t149 (11,sv11):=by
 intro al H q hq rs H2 h2
 obtain ⟨_,_,rfl,rfl,g⟩:=tqa_some hq
 clear hq
 change some _=_ at g
 cases g
 obtain ⟨hc0,rfl,rfl⟩:=zg h2
 exact ⟨41,(zy (by kernel_rfl)).trans ((ev11 _ _ _ _).trans (zm (zc hc0)))⟩
noncomputable def o150:OrcT:=(11,sv11)::o146
abbrev tn150:=zd base o150 t149
theorem ok150:OKT tn150:=zr ok149 ok149 (p:=(11,sv11)) wv11
noncomputable def Lbq:Nat→LI→LI→Int→Option (Bool ⊕ Unit)
 | 0,_,_,_=>none
 | n+1,x0,x1,x2=>(cond (decide (x2 < (x0.length:Int))) (cond (decide (0≤x2)) (cond (decide (x2 < (x1.length:Int))) (cond (List.getD x0 x2.toNat 0 != List.getD x1 x2.toNat 0) (some (.inl (false))) (Lbq n x0 x1 (wI (x2+(1:Int))))) none) none) (some (.inr ())))
theorem qLbq:type_of% @Lbq.eq_2:=@Lbq.eq_2
noncomputable def xLbq (x0:LI) (x1:LI) (x2:Int):(Bool ⊕ Unit)→Ex×CS:=fun r=>match r with | .inl a0=>(.ret,⟨[(4,.v (.sc (.bool (a0))))],[],[],0,true⟩) | .inr b0=>((.exit 0),⟨[],[],[],0,false⟩)
abbrev cLbq (x0:LI) (x1:LI) (x2:Int):CS:=⟨[(0,vD x0),(1,vD x1),(5,vI x2)],[],[],0,false⟩
theorem bLbq (k:Nat) (cN:KN) (cX:KX) (x0:LI) (x1:LI) (x2:Int):zo zP (tn150 36) (TM.evF zP (tn150) dOk (k+40)) dOk (k+40) (za zP (tn0 36) 36 0) 0 0 (cLbq x0 x1 x2) cN cX=(cond (decide (x2 < (x0.length:Int))) (cond (decide (0≤x2)) (cond (decide (x2 < (x0.length:Int))) (cond (decide (0≤x2)) (cond (decide (x2 < (x1.length:Int))) (cond (List.getD x0 x2.toNat 0 != List.getD x1 x2.toNat 0) (cX .ret ⟨[(4,.v (.sc (.bool (false))))],[],[],0,true⟩) (cN (cLbq x0 x1 (wI (x2+(1:Int)))))) none) none) none) none) (cX (.exit 0) ⟨[],[],[],0,false⟩)):=by kernel_rfl
theorem lLbq (k m:Nat):∀ (n:Nat) (x0:LI) (x1:LI) (x2:Int) (r:(Bool ⊕ Unit)),Lbq n x0 x1 x2=some r→zA zP (tn150 36) (TM.evF zP (tn150) dOk (k+40)) dOk (k+40) (za zP (tn0 36) 36 0) 0 0 (n+m) (cLbq x0 x1 x2)=some (xLbq x0 x1 x2 r):=by
 intro n
 induction n with
 | zero=>intro _ _ _ r h;cases h
 | succ n ih=>
  intro x0 x1 x2 r
  rw [show n+1+m=n+m+1 by omega,zk,bLbq,qLbq]
  cases (decide (x2 < (x0.length:Int))) with
  | true=>
   cases (decide (0≤x2)) with
   | true=>
    cases (decide (x2 < (x1.length:Int))) with
    | true=>
     cases (List.getD x0 x2.toNat 0 != List.getD x1 x2.toNat 0) with
     | true=>
      intro h;cases h;rfl
     | false=>
      exact ih _ _ _ r
    | false=>
     intro h;cases h
   | false=>
    intro h;cases h
  | false=>
   intro h;cases h;rfl
noncomputable def sLbq:TellS:=fun S=>tq (mS (cLbq [] [] 0)) S fun x0 x1 x2=>some [(isL (Lbq FU x0 x1 x2),.ret,⟨[(4,.v (.sc (.bool ((zz (Lbq FU x0 x1 x2))))))],[],[],0,true⟩),(ok (zn (Lbq FU x0 x1 x2)),(.exit 0),⟨[],[],[],0,false⟩)]
theorem wLbq:zh zP dOk base o150 t149 ((36,0),sLbq):=by
 refine ⟨.loop (za zP (tn0 36) 36 0),0,by kernel_rfl,?_⟩
 intro S alts e S' h1 h2
 obtain ⟨_,rfl,g⟩:=tq_some h1
 clear h1
 change some _=_ at g
 cases g
 rcases zD h2 with ⟨hc0,rfl,rfl⟩ | h2
 · exact ⟨FU+40,(zb rfl).trans (lLbq FU 40 FU _ _ _ _ (zM hc0))⟩
 obtain ⟨hc1,rfl,rfl⟩:=zf h2
 exact ⟨FU+40,(zb rfl).trans (lLbq FU 40 FU _ _ _ _ (zG (zc hc1)))⟩
noncomputable def t151:TellT:=((36,0),sLbq)::t149
abbrev tn151:=zd base o150 t151
theorem ok151:OKT tn151:=zi ok150 ok150 (p:=((36,0),sLbq)) wLbq
noncomputable def tv36 {β:Type} (x0:LI) (x1:LI) (K:Bool→Option β):Option β:=(cond ((x0.length:Int) != (x1.length:Int)) (K (false)) (cond (isL (Lbq FU x0 x1 0)) (K (zz (Lbq FU x0 x1 0))) (cond (ok (zn (Lbq FU x0 x1 0))) (K (true)) none)))
noncomputable def v36 (x0:LI) (x1:LI):Option Bool:=tv36 x0 x1 some
abbrev aF36 (x0:LI) (x1:LI):List TA:=[.sc (kD x0),.sc (kD x1)]
theorem ev36 (x0:LI) (x1:LI):zt zP (tn151 36) (TM.evF zP (tn151) dOk 40) dOk 40 36 (aF36 x0 x1) []=(v36 x0 x1).bind fun r=>some ([.sc (.bool (r))],[]):=by
 refine Eq.trans (b:=tv36 x0 x1 fun r=>some ([.sc (.bool (r))],[])) (by kernel_rfl) ?_
 unfold v36 tv36
 with_reducible repeat' refine zp ?_ ?_
 all_goals rfl
noncomputable def sv36:OrcS:=fun al H=>tqa (aF36 [] []) [] al H fun x0 x1=>some [(ok (v36 x0 x1),[.sc (.bool ((val (v36 x0 x1))))],[])]
theorem wv36:zq zP dOk base o150 t151 (36,sv36):=by
 intro al H q hq rs H2 h2
 obtain ⟨_,_,rfl,rfl,g⟩:=tqa_some hq
 clear hq
 change some _=_ at g
 cases g
 obtain ⟨hc0,rfl,rfl⟩:=zg h2
 exact ⟨41,(zy (by kernel_rfl)).trans ((ev36 _ _).trans (zm (zc hc0)))⟩
noncomputable def o152:OrcT:=(36,sv36)::o150
abbrev tn152:=zd base o152 t151
theorem ok152:OKT tn152:=zr ok151 ok151 (p:=(36,sv36)) wv36
noncomputable def Lbk:Nat→Int→LL→LI→Int→LL→LI→Int→Option (Bool ⊕ Unit)
 | 0,_,_,_,_,_,_,_=>none
 | n+1,x0,x1,x2,x3,x4,x5,x6=>(cond (decide (x0 < (x1.length:Int))) (cond (decide (0≤x0)) (cond (decide (x0 < (x4.length:Int))) (cond (ok (v36 (List.getD x1 x0.toNat []) (List.getD x4 x0.toNat []))) (cond (!val (v36 (List.getD x1 x0.toNat []) (List.getD x4 x0.toNat []))) (some (.inl (false))) (Lbk n (wI (x0+(1:Int))) x1 x2 x3 x4 x5 x6)) none) none) none) (some (.inr ())))
theorem qLbk:type_of% @Lbk.eq_2:=@Lbk.eq_2
noncomputable def xLbk (x0:Int) (x1:LL) (x2:LI) (x3:Int) (x4:LL) (x5:LI) (x6:Int):(Bool ⊕ Unit)→Ex×CS:=fun r=>match r with | .inl a0=>(.ret,⟨[(4,.v (.sc (.bool (a0))))],[],[],0,true⟩) | .inr b0=>((.exit 0),⟨[(2,.l 2 0),(3,.l 3 0),(32,.l 2 0)],[],[],0,false⟩)
abbrev cLbk (x0:Int) (x1:LL) (x2:LI) (x3:Int) (x4:LL) (x5:LI) (x6:Int):CS:=⟨[(2,.l 2 0),(3,.l 3 0),(6,vI x0)],[(2,[kL (x1),kD (x2),I4 (x3)]),(3,[kL (x4),kD (x5),I4 (x6)])],[],0,false⟩
theorem bLbk (k:Nat) (cN:KN) (cX:KX) (x0:Int) (x1:LL) (x2:LI) (x3:Int) (x4:LL) (x5:LI) (x6:Int):zo zP (tn152 16) (TM.evF zP (tn152) dOk (k+40)) dOk (k+40) (za zP (tn0 16) 16 0) 0 0 (cLbk x0 x1 x2 x3 x4 x5 x6) cN cX=(cond (decide (x0 < (x1.length:Int))) (cond (decide (0≤x0)) (cond (decide (x0 < (x1.length:Int))) (cond (decide (0≤x0)) (cond (decide (x0 < (x4.length:Int))) (cond (ok (v36 (List.getD x1 x0.toNat []) (List.getD x4 x0.toNat []))) (cond (!val (v36 (List.getD x1 x0.toNat []) (List.getD x4 x0.toNat []))) (cX .ret ⟨[(4,.v (.sc (.bool (false))))],[],[],0,true⟩) (cN (cLbk (wI (x0+(1:Int))) x1 x2 x3 x4 x5 x6))) none) none) none) none) none) (cX (.exit 0) ⟨[(2,.l 2 0),(3,.l 3 0),(32,.l 2 0)],[],[],0,false⟩)):=by kernel_rfl
theorem lLbk (k m:Nat):∀ (n:Nat) (x0:Int) (x1:LL) (x2:LI) (x3:Int) (x4:LL) (x5:LI) (x6:Int) (r:(Bool ⊕ Unit)),Lbk n x0 x1 x2 x3 x4 x5 x6=some r→zA zP (tn152 16) (TM.evF zP (tn152) dOk (k+40)) dOk (k+40) (za zP (tn0 16) 16 0) 0 0 (n+m) (cLbk x0 x1 x2 x3 x4 x5 x6)=some (xLbk x0 x1 x2 x3 x4 x5 x6 r):=by
 intro n
 induction n with
 | zero=>intro _ _ _ _ _ _ _ r h;cases h
 | succ n ih=>
  intro x0 x1 x2 x3 x4 x5 x6 r
  rw [show n+1+m=n+m+1 by omega,zk,bLbk,qLbk]
  cases (decide (x0 < (x1.length:Int))) with
  | true=>
   cases (decide (0≤x0)) with
   | true=>
    cases (decide (x0 < (x4.length:Int))) with
    | true=>
     cases (ok (v36 (List.getD x1 x0.toNat []) (List.getD x4 x0.toNat []))) with
     | true=>
      cases (!val (v36 (List.getD x1 x0.toNat []) (List.getD x4 x0.toNat []))) with
      | true=>
       intro h;cases h;rfl
      | false=>
       exact ih _ _ _ _ _ _ _ r
     | false=>
      intro h;cases h
    | false=>
     intro h;cases h
   | false=>
    intro h;cases h
  | false=>
   intro h;cases h;rfl
noncomputable def sLbk:TellS:=fun S=>tq (mS (cLbk 0 [] [] 0 [] [] 0)) S fun x0 x1 x2 x3 x4 x5 x6=>some [(isL (Lbk FU x0 x1 x2 x3 x4 x5 x6),.ret,⟨[(4,.v (.sc (.bool ((zz (Lbk FU x0 x1 x2 x3 x4 x5 x6))))))],[],[],0,true⟩),(ok (zn (Lbk FU x0 x1 x2 x3 x4 x5 x6)),(.exit 0),⟨[(2,.l 2 0),(3,.l 3 0),(32,.l 2 0)],[],[],0,false⟩)]
theorem wLbk:zh zP dOk base o152 t151 ((16,0),sLbk):=by
 refine ⟨.loop (za zP (tn0 16) 16 0),0,by kernel_rfl,?_⟩
 intro S alts e S' h1 h2
 obtain ⟨_,rfl,g⟩:=tq_some h1
 clear h1
 change some _=_ at g
 cases g
 rcases zD h2 with ⟨hc0,rfl,rfl⟩ | h2
 · exact ⟨FU+40,(zb rfl).trans (lLbk FU 40 FU _ _ _ _ _ _ _ _ (zM hc0))⟩
 obtain ⟨hc1,rfl,rfl⟩:=zf h2
 exact ⟨FU+40,(zb rfl).trans (lLbk FU 40 FU _ _ _ _ _ _ _ _ (zG (zc hc1)))⟩
noncomputable def t153:TellT:=((16,0),sLbk)::t151
abbrev tn153:=zd base o152 t153
theorem ok153:OKT tn153:=zi ok152 ok152 (p:=((16,0),sLbk)) wLbk
noncomputable def tv16 {β:Type} (x0:LL) (x1:LI) (x2:Int) (x3:LL) (x4:LI) (x5:Int) (K:Bool→Option β):Option β:=(cond (ok (v36 x1 x4)) (cond (!val (v36 x1 x4)) (K (false)) (cond (x2 != x5) (K (false)) (cond ((x0.length:Int) != (x3.length:Int)) (K (false)) (cond (isL (Lbk FU 0 x0 x1 x2 x3 x4 x5)) (K (zz (Lbk FU 0 x0 x1 x2 x3 x4 x5))) (cond (ok (zn (Lbk FU 0 x0 x1 x2 x3 x4 x5))) (K (true)) none))))) none)
noncomputable def v16 (x0:LL) (x1:LI) (x2:Int) (x3:LL) (x4:LI) (x5:Int):Option Bool:=tv16 x0 x1 x2 x3 x4 x5 some
abbrev aF16 (x0:LL) (x1:LI) (x2:Int) (x3:LL) (x4:LI) (x5:Int):List TA:=[.agg [kL (x0),kD (x1),I4 (x2)],.agg [kL (x3),kD (x4),I4 (x5)]]
theorem ev16 (x0:LL) (x1:LI) (x2:Int) (x3:LL) (x4:LI) (x5:Int):zt zP (tn153 16) (TM.evF zP (tn153) dOk 40) dOk 40 16 (aF16 x0 x1 x2 x3 x4 x5) []=(v16 x0 x1 x2 x3 x4 x5).bind fun r=>some ([.sc (.bool (r))],[]):=by
 refine Eq.trans (b:=tv16 x0 x1 x2 x3 x4 x5 fun r=>some ([.sc (.bool (r))],[])) (by kernel_rfl) ?_
 unfold v16 tv16
 with_reducible repeat' refine zp ?_ ?_
 all_goals rfl
noncomputable def sv16:OrcS:=fun al H=>tqa (aF16 [] [] 0 [] [] 0) [] al H fun x0 x1 x2 x3 x4 x5=>some [(ok (v16 x0 x1 x2 x3 x4 x5),[.sc (.bool ((val (v16 x0 x1 x2 x3 x4 x5))))],[])]
theorem wv16:zq zP dOk base o152 t153 (16,sv16):=by
 intro al H q hq rs H2 h2
 obtain ⟨_,_,rfl,rfl,g⟩:=tqa_some hq
 clear hq
 change some _=_ at g
 cases g
 obtain ⟨hc0,rfl,rfl⟩:=zg h2
 exact ⟨41,(zy (by kernel_rfl)).trans ((ev16 _ _ _ _ _ _).trans (zm (zc hc0)))⟩
noncomputable def o154:OrcT:=(16,sv16)::o152
abbrev tn154:=zd base o154 t153
theorem ok154:OKT tn154:=zr ok153 ok153 (p:=(16,sv16)) wv16
noncomputable def tv27 {β:Type} (x0:LI) (x1:L3) (x2:LL) (x3:LI) (x4:Int) (K:Bool→Option β):Option β:=(cond (ok (v14 x0 x1 0)) (cond ((val (v14 x0 x1 0)).2.2.2==0) (cond (ok (v16 (val (v14 x0 x1 0)).1 (val (v14 x0 x1 0)).2.1 (val (v14 x0 x1 0)).2.2.1 x2 x3 x4)) (K (val (v16 (val (v14 x0 x1 0)).1 (val (v14 x0 x1 0)).2.1 (val (v14 x0 x1 0)).2.2.1 x2 x3 x4))) none) (K (false))) none)
noncomputable def v27 (x0:LI) (x1:L3) (x2:LL) (x3:LI) (x4:Int):Option Bool:=tv27 x0 x1 x2 x3 x4 some
abbrev aF27 (x0:LI) (x1:L3) (x2:LL) (x3:LI) (x4:Int):List TA:=[.agg [kD (x0),.d 31 mT (x1)],.agg [kL (x2),kD (x3),I4 (x4)]]
theorem ev27 (x0:LI) (x1:L3) (x2:LL) (x3:LI) (x4:Int):zt zP (tn154 27) (TM.evF zP (tn154) dOk 40) dOk 40 27 (aF27 x0 x1 x2 x3 x4) []=(v27 x0 x1 x2 x3 x4).bind fun r=>some ([.sc (.bool (r))],[]):=by
 refine Eq.trans (b:=tv27 x0 x1 x2 x3 x4 fun r=>some ([.sc (.bool (r))],[])) (by kernel_rfl) ?_
 unfold v27 tv27
 with_reducible repeat' refine zp ?_ ?_
 all_goals rfl
noncomputable def sv27:OrcS:=fun al H=>tqa (aF27 [] [] [] [] 0) [] al H fun x0 x1 x2 x3 x4=>some [(ok (v27 x0 x1 x2 x3 x4),[.sc (.bool ((val (v27 x0 x1 x2 x3 x4))))],[])]
theorem wv27:zq zP dOk base o154 t153 (27,sv27):=by
 intro al H q hq rs H2 h2
 obtain ⟨_,_,rfl,rfl,g⟩:=tqa_some hq
 clear hq
 change some _=_ at g
 cases g
 obtain ⟨hc0,rfl,rfl⟩:=zg h2
 exact ⟨41,(zy (by kernel_rfl)).trans ((ev27 _ _ _ _ _).trans (zm (zc hc0)))⟩
noncomputable def o155:OrcT:=(27,sv27)::o154
abbrev tn155:=zd base o155 t153
theorem ok155:OKT tn155:=zr ok154 ok154 (p:=(27,sv27)) wv27
noncomputable def Lbb (x0:Bool) (x1 x2 x3 x4 x5 x6:Int) (x7:LL) (x8:LI) (x9:Int):Option Bool:=(cond x0 (cond (x3==0) (cond (x1==(1:Int)) (cond (x2==(4:Int)) (cond (x4==(4:Int)) (cond (x5==(1:Int)) (cond (x6==0) (some (x9==0)) (some (false))) (some (false))) (some (false))) (some (false))) (some (false))) (some (false))) (some (false)))
noncomputable def xLbb (x0:Bool) (x1 x2 x3 x4 x5 x6:Int) (x7:LL) (x8:LI) (x9:Int):Bool→Ex×CS:=fun r=>(.ret,⟨[(0,.v (.sc (.bool (r))))],[],[],0,true⟩)
abbrev cLbb (x0:Bool) (x1 x2 x3 x4 x5 x6:Int) (x7:LL) (x8:LI) (x9:Int):CS:=⟨[(4,.v (.sc (.bool x0))),(5,vI x1),(6,vI x2),(7,vI x3),(9,vI x4),(11,vI x5),(12,.l 12 0),(13,vI x6)],[(12,[kL (x7),kD (x8),I4 (x9)])],[],0,false⟩
theorem bLbb (k:Nat) (cX:Ex→CS→Option (Ex×CS)) (x0:Bool) (x1 x2 x3 x4 x5 x6:Int) (x7:LL) (x8:LI) (x9:Int):zl zP (tn155 10) (TM.evF zP (tn155) dOk (k+40)) dOk (k+40) (za zP (tn0 10) 10 76) 0 76 (cLbb x0 x1 x2 x3 x4 x5 x6 x7 x8 x9) cX=(cond x0 (cond (x3==0) (cond (x1==(1:Int)) (cond (x2==(4:Int)) (cond (x4==(4:Int)) (cond (x5==(1:Int)) (cond (x6==0) (cP cX (xLbb x0 x1 x2 x3 x4 x5 x6 x7 x8 x9 (x9==0))) (cP cX (xLbb x0 x1 x2 x3 x4 x5 x6 x7 x8 x9 (false)))) (cP cX (xLbb x0 x1 x2 x3 x4 x5 x6 x7 x8 x9 (false)))) (cP cX (xLbb x0 x1 x2 x3 x4 x5 x6 x7 x8 x9 (false)))) (cP cX (xLbb x0 x1 x2 x3 x4 x5 x6 x7 x8 x9 (false)))) (cP cX (xLbb x0 x1 x2 x3 x4 x5 x6 x7 x8 x9 (false)))) (cP cX (xLbb x0 x1 x2 x3 x4 x5 x6 x7 x8 x9 (false)))) (cP cX (xLbb x0 x1 x2 x3 x4 x5 x6 x7 x8 x9 (false)))):=by kernel_rfl
theorem lLbb (k:Nat) (x0:Bool) (x1 x2 x3 x4 x5 x6:Int) (x7:LL) (x8:LI) (x9:Int) (r:Bool):Lbb x0 x1 x2 x3 x4 x5 x6 x7 x8 x9=some r→zl zP (tn155 10) (TM.evF zP (tn155) dOk (k+40)) dOk (k+40) (za zP (tn0 10) 10 76) 0 76 (cLbb x0 x1 x2 x3 x4 x5 x6 x7 x8 x9) (fun e s=>some (e,s))=some (xLbb x0 x1 x2 x3 x4 x5 x6 x7 x8 x9 r):=by
 rw [bLbb]
 unfold Lbb
 refine ze ?_ ?_
 refine ze ?_ ?_
 refine ze ?_ ?_
 refine ze ?_ ?_
 refine ze ?_ ?_
 refine ze ?_ ?_
 refine ze ?_ ?_
 intro h;cases h;rfl
 intro h;cases h;rfl
 intro h;cases h;rfl
 intro h;cases h;rfl
 intro h;cases h;rfl
 intro h;cases h;rfl
 intro h;cases h;rfl
 intro h;cases h;rfl
noncomputable def sLbb:TellS:=fun S=>tq (mS (cLbb false 0 0 0 0 0 0 [] [] 0)) S fun x0 x1 x2 x3 x4 x5 x6 x7 x8 x9=>some [(ok (Lbb x0 x1 x2 x3 x4 x5 x6 x7 x8 x9),.ret,⟨[(0,.v (.sc (.bool ((val (Lbb x0 x1 x2 x3 x4 x5 x6 x7 x8 x9))))))],[],[],0,true⟩)]
theorem wLbb:zh zP dOk base o155 t153 ((10,76),sLbb):=by
 refine ⟨(za zP (tn0 10) 10 76),0,by kernel_rfl,?_⟩
 intro S alts e S' h1 h2
 obtain ⟨_,rfl,g⟩:=tq_some h1
 clear h1
 change some _=_ at g
 cases g
 obtain ⟨hc0,rfl,rfl⟩:=zf h2
 exact ⟨0+40,(zx rfl).trans (lLbb 0 _ _ _ _ _ _ _ _ _ _ _ (zc hc0))⟩
noncomputable def t156:TellT:=((10,76),sLbb)::t153
abbrev tn156:=zd base o155 t156
theorem ok156:OKT tn156:=zi ok155 ok155 (p:=((10,76),sLbb)) wLbb
noncomputable def Lcb (x0:Bool) (x1 x2 x3 x4 x5:Int) (x6:LI) (x7:L3):Option Bool:=(cond (ok (v14 x6 x7 (9:Int))) (cond (ok (Lbb x0 x1 x2 x3 x4 x5 (val (v14 x6 x7 (9:Int))).2.2.2 (val (v14 x6 x7 (9:Int))).1 (val (v14 x6 x7 (9:Int))).2.1 (val (v14 x6 x7 (9:Int))).2.2.1)) (some (val (Lbb x0 x1 x2 x3 x4 x5 (val (v14 x6 x7 (9:Int))).2.2.2 (val (v14 x6 x7 (9:Int))).1 (val (v14 x6 x7 (9:Int))).2.1 (val (v14 x6 x7 (9:Int))).2.2.1))) none) none)
noncomputable def xLcb (x0:Bool) (x1 x2 x3 x4 x5:Int) (x6:LI) (x7:L3):Bool→Ex×CS:=fun r=>(.ret,⟨[(0,.v (.sc (.bool (r))))],[],[],0,true⟩)
abbrev cLcb (x0:Bool) (x1 x2 x3 x4 x5:Int) (x6:LI) (x7:L3):CS:=⟨[(1,.l 1 0),(4,.v (.sc (.bool x0))),(5,vI x1),(6,vI x2),(7,vI x3),(9,vI x4),(11,vI x5)],[(1,[kD (x6),.d 31 mT (x7)])],[],0,false⟩
theorem bLcb (k:Nat) (cX:Ex→CS→Option (Ex×CS)) (x0:Bool) (x1 x2 x3 x4 x5:Int) (x6:LI) (x7:L3):zl zP (tn156 10) (TM.evF zP (tn156) dOk (k+40)) dOk (k+40) (za zP (tn0 10) 10 68) 0 68 (cLcb x0 x1 x2 x3 x4 x5 x6 x7) cX=(ob (v14 x6 x7 (9:Int)) fun r1=>(ob (Lbb x0 x1 x2 x3 x4 x5 r1.2.2.2 r1.1 r1.2.1 r1.2.2.1) fun r2=>(cP cX (xLcb x0 x1 x2 x3 x4 x5 x6 x7 r2)))):=by kernel_rfl
theorem lLcb (k:Nat) (x0:Bool) (x1 x2 x3 x4 x5:Int) (x6:LI) (x7:L3) (r:Bool):Lcb x0 x1 x2 x3 x4 x5 x6 x7=some r→zl zP (tn156 10) (TM.evF zP (tn156) dOk (k+40)) dOk (k+40) (za zP (tn0 10) 10 68) 0 68 (cLcb x0 x1 x2 x3 x4 x5 x6 x7) (fun e s=>some (e,s))=some (xLcb x0 x1 x2 x3 x4 x5 x6 x7 r):=by
 rw [bLcb]
 unfold Lcb
 refine ze ?_ ?_
 refine ze ?_ ?_
 intro h;cases h;rfl
 intro h;cases h
 intro h;cases h
noncomputable def sLcb:TellS:=fun S=>tq (mS (cLcb false 0 0 0 0 0 [] [])) S fun x0 x1 x2 x3 x4 x5 x6 x7=>some [(ok (Lcb x0 x1 x2 x3 x4 x5 x6 x7),.ret,⟨[(0,.v (.sc (.bool ((val (Lcb x0 x1 x2 x3 x4 x5 x6 x7))))))],[],[],0,true⟩)]
theorem wLcb:zh zP dOk base o155 t156 ((10,68),sLcb):=by
 refine ⟨(za zP (tn0 10) 10 68),0,by kernel_rfl,?_⟩
 intro S alts e S' h1 h2
 obtain ⟨_,rfl,g⟩:=tq_some h1
 clear h1
 change some _=_ at g
 cases g
 obtain ⟨hc0,rfl,rfl⟩:=zf h2
 exact ⟨0+40,(zx rfl).trans (lLcb 0 _ _ _ _ _ _ _ _ _ (zc hc0))⟩
noncomputable def t157:TellT:=((10,68),sLcb)::t156
abbrev tn157:=zd base o155 t157
theorem ok157:OKT tn157:=zi ok156 ok156 (p:=((10,68),sLcb)) wLcb
noncomputable def Lca (x0:Bool) (x1 x2 x3 x4:Int) (x5:LI) (x6:L3):Option Bool:=(cond (ok (v14 x5 x6 (-1:Int))) (cond (ok (Lcb x0 x1 x2 x3 x4 (val (v14 x5 x6 (-1:Int))).2.2.2 x5 x6)) (some (val (Lcb x0 x1 x2 x3 x4 (val (v14 x5 x6 (-1:Int))).2.2.2 x5 x6))) none) none)
noncomputable def xLca (x0:Bool) (x1 x2 x3 x4:Int) (x5:LI) (x6:L3):Bool→Ex×CS:=fun r=>(.ret,⟨[(0,.v (.sc (.bool (r))))],[],[],0,true⟩)
abbrev cLca (x0:Bool) (x1 x2 x3 x4:Int) (x5:LI) (x6:L3):CS:=⟨[(1,.l 1 0),(4,.v (.sc (.bool x0))),(5,vI x1),(6,vI x2),(7,vI x3),(9,vI x4)],[(1,[kD (x5),.d 31 mT (x6)])],[],0,false⟩
theorem bLca (k:Nat) (cX:Ex→CS→Option (Ex×CS)) (x0:Bool) (x1 x2 x3 x4:Int) (x5:LI) (x6:L3):zl zP (tn157 10) (TM.evF zP (tn157) dOk (k+40)) dOk (k+40) (za zP (tn0 10) 10 60) 0 60 (cLca x0 x1 x2 x3 x4 x5 x6) cX=(cond (ok (v14 x5 x6 (-1:Int))) (ob (Lcb x0 x1 x2 x3 x4 (val (v14 x5 x6 (-1:Int))).2.2.2 x5 x6) fun r1=>(cP cX (xLca x0 x1 x2 x3 x4 x5 x6 r1))) none):=by kernel_rfl
theorem lLca (k:Nat) (x0:Bool) (x1 x2 x3 x4:Int) (x5:LI) (x6:L3) (r:Bool):Lca x0 x1 x2 x3 x4 x5 x6=some r→zl zP (tn157 10) (TM.evF zP (tn157) dOk (k+40)) dOk (k+40) (za zP (tn0 10) 10 60) 0 60 (cLca x0 x1 x2 x3 x4 x5 x6) (fun e s=>some (e,s))=some (xLca x0 x1 x2 x3 x4 x5 x6 r):=by
 rw [bLca]
 unfold Lca
 refine ze ?_ ?_
 refine ze ?_ ?_
 intro h;cases h;rfl
 intro h;cases h
 intro h;cases h
noncomputable def sLca:TellS:=fun S=>tq (mS (cLca false 0 0 0 0 [] [])) S fun x0 x1 x2 x3 x4 x5 x6=>some [(ok (Lca x0 x1 x2 x3 x4 x5 x6),.ret,⟨[(0,.v (.sc (.bool ((val (Lca x0 x1 x2 x3 x4 x5 x6))))))],[],[],0,true⟩)]
theorem wLca:zh zP dOk base o155 t157 ((10,60),sLca):=by
 refine ⟨(za zP (tn0 10) 10 60),0,by kernel_rfl,?_⟩
 intro S alts e S' h1 h2
 obtain ⟨_,rfl,g⟩:=tq_some h1
 clear h1
 change some _=_ at g
 cases g
 obtain ⟨hc0,rfl,rfl⟩:=zf h2
 exact ⟨0+40,(zx rfl).trans (lLca 0 _ _ _ _ _ _ _ _ (zc hc0))⟩
noncomputable def t158:TellT:=((10,60),sLca)::t157
abbrev tn158:=zd base o155 t158
theorem ok158:OKT tn158:=zi ok157 ok157 (p:=((10,60),sLca)) wLca
noncomputable def LbY (x0:Bool) (x1 x2 x3:Int) (x4:LI) (x5:L3):Option Bool:=(cond (ok (Lca x0 x1 x2 x3 (val (v14 [0] [[[0]]] (5:Int))).2.2.2 x4 x5)) (some (val (Lca x0 x1 x2 x3 (val (v14 [0] [[[0]]] (5:Int))).2.2.2 x4 x5))) none)
noncomputable def xLbY (x0:Bool) (x1 x2 x3:Int) (x4:LI) (x5:L3):Bool→Ex×CS:=fun r=>(.ret,⟨[(0,.v (.sc (.bool (r))))],[],[],0,true⟩)
abbrev cLbY (x0:Bool) (x1 x2 x3:Int) (x4:LI) (x5:L3):CS:=⟨[(1,.l 1 0),(4,.v (.sc (.bool x0))),(5,vI x1),(6,vI x2),(7,vI x3)],[(1,[kD (x4),.d 31 mT (x5)])],[],0,false⟩
theorem bLbY (k:Nat) (cX:Ex→CS→Option (Ex×CS)) (x0:Bool) (x1 x2 x3:Int) (x4:LI) (x5:L3):zl zP (tn158 10) (TM.evF zP (tn158) dOk (k+40)) dOk (k+40) (za zP (tn0 10) 10 52) 0 52 (cLbY x0 x1 x2 x3 x4 x5) cX=(ob (Lca x0 x1 x2 x3 (val (v14 [0] [[[0]]] (5:Int))).2.2.2 x4 x5) fun r1=>(cP cX (xLbY x0 x1 x2 x3 x4 x5 r1))):=by kernel_rfl
theorem lLbY (k:Nat) (x0:Bool) (x1 x2 x3:Int) (x4:LI) (x5:L3) (r:Bool):LbY x0 x1 x2 x3 x4 x5=some r→zl zP (tn158 10) (TM.evF zP (tn158) dOk (k+40)) dOk (k+40) (za zP (tn0 10) 10 52) 0 52 (cLbY x0 x1 x2 x3 x4 x5) (fun e s=>some (e,s))=some (xLbY x0 x1 x2 x3 x4 x5 r):=by
 rw [bLbY]
 unfold LbY
 refine ze ?_ ?_
 intro h;cases h;rfl
 intro h;cases h
noncomputable def sLbY:TellS:=fun S=>tq (mS (cLbY false 0 0 0 [] [])) S fun x0 x1 x2 x3 x4 x5=>some [(ok (LbY x0 x1 x2 x3 x4 x5),.ret,⟨[(0,.v (.sc (.bool ((val (LbY x0 x1 x2 x3 x4 x5))))))],[],[],0,true⟩)]
theorem wLbY:zh zP dOk base o155 t158 ((10,52),sLbY):=by
 refine ⟨(za zP (tn0 10) 10 52),0,by kernel_rfl,?_⟩
 intro S alts e S' h1 h2
 obtain ⟨_,rfl,g⟩:=tq_some h1
 clear h1
 change some _=_ at g
 cases g
 obtain ⟨hc0,rfl,rfl⟩:=zf h2
 exact ⟨0+40,(zx rfl).trans (lLbY 0 _ _ _ _ _ _ _ (zc hc0))⟩
noncomputable def t159:TellT:=((10,52),sLbY)::t158
abbrev tn159:=zd base o155 t159
theorem ok159:OKT tn159:=zi ok158 ok158 (p:=((10,52),sLbY)) wLbY
noncomputable def LaT (x0:Bool) (x1:LI) (x2:L3) (x3:LI) (x4:L3):Option Bool:=(cond (ok (v12 x3 x4 [(3:Int),(4:Int)] 0)) (cond (ok (LbY x0 (val (v12 x3 x4 [(3:Int),(4:Int)] 0)).1 (val (v12 x3 x4 [(3:Int),(4:Int)] 0)).2.1 (val (v12 x3 x4 [(3:Int),(4:Int)] 0)).2.2 x1 x2)) (some (val (LbY x0 (val (v12 x3 x4 [(3:Int),(4:Int)] 0)).1 (val (v12 x3 x4 [(3:Int),(4:Int)] 0)).2.1 (val (v12 x3 x4 [(3:Int),(4:Int)] 0)).2.2 x1 x2))) none) none)
noncomputable def xLaT (x0:Bool) (x1:LI) (x2:L3) (x3:LI) (x4:L3):Bool→Ex×CS:=fun r=>(.ret,⟨[(0,.v (.sc (.bool (r))))],[],[],0,true⟩)
abbrev cLaT (x0:Bool) (x1:LI) (x2:L3) (x3:LI) (x4:L3):CS:=⟨[(1,.l 1 0),(3,.l 3 0),(4,.v (.sc (.bool x0)))],[(1,[kD (x1),.d 31 mT (x2)]),(3,[kD (x3),.d 31 mT (x4)])],[],0,false⟩
theorem bLaT (k:Nat) (cX:Ex→CS→Option (Ex×CS)) (x0:Bool) (x1:LI) (x2:L3) (x3:LI) (x4:L3):zl zP (tn159 10) (TM.evF zP (tn159) dOk (k+40)) dOk (k+40) (za zP (tn0 10) 10 44) 0 44 (cLaT x0 x1 x2 x3 x4) cX=(ob (v12 x3 x4 [(3:Int),(4:Int)] 0) fun r1=>(cond (ok (LbY x0 r1.1 r1.2.1 r1.2.2 x1 x2)) (cP cX (xLaT x0 x1 x2 x3 x4 (val (LbY x0 r1.1 r1.2.1 r1.2.2 x1 x2)))) none)):=by kernel_rfl
theorem lLaT (k:Nat) (x0:Bool) (x1:LI) (x2:L3) (x3:LI) (x4:L3) (r:Bool):LaT x0 x1 x2 x3 x4=some r→zl zP (tn159 10) (TM.evF zP (tn159) dOk (k+40)) dOk (k+40) (za zP (tn0 10) 10 44) 0 44 (cLaT x0 x1 x2 x3 x4) (fun e s=>some (e,s))=some (xLaT x0 x1 x2 x3 x4 r):=by
 rw [bLaT]
 unfold LaT
 refine ze ?_ ?_
 refine ze ?_ ?_
 intro h;cases h;rfl
 intro h;cases h
 intro h;cases h
noncomputable def sLaT:TellS:=fun S=>tq (mS (cLaT false [] [] [] [])) S fun x0 x1 x2 x3 x4=>some [(ok (LaT x0 x1 x2 x3 x4),.ret,⟨[(0,.v (.sc (.bool ((val (LaT x0 x1 x2 x3 x4))))))],[],[],0,true⟩)]
theorem wLaT:zh zP dOk base o155 t159 ((10,44),sLaT):=by
 refine ⟨(za zP (tn0 10) 10 44),0,by kernel_rfl,?_⟩
 intro S alts e S' h1 h2
 obtain ⟨_,rfl,g⟩:=tq_some h1
 clear h1
 change some _=_ at g
 cases g
 obtain ⟨hc0,rfl,rfl⟩:=zf h2
 exact ⟨0+40,(zx rfl).trans (lLaT 0 _ _ _ _ _ _ (zc hc0))⟩
noncomputable def t160:TellT:=((10,44),sLaT)::t159
abbrev tn160:=zd base o155 t160
theorem ok160:OKT tn160:=zi ok159 ok159 (p:=((10,44),sLaT)) wLaT
noncomputable def Lcc (x0:LI) (x1:L3) (x2:LI) (x3:L3) (x4:LI) (x5:L3):Option Bool:=(cond (ok (v27 x0 x1 [[(5000000:Int)],[(5000000:Int)]] [(200000:Int)] 0)) (cond (val (v27 x0 x1 [[(5000000:Int)],[(5000000:Int)]] [(200000:Int)] 0)) (cond (ok (v27 x2 x3 [[(10000000:Int),0]] [(100000:Int),(100000:Int)] (1000000:Int))) (cond (val (v27 x2 x3 [[(10000000:Int),0]] [(100000:Int),(100000:Int)] (1000000:Int))) (cond (ok (v27 x4 x5 [[0,(4000000:Int)]] [(1000000000000:Int),(250000:Int)] 0)) (cond (ok (LaT (val (v27 x4 x5 [[0,(4000000:Int)]] [(1000000000000:Int),(250000:Int)] 0)) x0 x1 x4 x5)) (some (val (LaT (val (v27 x4 x5 [[0,(4000000:Int)]] [(1000000000000:Int),(250000:Int)] 0)) x0 x1 x4 x5))) none) none) (cond (ok (LaT false x0 x1 x4 x5)) (some (val (LaT false x0 x1 x4 x5))) none)) none) (cond (ok (LaT false x0 x1 x4 x5)) (some (val (LaT false x0 x1 x4 x5))) none)) none)
noncomputable def xLcc (x0:LI) (x1:L3) (x2:LI) (x3:L3) (x4:LI) (x5:L3):Bool→Ex×CS:=fun r=>(.ret,⟨[(0,.v (.sc (.bool (r))))],[],[],0,true⟩)
abbrev cLcc (x0:LI) (x1:L3) (x2:LI) (x3:L3) (x4:LI) (x5:L3):CS:=⟨[(1,.l 1 0),(2,.l 2 0),(3,.l 3 0)],[(1,[kD (x0),.d 31 mT (x1)]),(2,[kD (x2),.d 31 mT (x3)]),(3,[kD (x4),.d 31 mT (x5)])],[],0,false⟩
theorem bLcc (k:Nat) (cX:Ex→CS→Option (Ex×CS)) (x0:LI) (x1:L3) (x2:LI) (x3:L3) (x4:LI) (x5:L3):zl zP (tn160 10) (TM.evF zP (tn160) dOk (k+40)) dOk (k+40) (za zP (tn0 10) 10 36) 0 36 (cLcc x0 x1 x2 x3 x4 x5) cX=(ob (v27 x0 x1 [[(5000000:Int)],[(5000000:Int)]] [(200000:Int)] 0) fun r1=>(cond r1 (ob (v27 x2 x3 [[(10000000:Int),0]] [(100000:Int),(100000:Int)] (1000000:Int)) fun r2=>(cond r2 (ob (v27 x4 x5 [[0,(4000000:Int)]] [(1000000000000:Int),(250000:Int)] 0) fun r3=>(cond (ok (LaT r3 x0 x1 x4 x5)) (cP cX (xLcc x0 x1 x2 x3 x4 x5 (val (LaT r3 x0 x1 x4 x5)))) none)) (cond (ok (LaT false x0 x1 x4 x5)) (cP cX (xLcc x0 x1 x2 x3 x4 x5 (val (LaT false x0 x1 x4 x5)))) none))) (cond (ok (LaT false x0 x1 x4 x5)) (cP cX (xLcc x0 x1 x2 x3 x4 x5 (val (LaT false x0 x1 x4 x5)))) none))):=by kernel_rfl
theorem lLcc (k:Nat) (x0:LI) (x1:L3) (x2:LI) (x3:L3) (x4:LI) (x5:L3) (r:Bool):Lcc x0 x1 x2 x3 x4 x5=some r→zl zP (tn160 10) (TM.evF zP (tn160) dOk (k+40)) dOk (k+40) (za zP (tn0 10) 10 36) 0 36 (cLcc x0 x1 x2 x3 x4 x5) (fun e s=>some (e,s))=some (xLcc x0 x1 x2 x3 x4 x5 r):=by
 rw [bLcc]
 unfold Lcc
 refine ze ?_ ?_
 refine ze ?_ ?_
 refine ze ?_ ?_
 refine ze ?_ ?_
 refine ze ?_ ?_
 refine ze ?_ ?_
 intro h;cases h;rfl
 intro h;cases h
 intro h;cases h
 refine ze ?_ ?_
 intro h;cases h;rfl
 intro h;cases h
 intro h;cases h
 refine ze ?_ ?_
 intro h;cases h;rfl
 intro h;cases h
 intro h;cases h
noncomputable def sLcc:TellS:=fun S=>tq (mS (cLcc [] [] [] [] [] [])) S fun x0 x1 x2 x3 x4 x5=>some [(ok (Lcc x0 x1 x2 x3 x4 x5),.ret,⟨[(0,.v (.sc (.bool ((val (Lcc x0 x1 x2 x3 x4 x5))))))],[],[],0,true⟩)]
theorem wLcc:zh zP dOk base o155 t160 ((10,36),sLcc):=by
 refine ⟨(za zP (tn0 10) 10 36),0,by kernel_rfl,?_⟩
 intro S alts e S' h1 h2
 obtain ⟨_,rfl,g⟩:=tq_some h1
 clear h1
 change some _=_ at g
 cases g
 obtain ⟨hc0,rfl,rfl⟩:=zf h2
 exact ⟨0+40,(zx rfl).trans (lLcc 0 _ _ _ _ _ _ _ (zc hc0))⟩
noncomputable def t161:TellT:=((10,36),sLcc)::t160
abbrev tn161:=zd base o155 t161
theorem ok161:OKT tn161:=zi ok160 ok160 (p:=((10,36),sLcc)) wLcc
noncomputable def v10:Option Bool:=(some (true))
abbrev aF10:List TA:=[]
theorem ev10:zt zP (tn161 10) (TM.evF zP (tn161) dOk 40) dOk 40 10 aF10 []=(v10).bind fun r=>some ([.sc (.bool (r))],[]):=by
 refine Eq.trans (b:=(some ([.sc (.bool (true))],[]))) (by kernel_rfl) ?_
 unfold v10
 with_reducible repeat' refine zp ?_ ?_
 all_goals rfl
noncomputable def sv10:OrcS:=fun al H=>tqa aF10 [] al H<|some [(ok (v10),[.sc (.bool ((val (v10))))],[])]
theorem wv10:zq zP dOk base o155 t161 (10,sv10):=by
 intro al H q hq rs H2 h2
 obtain ⟨_,_,rfl,rfl,g⟩:=tqa_some hq
 clear hq
 change some _=_ at g
 cases g
 obtain ⟨hc0,rfl,rfl⟩:=zg h2
 exact ⟨41,(zy (by kernel_rfl)).trans ((ev10 ).trans (zm (zc hc0)))⟩
noncomputable def o162:OrcT:=(10,sv10)::o155
abbrev tn162:=zd base o162 t161
theorem ok162:OKT tn162:=zr ok161 ok161 (p:=(10,sv10)) wv10
noncomputable def Laz:Nat→Int→LI→L3→Option (Bool ⊕ Unit)
 | 0,_,_,_=>none
 | n+1,x0,x1,x2=>(cond (decide (x0 < (x1.length:Int))) (cond (decide (0≤x0)) (cond (decide (List.getD x1 x0.toNat 0 < 0)) (some (.inl (false))) (cond (decide (List.getD x1 x0.toNat 0 > (1000:Int))) (some (.inl (false))) (Laz n (wI (x0+(1:Int))) x1 x2))) none) (some (.inr ())))
theorem qLaz:type_of% @Laz.eq_2:=@Laz.eq_2
noncomputable def xLaz (x0:Int) (x1:LI) (x2:L3):(Bool ⊕ Unit)→Ex×CS:=fun r=>match r with | .inl a0=>(.ret,⟨[(2,.v (.sc (.bool (a0))))],[],[],0,true⟩) | .inr b0=>((.exit 0),⟨[(1,.l 1 0),(30,.l 1 0)],[(1,[kD (x1),.d 31 mT (x2)])],[],0,false⟩)
abbrev cLaz (x0:Int) (x1:LI) (x2:L3):CS:=⟨[(1,.l 1 0),(3,vI x0)],[(1,[kD (x1),.d 31 mT (x2)])],[],0,false⟩
theorem bLaz (k:Nat) (cN:KN) (cX:KX) (x0:Int) (x1:LI) (x2:L3):zo zP (tn162 24) (TM.evF zP (tn162) dOk (k+40)) dOk (k+40) (za zP (tn0 24) 24 0) 0 0 (cLaz x0 x1 x2) cN cX=(cond (decide (x0 < (x1.length:Int))) (cond (decide (0≤x0)) (cond (decide (x0 < (x1.length:Int))) (cond (decide (List.getD x1 x0.toNat 0 < 0)) (cX .ret ⟨[(2,.v (.sc (.bool (false))))],[],[],0,true⟩) (cond (decide (0≤x0)) (cond (decide (x0 < (x1.length:Int))) (cond (decide (List.getD x1 x0.toNat 0 > (1000:Int))) (cX .ret ⟨[(2,.v (.sc (.bool (false))))],[],[],0,true⟩) (cN (cLaz (wI (x0+(1:Int))) x1 x2))) none) none)) none) none) (cX (.exit 0) ⟨[(1,.l 1 0),(30,.l 1 0)],[(1,[kD (x1),.d 31 mT (x2)])],[],0,false⟩)):=by kernel_rfl
theorem lLaz (k m:Nat):∀ (n:Nat) (x0:Int) (x1:LI) (x2:L3) (r:(Bool ⊕ Unit)),Laz n x0 x1 x2=some r→zA zP (tn162 24) (TM.evF zP (tn162) dOk (k+40)) dOk (k+40) (za zP (tn0 24) 24 0) 0 0 (n+m) (cLaz x0 x1 x2)=some (xLaz x0 x1 x2 r):=by
 intro n
 induction n with
 | zero=>intro _ _ _ r h;cases h
 | succ n ih=>
  intro x0 x1 x2 r
  rw [show n+1+m=n+m+1 by omega,zk,bLaz,qLaz]
  cases (decide (x0 < (x1.length:Int))) with
  | true=>
   cases (decide (0≤x0)) with
   | true=>
    cases (decide (List.getD x1 x0.toNat 0 < 0)) with
    | true=>
     intro h;cases h;rfl
    | false=>
     cases (decide (List.getD x1 x0.toNat 0 > (1000:Int))) with
     | true=>
      intro h;cases h;rfl
     | false=>
      exact ih _ _ _ r
   | false=>
    intro h;cases h
  | false=>
   intro h;cases h;rfl
noncomputable def sLaz:TellS:=fun S=>tq (mS (cLaz 0 [] [])) S fun x0 x1 x2=>some [(isL (Laz FU x0 x1 x2),.ret,⟨[(2,.v (.sc (.bool ((zz (Laz FU x0 x1 x2))))))],[],[],0,true⟩),(ok (zn (Laz FU x0 x1 x2)),(.exit 0),⟨[(1,.l 1 0),(30,.l 1 0)],[(1,[kD (x1),.d 31 mT (x2)])],[],0,false⟩)]
theorem wLaz:zh zP dOk base o162 t161 ((24,0),sLaz):=by
 refine ⟨.loop (za zP (tn0 24) 24 0),0,by kernel_rfl,?_⟩
 intro S alts e S' h1 h2
 obtain ⟨_,rfl,g⟩:=tq_some h1
 clear h1
 change some _=_ at g
 cases g
 rcases zD h2 with ⟨hc0,rfl,rfl⟩ | h2
 · exact ⟨FU+40,(zb rfl).trans (lLaz FU 40 FU _ _ _ _ (zM hc0))⟩
 obtain ⟨hc1,rfl,rfl⟩:=zf h2
 exact ⟨FU+40,(zb rfl).trans (lLaz FU 40 FU _ _ _ _ (zG (zc hc1)))⟩
noncomputable def t163:TellT:=((24,0),sLaz)::t161
abbrev tn163:=zd base o162 t163
theorem ok163:OKT tn163:=zi ok162 ok162 (p:=((24,0),sLaz)) wLaz
noncomputable def LaE:Nat→LI→Int→Int→Option (Bool ⊕ Unit)
 | 0,_,_,_=>none
 | n+1,x0,x1,x2=>(cond (decide (x2 < (x0.length:Int))) (cond (decide (0≤x2)) (cond (decide (List.getD x0 x2.toNat 0 < 0)) (some (.inl (false))) (cond (decide (List.getD x0 x2.toNat 0≥x1)) (some (.inl (false))) (cond (decide (x2 > 0)) (cond (decide (0≤wI (x2 - (1:Int)))) (cond (decide (wI (x2 - (1:Int)) < (x0.length:Int))) (cond (decide (List.getD x0 x2.toNat 0≤List.getD x0 (wI (x2 - (1:Int))).toNat 0)) (some (.inl (false))) (LaE n x0 x1 (wI (x2+(1:Int))))) none) none) (LaE n x0 x1 (wI (x2+(1:Int))))))) none) (some (.inr ())))
theorem qLaE:type_of% @LaE.eq_2:=@LaE.eq_2
noncomputable def xLaE (x0:LI) (x1 x2:Int):(Bool ⊕ Unit)→Ex×CS:=fun r=>match r with | .inl a0=>(.ret,⟨[(4,.v (.sc (.bool (a0))))],[],[],0,true⟩) | .inr b0=>((.exit 0),⟨[(0,vD x0)],[],[],0,false⟩)
abbrev cLaE (x0:LI) (x1 x2:Int):CS:=⟨[(0,vD x0),(1,vI x1),(5,vI x2)],[],[],0,false⟩
theorem bLaE (k:Nat) (cN:KN) (cX:KX) (x0:LI) (x1 x2:Int):zo zP (tn163 42) (TM.evF zP (tn163) dOk (k+40)) dOk (k+40) (za zP (tn0 42) 42 0) 0 0 (cLaE x0 x1 x2) cN cX=(cond (decide (x2 < (x0.length:Int))) (cond (decide (0≤x2)) (cond (decide (x2 < (x0.length:Int))) (cond (decide (List.getD x0 x2.toNat 0 < 0)) (cX .ret ⟨[(4,.v (.sc (.bool (false))))],[],[],0,true⟩) (cond (decide (0≤x2)) (cond (decide (x2 < (x0.length:Int))) (cond (decide (List.getD x0 x2.toNat 0≥x1)) (cX .ret ⟨[(4,.v (.sc (.bool (false))))],[],[],0,true⟩) (cond (decide (x2 > 0)) (cond (decide (0≤x2)) (cond (decide (x2 < (x0.length:Int))) (cond (decide (0≤wI (x2 - (1:Int)))) (cond (decide (wI (x2 - (1:Int)) < (x0.length:Int))) (cond (decide (List.getD x0 x2.toNat 0≤List.getD x0 (wI (x2 - (1:Int))).toNat 0)) (cX .ret ⟨[(4,.v (.sc (.bool (false))))],[],[],0,true⟩) (cN (cLaE x0 x1 (wI (x2+(1:Int)))))) none) none) none) none) (cN (cLaE x0 x1 (wI (x2+(1:Int))))))) none) none)) none) none) (cX (.exit 0) ⟨[(0,vD x0)],[],[],0,false⟩)):=by kernel_rfl
theorem lLaE (k m:Nat):∀ (n:Nat) (x0:LI) (x1 x2:Int) (r:(Bool ⊕ Unit)),LaE n x0 x1 x2=some r→zA zP (tn163 42) (TM.evF zP (tn163) dOk (k+40)) dOk (k+40) (za zP (tn0 42) 42 0) 0 0 (n+m) (cLaE x0 x1 x2)=some (xLaE x0 x1 x2 r):=by
 intro n
 induction n with
 | zero=>intro _ _ _ r h;cases h
 | succ n ih=>
  intro x0 x1 x2 r
  rw [show n+1+m=n+m+1 by omega,zk,bLaE,qLaE]
  cases (decide (x2 < (x0.length:Int))) with
  | true=>
   cases (decide (0≤x2)) with
   | true=>
    cases (decide (List.getD x0 x2.toNat 0 < 0)) with
    | true=>
     intro h;cases h;rfl
    | false=>
     cases (decide (List.getD x0 x2.toNat 0≥x1)) with
     | true=>
      intro h;cases h;rfl
     | false=>
      cases (decide (x2 > 0)) with
      | true=>
       cases (decide (0≤wI (x2 - (1:Int)))) with
       | true=>
        cases (decide (wI (x2 - (1:Int)) < (x0.length:Int))) with
        | true=>
         cases (decide (List.getD x0 x2.toNat 0≤List.getD x0 (wI (x2 - (1:Int))).toNat 0)) with
         | true=>
          intro h;cases h;rfl
         | false=>
          exact ih _ _ _ r
        | false=>
         intro h;cases h
       | false=>
        intro h;cases h
      | false=>
       exact ih _ _ _ r
   | false=>
    intro h;cases h
  | false=>
   intro h;cases h;rfl
noncomputable def sLaE:TellS:=fun S=>tq (mS (cLaE [] 0 0)) S fun x0 x1 x2=>some [(isL (LaE FU x0 x1 x2),.ret,⟨[(4,.v (.sc (.bool ((zz (LaE FU x0 x1 x2))))))],[],[],0,true⟩),(ok (zn (LaE FU x0 x1 x2)),(.exit 0),⟨[(0,vD x0)],[],[],0,false⟩)]
theorem wLaE:zh zP dOk base o162 t163 ((42,0),sLaE):=by
 refine ⟨.loop (za zP (tn0 42) 42 0),0,by kernel_rfl,?_⟩
 intro S alts e S' h1 h2
 obtain ⟨_,rfl,g⟩:=tq_some h1
 clear h1
 change some _=_ at g
 cases g
 rcases zD h2 with ⟨hc0,rfl,rfl⟩ | h2
 · exact ⟨FU+40,(zb rfl).trans (lLaE FU 40 FU _ _ _ _ (zM hc0))⟩
 obtain ⟨hc1,rfl,rfl⟩:=zf h2
 exact ⟨FU+40,(zb rfl).trans (lLaE FU 40 FU _ _ _ _ (zG (zc hc1)))⟩
noncomputable def t164:TellT:=((42,0),sLaE)::t163
abbrev tn164:=zd base o162 t164
theorem ok164:OKT tn164:=zi ok163 ok163 (p:=((42,0),sLaE)) wLaE
noncomputable def tv42 {β:Type} (x0:LI) (x1:Int) (K:Bool→Option β):Option β:=(cond (isL (LaE FU x0 x1 0)) (K (zz (LaE FU x0 x1 0))) (cond (ok (zn (LaE FU x0 x1 0))) (cond (decide ((x0.length:Int)≥(1:Int))) (K (decide ((x0.length:Int)≤(6:Int)))) (K (false))) none))
noncomputable def v42 (x0:LI) (x1:Int):Option Bool:=tv42 x0 x1 some
abbrev aF42 (x0:LI) (x1:Int):List TA:=[.sc (kD x0),.sc (I4 x1)]
theorem ev42 (x0:LI) (x1:Int):zt zP (tn164 42) (TM.evF zP (tn164) dOk 40) dOk 40 42 (aF42 x0 x1) []=(v42 x0 x1).bind fun r=>some ([.sc (.bool (r))],[]):=by
 refine Eq.trans (b:=tv42 x0 x1 fun r=>some ([.sc (.bool (r))],[])) (by kernel_rfl) ?_
 unfold v42 tv42
 with_reducible repeat' refine zp ?_ ?_
 all_goals rfl
noncomputable def sv42:OrcS:=fun al H=>tqa (aF42 [] 0) [] al H fun x0 x1=>some [(ok (v42 x0 x1),[.sc (.bool ((val (v42 x0 x1))))],[])]
theorem wv42:zq zP dOk base o162 t164 (42,sv42):=by
 intro al H q hq rs H2 h2
 obtain ⟨_,_,rfl,rfl,g⟩:=tqa_some hq
 clear hq
 change some _=_ at g
 cases g
 obtain ⟨hc0,rfl,rfl⟩:=zg h2
 exact ⟨41,(zy (by kernel_rfl)).trans ((ev42 _ _).trans (zm (zc hc0)))⟩
noncomputable def o165:OrcT:=(42,sv42)::o162
abbrev tn165:=zd base o165 t164
theorem ok165:OKT tn165:=zr ok164 ok164 (p:=(42,sv42)) wv42
noncomputable def Lag:Nat→Int→LL→Int→LI→L3→Option (Bool ⊕ Unit)
 | 0,_,_,_,_,_=>none
 | n+1,x0,x1,x2,x3,x4=>(cond (decide (x2 < (x1.length:Int))) (cond (decide (0≤x2)) (cond (ok (v42 (List.getD x1 x2.toNat []) (x3.length:Int))) (cond (!val (v42 (List.getD x1 x2.toNat []) (x3.length:Int))) (some (.inl (false))) (Lag n x0 x1 (wI (x2+(1:Int))) x3 x4)) none) none) (some (.inr ())))
theorem qLag:type_of% @Lag.eq_2:=@Lag.eq_2
noncomputable def xLag (x0:Int) (x1:LL) (x2:Int) (x3:LI) (x4:L3):(Bool ⊕ Unit)→Ex×CS:=fun r=>match r with | .inl a0=>(.ret,⟨[(2,.v (.sc (.bool (a0))))],[],[],0,true⟩) | .inr b0=>((.exit 4),⟨[(1,.l 1 0),(4,vI x0)],[(1,[kD (x3),.d 31 mT (x4)])],[],0,false⟩)
abbrev cLag (x0:Int) (x1:LL) (x2:Int) (x3:LI) (x4:L3):CS:=⟨[(1,.l 1 0),(4,vI x0),(5,vL x1),(6,vI x2)],[(1,[kD (x3),.d 31 mT (x4)])],[],0,false⟩
theorem bLag (k:Nat) (cN:KN) (cX:KX) (x0:Int) (x1:LL) (x2:Int) (x3:LI) (x4:L3):zo zP (tn165 24) (TM.evF zP (tn165) dOk (k+40)) dOk (k+40) (za zP (tn0 24) 24 32) 4 32 (cLag x0 x1 x2 x3 x4) cN cX=(cond (decide (x2 < (x1.length:Int))) (cond (decide (0≤x2)) (cond (decide (x2 < (x1.length:Int))) (cond (ok (v42 (List.getD x1 x2.toNat []) (x3.length:Int))) (cond (!val (v42 (List.getD x1 x2.toNat []) (x3.length:Int))) (cX .ret ⟨[(2,.v (.sc (.bool (false))))],[],[],0,true⟩) (cN (cLag x0 x1 (wI (x2+(1:Int))) x3 x4))) none) none) none) (cX (.exit 4) ⟨[(1,.l 1 0),(4,vI x0)],[(1,[kD (x3),.d 31 mT (x4)])],[],0,false⟩)):=by kernel_rfl
theorem lLag (k m:Nat):∀ (n:Nat) (x0:Int) (x1:LL) (x2:Int) (x3:LI) (x4:L3) (r:(Bool ⊕ Unit)),Lag n x0 x1 x2 x3 x4=some r→zA zP (tn165 24) (TM.evF zP (tn165) dOk (k+40)) dOk (k+40) (za zP (tn0 24) 24 32) 4 32 (n+m) (cLag x0 x1 x2 x3 x4)=some (xLag x0 x1 x2 x3 x4 r):=by
 intro n
 induction n with
 | zero=>intro _ _ _ _ _ r h;cases h
 | succ n ih=>
  intro x0 x1 x2 x3 x4 r
  rw [show n+1+m=n+m+1 by omega,zk,bLag,qLag]
  cases (decide (x2 < (x1.length:Int))) with
  | true=>
   cases (decide (0≤x2)) with
   | true=>
    cases (ok (v42 (List.getD x1 x2.toNat []) (x3.length:Int))) with
    | true=>
     cases (!val (v42 (List.getD x1 x2.toNat []) (x3.length:Int))) with
     | true=>
      intro h;cases h;rfl
     | false=>
      exact ih _ _ _ _ _ r
    | false=>
     intro h;cases h
   | false=>
    intro h;cases h
  | false=>
   intro h;cases h;rfl
noncomputable def sLag:TellS:=fun S=>tq (mS (cLag 0 [] 0 [] [])) S fun x0 x1 x2 x3 x4=>some [(isL (Lag FU x0 x1 x2 x3 x4),.ret,⟨[(2,.v (.sc (.bool ((zz (Lag FU x0 x1 x2 x3 x4))))))],[],[],0,true⟩),(ok (zn (Lag FU x0 x1 x2 x3 x4)),(.exit 4),⟨[(1,.l 1 0),(4,vI x0)],[(1,[kD (x3),.d 31 mT (x4)])],[],0,false⟩)]
theorem wLag:zh zP dOk base o165 t164 ((24,32),sLag):=by
 refine ⟨.loop (za zP (tn0 24) 24 32),4,by kernel_rfl,?_⟩
 intro S alts e S' h1 h2
 obtain ⟨_,rfl,g⟩:=tq_some h1
 clear h1
 change some _=_ at g
 cases g
 rcases zD h2 with ⟨hc0,rfl,rfl⟩ | h2
 · exact ⟨FU+40,(zb rfl).trans (lLag FU 40 FU _ _ _ _ _ _ (zM hc0))⟩
 obtain ⟨hc1,rfl,rfl⟩:=zf h2
 exact ⟨FU+40,(zb rfl).trans (lLag FU 40 FU _ _ _ _ _ _ (zG (zc hc1)))⟩
noncomputable def t166:TellT:=((24,32),sLag)::t164
abbrev tn166:=zd base o165 t166
theorem ok166:OKT tn166:=zi ok165 ok165 (p:=((24,32),sLag)) wLag
noncomputable def Lax:Nat→Int→LI→L3→Option (Bool ⊕ Unit)
 | 0,_,_,_=>none
 | n+1,x0,x1,x2=>(cond (decide (x0 < (x2.length:Int))) (cond (decide (0≤x0)) (cond (decide ((↑(List.length (List.getD x2 x0.toNat [])):Int) < (1:Int))) (some (.inl (false))) (cond (decide ((↑(List.length (List.getD x2 x0.toNat [])):Int) > (4:Int))) (some (.inl (false))) (cond (isL (Lag FU x0 (List.getD x2 x0.toNat []) 0 x1 x2)) (some (.inl (zz (Lag FU x0 (List.getD x2 x0.toNat []) 0 x1 x2)))) (cond (ok (zn (Lag FU x0 (List.getD x2 x0.toNat []) 0 x1 x2))) (Lax n (wI (x0+(1:Int))) x1 x2) none)))) none) (some (.inr ())))
theorem qLax:type_of% @Lax.eq_2:=@Lax.eq_2
noncomputable def xLax (x0:Int) (x1:LI) (x2:L3):(Bool ⊕ Unit)→Ex×CS:=fun r=>match r with | .inl a0=>(.ret,⟨[(2,.v (.sc (.bool (a0))))],[],[],0,true⟩) | .inr b0=>((.exit 2),⟨[(1,.l 1 0),(51,.l 1 1)],[],[],0,false⟩)
abbrev cLax (x0:Int) (x1:LI) (x2:L3):CS:=⟨[(1,.l 1 0),(4,vI x0)],[(1,[kD (x1),.d 31 mT (x2)])],[],0,false⟩
theorem bLax (k:Nat) (cN:KN) (cX:KX) (x0:Int) (x1:LI) (x2:L3):zo zP (tn166 24) (TM.evF zP (tn166) dOk (k+40)) dOk (k+40) (za zP (tn0 24) 24 16) 2 16 (cLax x0 x1 x2) cN cX=(cond (decide (x0 < (x2.length:Int))) (cond (decide (0≤x0)) (cond (decide (x0 < (x2.length:Int))) (cond (decide ((↑(List.length (List.getD x2 x0.toNat [])):Int) < (1:Int))) (cX .ret ⟨[(2,.v (.sc (.bool (false))))],[],[],0,true⟩) (cond (decide ((↑(List.length (List.getD x2 x0.toNat [])):Int) > (4:Int))) (cX .ret ⟨[(2,.v (.sc (.bool (false))))],[],[],0,true⟩) (cond (isL (Lag FU x0 (List.getD x2 x0.toNat []) 0 x1 x2)) (cX .ret ⟨[(2,.v (.sc (.bool (zz (Lag FU x0 (List.getD x2 x0.toNat []) 0 x1 x2)))))],[],[],0,true⟩) (cond (ok (zn (Lag FU x0 (List.getD x2 x0.toNat []) 0 x1 x2))) (cN (cLax (wI (x0+(1:Int))) x1 x2)) none)))) none) none) (cX (.exit 2) ⟨[(1,.l 1 0),(51,.l 1 1)],[],[],0,false⟩)):=by kernel_rfl
theorem lLax (k m:Nat):∀ (n:Nat) (x0:Int) (x1:LI) (x2:L3) (r:(Bool ⊕ Unit)),Lax n x0 x1 x2=some r→zA zP (tn166 24) (TM.evF zP (tn166) dOk (k+40)) dOk (k+40) (za zP (tn0 24) 24 16) 2 16 (n+m) (cLax x0 x1 x2)=some (xLax x0 x1 x2 r):=by
 intro n
 induction n with
 | zero=>intro _ _ _ r h;cases h
 | succ n ih=>
  intro x0 x1 x2 r
  rw [show n+1+m=n+m+1 by omega,zk,bLax,qLax]
  cases (decide (x0 < (x2.length:Int))) with
  | true=>
   cases (decide (0≤x0)) with
   | true=>
    cases (decide ((↑(List.length (List.getD x2 x0.toNat [])):Int) < (1:Int))) with
    | true=>
     intro h;cases h;rfl
    | false=>
     cases (decide ((↑(List.length (List.getD x2 x0.toNat [])):Int) > (4:Int))) with
     | true=>
      intro h;cases h;rfl
     | false=>
      cases (isL (Lag FU x0 (List.getD x2 x0.toNat []) 0 x1 x2)) with
      | true=>
       intro h;cases h;rfl
      | false=>
       cases (ok (zn (Lag FU x0 (List.getD x2 x0.toNat []) 0 x1 x2))) with
       | true=>
        exact ih _ _ _ r
       | false=>
        intro h;cases h
   | false=>
    intro h;cases h
  | false=>
   intro h;cases h;rfl
noncomputable def sLax:TellS:=fun S=>tq (mS (cLax 0 [] [])) S fun x0 x1 x2=>some [(isL (Lax FU x0 x1 x2),.ret,⟨[(2,.v (.sc (.bool ((zz (Lax FU x0 x1 x2))))))],[],[],0,true⟩),(ok (zn (Lax FU x0 x1 x2)),(.exit 2),⟨[(1,.l 1 0),(51,.l 1 1)],[],[],0,false⟩)]
theorem wLax:zh zP dOk base o165 t166 ((24,16),sLax):=by
 refine ⟨.loop (za zP (tn0 24) 24 16),2,by kernel_rfl,?_⟩
 intro S alts e S' h1 h2
 obtain ⟨_,rfl,g⟩:=tq_some h1
 clear h1
 change some _=_ at g
 cases g
 rcases zD h2 with ⟨hc0,rfl,rfl⟩ | h2
 · exact ⟨FU+40,(zb rfl).trans (lLax FU 40 FU _ _ _ _ (zM hc0))⟩
 obtain ⟨hc1,rfl,rfl⟩:=zf h2
 exact ⟨FU+40,(zb rfl).trans (lLax FU 40 FU _ _ _ _ (zG (zc hc1)))⟩
noncomputable def t167:TellT:=((24,16),sLax)::t166
abbrev tn167:=zd base o165 t167
theorem ok167:OKT tn167:=zi ok166 ok166 (p:=((24,16),sLax)) wLax
noncomputable def tv24 {β:Type} (x0:LI) (x1:L3) (K:Bool→Option β):Option β:=(cond (decide ((x0.length:Int) < (1:Int))) (K (false)) (cond (decide ((x0.length:Int) > (8:Int))) (K (false)) (cond (decide ((x1.length:Int) < (1:Int))) (K (false)) (cond (decide ((x1.length:Int) > (8:Int))) (K (false)) (cond (isL (Laz FU 0 x0 x1)) (K (zz (Laz FU 0 x0 x1))) (cond (ok (zn (Laz FU 0 x0 x1))) (cond (isL (Lax FU 0 x0 x1)) (K (zz (Lax FU 0 x0 x1))) (cond (ok (zn (Lax FU 0 x0 x1))) (K (true)) none)) none))))))
noncomputable def v24 (x0:LI) (x1:L3):Option Bool:=tv24 x0 x1 some
abbrev aF24 (x0:LI) (x1:L3):List TA:=[.agg [kD (x0),.d 31 mT (x1)]]
theorem ev24 (x0:LI) (x1:L3):zt zP (tn167 24) (TM.evF zP (tn167) dOk 40) dOk 40 24 (aF24 x0 x1) []=(v24 x0 x1).bind fun r=>some ([.sc (.bool (r))],[]):=by
 refine Eq.trans (b:=tv24 x0 x1 fun r=>some ([.sc (.bool (r))],[])) (by kernel_rfl) ?_
 unfold v24 tv24
 with_reducible repeat' refine zp ?_ ?_
 all_goals rfl
noncomputable def sv24:OrcS:=fun al H=>tqa (aF24 [] []) [] al H fun x0 x1=>some [(ok (v24 x0 x1),[.sc (.bool ((val (v24 x0 x1))))],[])]
theorem wv24:zq zP dOk base o165 t167 (24,sv24):=by
 intro al H q hq rs H2 h2
 obtain ⟨_,_,rfl,rfl,g⟩:=tqa_some hq
 clear hq
 change some _=_ at g
 cases g
 obtain ⟨hc0,rfl,rfl⟩:=zg h2
 exact ⟨41,(zy (by kernel_rfl)).trans ((ev24 _ _).trans (zm (zc hc0)))⟩
noncomputable def o168:OrcT:=(24,sv24)::o165
abbrev tn168:=zd base o168 t167
theorem ok168:OKT tn168:=zr ok167 ok167 (p:=(24,sv24)) wv24
noncomputable def Lae:Nat→LL→Int→Int→LI→L3→Option (Bool ⊕ Unit)
 | 0,_,_,_,_,_=>none
 | n+1,x0,x1,x2,x3,x4=>(cond (decide (0≤x1)) (cond (decide (x1 < (x0.length:Int))) (cond (decide (x2 < (↑(List.length (List.getD x0 x1.toNat [])):Int))) (cond (decide (0≤x2)) (cond (decide (List.getD (List.getD x0 x1.toNat []) x2.toNat 0 < 0)) (some (.inl (false))) (cond (decide (List.getD (List.getD x0 x1.toNat []) x2.toNat 0 > (1000000000:Int))) (some (.inl (false))) (Lae n x0 x1 (wI (x2+(1:Int))) x3 x4))) none) (some (.inr ()))) none) none)
theorem qLae:type_of% @Lae.eq_2:=@Lae.eq_2
noncomputable def xLae (x0:LL) (x1 x2:Int) (x3:LI) (x4:L3):(Bool ⊕ Unit)→Ex×CS:=fun r=>match r with | .inl a0=>(.ret,⟨[(4,.v (.sc (.bool (a0))))],[],[],0,true⟩) | .inr b0=>((.exit 2),⟨[(1,vL x0),(2,.l 2 0),(5,vI x1)],[(2,[kD (x3),.d 31 mT (x4)])],[],0,false⟩)
abbrev cLae (x0:LL) (x1 x2:Int) (x3:LI) (x4:L3):CS:=⟨[(1,vL x0),(2,.l 2 0),(5,vI x1),(6,vI x2)],[(2,[kD (x3),.d 31 mT (x4)])],[],0,false⟩
theorem bLae (k:Nat) (cN:KN) (cX:KX) (x0:LL) (x1 x2:Int) (x3:LI) (x4:L3):zo zP (tn168 19) (TM.evF zP (tn168) dOk (k+40)) dOk (k+40) (za zP (tn0 19) 19 16) 2 16 (cLae x0 x1 x2 x3 x4) cN cX=(cond (decide (0≤x1)) (cond (decide (x1 < (x0.length:Int))) (cond (decide (x2 < (↑(List.length (List.getD x0 x1.toNat [])):Int))) (cond (decide (0≤x1)) (cond (decide (x1 < (x0.length:Int))) (cond (decide (0≤x2)) (cond (decide (x2 < (↑(List.length (List.getD x0 x1.toNat [])):Int))) (cond (decide (List.getD (List.getD x0 x1.toNat []) x2.toNat 0 < 0)) (cX .ret ⟨[(4,.v (.sc (.bool (false))))],[],[],0,true⟩) (cond (decide (0≤x1)) (cond (decide (x1 < (x0.length:Int))) (cond (decide (0≤x2)) (cond (decide (x2 < (↑(List.length (List.getD x0 x1.toNat [])):Int))) (cond (decide (List.getD (List.getD x0 x1.toNat []) x2.toNat 0 > (1000000000:Int))) (cX .ret ⟨[(4,.v (.sc (.bool (false))))],[],[],0,true⟩) (cN (cLae x0 x1 (wI (x2+(1:Int))) x3 x4))) none) none) none) none)) none) none) none) none) (cX (.exit 2) ⟨[(1,vL x0),(2,.l 2 0),(5,vI x1)],[(2,[kD (x3),.d 31 mT (x4)])],[],0,false⟩)) none) none):=by kernel_rfl
theorem lLae (k m:Nat):∀ (n:Nat) (x0:LL) (x1 x2:Int) (x3:LI) (x4:L3) (r:(Bool ⊕ Unit)),Lae n x0 x1 x2 x3 x4=some r→zA zP (tn168 19) (TM.evF zP (tn168) dOk (k+40)) dOk (k+40) (za zP (tn0 19) 19 16) 2 16 (n+m) (cLae x0 x1 x2 x3 x4)=some (xLae x0 x1 x2 x3 x4 r):=by
 intro n
 induction n with
 | zero=>intro _ _ _ _ _ r h;cases h
 | succ n ih=>
  intro x0 x1 x2 x3 x4 r
  rw [show n+1+m=n+m+1 by omega,zk,bLae,qLae]
  cases (decide (0≤x1)) with
  | true=>
   cases (decide (x1 < (x0.length:Int))) with
   | true=>
    cases (decide (x2 < (↑(List.length (List.getD x0 x1.toNat [])):Int))) with
    | true=>
     cases (decide (0≤x2)) with
     | true=>
      cases (decide (List.getD (List.getD x0 x1.toNat []) x2.toNat 0 < 0)) with
      | true=>
       intro h;cases h;rfl
      | false=>
       cases (decide (List.getD (List.getD x0 x1.toNat []) x2.toNat 0 > (1000000000:Int))) with
       | true=>
        intro h;cases h;rfl
       | false=>
        exact ih _ _ _ _ _ r
     | false=>
      intro h;cases h
    | false=>
     intro h;cases h;rfl
   | false=>
    intro h;cases h
  | false=>
   intro h;cases h
noncomputable def sLae:TellS:=fun S=>tq (mS (cLae [] 0 0 [] [])) S fun x0 x1 x2 x3 x4=>some [(isL (Lae FU x0 x1 x2 x3 x4),.ret,⟨[(4,.v (.sc (.bool ((zz (Lae FU x0 x1 x2 x3 x4))))))],[],[],0,true⟩),(ok (zn (Lae FU x0 x1 x2 x3 x4)),(.exit 2),⟨[(1,vL x0),(2,.l 2 0),(5,vI x1)],[(2,[kD (x3),.d 31 mT (x4)])],[],0,false⟩)]
theorem wLae:zh zP dOk base o168 t167 ((19,16),sLae):=by
 refine ⟨.loop (za zP (tn0 19) 19 16),2,by kernel_rfl,?_⟩
 intro S alts e S' h1 h2
 obtain ⟨_,rfl,g⟩:=tq_some h1
 clear h1
 change some _=_ at g
 cases g
 rcases zD h2 with ⟨hc0,rfl,rfl⟩ | h2
 · exact ⟨FU+40,(zb rfl).trans (lLae FU 40 FU _ _ _ _ _ _ (zM hc0))⟩
 obtain ⟨hc1,rfl,rfl⟩:=zf h2
 exact ⟨FU+40,(zb rfl).trans (lLae FU 40 FU _ _ _ _ _ _ (zG (zc hc1)))⟩
noncomputable def t169:TellT:=((19,16),sLae)::t167
abbrev tn169:=zd base o168 t169
theorem ok169:OKT tn169:=zi ok168 ok168 (p:=((19,16),sLae)) wLae
noncomputable def LaF:Nat→LL→Int→LI→L3→Option (Bool ⊕ Unit)
 | 0,_,_,_,_=>none
 | n+1,x0,x1,x2,x3=>(cond (decide (x1 < (x0.length:Int))) (cond (decide (0≤x1)) (cond (decide (x1 < (x3.length:Int))) (cond ((↑(List.length (List.getD x0 x1.toNat [])):Int) != (↑(List.length (List.getD x3 x1.toNat [])):Int)) (some (.inl (false))) (cond (isL (Lae FU x0 x1 0 x2 x3)) (some (.inl (zz (Lae FU x0 x1 0 x2 x3)))) (cond (ok (zn (Lae FU x0 x1 0 x2 x3))) (LaF n x0 (wI (x1+(1:Int))) x2 x3) none))) none) none) (some (.inr ())))
theorem qLaF:type_of% @LaF.eq_2:=@LaF.eq_2
noncomputable def xLaF (x0:LL) (x1:Int) (x2:LI) (x3:L3):(Bool ⊕ Unit)→Ex×CS:=fun r=>match r with | .inl a0=>(.ret,⟨[(4,.v (.sc (.bool (a0))))],[],[],0,true⟩) | .inr b0=>((.exit 0),⟨[(2,.l 2 0)],[],[],0,false⟩)
abbrev cLaF (x0:LL) (x1:Int) (x2:LI) (x3:L3):CS:=⟨[(1,vL x0),(2,.l 2 0),(5,vI x1)],[(2,[kD (x2),.d 31 mT (x3)])],[],0,false⟩
theorem bLaF (k:Nat) (cN:KN) (cX:KX) (x0:LL) (x1:Int) (x2:LI) (x3:L3):zo zP (tn169 19) (TM.evF zP (tn169) dOk (k+40)) dOk (k+40) (za zP (tn0 19) 19 0) 0 0 (cLaF x0 x1 x2 x3) cN cX=(cond (decide (x1 < (x0.length:Int))) (cond (decide (0≤x1)) (cond (decide (x1 < (x0.length:Int))) (cond (decide (0≤x1)) (cond (decide (x1 < (x3.length:Int))) (cond ((↑(List.length (List.getD x0 x1.toNat [])):Int) != (↑(List.length (List.getD x3 x1.toNat [])):Int)) (cX .ret ⟨[(4,.v (.sc (.bool (false))))],[],[],0,true⟩) (cond (isL (Lae FU x0 x1 0 x2 x3)) (cX .ret ⟨[(4,.v (.sc (.bool (zz (Lae FU x0 x1 0 x2 x3)))))],[],[],0,true⟩) (cond (ok (zn (Lae FU x0 x1 0 x2 x3))) (cN (cLaF x0 (wI (x1+(1:Int))) x2 x3)) none))) none) none) none) none) (cX (.exit 0) ⟨[(2,.l 2 0)],[],[],0,false⟩)):=by kernel_rfl
theorem lLaF (k m:Nat):∀ (n:Nat) (x0:LL) (x1:Int) (x2:LI) (x3:L3) (r:(Bool ⊕ Unit)),LaF n x0 x1 x2 x3=some r→zA zP (tn169 19) (TM.evF zP (tn169) dOk (k+40)) dOk (k+40) (za zP (tn0 19) 19 0) 0 0 (n+m) (cLaF x0 x1 x2 x3)=some (xLaF x0 x1 x2 x3 r):=by
 intro n
 induction n with
 | zero=>intro _ _ _ _ r h;cases h
 | succ n ih=>
  intro x0 x1 x2 x3 r
  rw [show n+1+m=n+m+1 by omega,zk,bLaF,qLaF]
  cases (decide (x1 < (x0.length:Int))) with
  | true=>
   cases (decide (0≤x1)) with
   | true=>
    cases (decide (x1 < (x3.length:Int))) with
    | true=>
     cases ((↑(List.length (List.getD x0 x1.toNat [])):Int) != (↑(List.length (List.getD x3 x1.toNat [])):Int)) with
     | true=>
      intro h;cases h;rfl
     | false=>
      cases (isL (Lae FU x0 x1 0 x2 x3)) with
      | true=>
       intro h;cases h;rfl
      | false=>
       cases (ok (zn (Lae FU x0 x1 0 x2 x3))) with
       | true=>
        exact ih _ _ _ _ r
       | false=>
        intro h;cases h
    | false=>
     intro h;cases h
   | false=>
    intro h;cases h
  | false=>
   intro h;cases h;rfl
noncomputable def sLaF:TellS:=fun S=>tq (mS (cLaF [] 0 [] [])) S fun x0 x1 x2 x3=>some [(isL (LaF FU x0 x1 x2 x3),.ret,⟨[(4,.v (.sc (.bool ((zz (LaF FU x0 x1 x2 x3))))))],[],[],0,true⟩),(ok (zn (LaF FU x0 x1 x2 x3)),(.exit 0),⟨[(2,.l 2 0)],[],[],0,false⟩)]
theorem wLaF:zh zP dOk base o168 t169 ((19,0),sLaF):=by
 refine ⟨.loop (za zP (tn0 19) 19 0),0,by kernel_rfl,?_⟩
 intro S alts e S' h1 h2
 obtain ⟨_,rfl,g⟩:=tq_some h1
 clear h1
 change some _=_ at g
 cases g
 rcases zD h2 with ⟨hc0,rfl,rfl⟩ | h2
 · exact ⟨FU+40,(zb rfl).trans (lLaF FU 40 FU _ _ _ _ _ (zM hc0))⟩
 obtain ⟨hc1,rfl,rfl⟩:=zf h2
 exact ⟨FU+40,(zb rfl).trans (lLaF FU 40 FU _ _ _ _ _ (zG (zc hc1)))⟩
noncomputable def t170:TellT:=((19,0),sLaF)::t169
abbrev tn170:=zd base o168 t170
theorem ok170:OKT tn170:=zi ok169 ok169 (p:=((19,0),sLaF)) wLaF
noncomputable def tv19 {β:Type} (x0:LI) (x1:L3) (x2:LL) (K:Bool→Option β):Option β:=(cond ((x2.length:Int) != (x1.length:Int)) (K (false)) (cond (isL (LaF FU x2 0 x0 x1)) (K (zz (LaF FU x2 0 x0 x1))) (cond (ok (zn (LaF FU x2 0 x0 x1))) (K (true)) none)))
noncomputable def v19 (x0:LI) (x1:L3) (x2:LL):Option Bool:=tv19 x0 x1 x2 some
abbrev aF19 (x0:LI) (x1:L3) (x2:LL):List TA:=[.agg [kD (x0),.d 31 mT (x1)],.sc (kL x2)]
theorem ev19 (x0:LI) (x1:L3) (x2:LL):zt zP (tn170 19) (TM.evF zP (tn170) dOk 40) dOk 40 19 (aF19 x0 x1 x2) []=(v19 x0 x1 x2).bind fun r=>some ([.sc (.bool (r))],[]):=by
 refine Eq.trans (b:=tv19 x0 x1 x2 fun r=>some ([.sc (.bool (r))],[])) (by kernel_rfl) ?_
 unfold v19 tv19
 with_reducible repeat' refine zp ?_ ?_
 all_goals rfl
noncomputable def sv19:OrcS:=fun al H=>tqa (aF19 [] [] []) [] al H fun x0 x1 x2=>some [(ok (v19 x0 x1 x2),[.sc (.bool ((val (v19 x0 x1 x2))))],[])]
theorem wv19:zq zP dOk base o168 t170 (19,sv19):=by
 intro al H q hq rs H2 h2
 obtain ⟨_,_,rfl,rfl,g⟩:=tqa_some hq
 clear hq
 change some _=_ at g
 cases g
 obtain ⟨hc0,rfl,rfl⟩:=zg h2
 exact ⟨41,(zy (by kernel_rfl)).trans ((ev19 _ _ _).trans (zm (zc hc0)))⟩
noncomputable def o171:OrcT:=(19,sv19)::o168
abbrev tn171:=zd base o171 t170
theorem ok171:OKT tn171:=zr ok170 ok170 (p:=(19,sv19)) wv19
noncomputable def LaH:Nat→LI→Int→LI→L3→Option (Bool ⊕ Unit)
 | 0,_,_,_,_=>none
 | n+1,x0,x1,x2,x3=>(cond (decide (x1 < (x0.length:Int))) (cond (decide (0≤x1)) (cond (decide (List.getD x0 x1.toNat 0 < 0)) (some (.inl (false))) (cond (decide (List.getD x0 x1.toNat 0 > (1000000000000:Int))) (some (.inl (false))) (LaH n x0 (wI (x1+(1:Int))) x2 x3))) none) (some (.inr ())))
theorem qLaH:type_of% @LaH.eq_2:=@LaH.eq_2
noncomputable def xLaH (x0:LI) (x1:Int) (x2:LI) (x3:L3):(Bool ⊕ Unit)→Ex×CS:=fun r=>match r with | .inl a0=>(.ret,⟨[(4,.v (.sc (.bool (a0))))],[],[],0,true⟩) | .inr b0=>((.exit 0),⟨[(1,vD x0),(2,.l 2 0)],[(2,[kD (x2),.d 31 mT (x3)])],[],0,false⟩)
abbrev cLaH (x0:LI) (x1:Int) (x2:LI) (x3:L3):CS:=⟨[(1,vD x0),(2,.l 2 0),(5,vI x1)],[(2,[kD (x2),.d 31 mT (x3)])],[],0,false⟩
theorem bLaH (k:Nat) (cN:KN) (cX:KX) (x0:LI) (x1:Int) (x2:LI) (x3:L3):zo zP (tn171 30) (TM.evF zP (tn171) dOk (k+40)) dOk (k+40) (za zP (tn0 30) 30 0) 0 0 (cLaH x0 x1 x2 x3) cN cX=(cond (decide (x1 < (x0.length:Int))) (cond (decide (0≤x1)) (cond (decide (x1 < (x0.length:Int))) (cond (decide (List.getD x0 x1.toNat 0 < 0)) (cX .ret ⟨[(4,.v (.sc (.bool (false))))],[],[],0,true⟩) (cond (decide (0≤x1)) (cond (decide (x1 < (x0.length:Int))) (cond (decide (List.getD x0 x1.toNat 0 > (1000000000000:Int))) (cX .ret ⟨[(4,.v (.sc (.bool (false))))],[],[],0,true⟩) (cN (cLaH x0 (wI (x1+(1:Int))) x2 x3))) none) none)) none) none) (cX (.exit 0) ⟨[(1,vD x0),(2,.l 2 0)],[(2,[kD (x2),.d 31 mT (x3)])],[],0,false⟩)):=by kernel_rfl
theorem lLaH (k m:Nat):∀ (n:Nat) (x0:LI) (x1:Int) (x2:LI) (x3:L3) (r:(Bool ⊕ Unit)),LaH n x0 x1 x2 x3=some r→zA zP (tn171 30) (TM.evF zP (tn171) dOk (k+40)) dOk (k+40) (za zP (tn0 30) 30 0) 0 0 (n+m) (cLaH x0 x1 x2 x3)=some (xLaH x0 x1 x2 x3 r):=by
 intro n
 induction n with
 | zero=>intro _ _ _ _ r h;cases h
 | succ n ih=>
  intro x0 x1 x2 x3 r
  rw [show n+1+m=n+m+1 by omega,zk,bLaH,qLaH]
  cases (decide (x1 < (x0.length:Int))) with
  | true=>
   cases (decide (0≤x1)) with
   | true=>
    cases (decide (List.getD x0 x1.toNat 0 < 0)) with
    | true=>
     intro h;cases h;rfl
    | false=>
     cases (decide (List.getD x0 x1.toNat 0 > (1000000000000:Int))) with
     | true=>
      intro h;cases h;rfl
     | false=>
      exact ih _ _ _ _ r
   | false=>
    intro h;cases h
  | false=>
   intro h;cases h;rfl
noncomputable def sLaH:TellS:=fun S=>tq (mS (cLaH [] 0 [] [])) S fun x0 x1 x2 x3=>some [(isL (LaH FU x0 x1 x2 x3),.ret,⟨[(4,.v (.sc (.bool ((zz (LaH FU x0 x1 x2 x3))))))],[],[],0,true⟩),(ok (zn (LaH FU x0 x1 x2 x3)),(.exit 0),⟨[(1,vD x0),(2,.l 2 0)],[(2,[kD (x2),.d 31 mT (x3)])],[],0,false⟩)]
theorem wLaH:zh zP dOk base o171 t170 ((30,0),sLaH):=by
 refine ⟨.loop (za zP (tn0 30) 30 0),0,by kernel_rfl,?_⟩
 intro S alts e S' h1 h2
 obtain ⟨_,rfl,g⟩:=tq_some h1
 clear h1
 change some _=_ at g
 cases g
 rcases zD h2 with ⟨hc0,rfl,rfl⟩ | h2
 · exact ⟨FU+40,(zb rfl).trans (lLaH FU 40 FU _ _ _ _ _ (zM hc0))⟩
 obtain ⟨hc1,rfl,rfl⟩:=zf h2
 exact ⟨FU+40,(zb rfl).trans (lLaH FU 40 FU _ _ _ _ _ (zG (zc hc1)))⟩
noncomputable def t172:TellT:=((30,0),sLaH)::t170
abbrev tn172:=zd base o171 t172
theorem ok172:OKT tn172:=zi ok171 ok171 (p:=((30,0),sLaH)) wLaH
noncomputable def tv30 {β:Type} (x0:LI) (x1:L3) (x2:LI) (K:Bool→Option β):Option β:=(cond (isL (LaH FU x2 0 x0 x1)) (K (zz (LaH FU x2 0 x0 x1))) (cond (ok (zn (LaH FU x2 0 x0 x1))) (K ((x2.length:Int)==(x0.length:Int))) none))
noncomputable def v30 (x0:LI) (x1:L3) (x2:LI):Option Bool:=tv30 x0 x1 x2 some
abbrev aF30 (x0:LI) (x1:L3) (x2:LI):List TA:=[.agg [kD (x0),.d 31 mT (x1)],.sc (kD x2)]
theorem ev30 (x0:LI) (x1:L3) (x2:LI):zt zP (tn172 30) (TM.evF zP (tn172) dOk 40) dOk 40 30 (aF30 x0 x1 x2) []=(v30 x0 x1 x2).bind fun r=>some ([.sc (.bool (r))],[]):=by
 refine Eq.trans (b:=tv30 x0 x1 x2 fun r=>some ([.sc (.bool (r))],[])) (by kernel_rfl) ?_
 unfold v30 tv30
 with_reducible repeat' refine zp ?_ ?_
 all_goals rfl
noncomputable def sv30:OrcS:=fun al H=>tqa (aF30 [] [] []) [] al H fun x0 x1 x2=>some [(ok (v30 x0 x1 x2),[.sc (.bool ((val (v30 x0 x1 x2))))],[])]
theorem wv30:zq zP dOk base o171 t172 (30,sv30):=by
 intro al H q hq rs H2 h2
 obtain ⟨_,_,rfl,rfl,g⟩:=tqa_some hq
 clear hq
 change some _=_ at g
 cases g
 obtain ⟨hc0,rfl,rfl⟩:=zg h2
 exact ⟨41,(zy (by kernel_rfl)).trans ((ev30 _ _ _).trans (zm (zc hc0)))⟩
noncomputable def o173:OrcT:=(30,sv30)::o171
abbrev tn173:=zd base o173 t172
theorem ok173:OKT tn173:=zr ok172 ok172 (p:=(30,sv30)) wv30
end
end Go.Proofs.Ytpfphfobneehmaa
