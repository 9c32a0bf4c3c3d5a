/- What some functions and loops come to: printed and checked. Written by a program of ours. -/
import Derived.Test.YtpfphfobneehmaaG1
set_option linter.all false
set_option maxRecDepth 1000000
set_option maxHeartbeats 4000000
namespace Go.Proofs.Ytpfphfobneehmaa
open Go Go.AM Go.TM Go.Proofs
noncomputable section
noncomputable def Lbn:Nat→LI→Int→Int→LI→L3→LL→LL→LI→Int→LI→LI→Option (Int ⊕ Unit)
 | 0,_,_,_,_,_,_,_,_,_,_,_=>none
 | n+1,x0,x1,x2,x3,x4,x5,x6,x7,x8,x9,A=>(cond (decide (x2 < x1)) (cond (decide (0≤x2)) (cond (decide (x2 < (x0.length:Int))) (cond (ok (v72 (List.getD x0 x2.toNat 0) x3 x4 x5 x6 x7 x8 x9 A)) (cond (val (v72 (List.getD x0 x2.toNat 0) x3 x4 x5 x6 x7 x8 x9 A)) (some (.inl x2)) (Lbn n x0 x1 (wI (x2+(1:Int))) x3 x4 x5 x6 x7 x8 x9 A)) none) none) none) (some (.inr ())))
theorem qLbn:type_of% @Lbn.eq_2:=@Lbn.eq_2
noncomputable def xLbn (x0:LI) (x1 x2:Int) (x3:LI) (x4:L3) (x5:LL) (x6:LL) (x7:LI) (x8:Int) (x9:LI) (A:LI):(Int ⊕ Unit)→Ex×CS:=fun r=>match r with | .inl a0=>(.ret,⟨[(4,vI (a0))],[],[.box 53 [.ptr 1 0],(bx0 x3 x4 2 x5 3 x6 x7 x8),rD (x9),rD (A)],4,true⟩) | .inr b0=>((.exit 0),⟨[],[],[.box 53 [.ptr 1 0],(bx0 x3 x4 2 x5 3 x6 x7 x8),rD (x9),rD (A)],4,false⟩)
abbrev cLbn (x0:LI) (x1 x2:Int) (x3:LI) (x4:L3) (x5:LL) (x6:LL) (x7:LI) (x8:Int) (x9:LI) (A:LI):CS:=⟨[(0,vD x0),(1,.v (.sc (.fn 72 0 [none] [.ptr 0 0]))),(7,vI x1),(8,vI x2)],[],[.box 53 [.ptr 1 0],(bx0 x3 x4 2 x5 3 x6 x7 x8),rD (x9),rD (A)],4,false⟩
theorem bLbn (k:Nat) (cN:KN) (cX:KX) (x0:LI) (x1 x2:Int) (x3:LI) (x4:L3) (x5:LL) (x6:LL) (x7:LI) (x8:Int) (x9:LI) (A:LI):zo zP (tn63 77) (TM.evF zP (tn63) dOk (k+40)) dOk (k+40) (za zP (tn0 77) 77 0) 0 0 (cLbn x0 x1 x2 x3 x4 x5 x6 x7 x8 x9 A) cN cX=(cond (decide (x2 < x1)) (cond (decide (0≤x2)) (cond (decide (x2 < (x0.length:Int))) (cond (ok (v72 (List.getD x0 x2.toNat 0) x3 x4 x5 x6 x7 x8 x9 A)) (cond (val (v72 (List.getD x0 x2.toNat 0) x3 x4 x5 x6 x7 x8 x9 A)) (cX .ret ⟨[(4,vI x2)],[],[.box 53 [.ptr 1 0],(bx0 x3 x4 2 x5 3 x6 x7 x8),rD (x9),rD (A)],4,true⟩) (cN (cLbn x0 x1 (wI (x2+(1:Int))) x3 x4 x5 x6 x7 x8 x9 A))) none) none) none) (cX (.exit 0) ⟨[],[],[.box 53 [.ptr 1 0],(bx0 x3 x4 2 x5 3 x6 x7 x8),rD (x9),rD (A)],4,false⟩)):=by kernel_rfl
theorem lLbn (k m:Nat):∀ (n:Nat) (x0:LI) (x1 x2:Int) (x3:LI) (x4:L3) (x5:LL) (x6:LL) (x7:LI) (x8:Int) (x9:LI) (A:LI) (r:(Int ⊕ Unit)),Lbn n x0 x1 x2 x3 x4 x5 x6 x7 x8 x9 A=some r→zA zP (tn63 77) (TM.evF zP (tn63) dOk (k+40)) dOk (k+40) (za zP (tn0 77) 77 0) 0 0 (n+m) (cLbn x0 x1 x2 x3 x4 x5 x6 x7 x8 x9 A)=some (xLbn x0 x1 x2 x3 x4 x5 x6 x7 x8 x9 A r):=by
 intro n
 induction n with
 | zero=>intro _ _ _ _ _ _ _ _ _ _ _ r h;cases h
 | succ n ih=>
  intro x0 x1 x2 x3 x4 x5 x6 x7 x8 x9 A r
  rw [show n+1+m=n+m+1 by omega,zk,bLbn,qLbn]
  with_reducible repeat' refine ze ?_ ?_
  all_goals first | exact ih _ _ _ _ _ _ _ _ _ _ _ r | (intro h;cases h;done) | (intro h;cases h;rfl)
noncomputable def sLbn:TellS:=fun S=>tq (mS (cLbn [] 0 0 [] [] [] [] [] 0 [] [])) S fun x0 x1 x2 x3 x4 x5 x6 x7 x8 x9 A=>some [(isL (Lbn FU x0 x1 x2 x3 x4 x5 x6 x7 x8 x9 A),.ret,⟨[(4,vI ((zz (Lbn FU x0 x1 x2 x3 x4 x5 x6 x7 x8 x9 A))))],[],[.box 53 [.ptr 1 0],(bx0 x3 x4 2 x5 3 x6 x7 x8),rD (x9),rD (A)],4,true⟩),(ok (zn (Lbn FU x0 x1 x2 x3 x4 x5 x6 x7 x8 x9 A)),(.exit 0),⟨[],[],[.box 53 [.ptr 1 0],(bx0 x3 x4 2 x5 3 x6 x7 x8),rD (x9),rD (A)],4,false⟩)]
theorem wLbn:zh zP dOk base o63 t61 ((77,0),sLbn):=by
 refine ⟨.loop (za zP (tn0 77) 77 0),0,by kernel_rfl,?_⟩
 intro S alts e S' h1 h2
 obtain ⟨_,rfl,g⟩:=tq_some h1
 clear h1
 change some _=_ at g
 cases g
 rcases zD h2 with ⟨hc0,rfl,rfl⟩ | h2
 · exact ⟨FU+40,(zb rfl).trans (lLbn FU 40 FU _ _ _ _ _ _ _ _ _ _ _ _ (zM hc0))⟩
 obtain ⟨hc1,rfl,rfl⟩:=zf h2
 exact ⟨FU+40,(zb rfl).trans (lLbn FU 40 FU _ _ _ _ _ _ _ _ _ _ _ _ (zG (zc hc1)))⟩
noncomputable def t64:TellT:=((77,0),sLbn)::t61
abbrev tn64:=zd base o63 t64
theorem ok64:OKT tn64:=zi ok63 ok63 (p:=((77,0),sLbn)) wLbn
noncomputable def tv77_3 {β:Type} (x0:LI) (x1:LI) (x2:L3) (x3:LL) (x4:LL) (x5:LI) (x6:Int) (x7:LI) (x8:LI) (K:Int→Option β):Option β:=(cond (isL (Lbn FU x0 (x0.length:Int) 0 x1 x2 x3 x4 x5 x6 x7 x8)) (K (zz (Lbn FU x0 (x0.length:Int) 0 x1 x2 x3 x4 x5 x6 x7 x8))) (cond (ok (zn (Lbn FU x0 (x0.length:Int) 0 x1 x2 x3 x4 x5 x6 x7 x8))) (K ((-1:Int))) none))
noncomputable def v77_3 (x0:LI) (x1:LI) (x2:L3) (x3:LL) (x4:LL) (x5:LI) (x6:Int) (x7:LI) (x8:LI):Option Int:=tv77_3 x0 x1 x2 x3 x4 x5 x6 x7 x8 some
abbrev aF77_3 (x0:LI):List TA:=[.sc (kD x0),.sc (.fn 72 0 [none] [.ptr 0 0])]
abbrev hF77_3 (x1:LI) (x2:L3) (x3:LL) (x4:LL) (x5:LI) (x6:Int) (x7:LI) (x8:LI):List TO:=[.box 53 [.ptr 1 0],(bx0 x1 x2 2 x3 3 x4 x5 x6),rD (x7),rD (x8)]
theorem ev77_3 (x0:LI) (x1:LI) (x2:L3) (x3:LL) (x4:LL) (x5:LI) (x6:Int) (x7:LI) (x8:LI):zt zP (tn64 77) (TM.evF zP (tn64) dOk 40) dOk 40 77 (aF77_3 x0) (hF77_3 x1 x2 x3 x4 x5 x6 x7 x8)=(v77_3 x0 x1 x2 x3 x4 x5 x6 x7 x8).bind fun r=>some ([.sc (I4 (r))],[.box 53 [.ptr 1 0],(bx0 x1 x2 2 x3 3 x4 x5 x6),rD (x7),rD (x8)]):=by
 refine Eq.trans (b:=tv77_3 x0 x1 x2 x3 x4 x5 x6 x7 x8 fun r=>some ([.sc (I4 (r))],[.box 53 [.ptr 1 0],(bx0 x1 x2 2 x3 3 x4 x5 x6),rD (x7),rD (x8)])) (by kernel_rfl) ?_
 unfold v77_3 tv77_3
 with_reducible repeat' refine zp ?_ ?_
 all_goals rfl
noncomputable def sv77_3:OrcS:=fun al H=>tqa (aF77_3 []) (hF77_3 [] [] [] [] [] 0 [] []) al H fun x0 x1 x2 x3 x4 x5 x6 x7 x8=>some [(ok (v77_3 x0 x1 x2 x3 x4 x5 x6 x7 x8),[.sc (I4 ((val (v77_3 x0 x1 x2 x3 x4 x5 x6 x7 x8))))],[.box 53 [.ptr 1 0],(bx0 x1 x2 2 x3 3 x4 x5 x6),rD (x7),rD (x8)])]
theorem wv77_3:zq zP dOk base o63 t64 (77,sv77_3):=by
 intro al H q hq rs H2 h2
 obtain ⟨_,_,rfl,rfl,g⟩:=tqa_some hq
 clear hq
 change some _=_ at g
 cases g
 obtain ⟨hc0,rfl,rfl⟩:=zg h2
 exact ⟨41,(zy (by kernel_rfl)).trans ((ev77_3 _ _ _ _ _ _ _ _ _).trans (zm (zc hc0)))⟩
noncomputable def o65:OrcT:=(77,sv77_3)::o63
abbrev tn65:=zd base o65 t64
theorem ok65:OKT tn65:=zr ok64 ok64 (p:=(77,sv77_3)) wv77_3
noncomputable def v66_3 (x0:LI) (x1:LI) (x2:L3) (x3:LL) (x4:LL) (x5:LI) (x6:Int) (x7:LI) (x8:LI):Option Bool:=(cond (ok (v77_3 x0 x1 x2 x3 x4 x5 x6 x7 x8)) (some (decide (val (v77_3 x0 x1 x2 x3 x4 x5 x6 x7 x8)≥0))) none)
abbrev aF66_3 (x0:LI):List TA:=[.sc (kD x0),.sc (.fn 72 0 [none] [.ptr 0 0])]
abbrev hF66_3 (x1:LI) (x2:L3) (x3:LL) (x4:LL) (x5:LI) (x6:Int) (x7:LI) (x8:LI):List TO:=[.box 53 [.ptr 1 0],(bx0 x1 x2 2 x3 3 x4 x5 x6),rD (x7),rD (x8)]
theorem ev66_3 (x0:LI) (x1:LI) (x2:L3) (x3:LL) (x4:LL) (x5:LI) (x6:Int) (x7:LI) (x8:LI):zt zP (tn65 66) (TM.evF zP (tn65) dOk 40) dOk 40 66 (aF66_3 x0) (hF66_3 x1 x2 x3 x4 x5 x6 x7 x8)=(v66_3 x0 x1 x2 x3 x4 x5 x6 x7 x8).bind fun r=>some ([.sc (.bool (r))],[.box 53 [.ptr 1 0],(bx0 x1 x2 2 x3 3 x4 x5 x6),rD (x7),rD (x8)]):=by
 refine Eq.trans (b:=(cond (ok (v77_3 x0 x1 x2 x3 x4 x5 x6 x7 x8)) (some ([.sc (.bool (decide (val (v77_3 x0 x1 x2 x3 x4 x5 x6 x7 x8)≥0)))],[.box 53 [.ptr 1 0],(bx0 x1 x2 2 x3 3 x4 x5 x6),rD (x7),rD (x8)])) none)) (by kernel_rfl) ?_
 unfold v66_3
 with_reducible repeat' refine zp ?_ ?_
 all_goals rfl
noncomputable def sv66_3:OrcS:=fun al H=>tqa (aF66_3 []) (hF66_3 [] [] [] [] [] 0 [] []) al H fun x0 x1 x2 x3 x4 x5 x6 x7 x8=>some [(ok (v66_3 x0 x1 x2 x3 x4 x5 x6 x7 x8),[.sc (.bool ((val (v66_3 x0 x1 x2 x3 x4 x5 x6 x7 x8))))],[.box 53 [.ptr 1 0],(bx0 x1 x2 2 x3 3 x4 x5 x6),rD (x7),rD (x8)])]
theorem wv66_3:zq zP dOk base o65 t64 (66,sv66_3):=by
 intro al H q hq rs H2 h2
 obtain ⟨_,_,rfl,rfl,g⟩:=tqa_some hq
 clear hq
 change some _=_ at g
 cases g
 obtain ⟨hc0,rfl,rfl⟩:=zg h2
 exact ⟨41,(zy (by kernel_rfl)).trans ((ev66_3 _ _ _ _ _ _ _ _ _).trans (zm (zc hc0)))⟩
noncomputable def o66:OrcT:=(66,sv66_3)::o65
abbrev tn66:=zd base o66 t64
theorem ok66:OKT tn66:=zr ok65 ok65 (p:=(66,sv66_3)) wv66_3
noncomputable def v54 (x0:LI) (x1:LI) (x2:L3) (x3:LL) (x4:LL) (x5:LI) (x6:Int) (x7:LI) (x8:LI):Option Bool:=(cond (ok (v66_3 x0 x1 x2 x3 x4 x5 x6 x7 x8)) (some (!val (v66_3 x0 x1 x2 x3 x4 x5 x6 x7 x8))) none)
abbrev aF54 (x0:LI):List TA:=[.sc (.ptr 0 0),.sc (kD x0)]
abbrev hF54 (x1:LI) (x2:L3) (x3:LL) (x4:LL) (x5:LI) (x6:Int) (x7:LI) (x8:LI):List TO:=[(bx0 x1 x2 1 x3 2 x4 x5 x6),rD (x7),rD (x8)]
theorem ev54 (x0:LI) (x1:LI) (x2:L3) (x3:LL) (x4:LL) (x5:LI) (x6:Int) (x7:LI) (x8:LI):zt zP (tn66 54) (TM.evF zP (tn66) dOk 40) dOk 40 54 (aF54 x0) (hF54 x1 x2 x3 x4 x5 x6 x7 x8)=(v54 x0 x1 x2 x3 x4 x5 x6 x7 x8).bind fun r=>some ([.sc (.bool (r))],[(bx0 x1 x2 1 x3 2 x4 x5 x6),rD (x7),rD (x8)]):=by
 refine Eq.trans (b:=(cond (ok (v66_3 x0 x1 x2 x3 x4 x5 x6 x7 x8)) (some ([.sc (.bool (!val (v66_3 x0 x1 x2 x3 x4 x5 x6 x7 x8)))],[(bx0 x1 x2 1 x3 2 x4 x5 x6),rD (x7),rD (x8)])) none)) (by kernel_rfl) ?_
 unfold v54
 with_reducible repeat' refine zp ?_ ?_
 all_goals rfl
noncomputable def sv54:OrcS:=fun al H=>tqa (aF54 []) (hF54 [] [] [] [] [] 0 [] []) al H fun x0 x1 x2 x3 x4 x5 x6 x7 x8=>some [(ok (v54 x0 x1 x2 x3 x4 x5 x6 x7 x8),[.sc (.bool ((val (v54 x0 x1 x2 x3 x4 x5 x6 x7 x8))))],[(bx0 x1 x2 1 x3 2 x4 x5 x6),rD (x7),rD (x8)])]
theorem wv54:zq zP dOk base o66 t64 (54,sv54):=by
 intro al H q hq rs H2 h2
 obtain ⟨_,_,rfl,rfl,g⟩:=tqa_some hq
 clear hq
 change some _=_ at g
 cases g
 obtain ⟨hc0,rfl,rfl⟩:=zg h2
 exact ⟨41,(zy (by kernel_rfl)).trans ((ev54 _ _ _ _ _ _ _ _ _).trans (zm (zc hc0)))⟩
noncomputable def o67:OrcT:=(54,sv54)::o66
abbrev tn67:=zd base o67 t64
theorem ok67:OKT tn67:=zr ok66 ok66 (p:=(54,sv54)) wv54
noncomputable def LaG:Nat→Int→Int→LL→Int→Int→LI→L3→LL→LL→LI→Int→LI→LI→Option (Int×Int)
 | 0,_,_,_,_,_,_,_,_,_,_,_,_,_=>none
 | n+1,x0,x1,x2,x3,x4,x5,x6,x7,x8,x9,A,B,C=>(cond (decide (x4 < x3)) (cond (decide (0≤x4)) (cond (decide (x4 < (x2.length:Int))) (cond (ok (v29 (List.getD x2 x4.toNat []) B)) (cond (ok (v54 (List.getD x2 x4.toNat []) x5 x6 x7 x8 x9 A B C)) (cond (val (v54 (List.getD x2 x4.toNat []) x5 x6 x7 x8 x9 A B C)) (cond (decide (x0 < 0)) (LaG n x4 (val (v29 (List.getD x2 x4.toNat []) B)) x2 x3 (wI (x4+(1:Int))) x5 x6 x7 x8 x9 A B C) (cond (decide (val (v29 (List.getD x2 x4.toNat []) B) < x1)) (LaG n x4 (val (v29 (List.getD x2 x4.toNat []) B)) x2 x3 (wI (x4+(1:Int))) x5 x6 x7 x8 x9 A B C) (LaG n x0 x1 x2 x3 (wI (x4+(1:Int))) x5 x6 x7 x8 x9 A B C))) (LaG n x0 x1 x2 x3 (wI (x4+(1:Int))) x5 x6 x7 x8 x9 A B C)) none) none) none) none) (some (x0,x1)))
theorem qLaG:type_of% @LaG.eq_2:=@LaG.eq_2
noncomputable def xLaG (x0 x1:Int) (x2:LL) (x3 x4:Int) (x5:LI) (x6:L3) (x7:LL) (x8:LL) (x9:LI) (A:Int) (B:LI) (C:LI):(Int×Int)→Ex×CS:=fun r=>((.exit 0),⟨[(8,vI (r.1)),(9,vI (r.2))],[],[(bx0 x5 x6 1 x7 2 x8 x9 A),rD (B),rD (C)],3,false⟩)
abbrev cLaG (x0 x1:Int) (x2:LL) (x3 x4:Int) (x5:LI) (x6:L3) (x7:LL) (x8:LL) (x9:LI) (A:Int) (B:LI) (C:LI):CS:=⟨[(0,vP 0),(2,vG 1),(8,vI x0),(9,vI x1),(20,vL x2),(21,vI x3),(22,vI x4)],[],[(bx0 x5 x6 1 x7 2 x8 x9 A),rD (B),rD (C)],3,false⟩
theorem bLaG (k:Nat) (cN:KN) (cX:KX) (x0 x1:Int) (x2:LL) (x3 x4:Int) (x5:LI) (x6:L3) (x7:LL) (x8:LL) (x9:LI) (A:Int) (B:LI) (C:LI):zo zP (tn67 33) (TM.evF zP (tn67) dOk (k+40)) dOk (k+40) (za zP (tn0 33) 33 0) 0 0 (cLaG x0 x1 x2 x3 x4 x5 x6 x7 x8 x9 A B C) cN cX=(cond (decide (x4 < x3)) (cond (decide (0≤x4)) (cond (decide (x4 < (x2.length:Int))) (ob (v29 (List.getD x2 x4.toNat []) B) fun r1=>(cond (ok (v54 (List.getD x2 x4.toNat []) x5 x6 x7 x8 x9 A B C)) (cond (val (v54 (List.getD x2 x4.toNat []) x5 x6 x7 x8 x9 A B C)) (cond (decide (x0 < 0)) (cN (cLaG x4 r1 x2 x3 (wI (x4+(1:Int))) x5 x6 x7 x8 x9 A B C)) (cond (decide (r1 < x1)) (cN (cLaG x4 r1 x2 x3 (wI (x4+(1:Int))) x5 x6 x7 x8 x9 A B C)) (cN (cLaG x0 x1 x2 x3 (wI (x4+(1:Int))) x5 x6 x7 x8 x9 A B C)))) (cN (cLaG x0 x1 x2 x3 (wI (x4+(1:Int))) x5 x6 x7 x8 x9 A B C))) none)) none) none) (cP cX (xLaG x0 x1 x2 x3 x4 x5 x6 x7 x8 x9 A B C ((x0),x1)))):=by kernel_rfl
theorem lLaG (k m:Nat):∀ (n:Nat) (x0 x1:Int) (x2:LL) (x3 x4:Int) (x5:LI) (x6:L3) (x7:LL) (x8:LL) (x9:LI) (A:Int) (B:LI) (C:LI) (r:(Int×Int)),LaG n x0 x1 x2 x3 x4 x5 x6 x7 x8 x9 A B C=some r→zA zP (tn67 33) (TM.evF zP (tn67) dOk (k+40)) dOk (k+40) (za zP (tn0 33) 33 0) 0 0 (n+m) (cLaG x0 x1 x2 x3 x4 x5 x6 x7 x8 x9 A B C)=some (xLaG x0 x1 x2 x3 x4 x5 x6 x7 x8 x9 A B C r):=by
 intro n
 induction n with
 | zero=>intro _ _ _ _ _ _ _ _ _ _ _ _ _ r h;cases h
 | succ n ih=>
  intro x0 x1 x2 x3 x4 x5 x6 x7 x8 x9 A B C r
  rw [show n+1+m=n+m+1 by omega,zk,bLaG,qLaG]
  with_reducible repeat' refine ze ?_ ?_
  all_goals first | exact ih _ _ _ _ _ _ _ _ _ _ _ _ _ r | (intro h;cases h;done) | (intro h;cases h;rfl)
noncomputable def sLaG:TellS:=fun S=>tq (mS (cLaG 0 0 [] 0 0 [] [] [] [] [] 0 [] [])) S fun x0 x1 x2 x3 x4 x5 x6 x7 x8 x9 A B C=>some [(ok (LaG FU x0 x1 x2 x3 x4 x5 x6 x7 x8 x9 A B C),(.exit 0),⟨[(8,vI ((val (LaG FU x0 x1 x2 x3 x4 x5 x6 x7 x8 x9 A B C)).1)),(9,vI ((val (LaG FU x0 x1 x2 x3 x4 x5 x6 x7 x8 x9 A B C)).2))],[],[(bx0 x5 x6 1 x7 2 x8 x9 A),rD (B),rD (C)],3,false⟩)]
theorem wLaG:zh zP dOk base o67 t64 ((33,0),sLaG):=by
 refine ⟨.loop (za zP (tn0 33) 33 0),0,by kernel_rfl,?_⟩
 intro S alts e S' h1 h2
 obtain ⟨_,rfl,g⟩:=tq_some h1
 clear h1
 change some _=_ at g
 cases g
 obtain ⟨hc0,rfl,rfl⟩:=zf h2
 exact ⟨FU+40,(zb rfl).trans (lLaG FU 40 FU _ _ _ _ _ _ _ _ _ _ _ _ _ _ (zc hc0))⟩
noncomputable def t68:TellT:=((33,0),sLaG)::t64
abbrev tn68:=zd base o67 t68
theorem ok68:OKT tn68:=zi ok67 ok67 (p:=((33,0),sLaG)) wLaG
noncomputable def tv33 {β:Type} (x0:Int) (x1:LI) (x2:L3) (x3:LL) (x4:LL) (x5:LI) (x6:Int) (x7:LI) (x8:LI) (K:(Int×Int)→Option β):Option β:=(cond (decide (0≤x0)) (cond (decide (x0 < (x2.length:Int))) (cond (ok (LaG FU (-1:Int) 0 (List.getD x2 x0.toNat []) (↑(List.length (List.getD x2 x0.toNat [])):Int) 0 x1 x2 x3 x4 x5 x6 x7 x8)) (K ((val (LaG FU (-1:Int) 0 (List.getD x2 x0.toNat []) (↑(List.length (List.getD x2 x0.toNat [])):Int) 0 x1 x2 x3 x4 x5 x6 x7 x8)).1,(val (LaG FU (-1:Int) 0 (List.getD x2 x0.toNat []) (↑(List.length (List.getD x2 x0.toNat [])):Int) 0 x1 x2 x3 x4 x5 x6 x7 x8)).2)) none) none) none)
noncomputable def v33 (x0:Int) (x1:LI) (x2:L3) (x3:LL) (x4:LL) (x5:LI) (x6:Int) (x7:LI) (x8:LI):Option (Int×Int):=tv33 x0 x1 x2 x3 x4 x5 x6 x7 x8 some
abbrev aF33 (x0:Int):List TA:=[.sc (.ptr 0 0),.sc (I4 x0),.sc (.g 1)]
abbrev hF33 (x1:LI) (x2:L3) (x3:LL) (x4:LL) (x5:LI) (x6:Int) (x7:LI) (x8:LI):List TO:=[(bx0 x1 x2 1 x3 2 x4 x5 x6),rD (x7),rD (x8)]
theorem ev33 (x0:Int) (x1:LI) (x2:L3) (x3:LL) (x4:LL) (x5:LI) (x6:Int) (x7:LI) (x8:LI):zt zP (tn68 33) (TM.evF zP (tn68) dOk 40) dOk 40 33 (aF33 x0) (hF33 x1 x2 x3 x4 x5 x6 x7 x8)=(v33 x0 x1 x2 x3 x4 x5 x6 x7 x8).bind fun r=>some ([.sc (I4 (r.1)),.sc (I4 (r.2))],[(bx0 x1 x2 1 x3 2 x4 x5 x6),rD (x7),rD (x8)]):=by
 refine Eq.trans (b:=tv33 x0 x1 x2 x3 x4 x5 x6 x7 x8 fun r=>some ([.sc (I4 (r.1)),.sc (I4 (r.2))],[(bx0 x1 x2 1 x3 2 x4 x5 x6),rD (x7),rD (x8)])) (by kernel_rfl) ?_
 unfold v33 tv33
 with_reducible repeat' refine zp ?_ ?_
 all_goals rfl
noncomputable def sv33:OrcS:=fun al H=>tqa (aF33 0) (hF33 [] [] [] [] [] 0 [] []) al H fun x0 x1 x2 x3 x4 x5 x6 x7 x8=>some [(ok (v33 x0 x1 x2 x3 x4 x5 x6 x7 x8),[.sc (I4 ((val (v33 x0 x1 x2 x3 x4 x5 x6 x7 x8)).1)),.sc (I4 ((val (v33 x0 x1 x2 x3 x4 x5 x6 x7 x8)).2))],[(bx0 x1 x2 1 x3 2 x4 x5 x6),rD (x7),rD (x8)])]
theorem wv33:zq zP dOk base o67 t68 (33,sv33):=by
 intro al H q hq rs H2 h2
 obtain ⟨_,_,rfl,rfl,g⟩:=tqa_some hq
 clear hq
 change some _=_ at g
 cases g
 obtain ⟨hc0,rfl,rfl⟩:=zg h2
 exact ⟨41,(zy (by kernel_rfl)).trans ((ev33 _ _ _ _ _ _ _ _ _).trans (zm (zc hc0)))⟩
noncomputable def o69:OrcT:=(33,sv33)::o67
abbrev tn69:=zd base o69 t68
theorem ok69:OKT tn69:=zr ok68 ok68 (p:=(33,sv33)) wv33
noncomputable def Lau:Nat→Int→Int→Int→Int→LI→L3→LL→LL→LI→Int→LI→LI→LL→LI→Option ((Int×Int) ⊕ Unit)
 | 0,_,_,_,_,_,_,_,_,_,_,_,_,_,_=>none
 | n+1,x0,x1,x2,x3,x4,x5,x6,x7,x8,x9,A,B,C,D=>(cond (decide (x2 < x1)) (cond (ok (v33 x2 x4 x5 x6 x7 x8 x9 A B)) (cond (decide ((val (v33 x2 x4 x5 x6 x7 x8 x9 A B)).1 < 0)) (some (.inl ((4:Int),0))) (Lau n x0 x1 (wI (x2+(1:Int))) x3 x4 x5 x6 x7 x8 x9 A B C D)) none) (some (.inr ())))
theorem qLau:type_of% @Lau.eq_2:=@Lau.eq_2
noncomputable def xLau (x0 x1 x2 x3:Int) (x4:LI) (x5:L3) (x6:LL) (x7:LL) (x8:LI) (x9:Int) (A:LI) (B:LI) (C:LL) (D:LI):((Int×Int) ⊕ Unit)→Ex×CS:=fun r=>match r with | .inl a0=>(.ret,⟨[(4,.l 4 0),(5,vI (a0.1))],[(4,[.nil,.nil,I4 (a0.2)])],[],0,true⟩) | .inr b0=>((.exit 2),⟨[(1,vI x0),(4,.l 4 0),(6,vP 0)],[(4,[.g 3,.g 4,I4 (x3)])],[(bx0 x4 x5 1 x6 2 x7 x8 x9),rD (A),rD (B),rL (C),rD (D)],0,false⟩)
abbrev cLau (x0 x1 x2 x3:Int) (x4:LI) (x5:L3) (x6:LL) (x7:LL) (x8:LI) (x9:Int) (A:LI) (B:LI) (C:LL) (D:LI):CS:=⟨[(1,vI x0),(4,.l 4 0),(6,vP 0),(56,vI x1),(57,vI x2)],[(4,[.g 3,.g 4,I4 (x3)])],[(bx0 x4 x5 1 x6 2 x7 x8 x9),rD (A),rD (B),rL (C),rD (D)],0,false⟩
theorem bLau (k:Nat) (cN:KN) (cX:KX) (x0 x1 x2 x3:Int) (x4:LI) (x5:L3) (x6:LL) (x7:LL) (x8:LI) (x9:Int) (A:LI) (B:LI) (C:LL) (D:LI):zo zP (tn69 14) (TM.evF zP (tn69) dOk (k+40)) dOk (k+40) (za zP (tn0 14) 14 16) 2 16 (cLau x0 x1 x2 x3 x4 x5 x6 x7 x8 x9 A B C D) cN cX=(cond (decide (x2 < x1)) (cond (ok (v33 x2 x4 x5 x6 x7 x8 x9 A B)) (cond (decide ((val (v33 x2 x4 x5 x6 x7 x8 x9 A B)).1 < 0)) (cX .ret ⟨[(4,.l 4 0),(5,vI ((4:Int)))],[(4,[.nil,.nil,I4 (0)])],[],0,true⟩) (cN (cLau x0 x1 (wI (x2+(1:Int))) x3 x4 x5 x6 x7 x8 x9 A B C D))) none) (cX (.exit 2) ⟨[(1,vI x0),(4,.l 4 0),(6,vP 0)],[(4,[.g 3,.g 4,I4 (x3)])],[(bx0 x4 x5 1 x6 2 x7 x8 x9),rD (A),rD (B),rL (C),rD (D)],0,false⟩)):=by kernel_rfl
theorem lLau (k m:Nat):∀ (n:Nat) (x0 x1 x2 x3:Int) (x4:LI) (x5:L3) (x6:LL) (x7:LL) (x8:LI) (x9:Int) (A:LI) (B:LI) (C:LL) (D:LI) (r:((Int×Int) ⊕ Unit)),Lau n x0 x1 x2 x3 x4 x5 x6 x7 x8 x9 A B C D=some r→zA zP (tn69 14) (TM.evF zP (tn69) dOk (k+40)) dOk (k+40) (za zP (tn0 14) 14 16) 2 16 (n+m) (cLau x0 x1 x2 x3 x4 x5 x6 x7 x8 x9 A B C D)=some (xLau x0 x1 x2 x3 x4 x5 x6 x7 x8 x9 A B C D r):=by
 intro n
 induction n with
 | zero=>intro _ _ _ _ _ _ _ _ _ _ _ _ _ _ r h;cases h
 | succ n ih=>
  intro x0 x1 x2 x3 x4 x5 x6 x7 x8 x9 A B C D r
  rw [show n+1+m=n+m+1 by omega,zk,bLau,qLau]
  with_reducible repeat' refine ze ?_ ?_
  all_goals first | exact ih _ _ _ _ _ _ _ _ _ _ _ _ _ _ r | (intro h;cases h;done) | (intro h;cases h;rfl)
noncomputable def sLau:TellS:=fun S=>tq (mS (cLau 0 0 0 0 [] [] [] [] [] 0 [] [] [] [])) S fun x0 x1 x2 x3 x4 x5 x6 x7 x8 x9 A B C D=>some [(isL (Lau FU x0 x1 x2 x3 x4 x5 x6 x7 x8 x9 A B C D),.ret,⟨[(4,.l 4 0),(5,vI ((zz (Lau FU x0 x1 x2 x3 x4 x5 x6 x7 x8 x9 A B C D)).1))],[(4,[.nil,.nil,I4 ((zz (Lau FU x0 x1 x2 x3 x4 x5 x6 x7 x8 x9 A B C D)).2)])],[],0,true⟩),(ok (zn (Lau FU x0 x1 x2 x3 x4 x5 x6 x7 x8 x9 A B C D)),(.exit 2),⟨[(1,vI x0),(4,.l 4 0),(6,vP 0)],[(4,[.g 3,.g 4,I4 (x3)])],[(bx0 x4 x5 1 x6 2 x7 x8 x9),rD (A),rD (B),rL (C),rD (D)],0,false⟩)]
theorem wLau:zh zP dOk base o69 t68 ((14,16),sLau):=by
 refine ⟨.loop (za zP (tn0 14) 14 16),2,by kernel_rfl,?_⟩
 intro S alts e S' h1 h2
 obtain ⟨_,rfl,g⟩:=tq_some h1
 clear h1
 change some _=_ at g
 cases g
 rcases zD h2 with ⟨hc0,rfl,rfl⟩ | h2
 · exact ⟨FU+40,(zb rfl).trans (lLau FU 40 FU _ _ _ _ _ _ _ _ _ _ _ _ _ _ _ (zM hc0))⟩
 obtain ⟨hc1,rfl,rfl⟩:=zf h2
 exact ⟨FU+40,(zb rfl).trans (lLau FU 40 FU _ _ _ _ _ _ _ _ _ _ _ _ _ _ _ (zG (zc hc1)))⟩
noncomputable def t70:TellT:=((14,16),sLau)::t68
abbrev tn70:=zd base o69 t70
theorem ok70:OKT tn70:=zi ok69 ok69 (p:=((14,16),sLau)) wLau
noncomputable def tv73 {β:Type} (x0 x1:Int) (K:(Int×Int)→Option β):Option β:=(K (wU (wU (wU (Int.fdiv x0 ((2:Int) ^ min (Int.toNat (32:Int)) (IntKind.bits IntKind.u64))*Int.fdiv x1 ((2:Int) ^ min (Int.toNat (32:Int)) (IntKind.bits IntKind.u64)))+Int.fdiv (wU (wU (Int.fdiv x0 ((2:Int) ^ min (Int.toNat (32:Int)) (IntKind.bits IntKind.u64))*wU (↑(BitVec.toNat (BitVec.ofInt (IntKind.bits IntKind.u64) x1 &&& BitVec.ofInt (IntKind.bits IntKind.u64) (4294967295:Int))):Int))+Int.fdiv (wU (wU (↑(BitVec.toNat (BitVec.ofInt (IntKind.bits IntKind.u64) x0 &&& BitVec.ofInt (IntKind.bits IntKind.u64) (4294967295:Int))):Int)*wU (↑(BitVec.toNat (BitVec.ofInt (IntKind.bits IntKind.u64) x1 &&& BitVec.ofInt (IntKind.bits IntKind.u64) (4294967295:Int))):Int))) ((2:Int) ^ min (Int.toNat (32:Int)) (IntKind.bits IntKind.u64)))) ((2:Int) ^ min (Int.toNat (32:Int)) (IntKind.bits IntKind.u64)))+Int.fdiv (wU (wU (↑(BitVec.toNat (BitVec.ofInt (IntKind.bits IntKind.u64) (wU (wU (Int.fdiv x0 ((2:Int) ^ min (Int.toNat (32:Int)) (IntKind.bits IntKind.u64))*wU (↑(BitVec.toNat (BitVec.ofInt (IntKind.bits IntKind.u64) x1 &&& BitVec.ofInt (IntKind.bits IntKind.u64) (4294967295:Int))):Int))+Int.fdiv (wU (wU (↑(BitVec.toNat (BitVec.ofInt (IntKind.bits IntKind.u64) x0 &&& BitVec.ofInt (IntKind.bits IntKind.u64) (4294967295:Int))):Int)*wU (↑(BitVec.toNat (BitVec.ofInt (IntKind.bits IntKind.u64) x1 &&& BitVec.ofInt (IntKind.bits IntKind.u64) (4294967295:Int))):Int))) ((2:Int) ^ min (Int.toNat (32:Int)) (IntKind.bits IntKind.u64)))) &&& BitVec.ofInt (IntKind.bits IntKind.u64) (4294967295:Int))):Int)+wU (wU (↑(BitVec.toNat (BitVec.ofInt (IntKind.bits IntKind.u64) x0 &&& BitVec.ofInt (IntKind.bits IntKind.u64) (4294967295:Int))):Int)*Int.fdiv x1 ((2:Int) ^ min (Int.toNat (32:Int)) (IntKind.bits IntKind.u64))))) ((2:Int) ^ min (Int.toNat (32:Int)) (IntKind.bits IntKind.u64))),wU (x0*x1)))
noncomputable def v73 (x0 x1:Int):Option (Int×Int):=tv73 x0 x1 some
abbrev aF73 (x0 x1:Int):List TA:=[.sc (.int .u64 x0),.sc (.int .u64 x1)]
theorem ev73 (x0 x1:Int):zt zP (tn70 73) (TM.evF zP (tn70) dOk 40) dOk 40 73 (aF73 x0 x1) []=(v73 x0 x1).bind fun r=>some ([.sc (.int .u64 (r.1)),.sc (.int .u64 (r.2))],[]):=by
 refine Eq.trans (b:=tv73 x0 x1 fun r=>some ([.sc (.int .u64 (r.1)),.sc (.int .u64 (r.2))],[])) (by kernel_rfl) ?_
 unfold v73 tv73
 with_reducible repeat' refine zp ?_ ?_
 all_goals rfl
noncomputable def sv73:OrcS:=fun al H=>tqa (aF73 0 0) [] al H fun x0 x1=>some [(ok (v73 x0 x1),[.sc (.int .u64 ((val (v73 x0 x1)).1)),.sc (.int .u64 ((val (v73 x0 x1)).2))],[])]
theorem wv73:zq zP dOk base o69 t70 (73,sv73):=by
 intro al H q hq rs H2 h2
 obtain ⟨_,_,rfl,rfl,g⟩:=tqa_some hq
 clear hq
 change some _=_ at g
 cases g
 obtain ⟨hc0,rfl,rfl⟩:=zg h2
 exact ⟨41,(zy (by kernel_rfl)).trans ((ev73 _ _).trans (zm (zc hc0)))⟩
noncomputable def o71:OrcT:=(73,sv73)::o69
abbrev tn71:=zd base o71 t70
theorem ok71:OKT tn71:=zr ok70 ok70 (p:=(73,sv73)) wv73
noncomputable def LbJ (x0 x1:Int):Option Int:=(cond (decide (0≤IntKind.wrap IntKind.u8 x0)) (cond (decide ((IntKind.wrap IntKind.u8 x0).toNat < ByteArray.size { data:=List.toArray (List.append (List.append [(0:UInt8),(1:UInt8),(2:UInt8),(2:UInt8),(3:UInt8),(3:UInt8),(3:UInt8),(3:UInt8),(4:UInt8),(4:UInt8),(4:UInt8),(4:UInt8),(4:UInt8),(4:UInt8),(4:UInt8),(4:UInt8),(5:UInt8),(5:UInt8),(5:UInt8),(5:UInt8),(5:UInt8),(5:UInt8),(5:UInt8),(5:UInt8),(5:UInt8),(5:UInt8),(5:UInt8),(5:UInt8),(5:UInt8),(5:UInt8),(5:UInt8),(5:UInt8),(6:UInt8),(6:UInt8),(6:UInt8),(6:UInt8),(6:UInt8),(6:UInt8),(6:UInt8),(6:UInt8),(6:UInt8),(6:UInt8),(6:UInt8),(6:UInt8),(6:UInt8),(6:UInt8),(6:UInt8),(6:UInt8),(6:UInt8),(6:UInt8),(6:UInt8),(6:UInt8),(6:UInt8),(6:UInt8),(6:UInt8),(6:UInt8),(6:UInt8),(6:UInt8),(6:UInt8),(6:UInt8),(6:UInt8),(6:UInt8),(6:UInt8),(6:UInt8)] [(7:UInt8),(7:UInt8),(7:UInt8),(7:UInt8),(7:UInt8),(7:UInt8),(7:UInt8),(7:UInt8),(7:UInt8),(7:UInt8),(7:UInt8),(7:UInt8),(7:UInt8),(7:UInt8),(7:UInt8),(7:UInt8),(7:UInt8),(7:UInt8),(7:UInt8),(7:UInt8),(7:UInt8),(7:UInt8),(7:UInt8),(7:UInt8),(7:UInt8),(7:UInt8),(7:UInt8),(7:UInt8),(7:UInt8),(7:UInt8),(7:UInt8),(7:UInt8),(7:UInt8),(7:UInt8),(7:UInt8),(7:UInt8),(7:UInt8),(7:UInt8),(7:UInt8),(7:UInt8),(7:UInt8),(7:UInt8),(7:UInt8),(7:UInt8),(7:UInt8),(7:UInt8),(7:UInt8),(7:UInt8),(7:UInt8),(7:UInt8),(7:UInt8),(7:UInt8),(7:UInt8),(7:UInt8),(7:UInt8),(7:UInt8),(7:UInt8),(7:UInt8),(7:UInt8),(7:UInt8),(7:UInt8),(7:UInt8),(7:UInt8),(7:UInt8)]) (List.append [(8:UInt8),(8:UInt8),(8:UInt8),(8:UInt8),(8:UInt8),(8:UInt8),(8:UInt8),(8:UInt8),(8:UInt8),(8:UInt8),(8:UInt8),(8:UInt8),(8:UInt8),(8:UInt8),(8:UInt8),(8:UInt8),(8:UInt8),(8:UInt8),(8:UInt8),(8:UInt8),(8:UInt8),(8:UInt8),(8:UInt8),(8:UInt8),(8:UInt8),(8:UInt8),(8:UInt8),(8:UInt8),(8:UInt8),(8:UInt8),(8:UInt8),(8:UInt8),(8:UInt8),(8:UInt8),(8:UInt8),(8:UInt8),(8:UInt8),(8:UInt8),(8:UInt8),(8:UInt8),(8:UInt8),(8:UInt8),(8:UInt8),(8:UInt8),(8:UInt8),(8:UInt8),(8:UInt8),(8:UInt8),(8:UInt8),(8:UInt8),(8:UInt8),(8:UInt8),(8:UInt8),(8:UInt8),(8:UInt8),(8:UInt8),(8:UInt8),(8:UInt8),(8:UInt8),(8:UInt8),(8:UInt8),(8:UInt8),(8:UInt8),(8:UInt8)] [(8:UInt8),(8:UInt8),(8:UInt8),(8:UInt8),(8:UInt8),(8:UInt8),(8:UInt8),(8:UInt8),(8:UInt8),(8:UInt8),(8:UInt8),(8:UInt8),(8:UInt8),(8:UInt8),(8:UInt8),(8:UInt8),(8:UInt8),(8:UInt8),(8:UInt8),(8:UInt8),(8:UInt8),(8:UInt8),(8:UInt8),(8:UInt8),(8:UInt8),(8:UInt8),(8:UInt8),(8:UInt8),(8:UInt8),(8:UInt8),(8:UInt8),(8:UInt8),(8:UInt8),(8:UInt8),(8:UInt8),(8:UInt8),(8:UInt8),(8:UInt8),(8:UInt8),(8:UInt8),(8:UInt8),(8:UInt8),(8:UInt8),(8:UInt8),(8:UInt8),(8:UInt8),(8:UInt8),(8:UInt8),(8:UInt8),(8:UInt8),(8:UInt8),(8:UInt8),(8:UInt8),(8:UInt8),(8:UInt8),(8:UInt8),(8:UInt8),(8:UInt8),(8:UInt8),(8:UInt8),(8:UInt8),(8:UInt8),(8:UInt8),(8:UInt8)])) })) (some (wI (x1+wI (↑(UInt8.toNat (Array.getD (ByteArray.data { data:=List.toArray (List.append (List.append [(0:UInt8),(1:UInt8),(2:UInt8),(2:UInt8),(3:UInt8),(3:UInt8),(3:UInt8),(3:UInt8),(4:UInt8),(4:UInt8),(4:UInt8),(4:UInt8),(4:UInt8),(4:UInt8),(4:UInt8),(4:UInt8),(5:UInt8),(5:UInt8),(5:UInt8),(5:UInt8),(5:UInt8),(5:UInt8),(5:UInt8),(5:UInt8),(5:UInt8),(5:UInt8),(5:UInt8),(5:UInt8),(5:UInt8),(5:UInt8),(5:UInt8),(5:UInt8),(6:UInt8),(6:UInt8),(6:UInt8),(6:UInt8),(6:UInt8),(6:UInt8),(6:UInt8),(6:UInt8),(6:UInt8),(6:UInt8),(6:UInt8),(6:UInt8),(6:UInt8),(6:UInt8),(6:UInt8),(6:UInt8),(6:UInt8),(6:UInt8),(6:UInt8),(6:UInt8),(6:UInt8),(6:UInt8),(6:UInt8),(6:UInt8),(6:UInt8),(6:UInt8),(6:UInt8),(6:UInt8),(6:UInt8),(6:UInt8),(6:UInt8),(6:UInt8)] [(7:UInt8),(7:UInt8),(7:UInt8),(7:UInt8),(7:UInt8),(7:UInt8),(7:UInt8),(7:UInt8),(7:UInt8),(7:UInt8),(7:UInt8),(7:UInt8),(7:UInt8),(7:UInt8),(7:UInt8),(7:UInt8),(7:UInt8),(7:UInt8),(7:UInt8),(7:UInt8),(7:UInt8),(7:UInt8),(7:UInt8),(7:UInt8),(7:UInt8),(7:UInt8),(7:UInt8),(7:UInt8),(7:UInt8),(7:UInt8),(7:UInt8),(7:UInt8),(7:UInt8),(7:UInt8),(7:UInt8),(7:UInt8),(7:UInt8),(7:UInt8),(7:UInt8),(7:UInt8),(7:UInt8),(7:UInt8),(7:UInt8),(7:UInt8),(7:UInt8),(7:UInt8),(7:UInt8),(7:UInt8),(7:UInt8),(7:UInt8),(7:UInt8),(7:UInt8),(7:UInt8),(7:UInt8),(7:UInt8),(7:UInt8),(7:UInt8),(7:UInt8),(7:UInt8),(7:UInt8),(7:UInt8),(7:UInt8),(7:UInt8),(7:UInt8)]) (List.append [(8:UInt8),(8:UInt8),(8:UInt8),(8:UInt8),(8:UInt8),(8:UInt8),(8:UInt8),(8:UInt8),(8:UInt8),(8:UInt8),(8:UInt8),(8:UInt8),(8:UInt8),(8:UInt8),(8:UInt8),(8:UInt8),(8:UInt8),(8:UInt8),(8:UInt8),(8:UInt8),(8:UInt8),(8:UInt8),(8:UInt8),(8:UInt8),(8:UInt8),(8:UInt8),(8:UInt8),(8:UInt8),(8:UInt8),(8:UInt8),(8:UInt8),(8:UInt8),(8:UInt8),(8:UInt8),(8:UInt8),(8:UInt8),(8:UInt8),(8:UInt8),(8:UInt8),(8:UInt8),(8:UInt8),(8:UInt8),(8:UInt8),(8:UInt8),(8:UInt8),(8:UInt8),(8:UInt8),(8:UInt8),(8:UInt8),(8:UInt8),(8:UInt8),(8:UInt8),(8:UInt8),(8:UInt8),(8:UInt8),(8:UInt8),(8:UInt8),(8:UInt8),(8:UInt8),(8:UInt8),(8:UInt8),(8:UInt8),(8:UInt8),(8:UInt8)] [(8:UInt8),(8:UInt8),(8:UInt8),(8:UInt8),(8:UInt8),(8:UInt8),(8:UInt8),(8:UInt8),(8:UInt8),(8:UInt8),(8:UInt8),(8:UInt8),(8:UInt8),(8:UInt8),(8:UInt8),(8:UInt8),(8:UInt8),(8:UInt8),(8:UInt8),(8:UInt8),(8:UInt8),(8:UInt8),(8:UInt8),(8:UInt8),(8:UInt8),(8:UInt8),(8:UInt8),(8:UInt8),(8:UInt8),(8:UInt8),(8:UInt8),(8:UInt8),(8:UInt8),(8:UInt8),(8:UInt8),(8:UInt8),(8:UInt8),(8:UInt8),(8:UInt8),(8:UInt8),(8:UInt8),(8:UInt8),(8:UInt8),(8:UInt8),(8:UInt8),(8:UInt8),(8:UInt8),(8:UInt8),(8:UInt8),(8:UInt8),(8:UInt8),(8:UInt8),(8:UInt8),(8:UInt8),(8:UInt8),(8:UInt8),(8:UInt8),(8:UInt8),(8:UInt8),(8:UInt8),(8:UInt8),(8:UInt8),(8:UInt8),(8:UInt8)])) }) (IntKind.wrap IntKind.u8 x0).toNat (0:UInt8))):Int)))) none) none)
noncomputable def xLbJ (x0 x1:Int):Int→Ex×CS:=fun r=>(.ret,⟨[(2,vI (r))],[],[],0,true⟩)
abbrev cLbJ (x0 x1:Int):CS:=⟨[(0,.v (.sc (.int .u64 x0))),(2,vI x1)],[],[],0,false⟩
theorem bLbJ (k:Nat) (cX:Ex→CS→Option (Ex×CS)) (x0 x1:Int):zl zP (tn71 84) (TM.evF zP (tn71) dOk (k+40)) dOk (k+40) (za zP (tn0 84) 84 84) 0 84 (cLbJ x0 x1) cX=(cond (decide (0≤IntKind.wrap IntKind.u8 x0)) (cond (decide ((IntKind.wrap IntKind.u8 x0).toNat < ByteArray.size { data:=List.toArray (List.append (List.append [(0:UInt8),(1:UInt8),(2:UInt8),(2:UInt8),(3:UInt8),(3:UInt8),(3:UInt8),(3:UInt8),(4:UInt8),(4:UInt8),(4:UInt8),(4:UInt8),(4:UInt8),(4:UInt8),(4:UInt8),(4:UInt8),(5:UInt8),(5:UInt8),(5:UInt8),(5:UInt8),(5:UInt8),(5:UInt8),(5:UInt8),(5:UInt8),(5:UInt8),(5:UInt8),(5:UInt8),(5:UInt8),(5:UInt8),(5:UInt8),(5:UInt8),(5:UInt8),(6:UInt8),(6:UInt8),(6:UInt8),(6:UInt8),(6:UInt8),(6:UInt8),(6:UInt8),(6:UInt8),(6:UInt8),(6:UInt8),(6:UInt8),(6:UInt8),(6:UInt8),(6:UInt8),(6:UInt8),(6:UInt8),(6:UInt8),(6:UInt8),(6:UInt8),(6:UInt8),(6:UInt8),(6:UInt8),(6:UInt8),(6:UInt8),(6:UInt8),(6:UInt8),(6:UInt8),(6:UInt8),(6:UInt8),(6:UInt8),(6:UInt8),(6:UInt8)] [(7:UInt8),(7:UInt8),(7:UInt8),(7:UInt8),(7:UInt8),(7:UInt8),(7:UInt8),(7:UInt8),(7:UInt8),(7:UInt8),(7:UInt8),(7:UInt8),(7:UInt8),(7:UInt8),(7:UInt8),(7:UInt8),(7:UInt8),(7:UInt8),(7:UInt8),(7:UInt8),(7:UInt8),(7:UInt8),(7:UInt8),(7:UInt8),(7:UInt8),(7:UInt8),(7:UInt8),(7:UInt8),(7:UInt8),(7:UInt8),(7:UInt8),(7:UInt8),(7:UInt8),(7:UInt8),(7:UInt8),(7:UInt8),(7:UInt8),(7:UInt8),(7:UInt8),(7:UInt8),(7:UInt8),(7:UInt8),(7:UInt8),(7:UInt8),(7:UInt8),(7:UInt8),(7:UInt8),(7:UInt8),(7:UInt8),(7:UInt8),(7:UInt8),(7:UInt8),(7:UInt8),(7:UInt8),(7:UInt8),(7:UInt8),(7:UInt8),(7:UInt8),(7:UInt8),(7:UInt8),(7:UInt8),(7:UInt8),(7:UInt8),(7:UInt8)]) (List.append [(8:UInt8),(8:UInt8),(8:UInt8),(8:UInt8),(8:UInt8),(8:UInt8),(8:UInt8),(8:UInt8),(8:UInt8),(8:UInt8),(8:UInt8),(8:UInt8),(8:UInt8),(8:UInt8),(8:UInt8),(8:UInt8),(8:UInt8),(8:UInt8),(8:UInt8),(8:UInt8),(8:UInt8),(8:UInt8),(8:UInt8),(8:UInt8),(8:UInt8),(8:UInt8),(8:UInt8),(8:UInt8),(8:UInt8),(8:UInt8),(8:UInt8),(8:UInt8),(8:UInt8),(8:UInt8),(8:UInt8),(8:UInt8),(8:UInt8),(8:UInt8),(8:UInt8),(8:UInt8),(8:UInt8),(8:UInt8),(8:UInt8),(8:UInt8),(8:UInt8),(8:UInt8),(8:UInt8),(8:UInt8),(8:UInt8),(8:UInt8),(8:UInt8),(8:UInt8),(8:UInt8),(8:UInt8),(8:UInt8),(8:UInt8),(8:UInt8),(8:UInt8),(8:UInt8),(8:UInt8),(8:UInt8),(8:UInt8),(8:UInt8),(8:UInt8)] [(8:UInt8),(8:UInt8),(8:UInt8),(8:UInt8),(8:UInt8),(8:UInt8),(8:UInt8),(8:UInt8),(8:UInt8),(8:UInt8),(8:UInt8),(8:UInt8),(8:UInt8),(8:UInt8),(8:UInt8),(8:UInt8),(8:UInt8),(8:UInt8),(8:UInt8),(8:UInt8),(8:UInt8),(8:UInt8),(8:UInt8),(8:UInt8),(8:UInt8),(8:UInt8),(8:UInt8),(8:UInt8),(8:UInt8),(8:UInt8),(8:UInt8),(8:UInt8),(8:UInt8),(8:UInt8),(8:UInt8),(8:UInt8),(8:UInt8),(8:UInt8),(8:UInt8),(8:UInt8),(8:UInt8),(8:UInt8),(8:UInt8),(8:UInt8),(8:UInt8),(8:UInt8),(8:UInt8),(8:UInt8),(8:UInt8),(8:UInt8),(8:UInt8),(8:UInt8),(8:UInt8),(8:UInt8),(8:UInt8),(8:UInt8),(8:UInt8),(8:UInt8),(8:UInt8),(8:UInt8),(8:UInt8),(8:UInt8),(8:UInt8),(8:UInt8)])) })) (cP cX (xLbJ x0 x1 (wI (x1+wI (↑(UInt8.toNat (Array.getD (ByteArray.data { data:=List.toArray (List.append (List.append [(0:UInt8),(1:UInt8),(2:UInt8),(2:UInt8),(3:UInt8),(3:UInt8),(3:UInt8),(3:UInt8),(4:UInt8),(4:UInt8),(4:UInt8),(4:UInt8),(4:UInt8),(4:UInt8),(4:UInt8),(4:UInt8),(5:UInt8),(5:UInt8),(5:UInt8),(5:UInt8),(5:UInt8),(5:UInt8),(5:UInt8),(5:UInt8),(5:UInt8),(5:UInt8),(5:UInt8),(5:UInt8),(5:UInt8),(5:UInt8),(5:UInt8),(5:UInt8),(6:UInt8),(6:UInt8),(6:UInt8),(6:UInt8),(6:UInt8),(6:UInt8),(6:UInt8),(6:UInt8),(6:UInt8),(6:UInt8),(6:UInt8),(6:UInt8),(6:UInt8),(6:UInt8),(6:UInt8),(6:UInt8),(6:UInt8),(6:UInt8),(6:UInt8),(6:UInt8),(6:UInt8),(6:UInt8),(6:UInt8),(6:UInt8),(6:UInt8),(6:UInt8),(6:UInt8),(6:UInt8),(6:UInt8),(6:UInt8),(6:UInt8),(6:UInt8)] [(7:UInt8),(7:UInt8),(7:UInt8),(7:UInt8),(7:UInt8),(7:UInt8),(7:UInt8),(7:UInt8),(7:UInt8),(7:UInt8),(7:UInt8),(7:UInt8),(7:UInt8),(7:UInt8),(7:UInt8),(7:UInt8),(7:UInt8),(7:UInt8),(7:UInt8),(7:UInt8),(7:UInt8),(7:UInt8),(7:UInt8),(7:UInt8),(7:UInt8),(7:UInt8),(7:UInt8),(7:UInt8),(7:UInt8),(7:UInt8),(7:UInt8),(7:UInt8),(7:UInt8),(7:UInt8),(7:UInt8),(7:UInt8),(7:UInt8),(7:UInt8),(7:UInt8),(7:UInt8),(7:UInt8),(7:UInt8),(7:UInt8),(7:UInt8),(7:UInt8),(7:UInt8),(7:UInt8),(7:UInt8),(7:UInt8),(7:UInt8),(7:UInt8),(7:UInt8),(7:UInt8),(7:UInt8),(7:UInt8),(7:UInt8),(7:UInt8),(7:UInt8),(7:UInt8),(7:UInt8),(7:UInt8),(7:UInt8),(7:UInt8),(7:UInt8)]) (List.append [(8:UInt8),(8:UInt8),(8:UInt8),(8:UInt8),(8:UInt8),(8:UInt8),(8:UInt8),(8:UInt8),(8:UInt8),(8:UInt8),(8:UInt8),(8:UInt8),(8:UInt8),(8:UInt8),(8:UInt8),(8:UInt8),(8:UInt8),(8:UInt8),(8:UInt8),(8:UInt8),(8:UInt8),(8:UInt8),(8:UInt8),(8:UInt8),(8:UInt8),(8:UInt8),(8:UInt8),(8:UInt8),(8:UInt8),(8:UInt8),(8:UInt8),(8:UInt8),(8:UInt8),(8:UInt8),(8:UInt8),(8:UInt8),(8:UInt8),(8:UInt8),(8:UInt8),(8:UInt8),(8:UInt8),(8:UInt8),(8:UInt8),(8:UInt8),(8:UInt8),(8:UInt8),(8:UInt8),(8:UInt8),(8:UInt8),(8:UInt8),(8:UInt8),(8:UInt8),(8:UInt8),(8:UInt8),(8:UInt8),(8:UInt8),(8:UInt8),(8:UInt8),(8:UInt8),(8:UInt8),(8:UInt8),(8:UInt8),(8:UInt8),(8:UInt8)] [(8:UInt8),(8:UInt8),(8:UInt8),(8:UInt8),(8:UInt8),(8:UInt8),(8:UInt8),(8:UInt8),(8:UInt8),(8:UInt8),(8:UInt8),(8:UInt8),(8:UInt8),(8:UInt8),(8:UInt8),(8:UInt8),(8:UInt8),(8:UInt8),(8:UInt8),(8:UInt8),(8:UInt8),(8:UInt8),(8:UInt8),(8:UInt8),(8:UInt8),(8:UInt8),(8:UInt8),(8:UInt8),(8:UInt8),(8:UInt8),(8:UInt8),(8:UInt8),(8:UInt8),(8:UInt8),(8:UInt8),(8:UInt8),(8:UInt8),(8:UInt8),(8:UInt8),(8:UInt8),(8:UInt8),(8:UInt8),(8:UInt8),(8:UInt8),(8:UInt8),(8:UInt8),(8:UInt8),(8:UInt8),(8:UInt8),(8:UInt8),(8:UInt8),(8:UInt8),(8:UInt8),(8:UInt8),(8:UInt8),(8:UInt8),(8:UInt8),(8:UInt8),(8:UInt8),(8:UInt8),(8:UInt8),(8:UInt8),(8:UInt8),(8:UInt8)])) }) (IntKind.wrap IntKind.u8 x0).toNat (0:UInt8))):Int))))) none) none):=by kernel_rfl
theorem lLbJ (k:Nat) (x0 x1:Int) (r:Int):LbJ x0 x1=some r→zl zP (tn71 84) (TM.evF zP (tn71) dOk (k+40)) dOk (k+40) (za zP (tn0 84) 84 84) 0 84 (cLbJ x0 x1) (fun e s=>some (e,s))=some (xLbJ x0 x1 r):=by
 rw [bLbJ]
 unfold LbJ
 refine ze ?_ ?_
 refine ze ?_ ?_
 intro h;cases h;rfl
 intro h;cases h
 intro h;cases h
noncomputable def sLbJ:TellS:=fun S=>tq (mS (cLbJ 0 0)) S fun x0 x1=>some [(ok (LbJ x0 x1),.ret,⟨[(2,vI ((val (LbJ x0 x1))))],[],[],0,true⟩)]
theorem wLbJ:zh zP dOk base o71 t70 ((84,84),sLbJ):=by
 refine ⟨(za zP (tn0 84) 84 84),0,by kernel_rfl,?_⟩
 intro S alts e S' h1 h2
 obtain ⟨_,rfl,g⟩:=tq_some h1
 clear h1
 change some _=_ at g
 cases g
 obtain ⟨hc0,rfl,rfl⟩:=zf h2
 exact ⟨0+40,(zx rfl).trans (lLbJ 0 _ _ _ (zc hc0))⟩
noncomputable def t72:TellT:=((84,84),sLbJ)::t70
abbrev tn72:=zd base o71 t72
theorem ok72:OKT tn72:=zi ok71 ok71 (p:=((84,84),sLbJ)) wLbJ
noncomputable def Lbv (x0 x1:Int):Option Int:=(cond (decide (x0≥(256:Int))) (cond (ok (LbJ (Int.fdiv x0 ((2:Int) ^ min (Int.toNat (8:Int)) (IntKind.bits IntKind.u64))) (wI (x1+(8:Int))))) (some (val (LbJ (Int.fdiv x0 ((2:Int) ^ min (Int.toNat (8:Int)) (IntKind.bits IntKind.u64))) (wI (x1+(8:Int)))))) none) (cond (ok (LbJ x0 x1)) (some (val (LbJ x0 x1))) none))
noncomputable def xLbv (x0 x1:Int):Int→Ex×CS:=fun r=>(.ret,⟨[(2,vI (r))],[],[],0,true⟩)
abbrev cLbv (x0 x1:Int):CS:=⟨[(0,.v (.sc (.int .u64 x0))),(2,vI x1)],[],[],0,false⟩
theorem bLbv (k:Nat) (cX:Ex→CS→Option (Ex×CS)) (x0 x1:Int):zl zP (tn72 84) (TM.evF zP (tn72) dOk (k+40)) dOk (k+40) (za zP (tn0 84) 84 60) 0 60 (cLbv x0 x1) cX=(cond (decide (x0≥(256:Int))) (ob (LbJ (Int.fdiv x0 ((2:Int) ^ min (Int.toNat (8:Int)) (IntKind.bits IntKind.u64))) (wI (x1+(8:Int)))) fun r1=>(cP cX (xLbv x0 x1 r1))) (cond (ok (LbJ x0 x1)) (cP cX (xLbv x0 x1 (val (LbJ x0 x1)))) none)):=by kernel_rfl
theorem lLbv (k:Nat) (x0 x1:Int) (r:Int):Lbv x0 x1=some r→zl zP (tn72 84) (TM.evF zP (tn72) dOk (k+40)) dOk (k+40) (za zP (tn0 84) 84 60) 0 60 (cLbv x0 x1) (fun e s=>some (e,s))=some (xLbv x0 x1 r):=by
 rw [bLbv]
 unfold Lbv
 refine ze ?_ ?_
 refine ze ?_ ?_
 intro h;cases h;rfl
 intro h;cases h
 refine ze ?_ ?_
 intro h;cases h;rfl
 intro h;cases h
noncomputable def sLbv:TellS:=fun S=>tq (mS (cLbv 0 0)) S fun x0 x1=>some [(ok (Lbv x0 x1),.ret,⟨[(2,vI ((val (Lbv x0 x1))))],[],[],0,true⟩)]
theorem wLbv:zh zP dOk base o71 t72 ((84,60),sLbv):=by
 refine ⟨(za zP (tn0 84) 84 60),0,by kernel_rfl,?_⟩
 intro S alts e S' h1 h2
 obtain ⟨_,rfl,g⟩:=tq_some h1
 clear h1
 change some _=_ at g
 cases g
 obtain ⟨hc0,rfl,rfl⟩:=zf h2
 exact ⟨0+40,(zx rfl).trans (lLbv 0 _ _ _ (zc hc0))⟩
noncomputable def t73:TellT:=((84,60),sLbv)::t72
abbrev tn73:=zd base o71 t73
theorem ok73:OKT tn73:=zi ok72 ok72 (p:=((84,60),sLbv)) wLbv
noncomputable def LbR (x0 x1:Int):Option Int:=(cond (decide (x0≥(65536:Int))) (cond (ok (Lbv (Int.fdiv x0 ((2:Int) ^ min (Int.toNat (16:Int)) (IntKind.bits IntKind.u64))) (wI (x1+(16:Int))))) (some (val (Lbv (Int.fdiv x0 ((2:Int) ^ min (Int.toNat (16:Int)) (IntKind.bits IntKind.u64))) (wI (x1+(16:Int)))))) none) (cond (ok (Lbv x0 x1)) (some (val (Lbv x0 x1))) none))
noncomputable def xLbR (x0 x1:Int):Int→Ex×CS:=fun r=>(.ret,⟨[(2,vI (r))],[],[],0,true⟩)
abbrev cLbR (x0 x1:Int):CS:=⟨[(0,.v (.sc (.int .u64 x0))),(2,vI x1)],[],[],0,false⟩
theorem bLbR (k:Nat) (cX:Ex→CS→Option (Ex×CS)) (x0 x1:Int):zl zP (tn73 84) (TM.evF zP (tn73) dOk (k+40)) dOk (k+40) (za zP (tn0 84) 84 36) 0 36 (cLbR x0 x1) cX=(cond (decide (x0≥(65536:Int))) (ob (Lbv (Int.fdiv x0 ((2:Int) ^ min (Int.toNat (16:Int)) (IntKind.bits IntKind.u64))) (wI (x1+(16:Int)))) fun r1=>(cP cX (xLbR x0 x1 r1))) (cond (ok (Lbv x0 x1)) (cP cX (xLbR x0 x1 (val (Lbv x0 x1)))) none)):=by kernel_rfl
theorem lLbR (k:Nat) (x0 x1:Int) (r:Int):LbR x0 x1=some r→zl zP (tn73 84) (TM.evF zP (tn73) dOk (k+40)) dOk (k+40) (za zP (tn0 84) 84 36) 0 36 (cLbR x0 x1) (fun e s=>some (e,s))=some (xLbR x0 x1 r):=by
 rw [bLbR]
 unfold LbR
 refine ze ?_ ?_
 refine ze ?_ ?_
 intro h;cases h;rfl
 intro h;cases h
 refine ze ?_ ?_
 intro h;cases h;rfl
 intro h;cases h
noncomputable def sLbR:TellS:=fun S=>tq (mS (cLbR 0 0)) S fun x0 x1=>some [(ok (LbR x0 x1),.ret,⟨[(2,vI ((val (LbR x0 x1))))],[],[],0,true⟩)]
theorem wLbR:zh zP dOk base o71 t73 ((84,36),sLbR):=by
 refine ⟨(za zP (tn0 84) 84 36),0,by kernel_rfl,?_⟩
 intro S alts e S' h1 h2
 obtain ⟨_,rfl,g⟩:=tq_some h1
 clear h1
 change some _=_ at g
 cases g
 obtain ⟨hc0,rfl,rfl⟩:=zf h2
 exact ⟨0+40,(zx rfl).trans (lLbR 0 _ _ _ (zc hc0))⟩
noncomputable def t74:TellT:=((84,36),sLbR)::t73
abbrev tn74:=zd base o71 t74
theorem ok74:OKT tn74:=zi ok73 ok73 (p:=((84,36),sLbR)) wLbR
noncomputable def tv84 {β:Type} (x0:Int) (K:Int→Option β):Option β:=(cond (decide (x0≥(4294967296:Int))) (cond (ok (LbR (Int.fdiv x0 ((2:Int) ^ min (Int.toNat (32:Int)) (IntKind.bits IntKind.u64))) (32:Int))) (K (val (LbR (Int.fdiv x0 ((2:Int) ^ min (Int.toNat (32:Int)) (IntKind.bits IntKind.u64))) (32:Int)))) none) (cond (ok (LbR x0 0)) (K (val (LbR x0 0))) none))
noncomputable def v84 (x0:Int):Option Int:=tv84 x0 some
abbrev aF84 (x0:Int):List TA:=[.sc (.int .u64 x0)]
theorem ev84 (x0:Int):zt zP (tn74 84) (TM.evF zP (tn74) dOk 40) dOk 40 84 (aF84 x0) []=(v84 x0).bind fun r=>some ([.sc (I4 (r))],[]):=by
 refine Eq.trans (b:=tv84 x0 fun r=>some ([.sc (I4 (r))],[])) (by kernel_rfl) ?_
 unfold v84 tv84
 with_reducible repeat' refine zp ?_ ?_
 all_goals rfl
noncomputable def sv84:OrcS:=fun al H=>tqa (aF84 0) [] al H fun x0=>some [(ok (v84 x0),[.sc (I4 ((val (v84 x0))))],[])]
theorem wv84:zq zP dOk base o71 t74 (84,sv84):=by
 intro al H q hq rs H2 h2
 obtain ⟨_,_,rfl,rfl,g⟩:=tqa_some hq
 clear hq
 change some _=_ at g
 cases g
 obtain ⟨hc0,rfl,rfl⟩:=zg h2
 exact ⟨41,(zy (by kernel_rfl)).trans ((ev84 _).trans (zm (zc hc0)))⟩
noncomputable def o75:OrcT:=(84,sv84)::o71
abbrev tn75:=zd base o75 t74
theorem ok75:OKT tn75:=zr ok74 ok74 (p:=(84,sv84)) wv84
noncomputable def v80 (x0:Int):Option Int:=(cond (ok (v84 x0)) (some (wI ((64:Int) - val (v84 x0)))) none)
abbrev aF80 (x0:Int):List TA:=[.sc (.int .u64 x0)]
theorem ev80 (x0:Int):zt zP (tn75 80) (TM.evF zP (tn75) dOk 40) dOk 40 80 (aF80 x0) []=(v80 x0).bind fun r=>some ([.sc (I4 (r))],[]):=by
 refine Eq.trans (b:=(cond (ok (v84 x0)) (some ([.sc (I4 (wI ((64:Int) - val (v84 x0))))],[])) none)) (by kernel_rfl) ?_
 unfold v80
 with_reducible repeat' refine zp ?_ ?_
 all_goals rfl
noncomputable def sv80:OrcS:=fun al H=>tqa (aF80 0) [] al H fun x0=>some [(ok (v80 x0),[.sc (I4 ((val (v80 x0))))],[])]
theorem wv80:zq zP dOk base o75 t74 (80,sv80):=by
 intro al H q hq rs H2 h2
 obtain ⟨_,_,rfl,rfl,g⟩:=tqa_some hq
 clear hq
 change some _=_ at g
 cases g
 obtain ⟨hc0,rfl,rfl⟩:=zg h2
 exact ⟨41,(zy (by kernel_rfl)).trans ((ev80 _).trans (zm (zc hc0)))⟩
noncomputable def o76:OrcT:=(80,sv80)::o75
abbrev tn76:=zd base o76 t74
theorem ok76:OKT tn76:=zr ok75 ok75 (p:=(80,sv80)) wv80
noncomputable def LaL:Nat→Int→Int→Int→Int→Int→Int→Int→Int→Int→Option Int
 | 0,_,_,_,_,_,_,_,_,_=>none
 | n+1,x0,x1,x2,x3,x4,x5,x6,x7,x8=>(cond (decide (x7≥(4294967296:Int))) (cond (decide (wU (x8+x2)≥(4294967296:Int))) (some (wU (x7 - (1:Int)))) (LaL n x0 x1 x2 x3 x4 x5 x6 (wU (x7 - (1:Int))) (wU (x8+x2)))) (cond (decide (wU (x7*x3) > wU (wU ((4294967296:Int)*x8)+x5))) (cond (decide (wU (x8+x2)≥(4294967296:Int))) (some (wU (x7 - (1:Int)))) (LaL n x0 x1 x2 x3 x4 x5 x6 (wU (x7 - (1:Int))) (wU (x8+x2)))) (some x7)))
theorem qLaL:type_of% @LaL.eq_2:=@LaL.eq_2
noncomputable def xLaL (x0 x1 x2 x3 x4 x5 x6 x7 x8:Int):Int→Ex×CS:=fun r=>((.exit 0),⟨[(2,.v (.sc (.int .u64 x0))),(8,.v (.sc (.int .u64 x1))),(9,.v (.sc (.int .u64 x2))),(10,.v (.sc (.int .u64 x3))),(11,.v (.sc (.int .u64 x4))),(13,.v (.sc (.int .u64 x5))),(14,.v (.sc (.int .u64 x6))),(15,.v (.sc (.int .u64 (r))))],[],[],0,false⟩)
abbrev cLaL (x0 x1 x2 x3 x4 x5 x6 x7 x8:Int):CS:=⟨[(2,.v (.sc (.int .u64 x0))),(8,.v (.sc (.int .u64 x1))),(9,.v (.sc (.int .u64 x2))),(10,.v (.sc (.int .u64 x3))),(11,.v (.sc (.int .u64 x4))),(13,.v (.sc (.int .u64 x5))),(14,.v (.sc (.int .u64 x6))),(15,.v (.sc (.int .u64 x7))),(16,.v (.sc (.int .u64 x8)))],[],[],0,false⟩
theorem bLaL (k:Nat) (cN:KN) (cX:KX) (x0 x1 x2 x3 x4 x5 x6 x7 x8:Int):zo zP (tn76 74) (TM.evF zP (tn76) dOk (k+40)) dOk (k+40) (za zP (tn0 74) 74 0) 0 0 (cLaL x0 x1 x2 x3 x4 x5 x6 x7 x8) cN cX=(cond (decide (x7≥(4294967296:Int))) (cond (decide (wU (x8+x2)≥(4294967296:Int))) (cP cX (xLaL x0 x1 x2 x3 x4 x5 x6 x7 x8 (wU (x7 - (1:Int))))) (cN (cLaL x0 x1 x2 x3 x4 x5 x6 (wU (x7 - (1:Int))) (wU (x8+x2))))) (cond (decide (wU (x7*x3) > wU (wU ((4294967296:Int)*x8)+x5))) (cond (decide (wU (x8+x2)≥(4294967296:Int))) (cP cX (xLaL x0 x1 x2 x3 x4 x5 x6 x7 x8 (wU (x7 - (1:Int))))) (cN (cLaL x0 x1 x2 x3 x4 x5 x6 (wU (x7 - (1:Int))) (wU (x8+x2))))) (cP cX (xLaL x0 x1 x2 x3 x4 x5 x6 x7 x8 x7)))):=by kernel_rfl
theorem lLaL (k m:Nat):∀ (n:Nat) (x0 x1 x2 x3 x4 x5 x6 x7 x8:Int) (r:Int),LaL n x0 x1 x2 x3 x4 x5 x6 x7 x8=some r→zA zP (tn76 74) (TM.evF zP (tn76) dOk (k+40)) dOk (k+40) (za zP (tn0 74) 74 0) 0 0 (n+m) (cLaL x0 x1 x2 x3 x4 x5 x6 x7 x8)=some (xLaL x0 x1 x2 x3 x4 x5 x6 x7 x8 r):=by
 intro n
 induction n with
 | zero=>intro _ _ _ _ _ _ _ _ _ r h;cases h
 | succ n ih=>
  intro x0 x1 x2 x3 x4 x5 x6 x7 x8 r
  rw [show n+1+m=n+m+1 by omega,zk,bLaL,qLaL]
  with_reducible repeat' refine ze ?_ ?_
  all_goals first | exact ih _ _ _ _ _ _ _ _ _ r | (intro h;cases h;done) | (intro h;cases h;rfl)
noncomputable def sLaL:TellS:=fun S=>tq (mS (cLaL 0 0 0 0 0 0 0 0 0)) S fun x0 x1 x2 x3 x4 x5 x6 x7 x8=>some [te (LaL FU x0 x1 x2 x3 x4 x5 x6 x7 x8) (xLaL x0 x1 x2 x3 x4 x5 x6 x7 x8)]
theorem wLaL:zh zP dOk base o76 t74 ((74,0),sLaL):=by
 refine ⟨.loop (za zP (tn0 74) 74 0),0,by kernel_rfl,?_⟩
 intro S alts e S' h1 h2
 obtain ⟨_,rfl,g⟩:=tq_some h1
 clear h1
 change some _=_ at g
 cases g
 obtain ⟨hc0,rfl,rfl⟩:=zf h2
 exact ⟨FU+40,(zb rfl).trans (lLaL FU 40 FU _ _ _ _ _ _ _ _ _ _ (zc hc0))⟩
noncomputable def t77:TellT:=((74,0),sLaL)::t74
abbrev tn77:=zd base o76 t77
theorem ok77:OKT tn77:=zi ok76 ok76 (p:=((74,0),sLaL)) wLaL
noncomputable def LaI:Nat→Int→Int→Int→Int→Int→Int→Int→Int→Int→Option Int
 | 0,_,_,_,_,_,_,_,_,_=>none
 | n+1,x0,x1,x2,x3,x4,x5,x6,x7,x8=>(cond (decide (x8≥(4294967296:Int))) (cond (decide (wU (x6+x2)≥(4294967296:Int))) (some (wU (x8 - (1:Int)))) (LaI n x0 x1 x2 x3 x4 x5 (wU (x6+x2)) x7 (wU (x8 - (1:Int))))) (cond (decide (wU (x8*x3) > wU (wU ((4294967296:Int)*x6)+x4))) (cond (decide (wU (x6+x2)≥(4294967296:Int))) (some (wU (x8 - (1:Int)))) (LaI n x0 x1 x2 x3 x4 x5 (wU (x6+x2)) x7 (wU (x8 - (1:Int))))) (some x8)))
theorem qLaI:type_of% @LaI.eq_2:=@LaI.eq_2
noncomputable def xLaI (x0 x1 x2 x3 x4 x5 x6 x7 x8:Int):Int→Ex×CS:=fun r=>((.exit 2),⟨[(2,.v (.sc (.int .u64 x0))),(8,.v (.sc (.int .u64 x1))),(14,.v (.sc (.int .u64 x4))),(15,.v (.sc (.int .u64 x5))),(17,.v (.sc (.int .u64 x7))),(18,.v (.sc (.int .u64 (r))))],[],[],0,false⟩)
abbrev cLaI (x0 x1 x2 x3 x4 x5 x6 x7 x8:Int):CS:=⟨[(2,.v (.sc (.int .u64 x0))),(8,.v (.sc (.int .u64 x1))),(9,.v (.sc (.int .u64 x2))),(10,.v (.sc (.int .u64 x3))),(14,.v (.sc (.int .u64 x4))),(15,.v (.sc (.int .u64 x5))),(16,.v (.sc (.int .u64 x6))),(17,.v (.sc (.int .u64 x7))),(18,.v (.sc (.int .u64 x8)))],[],[],0,false⟩
theorem bLaI (k:Nat) (cN:KN) (cX:KX) (x0 x1 x2 x3 x4 x5 x6 x7 x8:Int):zo zP (tn77 74) (TM.evF zP (tn77) dOk (k+40)) dOk (k+40) (za zP (tn0 74) 74 16) 2 16 (cLaI x0 x1 x2 x3 x4 x5 x6 x7 x8) cN cX=(cond (decide (x8≥(4294967296:Int))) (cond (decide (wU (x6+x2)≥(4294967296:Int))) (cP cX (xLaI x0 x1 x2 x3 x4 x5 x6 x7 x8 (wU (x8 - (1:Int))))) (cN (cLaI x0 x1 x2 x3 x4 x5 (wU (x6+x2)) x7 (wU (x8 - (1:Int)))))) (cond (decide (wU (x8*x3) > wU (wU ((4294967296:Int)*x6)+x4))) (cond (decide (wU (x6+x2)≥(4294967296:Int))) (cP cX (xLaI x0 x1 x2 x3 x4 x5 x6 x7 x8 (wU (x8 - (1:Int))))) (cN (cLaI x0 x1 x2 x3 x4 x5 (wU (x6+x2)) x7 (wU (x8 - (1:Int)))))) (cP cX (xLaI x0 x1 x2 x3 x4 x5 x6 x7 x8 x8)))):=by kernel_rfl
theorem lLaI (k m:Nat):∀ (n:Nat) (x0 x1 x2 x3 x4 x5 x6 x7 x8:Int) (r:Int),LaI n x0 x1 x2 x3 x4 x5 x6 x7 x8=some r→zA zP (tn77 74) (TM.evF zP (tn77) dOk (k+40)) dOk (k+40) (za zP (tn0 74) 74 16) 2 16 (n+m) (cLaI x0 x1 x2 x3 x4 x5 x6 x7 x8)=some (xLaI x0 x1 x2 x3 x4 x5 x6 x7 x8 r):=by
 intro n
 induction n with
 | zero=>intro _ _ _ _ _ _ _ _ _ r h;cases h
 | succ n ih=>
  intro x0 x1 x2 x3 x4 x5 x6 x7 x8 r
  rw [show n+1+m=n+m+1 by omega,zk,bLaI,qLaI]
  with_reducible repeat' refine ze ?_ ?_
  all_goals first | exact ih _ _ _ _ _ _ _ _ _ r | (intro h;cases h;done) | (intro h;cases h;rfl)
noncomputable def sLaI:TellS:=fun S=>tq (mS (cLaI 0 0 0 0 0 0 0 0 0)) S fun x0 x1 x2 x3 x4 x5 x6 x7 x8=>some [te (LaI FU x0 x1 x2 x3 x4 x5 x6 x7 x8) (xLaI x0 x1 x2 x3 x4 x5 x6 x7 x8)]
theorem wLaI:zh zP dOk base o76 t77 ((74,16),sLaI):=by
 refine ⟨.loop (za zP (tn0 74) 74 16),2,by kernel_rfl,?_⟩
 intro S alts e S' h1 h2
 obtain ⟨_,rfl,g⟩:=tq_some h1
 clear h1
 change some _=_ at g
 cases g
 obtain ⟨hc0,rfl,rfl⟩:=zf h2
 exact ⟨FU+40,(zb rfl).trans (lLaI FU 40 FU _ _ _ _ _ _ _ _ _ _ (zc hc0))⟩
noncomputable def t78:TellT:=((74,16),sLaI)::t77
abbrev tn78:=zd base o76 t78
theorem ok78:OKT tn78:=zi ok77 ok77 (p:=((74,16),sLaI)) wLaI
noncomputable def LbP (x0 x1 x2 x3 x4 x5:Int):Option (Int×Int):=(cond (decide (0≤x1)) (some (wU (wU (x3*(4294967296:Int))+x5),Int.fdiv (wU (wU (wU (x4*(4294967296:Int))+x2) - wU (x5*x0))) ((2:Int) ^ min x1.toNat (IntKind.bits IntKind.u64)))) none)
noncomputable def xLbP (x0 x1 x2 x3 x4 x5:Int):(Int×Int)→Ex×CS:=fun r=>(.ret,⟨[(6,.v (.sc (.int .u64 (r.1)))),(7,.v (.sc (.int .u64 (r.2))))],[],[],0,true⟩)
abbrev cLbP (x0 x1 x2 x3 x4 x5:Int):CS:=⟨[(2,.v (.sc (.int .u64 x0))),(8,.v (.sc (.int .u64 x1))),(14,.v (.sc (.int .u64 x2))),(15,.v (.sc (.int .u64 x3))),(17,.v (.sc (.int .u64 x4))),(18,.v (.sc (.int .u64 x5)))],[],[],0,false⟩
theorem bLbP (k:Nat) (cX:Ex→CS→Option (Ex×CS)) (x0 x1 x2 x3 x4 x5:Int):zl zP (tn78 74) (TM.evF zP (tn78) dOk (k+40)) dOk (k+40) (za zP (tn0 74) 74 228) 0 228 (cLbP x0 x1 x2 x3 x4 x5) cX=(cond (decide (0≤x1)) (cP cX (xLbP x0 x1 x2 x3 x4 x5 ((wU (wU (x3*(4294967296:Int))+x5)),(Int.fdiv (wU (wU (wU (x4*(4294967296:Int))+x2) - wU (x5*x0))) ((2:Int) ^ min x1.toNat (IntKind.bits IntKind.u64)))))) none):=by kernel_rfl
theorem lLbP (k:Nat) (x0 x1 x2 x3 x4 x5:Int) (r:(Int×Int)):LbP x0 x1 x2 x3 x4 x5=some r→zl zP (tn78 74) (TM.evF zP (tn78) dOk (k+40)) dOk (k+40) (za zP (tn0 74) 74 228) 0 228 (cLbP x0 x1 x2 x3 x4 x5) (fun e s=>some (e,s))=some (xLbP x0 x1 x2 x3 x4 x5 r):=by
 rw [bLbP]
 unfold LbP
 refine ze ?_ ?_
 intro h;cases h;rfl
 intro h;cases h
noncomputable def sLbP:TellS:=fun S=>tq (mS (cLbP 0 0 0 0 0 0)) S fun x0 x1 x2 x3 x4 x5=>some [(ok (LbP x0 x1 x2 x3 x4 x5),.ret,⟨[(6,.v (.sc (.int .u64 ((val (LbP x0 x1 x2 x3 x4 x5)).1)))),(7,.v (.sc (.int .u64 ((val (LbP x0 x1 x2 x3 x4 x5)).2))))],[],[],0,true⟩)]
theorem wLbP:zh zP dOk base o76 t78 ((74,228),sLbP):=by
 refine ⟨(za zP (tn0 74) 74 228),0,by kernel_rfl,?_⟩
 intro S alts e S' h1 h2
 obtain ⟨_,rfl,g⟩:=tq_some h1
 clear h1
 change some _=_ at g
 cases g
 obtain ⟨hc0,rfl,rfl⟩:=zf h2
 exact ⟨0+40,(zx rfl).trans (lLbP 0 _ _ _ _ _ _ _ (zc hc0))⟩
noncomputable def t79:TellT:=((74,228),sLbP)::t78
abbrev tn79:=zd base o76 t79
theorem ok79:OKT tn79:=zi ok78 ok78 (p:=((74,228),sLbP)) wLbP
noncomputable def LbS (x0 x1 x2 x3 x4 x5 x6 x7:Int):Option (Int×Int):=(cond (ok (LaI FU x0 x1 x2 x3 x4 x5 (wU (x6 - wU (x7*x2))) x6 x7)) (cond (ok (LbP x0 x1 x4 x5 x6 (val (LaI FU x0 x1 x2 x3 x4 x5 (wU (x6 - wU (x7*x2))) x6 x7)))) (some ((val (LbP x0 x1 x4 x5 x6 (val (LaI FU x0 x1 x2 x3 x4 x5 (wU (x6 - wU (x7*x2))) x6 x7)))).1,(val (LbP x0 x1 x4 x5 x6 (val (LaI FU x0 x1 x2 x3 x4 x5 (wU (x6 - wU (x7*x2))) x6 x7)))).2)) none) none)
noncomputable def xLbS (x0 x1 x2 x3 x4 x5 x6 x7:Int):(Int×Int)→Ex×CS:=fun r=>(.ret,⟨[(6,.v (.sc (.int .u64 (r.1)))),(7,.v (.sc (.int .u64 (r.2))))],[],[],0,true⟩)
abbrev cLbS (x0 x1 x2 x3 x4 x5 x6 x7:Int):CS:=⟨[(2,.v (.sc (.int .u64 x0))),(8,.v (.sc (.int .u64 x1))),(9,.v (.sc (.int .u64 x2))),(10,.v (.sc (.int .u64 x3))),(14,.v (.sc (.int .u64 x4))),(15,.v (.sc (.int .u64 x5))),(17,.v (.sc (.int .u64 x6))),(18,.v (.sc (.int .u64 x7)))],[],[],0,false⟩
theorem bLbS (k:Nat) (cX:Ex→CS→Option (Ex×CS)) (x0 x1 x2 x3 x4 x5 x6 x7:Int):zl zP (tn79 74) (TM.evF zP (tn79) dOk (k+40)) dOk (k+40) (za zP (tn0 74) 74 188) 0 188 (cLbS x0 x1 x2 x3 x4 x5 x6 x7) cX=(ob (LaI FU x0 x1 x2 x3 x4 x5 (wU (x6 - wU (x7*x2))) x6 x7) fun r1=>(ob (LbP x0 x1 x4 x5 x6 r1) fun r2=>(cP cX (xLbS x0 x1 x2 x3 x4 x5 x6 x7 (r2.1,r2.2))))):=by kernel_rfl
theorem lLbS (k:Nat) (x0 x1 x2 x3 x4 x5 x6 x7:Int) (r:(Int×Int)):LbS x0 x1 x2 x3 x4 x5 x6 x7=some r→zl zP (tn79 74) (TM.evF zP (tn79) dOk (k+40)) dOk (k+40) (za zP (tn0 74) 74 188) 0 188 (cLbS x0 x1 x2 x3 x4 x5 x6 x7) (fun e s=>some (e,s))=some (xLbS x0 x1 x2 x3 x4 x5 x6 x7 r):=by
 rw [bLbS]
 unfold LbS
 refine ze ?_ ?_
 refine ze ?_ ?_
 intro h;cases h;rfl
 intro h;cases h
 intro h;cases h
noncomputable def sLbS:TellS:=fun S=>tq (mS (cLbS 0 0 0 0 0 0 0 0)) S fun x0 x1 x2 x3 x4 x5 x6 x7=>some [(ok (LbS x0 x1 x2 x3 x4 x5 x6 x7),.ret,⟨[(6,.v (.sc (.int .u64 ((val (LbS x0 x1 x2 x3 x4 x5 x6 x7)).1)))),(7,.v (.sc (.int .u64 ((val (LbS x0 x1 x2 x3 x4 x5 x6 x7)).2))))],[],[],0,true⟩)]
theorem wLbS:zh zP dOk base o76 t79 ((74,188),sLbS):=by
 refine ⟨(za zP (tn0 74) 74 188),0,by kernel_rfl,?_⟩
 intro S alts e S' h1 h2
 obtain ⟨_,rfl,g⟩:=tq_some h1
 clear h1
 change some _=_ at g
 cases g
 obtain ⟨hc0,rfl,rfl⟩:=zf h2
 exact ⟨0+40,(zx rfl).trans (lLbS 0 _ _ _ _ _ _ _ _ _ (zc hc0))⟩
noncomputable def t80:TellT:=((74,188),sLbS)::t79
abbrev tn80:=zd base o76 t80
theorem ok80:OKT tn80:=zi ok79 ok79 (p:=((74,188),sLbS)) wLbS
noncomputable def LbV (x0 x1 x2 x3 x4 x5 x6:Int):Option (Int×Int):=(cond (decide (x2≠0)) (cond (ok (LbS x0 x1 x2 x3 x4 x5 x6 (wU (Int.tdiv x6 x2)))) (some ((val (LbS x0 x1 x2 x3 x4 x5 x6 (wU (Int.tdiv x6 x2)))).1,(val (LbS x0 x1 x2 x3 x4 x5 x6 (wU (Int.tdiv x6 x2)))).2)) none) none)
noncomputable def xLbV (x0 x1 x2 x3 x4 x5 x6:Int):(Int×Int)→Ex×CS:=fun r=>(.ret,⟨[(6,.v (.sc (.int .u64 (r.1)))),(7,.v (.sc (.int .u64 (r.2))))],[],[],0,true⟩)
abbrev cLbV (x0 x1 x2 x3 x4 x5 x6:Int):CS:=⟨[(2,.v (.sc (.int .u64 x0))),(8,.v (.sc (.int .u64 x1))),(9,.v (.sc (.int .u64 x2))),(10,.v (.sc (.int .u64 x3))),(14,.v (.sc (.int .u64 x4))),(15,.v (.sc (.int .u64 x5))),(17,.v (.sc (.int .u64 x6)))],[],[],0,false⟩
theorem bLbV (k:Nat) (cX:Ex→CS→Option (Ex×CS)) (x0 x1 x2 x3 x4 x5 x6:Int):zl zP (tn80 74) (TM.evF zP (tn80) dOk (k+40)) dOk (k+40) (za zP (tn0 74) 74 180) 0 180 (cLbV x0 x1 x2 x3 x4 x5 x6) cX=(cond (decide (x2≠0)) (ob (LbS x0 x1 x2 x3 x4 x5 x6 (wU (Int.tdiv x6 x2))) fun r1=>(cP cX (xLbV x0 x1 x2 x3 x4 x5 x6 (r1.1,r1.2)))) none):=by kernel_rfl
theorem lLbV (k:Nat) (x0 x1 x2 x3 x4 x5 x6:Int) (r:(Int×Int)):LbV x0 x1 x2 x3 x4 x5 x6=some r→zl zP (tn80 74) (TM.evF zP (tn80) dOk (k+40)) dOk (k+40) (za zP (tn0 74) 74 180) 0 180 (cLbV x0 x1 x2 x3 x4 x5 x6) (fun e s=>some (e,s))=some (xLbV x0 x1 x2 x3 x4 x5 x6 r):=by
 rw [bLbV]
 unfold LbV
 refine ze ?_ ?_
 refine ze ?_ ?_
 intro h;cases h;rfl
 intro h;cases h
 intro h;cases h
noncomputable def sLbV:TellS:=fun S=>tq (mS (cLbV 0 0 0 0 0 0 0)) S fun x0 x1 x2 x3 x4 x5 x6=>some [(ok (LbV x0 x1 x2 x3 x4 x5 x6),.ret,⟨[(6,.v (.sc (.int .u64 ((val (LbV x0 x1 x2 x3 x4 x5 x6)).1)))),(7,.v (.sc (.int .u64 ((val (LbV x0 x1 x2 x3 x4 x5 x6)).2))))],[],[],0,true⟩)]
theorem wLbV:zh zP dOk base o76 t80 ((74,180),sLbV):=by
 refine ⟨(za zP (tn0 74) 74 180),0,by kernel_rfl,?_⟩
 intro S alts e S' h1 h2
 obtain ⟨_,rfl,g⟩:=tq_some h1
 clear h1
 change some _=_ at g
 cases g
 obtain ⟨hc0,rfl,rfl⟩:=zf h2
 exact ⟨0+40,(zx rfl).trans (lLbV 0 _ _ _ _ _ _ _ _ (zc hc0))⟩
noncomputable def t81:TellT:=((74,180),sLbV)::t80
abbrev tn81:=zd base o76 t81
theorem ok81:OKT tn81:=zi ok80 ok80 (p:=((74,180),sLbV)) wLbV
noncomputable def LbQ (x0 x1 x2 x3 x4 x5 x6 x7:Int):Option (Int×Int):=(cond (ok (LbV x0 x1 x2 x3 x6 x7 (wU (wU (wU (x4*(4294967296:Int))+x5) - wU (x7*x0))))) (some ((val (LbV x0 x1 x2 x3 x6 x7 (wU (wU (wU (x4*(4294967296:Int))+x5) - wU (x7*x0))))).1,(val (LbV x0 x1 x2 x3 x6 x7 (wU (wU (wU (x4*(4294967296:Int))+x5) - wU (x7*x0))))).2)) none)
noncomputable def xLbQ (x0 x1 x2 x3 x4 x5 x6 x7:Int):(Int×Int)→Ex×CS:=fun r=>(.ret,⟨[(6,.v (.sc (.int .u64 (r.1)))),(7,.v (.sc (.int .u64 (r.2))))],[],[],0,true⟩)
abbrev cLbQ (x0 x1 x2 x3 x4 x5 x6 x7:Int):CS:=⟨[(2,.v (.sc (.int .u64 x0))),(8,.v (.sc (.int .u64 x1))),(9,.v (.sc (.int .u64 x2))),(10,.v (.sc (.int .u64 x3))),(11,.v (.sc (.int .u64 x4))),(13,.v (.sc (.int .u64 x5))),(14,.v (.sc (.int .u64 x6))),(15,.v (.sc (.int .u64 x7)))],[],[],0,false⟩
theorem bLbQ (k:Nat) (cX:Ex→CS→Option (Ex×CS)) (x0 x1 x2 x3 x4 x5 x6 x7:Int):zl zP (tn81 74) (TM.evF zP (tn81) dOk (k+40)) dOk (k+40) (za zP (tn0 74) 74 172) 0 172 (cLbQ x0 x1 x2 x3 x4 x5 x6 x7) cX=(ob (LbV x0 x1 x2 x3 x6 x7 (wU (wU (wU (x4*(4294967296:Int))+x5) - wU (x7*x0)))) fun r1=>(cP cX (xLbQ x0 x1 x2 x3 x4 x5 x6 x7 (r1.1,r1.2)))):=by kernel_rfl
theorem lLbQ (k:Nat) (x0 x1 x2 x3 x4 x5 x6 x7:Int) (r:(Int×Int)):LbQ x0 x1 x2 x3 x4 x5 x6 x7=some r→zl zP (tn81 74) (TM.evF zP (tn81) dOk (k+40)) dOk (k+40) (za zP (tn0 74) 74 172) 0 172 (cLbQ x0 x1 x2 x3 x4 x5 x6 x7) (fun e s=>some (e,s))=some (xLbQ x0 x1 x2 x3 x4 x5 x6 x7 r):=by
 rw [bLbQ]
 unfold LbQ
 refine ze ?_ ?_
 intro h;cases h;rfl
 intro h;cases h
noncomputable def sLbQ:TellS:=fun S=>tq (mS (cLbQ 0 0 0 0 0 0 0 0)) S fun x0 x1 x2 x3 x4 x5 x6 x7=>some [(ok (LbQ x0 x1 x2 x3 x4 x5 x6 x7),.ret,⟨[(6,.v (.sc (.int .u64 ((val (LbQ x0 x1 x2 x3 x4 x5 x6 x7)).1)))),(7,.v (.sc (.int .u64 ((val (LbQ x0 x1 x2 x3 x4 x5 x6 x7)).2))))],[],[],0,true⟩)]
theorem wLbQ:zh zP dOk base o76 t81 ((74,172),sLbQ):=by
 refine ⟨(za zP (tn0 74) 74 172),0,by kernel_rfl,?_⟩
 intro S alts e S' h1 h2
 obtain ⟨_,rfl,g⟩:=tq_some h1
 clear h1
 change some _=_ at g
 cases g
 obtain ⟨hc0,rfl,rfl⟩:=zf h2
 exact ⟨0+40,(zx rfl).trans (lLbQ 0 _ _ _ _ _ _ _ _ _ (zc hc0))⟩
noncomputable def t82:TellT:=((74,172),sLbQ)::t81
abbrev tn82:=zd base o76 t82
theorem ok82:OKT tn82:=zi ok81 ok81 (p:=((74,172),sLbQ)) wLbQ
noncomputable def LbU (x0 x1 x2 x3 x4 x5 x6 x7:Int):Option (Int×Int):=(cond (ok (LaL FU x0 x1 x2 x3 x4 x5 x6 x7 (wU (x4 - wU (x7*x2))))) (cond (ok (LbQ x0 x1 x2 x3 x4 x5 x6 (val (LaL FU x0 x1 x2 x3 x4 x5 x6 x7 (wU (x4 - wU (x7*x2))))))) (some ((val (LbQ x0 x1 x2 x3 x4 x5 x6 (val (LaL FU x0 x1 x2 x3 x4 x5 x6 x7 (wU (x4 - wU (x7*x2))))))).1,(val (LbQ x0 x1 x2 x3 x4 x5 x6 (val (LaL FU x0 x1 x2 x3 x4 x5 x6 x7 (wU (x4 - wU (x7*x2))))))).2)) none) none)
noncomputable def xLbU (x0 x1 x2 x3 x4 x5 x6 x7:Int):(Int×Int)→Ex×CS:=fun r=>(.ret,⟨[(6,.v (.sc (.int .u64 (r.1)))),(7,.v (.sc (.int .u64 (r.2))))],[],[],0,true⟩)
abbrev cLbU (x0 x1 x2 x3 x4 x5 x6 x7:Int):CS:=⟨[(2,.v (.sc (.int .u64 x0))),(8,.v (.sc (.int .u64 x1))),(9,.v (.sc (.int .u64 x2))),(10,.v (.sc (.int .u64 x3))),(11,.v (.sc (.int .u64 x4))),(13,.v (.sc (.int .u64 x5))),(14,.v (.sc (.int .u64 x6))),(15,.v (.sc (.int .u64 x7)))],[],[],0,false⟩
theorem bLbU (k:Nat) (cX:Ex→CS→Option (Ex×CS)) (x0 x1 x2 x3 x4 x5 x6 x7:Int):zl zP (tn82 74) (TM.evF zP (tn82) dOk (k+40)) dOk (k+40) (za zP (tn0 74) 74 132) 0 132 (cLbU x0 x1 x2 x3 x4 x5 x6 x7) cX=(ob (LaL FU x0 x1 x2 x3 x4 x5 x6 x7 (wU (x4 - wU (x7*x2)))) fun r1=>(ob (LbQ x0 x1 x2 x3 x4 x5 x6 r1) fun r2=>(cP cX (xLbU x0 x1 x2 x3 x4 x5 x6 x7 (r2.1,r2.2))))):=by kernel_rfl
theorem lLbU (k:Nat) (x0 x1 x2 x3 x4 x5 x6 x7:Int) (r:(Int×Int)):LbU x0 x1 x2 x3 x4 x5 x6 x7=some r→zl zP (tn82 74) (TM.evF zP (tn82) dOk (k+40)) dOk (k+40) (za zP (tn0 74) 74 132) 0 132 (cLbU x0 x1 x2 x3 x4 x5 x6 x7) (fun e s=>some (e,s))=some (xLbU x0 x1 x2 x3 x4 x5 x6 x7 r):=by
 rw [bLbU]
 unfold LbU
 refine ze ?_ ?_
 refine ze ?_ ?_
 intro h;cases h;rfl
 intro h;cases h
 intro h;cases h
noncomputable def sLbU:TellS:=fun S=>tq (mS (cLbU 0 0 0 0 0 0 0 0)) S fun x0 x1 x2 x3 x4 x5 x6 x7=>some [(ok (LbU x0 x1 x2 x3 x4 x5 x6 x7),.ret,⟨[(6,.v (.sc (.int .u64 ((val (LbU x0 x1 x2 x3 x4 x5 x6 x7)).1)))),(7,.v (.sc (.int .u64 ((val (LbU x0 x1 x2 x3 x4 x5 x6 x7)).2))))],[],[],0,true⟩)]
theorem wLbU:zh zP dOk base o76 t82 ((74,132),sLbU):=by
 refine ⟨(za zP (tn0 74) 74 132),0,by kernel_rfl,?_⟩
 intro S alts e S' h1 h2
 obtain ⟨_,rfl,g⟩:=tq_some h1
 clear h1
 change some _=_ at g
 cases g
 obtain ⟨hc0,rfl,rfl⟩:=zf h2
 exact ⟨0+40,(zx rfl).trans (lLbU 0 _ _ _ _ _ _ _ _ _ (zc hc0))⟩
noncomputable def t83:TellT:=((74,132),sLbU)::t82
abbrev tn83:=zd base o76 t83
theorem ok83:OKT tn83:=zi ok82 ok82 (p:=((74,132),sLbU)) wLbU
noncomputable def LbT (x0 x1 x2 x3 x4 x5 x6:Int):Option (Int×Int):=(cond (decide (x2≠0)) (cond (ok (LbU x0 x1 x2 x3 x4 x5 x6 (wU (Int.tdiv x4 x2)))) (some ((val (LbU x0 x1 x2 x3 x4 x5 x6 (wU (Int.tdiv x4 x2)))).1,(val (LbU x0 x1 x2 x3 x4 x5 x6 (wU (Int.tdiv x4 x2)))).2)) none) none)
noncomputable def xLbT (x0 x1 x2 x3 x4 x5 x6:Int):(Int×Int)→Ex×CS:=fun r=>(.ret,⟨[(6,.v (.sc (.int .u64 (r.1)))),(7,.v (.sc (.int .u64 (r.2))))],[],[],0,true⟩)
abbrev cLbT (x0 x1 x2 x3 x4 x5 x6:Int):CS:=⟨[(2,.v (.sc (.int .u64 x0))),(8,.v (.sc (.int .u64 x1))),(9,.v (.sc (.int .u64 x2))),(10,.v (.sc (.int .u64 x3))),(11,.v (.sc (.int .u64 x4))),(13,.v (.sc (.int .u64 x5))),(14,.v (.sc (.int .u64 x6)))],[],[],0,false⟩
theorem bLbT (k:Nat) (cX:Ex→CS→Option (Ex×CS)) (x0 x1 x2 x3 x4 x5 x6:Int):zl zP (tn83 74) (TM.evF zP (tn83) dOk (k+40)) dOk (k+40) (za zP (tn0 74) 74 124) 0 124 (cLbT x0 x1 x2 x3 x4 x5 x6) cX=(cond (decide (x2≠0)) (ob (LbU x0 x1 x2 x3 x4 x5 x6 (wU (Int.tdiv x4 x2))) fun r1=>(cP cX (xLbT x0 x1 x2 x3 x4 x5 x6 (r1.1,r1.2)))) none):=by kernel_rfl
theorem lLbT (k:Nat) (x0 x1 x2 x3 x4 x5 x6:Int) (r:(Int×Int)):LbT x0 x1 x2 x3 x4 x5 x6=some r→zl zP (tn83 74) (TM.evF zP (tn83) dOk (k+40)) dOk (k+40) (za zP (tn0 74) 74 124) 0 124 (cLbT x0 x1 x2 x3 x4 x5 x6) (fun e s=>some (e,s))=some (xLbT x0 x1 x2 x3 x4 x5 x6 r):=by
 rw [bLbT]
 unfold LbT
 refine ze ?_ ?_
 refine ze ?_ ?_
 intro h;cases h;rfl
 intro h;cases h
 intro h;cases h
noncomputable def sLbT:TellS:=fun S=>tq (mS (cLbT 0 0 0 0 0 0 0)) S fun x0 x1 x2 x3 x4 x5 x6=>some [(ok (LbT x0 x1 x2 x3 x4 x5 x6),.ret,⟨[(6,.v (.sc (.int .u64 ((val (LbT x0 x1 x2 x3 x4 x5 x6)).1)))),(7,.v (.sc (.int .u64 ((val (LbT x0 x1 x2 x3 x4 x5 x6)).2))))],[],[],0,true⟩)]
theorem wLbT:zh zP dOk base o76 t83 ((74,124),sLbT):=by
 refine ⟨(za zP (tn0 74) 74 124),0,by kernel_rfl,?_⟩
 intro S alts e S' h1 h2
 obtain ⟨_,rfl,g⟩:=tq_some h1
 clear h1
 change some _=_ at g
 cases g
 obtain ⟨hc0,rfl,rfl⟩:=zf h2
 exact ⟨0+40,(zx rfl).trans (lLbT 0 _ _ _ _ _ _ _ _ (zc hc0))⟩
noncomputable def t84:TellT:=((74,124),sLbT)::t83
abbrev tn84:=zd base o76 t84
theorem ok84:OKT tn84:=zi ok83 ok83 (p:=((74,124),sLbT)) wLbT
noncomputable def LbW (x0 x1 x2 x3 x4 x5:Int):Option (Int×Int):=(cond (decide (0≤x2)) (cond (ok (LbT x1 x2 x3 x4 x5 (Int.fdiv (wU (x0*(2:Int) ^ min x2.toNat (IntKind.bits IntKind.u64))) ((2:Int) ^ min (Int.toNat (32:Int)) (IntKind.bits IntKind.u64))) (wU (↑(BitVec.toNat (BitVec.ofInt (IntKind.bits IntKind.u64) (wU (x0*(2:Int) ^ min x2.toNat (IntKind.bits IntKind.u64))) &&& BitVec.ofInt (IntKind.bits IntKind.u64) (4294967295:Int))):Int)))) (some ((val (LbT x1 x2 x3 x4 x5 (Int.fdiv (wU (x0*(2:Int) ^ min x2.toNat (IntKind.bits IntKind.u64))) ((2:Int) ^ min (Int.toNat (32:Int)) (IntKind.bits IntKind.u64))) (wU (↑(BitVec.toNat (BitVec.ofInt (IntKind.bits IntKind.u64) (wU (x0*(2:Int) ^ min x2.toNat (IntKind.bits IntKind.u64))) &&& BitVec.ofInt (IntKind.bits IntKind.u64) (4294967295:Int))):Int)))).1,(val (LbT x1 x2 x3 x4 x5 (Int.fdiv (wU (x0*(2:Int) ^ min x2.toNat (IntKind.bits IntKind.u64))) ((2:Int) ^ min (Int.toNat (32:Int)) (IntKind.bits IntKind.u64))) (wU (↑(BitVec.toNat (BitVec.ofInt (IntKind.bits IntKind.u64) (wU (x0*(2:Int) ^ min x2.toNat (IntKind.bits IntKind.u64))) &&& BitVec.ofInt (IntKind.bits IntKind.u64) (4294967295:Int))):Int)))).2)) none) none)
noncomputable def xLbW (x0 x1 x2 x3 x4 x5:Int):(Int×Int)→Ex×CS:=fun r=>(.ret,⟨[(6,.v (.sc (.int .u64 (r.1)))),(7,.v (.sc (.int .u64 (r.2))))],[],[],0,true⟩)
abbrev cLbW (x0 x1 x2 x3 x4 x5:Int):CS:=⟨[(1,.v (.sc (.int .u64 x0))),(2,.v (.sc (.int .u64 x1))),(8,.v (.sc (.int .u64 x2))),(9,.v (.sc (.int .u64 x3))),(10,.v (.sc (.int .u64 x4))),(11,.v (.sc (.int .u64 x5)))],[],[],0,false⟩
theorem bLbW (k:Nat) (cX:Ex→CS→Option (Ex×CS)) (x0 x1 x2 x3 x4 x5:Int):zl zP (tn84 74) (TM.evF zP (tn84) dOk (k+40)) dOk (k+40) (za zP (tn0 74) 74 100) 0 100 (cLbW x0 x1 x2 x3 x4 x5) cX=(cond (decide (0≤x2)) (ob (LbT x1 x2 x3 x4 x5 (Int.fdiv (wU (x0*(2:Int) ^ min x2.toNat (IntKind.bits IntKind.u64))) ((2:Int) ^ min (Int.toNat (32:Int)) (IntKind.bits IntKind.u64))) (wU (↑(BitVec.toNat (BitVec.ofInt (IntKind.bits IntKind.u64) (wU (x0*(2:Int) ^ min x2.toNat (IntKind.bits IntKind.u64))) &&& BitVec.ofInt (IntKind.bits IntKind.u64) (4294967295:Int))):Int))) fun r1=>(cP cX (xLbW x0 x1 x2 x3 x4 x5 (r1.1,r1.2)))) none):=by kernel_rfl
theorem lLbW (k:Nat) (x0 x1 x2 x3 x4 x5:Int) (r:(Int×Int)):LbW x0 x1 x2 x3 x4 x5=some r→zl zP (tn84 74) (TM.evF zP (tn84) dOk (k+40)) dOk (k+40) (za zP (tn0 74) 74 100) 0 100 (cLbW x0 x1 x2 x3 x4 x5) (fun e s=>some (e,s))=some (xLbW x0 x1 x2 x3 x4 x5 r):=by
 rw [bLbW]
 unfold LbW
 refine ze ?_ ?_
 refine ze ?_ ?_
 intro h;cases h;rfl
 intro h;cases h
 intro h;cases h
noncomputable def sLbW:TellS:=fun S=>tq (mS (cLbW 0 0 0 0 0 0)) S fun x0 x1 x2 x3 x4 x5=>some [(ok (LbW x0 x1 x2 x3 x4 x5),.ret,⟨[(6,.v (.sc (.int .u64 ((val (LbW x0 x1 x2 x3 x4 x5)).1)))),(7,.v (.sc (.int .u64 ((val (LbW x0 x1 x2 x3 x4 x5)).2))))],[],[],0,true⟩)]
theorem wLbW:zh zP dOk base o76 t84 ((74,100),sLbW):=by
 refine ⟨(za zP (tn0 74) 74 100),0,by kernel_rfl,?_⟩
 intro S alts e S' h1 h2
 obtain ⟨_,rfl,g⟩:=tq_some h1
 clear h1
 change some _=_ at g
 cases g
 obtain ⟨hc0,rfl,rfl⟩:=zf h2
 exact ⟨0+40,(zx rfl).trans (lLbW 0 _ _ _ _ _ _ _ (zc hc0))⟩
noncomputable def t85:TellT:=((74,100),sLbW)::t84
abbrev tn85:=zd base o76 t85
theorem ok85:OKT tn85:=zi ok84 ok84 (p:=((74,100),sLbW)) wLbW
noncomputable def Lby (x0 x1 x2 x3:Int):Option (Int×Int):=(cond (decide (0≤x3)) (cond (decide (0≤wU ((64:Int) - x3))) (cond (ok (LbW x1 x2 x3 (Int.fdiv x2 ((2:Int) ^ min (Int.toNat (32:Int)) (IntKind.bits IntKind.u64))) (wU (↑(BitVec.toNat (BitVec.ofInt (IntKind.bits IntKind.u64) x2 &&& BitVec.ofInt (IntKind.bits IntKind.u64) (4294967295:Int))):Int)) (wU (↑(BitVec.toNat (BitVec.ofInt (IntKind.bits IntKind.u64) (wU (x0*(2:Int) ^ min x3.toNat (IntKind.bits IntKind.u64))) ||| BitVec.ofInt (IntKind.bits IntKind.u64) (Int.fdiv x1 ((2:Int) ^ min (wU ((64:Int) - x3)).toNat (IntKind.bits IntKind.u64))))):Int)))) (some ((val (LbW x1 x2 x3 (Int.fdiv x2 ((2:Int) ^ min (Int.toNat (32:Int)) (IntKind.bits IntKind.u64))) (wU (↑(BitVec.toNat (BitVec.ofInt (IntKind.bits IntKind.u64) x2 &&& BitVec.ofInt (IntKind.bits IntKind.u64) (4294967295:Int))):Int)) (wU (↑(BitVec.toNat (BitVec.ofInt (IntKind.bits IntKind.u64) (wU (x0*(2:Int) ^ min x3.toNat (IntKind.bits IntKind.u64))) ||| BitVec.ofInt (IntKind.bits IntKind.u64) (Int.fdiv x1 ((2:Int) ^ min (wU ((64:Int) - x3)).toNat (IntKind.bits IntKind.u64))))):Int)))).1,(val (LbW x1 x2 x3 (Int.fdiv x2 ((2:Int) ^ min (Int.toNat (32:Int)) (IntKind.bits IntKind.u64))) (wU (↑(BitVec.toNat (BitVec.ofInt (IntKind.bits IntKind.u64) x2 &&& BitVec.ofInt (IntKind.bits IntKind.u64) (4294967295:Int))):Int)) (wU (↑(BitVec.toNat (BitVec.ofInt (IntKind.bits IntKind.u64) (wU (x0*(2:Int) ^ min x3.toNat (IntKind.bits IntKind.u64))) ||| BitVec.ofInt (IntKind.bits IntKind.u64) (Int.fdiv x1 ((2:Int) ^ min (wU ((64:Int) - x3)).toNat (IntKind.bits IntKind.u64))))):Int)))).2)) none) none) none)
noncomputable def xLby (x0 x1 x2 x3:Int):(Int×Int)→Ex×CS:=fun r=>(.ret,⟨[(6,.v (.sc (.int .u64 (r.1)))),(7,.v (.sc (.int .u64 (r.2))))],[],[],0,true⟩)
abbrev cLby (x0 x1 x2 x3:Int):CS:=⟨[(0,.v (.sc (.int .u64 x0))),(1,.v (.sc (.int .u64 x1))),(2,.v (.sc (.int .u64 x2))),(8,.v (.sc (.int .u64 x3)))],[],[],0,false⟩
theorem bLby (k:Nat) (cX:Ex→CS→Option (Ex×CS)) (x0 x1 x2 x3:Int):zl zP (tn85 74) (TM.evF zP (tn85) dOk (k+40)) dOk (k+40) (za zP (tn0 74) 74 76) 0 76 (cLby x0 x1 x2 x3) cX=(cond (decide (0≤x3)) (cond (decide (0≤wU ((64:Int) - x3))) (ob (LbW x1 x2 x3 (Int.fdiv x2 ((2:Int) ^ min (Int.toNat (32:Int)) (IntKind.bits IntKind.u64))) (wU (↑(BitVec.toNat (BitVec.ofInt (IntKind.bits IntKind.u64) x2 &&& BitVec.ofInt (IntKind.bits IntKind.u64) (4294967295:Int))):Int)) (wU (↑(BitVec.toNat (BitVec.ofInt (IntKind.bits IntKind.u64) (wU (x0*(2:Int) ^ min x3.toNat (IntKind.bits IntKind.u64))) ||| BitVec.ofInt (IntKind.bits IntKind.u64) (Int.fdiv x1 ((2:Int) ^ min (wU ((64:Int) - x3)).toNat (IntKind.bits IntKind.u64))))):Int))) fun r1=>(cP cX (xLby x0 x1 x2 x3 (r1.1,r1.2)))) none) none):=by kernel_rfl
theorem lLby (k:Nat) (x0 x1 x2 x3:Int) (r:(Int×Int)):Lby x0 x1 x2 x3=some r→zl zP (tn85 74) (TM.evF zP (tn85) dOk (k+40)) dOk (k+40) (za zP (tn0 74) 74 76) 0 76 (cLby x0 x1 x2 x3) (fun e s=>some (e,s))=some (xLby x0 x1 x2 x3 r):=by
 rw [bLby]
 unfold Lby
 refine ze ?_ ?_
 refine ze ?_ ?_
 refine ze ?_ ?_
 intro h;cases h;rfl
 intro h;cases h
 intro h;cases h
 intro h;cases h
noncomputable def sLby:TellS:=fun S=>tq (mS (cLby 0 0 0 0)) S fun x0 x1 x2 x3=>some [(ok (Lby x0 x1 x2 x3),.ret,⟨[(6,.v (.sc (.int .u64 ((val (Lby x0 x1 x2 x3)).1)))),(7,.v (.sc (.int .u64 ((val (Lby x0 x1 x2 x3)).2))))],[],[],0,true⟩)]
theorem wLby:zh zP dOk base o76 t85 ((74,76),sLby):=by
 refine ⟨(za zP (tn0 74) 74 76),0,by kernel_rfl,?_⟩
 intro S alts e S' h1 h2
 obtain ⟨_,rfl,g⟩:=tq_some h1
 clear h1
 change some _=_ at g
 cases g
 obtain ⟨hc0,rfl,rfl⟩:=zf h2
 exact ⟨0+40,(zx rfl).trans (lLby 0 _ _ _ _ _ (zc hc0))⟩
noncomputable def t86:TellT:=((74,76),sLby)::t85
abbrev tn86:=zd base o76 t86
theorem ok86:OKT tn86:=zi ok85 ok85 (p:=((74,76),sLby)) wLby
noncomputable def v74 (x0 x1 x2:Int):Option (Int×Int):=(cond (x2==0) none (cond (decide (x2≤x0)) none (cond (x0==0) (cond (decide (x2≠0)) (some (wU (Int.tdiv x1 x2),Int.tmod x1 x2)) none) (cond (ok (v80 x2)) (cond (decide (0≤wU (val (v80 x2)))) (cond (ok (Lby x0 x1 (wU (x2*(2:Int) ^ min (wU (val (v80 x2))).toNat (IntKind.bits IntKind.u64))) (wU (val (v80 x2))))) (some ((val (Lby x0 x1 (wU (x2*(2:Int) ^ min (wU (val (v80 x2))).toNat (IntKind.bits IntKind.u64))) (wU (val (v80 x2))))).1,(val (Lby x0 x1 (wU (x2*(2:Int) ^ min (wU (val (v80 x2))).toNat (IntKind.bits IntKind.u64))) (wU (val (v80 x2))))).2)) none) none) none))))
abbrev aF74 (x0 x1 x2:Int):List TA:=[.sc (.int .u64 x0),.sc (.int .u64 x1),.sc (.int .u64 x2)]
theorem ev74 (x0 x1 x2:Int):zt zP (tn86 74) (TM.evF zP (tn86) dOk 40) dOk 40 74 (aF74 x0 x1 x2) []=(v74 x0 x1 x2).bind fun r=>some ([.sc (.int .u64 (r.1)),.sc (.int .u64 (r.2))],[]):=by
 refine Eq.trans (b:=(cond (x2==0) none (cond (decide (x2≤x0)) none (cond (x0==0) (cond (decide (x2≠0)) (cond (decide (x2≠0)) (some ([.sc (.int .u64 (wU (Int.tdiv x1 x2))),.sc (.int .u64 (Int.tmod x1 x2))],[])) none) none) (cond (ok (v80 x2)) (cond (decide (0≤wU (val (v80 x2)))) (cond (ok (Lby x0 x1 (wU (x2*(2:Int) ^ min (wU (val (v80 x2))).toNat (IntKind.bits IntKind.u64))) (wU (val (v80 x2))))) (some ([.sc (.int .u64 (val (Lby x0 x1 (wU (x2*(2:Int) ^ min (wU (val (v80 x2))).toNat (IntKind.bits IntKind.u64))) (wU (val (v80 x2))))).1),.sc (.int .u64 (val (Lby x0 x1 (wU (x2*(2:Int) ^ min (wU (val (v80 x2))).toNat (IntKind.bits IntKind.u64))) (wU (val (v80 x2))))).2)],[])) none) none) none))))) (by kernel_rfl) ?_
 unfold v74
 cases (x2==0) with
 | true=>
  rfl
 | false=>
  cases (decide (x2≤x0)) with
  | true=>
   rfl
  | false=>
   cases (x0==0) with
   | true=>
    cases (decide (x2≠0)) with
    | true=>
     rfl
    | false=>
     rfl
   | false=>
    cases (ok (v80 x2)) with
    | true=>
     cases (decide (0≤wU (val (v80 x2)))) with
     | true=>
      cases (ok (Lby x0 x1 (wU (x2*(2:Int) ^ min (wU (val (v80 x2))).toNat (IntKind.bits IntKind.u64))) (wU (val (v80 x2))))) with
      | true=>
       rfl
      | false=>
       rfl
     | false=>
      rfl
    | false=>
     rfl
noncomputable def sv74:OrcS:=fun al H=>tqa (aF74 0 0 0) [] al H fun x0 x1 x2=>some [(ok (v74 x0 x1 x2),[.sc (.int .u64 ((val (v74 x0 x1 x2)).1)),.sc (.int .u64 ((val (v74 x0 x1 x2)).2))],[])]
theorem wv74:zq zP dOk base o76 t86 (74,sv74):=by
 intro al H q hq rs H2 h2
 obtain ⟨_,_,rfl,rfl,g⟩:=tqa_some hq
 clear hq
 change some _=_ at g
 cases g
 obtain ⟨hc0,rfl,rfl⟩:=zg h2
 exact ⟨41,(zy (by kernel_rfl)).trans ((ev74 _ _ _).trans (zm (zc hc0)))⟩
noncomputable def o87:OrcT:=(74,sv74)::o76
abbrev tn87:=zd base o87 t86
theorem ok87:OKT tn87:=zr ok86 ok86 (p:=(74,sv74)) wv74
noncomputable def tv56 {β:Type} (x0 x1 x2:Int) (K:Int→Option β):Option β:=(cond (ok (v74 (val (v73 (wU x0) (wU x1))).1 (val (v73 (wU x0) (wU x1))).2 (wU x2))) (K (wI (val (v74 (val (v73 (wU x0) (wU x1))).1 (val (v73 (wU x0) (wU x1))).2 (wU x2))).1)) none)
noncomputable def v56 (x0 x1 x2:Int):Option Int:=tv56 x0 x1 x2 some
abbrev aF56 (x0 x1 x2:Int):List TA:=[.sc (I4 x0),.sc (I4 x1),.sc (I4 x2)]
theorem ev56 (x0 x1 x2:Int):zt zP (tn87 56) (TM.evF zP (tn87) dOk 40) dOk 40 56 (aF56 x0 x1 x2) []=(v56 x0 x1 x2).bind fun r=>some ([.sc (I4 (r))],[]):=by
 refine Eq.trans (b:=tv56 x0 x1 x2 fun r=>some ([.sc (I4 (r))],[])) (by kernel_rfl) ?_
 unfold v56 tv56
 with_reducible repeat' refine zp ?_ ?_
 all_goals rfl
noncomputable def sv56:OrcS:=fun al H=>tqa (aF56 0 0 0) [] al H fun x0 x1 x2=>some [(ok (v56 x0 x1 x2),[.sc (I4 ((val (v56 x0 x1 x2))))],[])]
theorem wv56:zq zP dOk base o87 t86 (56,sv56):=by
 intro al H q hq rs H2 h2
 obtain ⟨_,_,rfl,rfl,g⟩:=tqa_some hq
 clear hq
 change some _=_ at g
 cases g
 obtain ⟨hc0,rfl,rfl⟩:=zg h2
 exact ⟨41,(zy (by kernel_rfl)).trans ((ev56 _ _ _).trans (zm (zc hc0)))⟩
noncomputable def o88:OrcT:=(56,sv56)::o87
abbrev tn88:=zd base o88 t86
theorem ok88:OKT tn88:=zr ok87 ok87 (p:=(56,sv56)) wv56
noncomputable def tv55 {β:Type} (x0 x1:Int) (x2:LI) (x3:L3) (x4:LL) (x5:LL) (x6:LI) (x7:Int) (x8:LI) (x9:LI) (K:Int→Option β):Option β:=(cond (ok (v33 x0 x2 x3 x4 x5 x6 x7 x8 x9)) (cond ((val (v33 x0 x2 x3 x4 x5 x6 x7 x8 x9)).1==x1) (cond (ok (v56 (1000000000:Int) (1024:Int) (val (v33 x0 x2 x3 x4 x5 x6 x7 x8 x9)).2)) (K (val (v56 (1000000000:Int) (1024:Int) (val (v33 x0 x2 x3 x4 x5 x6 x7 x8 x9)).2))) none) (K (0))) none)
noncomputable def v55 (x0 x1:Int) (x2:LI) (x3:L3) (x4:LL) (x5:LL) (x6:LI) (x7:Int) (x8:LI) (x9:LI):Option Int:=tv55 x0 x1 x2 x3 x4 x5 x6 x7 x8 x9 some
abbrev aF55 (x0 x1:Int):List TA:=[.sc (I4 x0),.sc (I4 x1),.sc (.ptr 0 0)]
abbrev hF55 (x2:LI) (x3:L3) (x4:LL) (x5:LL) (x6:LI) (x7:Int) (x8:LI) (x9:LI):List TO:=[.box 53 [.ptr 1 0],(bx0 x2 x3 2 x4 3 x5 x6 x7),rD (x8),rD (x9)]
theorem ev55 (x0 x1:Int) (x2:LI) (x3:L3) (x4:LL) (x5:LL) (x6:LI) (x7:Int) (x8:LI) (x9:LI):zt zP (tn88 55) (TM.evF zP (tn88) dOk 40) dOk 40 55 (aF55 x0 x1) (hF55 x2 x3 x4 x5 x6 x7 x8 x9)=(v55 x0 x1 x2 x3 x4 x5 x6 x7 x8 x9).bind fun r=>some ([.sc (I4 (r))],[.box 53 [.ptr 1 0],(bx0 x2 x3 2 x4 3 x5 x6 x7),rD (x8),rD (x9)]):=by
 refine Eq.trans (b:=tv55 x0 x1 x2 x3 x4 x5 x6 x7 x8 x9 fun r=>some ([.sc (I4 (r))],[.box 53 [.ptr 1 0],(bx0 x2 x3 2 x4 3 x5 x6 x7),rD (x8),rD (x9)])) (by kernel_rfl) ?_
 unfold v55 tv55
 with_reducible repeat' refine zp ?_ ?_
 all_goals rfl
noncomputable def sv55:OrcS:=fun al H=>tqa (aF55 0 0) (hF55 [] [] [] [] [] 0 [] []) al H fun x0 x1 x2 x3 x4 x5 x6 x7 x8 x9=>some [(ok (v55 x0 x1 x2 x3 x4 x5 x6 x7 x8 x9),[.sc (I4 ((val (v55 x0 x1 x2 x3 x4 x5 x6 x7 x8 x9))))],[.box 53 [.ptr 1 0],(bx0 x2 x3 2 x4 3 x5 x6 x7),rD (x8),rD (x9)])]
theorem wv55:zq zP dOk base o88 t86 (55,sv55):=by
 intro al H q hq rs H2 h2
 obtain ⟨_,_,rfl,rfl,g⟩:=tqa_some hq
 clear hq
 change some _=_ at g
 cases g
 obtain ⟨hc0,rfl,rfl⟩:=zg h2
 exact ⟨41,(zy (by kernel_rfl)).trans ((ev55 _ _ _ _ _ _ _ _ _ _).trans (zm (zc hc0)))⟩
noncomputable def o89:OrcT:=(55,sv55)::o88
abbrev tn89:=zd base o89 t86
theorem ok89:OKT tn89:=zr ok88 ok88 (p:=(55,sv55)) wv55
noncomputable def Lbi:Nat→Int→L3→Int→Int→Int→Int→LI→L3→LL→LL→LI→Int→LI→LI→LI→LL→Option LI
 | 0,_,_,_,_,_,_,_,_,_,_,_,_,_,_,_,_=>none
 | n+1,x0,x1,x2,x3,x4,x5,x6,x7,x8,x9,A,B,C,D,E,F=>(cond (decide (x5 < x4)) (cond (ok (v55 x0 x5 x6 x7 x8 x9 A B C D)) (cond (decide (0≤x5)) (cond (decide (x5 < (E.length:Int))) (cond (decide (x5.toNat < List.length E)) (Lbi n x0 x1 x2 x3 x4 (wI (x5+(1:Int))) x6 x7 x8 x9 A B C D (List.set E x5.toNat (val (v55 x0 x5 x6 x7 x8 x9 A B C D))) F) none) none) none) none) (some E))
theorem qLbi:type_of% @Lbi.eq_2:=@Lbi.eq_2
noncomputable def xLbi (x0:Int) (x1:L3) (x2 x3 x4 x5:Int) (x6:LI) (x7:L3) (x8:LL) (x9:LL) (A:LI) (B:Int) (C:LI) (D:LI) (E:LI) (F:LL):LI→Ex×CS:=fun r=>((.exit 2),⟨[(1,.v (.sc (.fn 55 0 [none] [.ptr 3 0]))),(5,vG 5),(8,vG 4),(14,.v (.sc (.d 31 mT x1))),(15,vI x2),(16,vI x3)],[],[(bx0 x6 x7 1 x8 2 x9 A B),rD (C),rD (D),.box 53 [.ptr 0 0],rD (r:LI),rL (F)],4,false⟩)
abbrev cLbi (x0:Int) (x1:L3) (x2 x3 x4 x5:Int) (x6:LI) (x7:L3) (x8:LL) (x9:LL) (A:LI) (B:Int) (C:LI) (D:LI) (E:LI) (F:LL):CS:=⟨[(1,.v (.sc (.fn 55 0 [none] [.ptr 3 0]))),(5,vG 5),(6,vI x0),(8,vG 4),(14,.v (.sc (.d 31 mT x1))),(15,vI x2),(16,vI x3),(25,vI x4),(26,vI x5)],[],[(bx0 x6 x7 1 x8 2 x9 A B),rD (C),rD (D),.box 53 [.ptr 0 0],rD (E),rL (F)],4,false⟩
theorem bLbi (k:Nat) (cN:KN) (cX:KX) (x0:Int) (x1:L3) (x2 x3 x4 x5:Int) (x6:LI) (x7:L3) (x8:LL) (x9:LL) (A:LI) (B:Int) (C:LI) (D:LI) (E:LI) (F:LL):zo zP (tn89 31) (TM.evF zP (tn89) dOk (k+40)) dOk (k+40) (za zP (tn0 31) 31 16) 2 16 (cLbi x0 x1 x2 x3 x4 x5 x6 x7 x8 x9 A B C D E F) cN cX=(cond (decide (x5 < x4)) (cond (ok (v55 x0 x5 x6 x7 x8 x9 A B C D)) (cond (decide (0≤x5)) (cond (decide (x5 < (E.length:Int))) (cond (decide (x5.toNat < List.length E)) (cN (cLbi x0 x1 x2 x3 x4 (wI (x5+(1:Int))) x6 x7 x8 x9 A B C D (List.set E x5.toNat (val (v55 x0 x5 x6 x7 x8 x9 A B C D)):LI) F)) none) none) none) none) (cP cX (xLbi x0 x1 x2 x3 x4 x5 x6 x7 x8 x9 A B C D E F E))):=by kernel_rfl
theorem lLbi (k m:Nat):∀ (n:Nat) (x0:Int) (x1:L3) (x2 x3 x4 x5:Int) (x6:LI) (x7:L3) (x8:LL) (x9:LL) (A:LI) (B:Int) (C:LI) (D:LI) (E:LI) (F:LL) (r:LI),Lbi n x0 x1 x2 x3 x4 x5 x6 x7 x8 x9 A B C D E F=some r→zA zP (tn89 31) (TM.evF zP (tn89) dOk (k+40)) dOk (k+40) (za zP (tn0 31) 31 16) 2 16 (n+m) (cLbi x0 x1 x2 x3 x4 x5 x6 x7 x8 x9 A B C D E F)=some (xLbi x0 x1 x2 x3 x4 x5 x6 x7 x8 x9 A B C D E F r):=by
 intro n
 induction n with
 | zero=>intro _ _ _ _ _ _ _ _ _ _ _ _ _ _ _ _ r h;cases h
 | succ n ih=>
  intro x0 x1 x2 x3 x4 x5 x6 x7 x8 x9 A B C D E F r
  rw [show n+1+m=n+m+1 by omega,zk,bLbi,qLbi]
  with_reducible repeat' refine ze ?_ ?_
  all_goals first | exact ih _ _ _ _ _ _ _ _ _ _ _ _ _ _ _ _ r | (intro h;cases h;done) | (intro h;cases h;rfl)
noncomputable def sLbi:TellS:=fun S=>tq (mS (cLbi 0 [] 0 0 0 0 [] [] [] [] [] 0 [] [] [] [])) S fun x0 x1 x2 x3 x4 x5 x6 x7 x8 x9 A B C D E F=>some [te (Lbi FU x0 x1 x2 x3 x4 x5 x6 x7 x8 x9 A B C D E F) (xLbi x0 x1 x2 x3 x4 x5 x6 x7 x8 x9 A B C D E F)]
theorem wLbi:zh zP dOk base o89 t86 ((31,16),sLbi):=by
 refine ⟨.loop (za zP (tn0 31) 31 16),2,by kernel_rfl,?_⟩
 intro S alts e S' h1 h2
 obtain ⟨_,rfl,g⟩:=tq_some h1
 clear h1
 change some _=_ at g
 cases g
 obtain ⟨hc0,rfl,rfl⟩:=zf h2
 exact ⟨FU+40,(zb rfl).trans (lLbi FU 40 FU _ _ _ _ _ _ _ _ _ _ _ _ _ _ _ _ _ (zc hc0))⟩
noncomputable def t90:TellT:=((31,16),sLbi)::t86
abbrev tn90:=zd base o89 t90
theorem ok90:OKT tn90:=zi ok89 ok89 (p:=((31,16),sLbi)) wLbi
end
end Go.Proofs.Ytpfphfobneehmaa
