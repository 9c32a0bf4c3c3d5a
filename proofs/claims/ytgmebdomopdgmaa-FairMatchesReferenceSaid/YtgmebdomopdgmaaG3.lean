/- What some functions and loops come to: printed and checked. Written by a program of ours. -/
import Derived.Test.YtgmebdomopdgmaaG2
set_option linter.all false
set_option maxRecDepth 1000000
set_option maxHeartbeats 4000000
namespace Go.Proofs.Ytgmebdomopdgmaa
open Go Go.AM Go.TM Go.Proofs
noncomputable section
noncomputable def Lag:Nat→Int→Int→Int→LL→LI→Int→LI→LL→LI→LI→LI→LL→LI→Option ((LL)×(LI)×Int)
 | 0,_,_,_,_,_,_,_,_,_,_,_,_,_=>none
 | n+1,x0,x1,x2,x3,x4,x5,x6,x7,x8,x9,A,B,C=>(cond (decide (x1 < x0)) (cond (ok (v29 x6 x7 x8 x9 A)) (cond (ok (v28 x6 x7 x8 (val (v29 x6 x7 x8 x9 A)).1 (val (v29 x6 x7 x8 x9 A)).2)) (cond (val (v28 x6 x7 x8 (val (v29 x6 x7 x8 x9 A)).1 (val (v29 x6 x7 x8 x9 A)).2)).2.2.2 (cond (decide ((val (v28 x6 x7 x8 (val (v29 x6 x7 x8 x9 A)).1 (val (v29 x6 x7 x8 x9 A)).2)).2.2.1 < x5)) (Lag n x0 (IntKind.wrap IntKind.i64 (x1+(1:Int))) x2 (val (v28 x6 x7 x8 (val (v29 x6 x7 x8 x9 A)).1 (val (v29 x6 x7 x8 x9 A)).2)).1 (val (v28 x6 x7 x8 (val (v29 x6 x7 x8 x9 A)).1 (val (v29 x6 x7 x8 x9 A)).2)).2.1 (val (v28 x6 x7 x8 (val (v29 x6 x7 x8 x9 A)).1 (val (v29 x6 x7 x8 x9 A)).2)).2.2.1 x6 x7 x8 (val (v29 x6 x7 x8 x9 A)).1 (val (v29 x6 x7 x8 x9 A)).2 B C) (Lag n x0 (IntKind.wrap IntKind.i64 (x1+(1:Int))) x2 x3 x4 x5 x6 x7 x8 (val (v29 x6 x7 x8 x9 A)).1 (val (v29 x6 x7 x8 x9 A)).2 B C)) (Lag n x0 (IntKind.wrap IntKind.i64 (x1+(1:Int))) x2 x3 x4 x5 x6 x7 x8 (val (v29 x6 x7 x8 x9 A)).1 (val (v29 x6 x7 x8 x9 A)).2 B C)) none) none) (some (x3,x4,x5)))
theorem qLag:type_of% @Lag.eq_2:=@Lag.eq_2
noncomputable def xLag (x0 x1 x2:Int) (x3:LL) (x4:LI) (x5:Int) (x6:LI) (x7:LL) (x8:LI) (x9:LI) (A:LI) (B:LL) (C:LI):((LL)×(LI)×Int)→Ex×CS:=fun r=>((.exit 0),{ sl:=[(4,.l 4 0),(9,.l 9 0)],lo:=[(4,[.g 0,.g 1,I4 (x2)]),(9,[.d 22 lT (r.1:LL),.d 3 iT (r.2.1:LI),I4 (r.2.2)])],h:=[.row 22 lT (B),.row 3 iT (C)],n0:=0,w:=false })
abbrev cLag (x0 x1 x2:Int) (x3:LL) (x4:LI) (x5:Int) (x6:LI) (x7:LL) (x8:LI) (x9:LI) (A:LI) (B:LL) (C:LI):CS:={ sl:=[(4,.l 4 0),(7,.v (.sc (.ptr 0 0))),(9,.l 9 0),(54,.v (.sc (I4 x0))),(55,.v (.sc (I4 x1)))],lo:=[(4,[.g 3,.g 4,I4 (x2)]),(9,[.d 22 lT (x3),.d 3 iT (x4),I4 (x5)])],h:=[.box 73 [.d 3 iT (x6),.d 22 lT (x7),.d 3 iT (x8),.g 1,.g 2],.row 3 iT (x9),.row 3 iT (A),.row 22 lT (B),.row 3 iT (C)],n0:=0,w:=false }
theorem bLag (k:Nat) (cN:KN) (cX:KX) (x0 x1 x2:Int) (x3:LL) (x4:LI) (x5:Int) (x6:LI) (x7:LL) (x8:LI) (x9:LI) (A:LI) (B:LL) (C:LI):zi zP (tn87 13) (TM.evF zP (tn87) dOk (k+40)) dOk (k+40) (za zP (tn0 13) 13 0) 0 0 (cLag x0 x1 x2 x3 x4 x5 x6 x7 x8 x9 A B C) cN cX=(cond (decide (x1 < x0)) (cond (ok (v29 x6 x7 x8 x9 A)) (cond (ok (v28 x6 x7 x8 (val (v29 x6 x7 x8 x9 A)).1 (val (v29 x6 x7 x8 x9 A)).2)) (cond (val (v28 x6 x7 x8 (val (v29 x6 x7 x8 x9 A)).1 (val (v29 x6 x7 x8 x9 A)).2)).2.2.2 (cond (decide ((val (v28 x6 x7 x8 (val (v29 x6 x7 x8 x9 A)).1 (val (v29 x6 x7 x8 x9 A)).2)).2.2.1 < x5)) (cN (cLag x0 (IntKind.wrap IntKind.i64 (x1+(1:Int))) x2 ((val (v28 x6 x7 x8 (val (v29 x6 x7 x8 x9 A)).1 (val (v29 x6 x7 x8 x9 A)).2)).1:LL) ((val (v28 x6 x7 x8 (val (v29 x6 x7 x8 x9 A)).1 (val (v29 x6 x7 x8 x9 A)).2)).2.1:LI) (val (v28 x6 x7 x8 (val (v29 x6 x7 x8 x9 A)).1 (val (v29 x6 x7 x8 x9 A)).2)).2.2.1 x6 x7 x8 ((val (v29 x6 x7 x8 x9 A)).1:LI) ((val (v29 x6 x7 x8 x9 A)).2:LI) B C)) (cN (cLag x0 (IntKind.wrap IntKind.i64 (x1+(1:Int))) x2 x3 x4 x5 x6 x7 x8 ((val (v29 x6 x7 x8 x9 A)).1:LI) ((val (v29 x6 x7 x8 x9 A)).2:LI) B C))) (cN (cLag x0 (IntKind.wrap IntKind.i64 (x1+(1:Int))) x2 x3 x4 x5 x6 x7 x8 ((val (v29 x6 x7 x8 x9 A)).1:LI) ((val (v29 x6 x7 x8 x9 A)).2:LI) B C))) none) none) (cX (.exit 0) { sl:=[(4,.l 4 0),(9,.l 9 0)],lo:=[(4,[.g 0,.g 1,I4 (x2)]),(9,[.d 22 lT (x3),.d 3 iT (x4),I4 (x5)])],h:=[.row 22 lT (B),.row 3 iT (C)],n0:=0,w:=false })):=by kernel_rfl
theorem lLag (k m:Nat):∀ (n:Nat) (x0 x1 x2:Int) (x3:LL) (x4:LI) (x5:Int) (x6:LI) (x7:LL) (x8:LI) (x9:LI) (A:LI) (B:LL) (C:LI) (r:((LL)×(LI)×Int)),Lag n x0 x1 x2 x3 x4 x5 x6 x7 x8 x9 A B C=some r→zw zP (tn87 13) (TM.evF zP (tn87) dOk (k+40)) dOk (k+40) (za zP (tn0 13) 13 0) 0 0 (n+m) (cLag x0 x1 x2 x3 x4 x5 x6 x7 x8 x9 A B C)=some (xLag x0 x1 x2 x3 x4 x5 x6 x7 x8 x9 A B C r):=by
 intro n
 induction n with
 | zero=>intro _ _ _ _ _ _ _ _ _ _ _ _ _ r h;cases h
 | succ n ih=>
  intro x0 x1 x2 x3 x4 x5 x6 x7 x8 x9 A B C r
  rw [show n+1+m=n+m+1 by omega,zf,bLag,qLag]
  with_reducible repeat' refine zS ?_ ?_
  all_goals first | exact ih _ _ _ _ _ _ _ _ _ _ _ _ _ r | (intro h;cases h;done) | (intro h;cases h;rfl)
noncomputable def sLag:TellS:=fun S=>dCS 0 S fun y1 y2 y3=>dSt 4 y1 fun y5 l4=>dL 4 0 y5<|dSs 7 l4 fun y7 l6=>zp 0 0 y7<|dSt 9 l6 fun y9 l8=>dL 9 0 y9<|dSI 54 .i64 l8 fun x0 l10=>dSI 55 .i64 l10 fun x1 l11=>dE l11<|dLo 4 y2 fun y12 l13=>dC y12 fun y14 l15=>dG 3 y14<|dC l15 fun y16 l17=>dG 4 y16<|dK l17 fun x2 l18=>dE l18<|dLo 9 l13 fun y19 l20=>dC y19 fun y21 l22=>dD 22 lT y21 fun x3=>dC l22 fun y23 l24=>dD 3 iT y23 fun x4=>dK l24 fun x5 l25=>dE l25<|dE l20<|dHB 73 y3 fun y27 l26=>dC y27 fun y28 l29=>dD 3 iT y28 fun x6=>dC l29 fun y30 l31=>dD 22 lT y30 fun x7=>dC l31 fun y32 l33=>dD 3 iT y32 fun x8=>dC l33 fun y34 l35=>dG 1 y34<|dC l35 fun y36 l37=>dG 2 y36<|dE l37<|dHR 3 iT l26 fun x9 l38=>dHR 3 iT l38 fun A l39=>dHR 22 lT l39 fun B l40=>dHR 3 iT l40 fun C l41=>dE l41 <|  some [(ok (Lag FU x0 x1 x2 x3 x4 x5 x6 x7 x8 x9 A B C),(.exit 0),{ sl:=[(4,.l 4 0),(9,.l 9 0)],lo:=[(4,[.g 0,.g 1,I4 (x2)]),(9,[.d 22 lT ((val (Lag FU x0 x1 x2 x3 x4 x5 x6 x7 x8 x9 A B C)).1:LL),.d 3 iT ((val (Lag FU x0 x1 x2 x3 x4 x5 x6 x7 x8 x9 A B C)).2.1:LI),I4 ((val (Lag FU x0 x1 x2 x3 x4 x5 x6 x7 x8 x9 A B C)).2.2)])],h:=[.row 22 lT (B),.row 3 iT (C)],n0:=0,w:=false })]
theorem wLag:zo zP dOk base o87 t87 ((13,0),sLag):=by
 refine ⟨.loop (za zP (tn0 13) 13 0),0,by kernel_rfl,?_⟩
 intro S alts e S' h1 h2
 change sLag S=_ at h1
 unfold sLag at h1
 repeat with_reducible first|replace h1:=zE h1;obtain ⟨_,_,_,rfl,h1⟩:=h1|(first|replace h1:=ye h1|replace h1:=zJ h1|replace h1:=zF h1|replace h1:=yg h1|replace h1:=dCq h1|replace h1:=zQ h1|replace h1:=zM h1|replace h1:=zV h1);obtain ⟨_,_,rfl,h1⟩:=h1|(first|replace h1:=dLq h1|replace h1:=zx h1|replace h1:=dEq h1|replace h1:=dGq h1);obtain ⟨rfl,h1⟩:=h1|replace h1:=dDq h1;obtain ⟨_,rfl,h1⟩:=h1
 cases h1
 obtain ⟨hc0,rfl,rfl⟩:=zk h2
 exact ⟨FU+40,(zb rfl).trans (lLag FU 40 FU _ _ _ _ _ _ _ _ _ _ _ _ _ _ (zc hc0))⟩
noncomputable def o88:OrcT:=o87
noncomputable def t88:TellT:=((13,0),sLag)::t87
abbrev tn88:=ze base o88 t88
theorem ok88:OKT tn88:=zq ok87 ok87 (p:=((13,0),sLag)) wLag
noncomputable def tv13 {β:Type} (x0:LI) (x1:LL) (x2:LI) (x3:Int) (K:((LL)×(LI)×Int×Int)→Option β):Option β:=(cond (ok (v23_3 x2)) (cond (ok (v26 x0 x1 x2)) (cond (ok (v25 x0 (val (v26 x0 x1 x2)))) (cond (!val (v25 x0 (val (v26 x0 x1 x2)))) (K ([],[],0,(1:Int))) (cond ((x2.length:Int) != (x1.length:Int)) (K ([],[],0,(1:Int))) (cond (val (v23_3 x2)) (K ([],[],0,(1:Int))) (cond (decide (x3 < 0)) (K ([],[],0,(1:Int))) (cond (decide (x3 > (1000:Int))) (K ([],[],0,(1:Int))) (cond (ok (v27 x0 x1 x2)) (cond (!(val (v27 x0 x1 x2)).1) (K ([],[],0,(4:Int))) (cond (ok (v28 x0 x1 x2 (val (v27 x0 x1 x2)).2.1 (val (v27 x0 x1 x2)).2.2)) (cond (ok (Lag FU x3 0 0 (val (v28 x0 x1 x2 (val (v27 x0 x1 x2)).2.1 (val (v27 x0 x1 x2)).2.2)).1 (val (v28 x0 x1 x2 (val (v27 x0 x1 x2)).2.1 (val (v27 x0 x1 x2)).2.2)).2.1 (val (v28 x0 x1 x2 (val (v27 x0 x1 x2)).2.1 (val (v27 x0 x1 x2)).2.2)).2.2.1 x0 x1 x2 (val (v27 x0 x1 x2)).2.1 (val (v27 x0 x1 x2)).2.2 [] [])) (K ((val (Lag FU x3 0 0 (val (v28 x0 x1 x2 (val (v27 x0 x1 x2)).2.1 (val (v27 x0 x1 x2)).2.2)).1 (val (v28 x0 x1 x2 (val (v27 x0 x1 x2)).2.1 (val (v27 x0 x1 x2)).2.2)).2.1 (val (v28 x0 x1 x2 (val (v27 x0 x1 x2)).2.1 (val (v27 x0 x1 x2)).2.2)).2.2.1 x0 x1 x2 (val (v27 x0 x1 x2)).2.1 (val (v27 x0 x1 x2)).2.2 [] [])).1,(val (Lag FU x3 0 0 (val (v28 x0 x1 x2 (val (v27 x0 x1 x2)).2.1 (val (v27 x0 x1 x2)).2.2)).1 (val (v28 x0 x1 x2 (val (v27 x0 x1 x2)).2.1 (val (v27 x0 x1 x2)).2.2)).2.1 (val (v28 x0 x1 x2 (val (v27 x0 x1 x2)).2.1 (val (v27 x0 x1 x2)).2.2)).2.2.1 x0 x1 x2 (val (v27 x0 x1 x2)).2.1 (val (v27 x0 x1 x2)).2.2 [] [])).2.1,(val (Lag FU x3 0 0 (val (v28 x0 x1 x2 (val (v27 x0 x1 x2)).2.1 (val (v27 x0 x1 x2)).2.2)).1 (val (v28 x0 x1 x2 (val (v27 x0 x1 x2)).2.1 (val (v27 x0 x1 x2)).2.2)).2.1 (val (v28 x0 x1 x2 (val (v27 x0 x1 x2)).2.1 (val (v27 x0 x1 x2)).2.2)).2.2.1 x0 x1 x2 (val (v27 x0 x1 x2)).2.1 (val (v27 x0 x1 x2)).2.2 [] [])).2.2,0)) none) none)) none)))))) none) none) none)
noncomputable def v13 (x0:LI) (x1:LL) (x2:LI) (x3:Int):Option ((LL)×(LI)×Int×Int):=tv13 x0 x1 x2 x3 some
theorem ev13 (x0:LI) (x1:LL) (x2:LI) (x3:Int):zn zP (tn88 13) (TM.evF zP (tn88) dOk 40) dOk 40 13 [.agg [.d 3 iT (x0),.d 22 lT (x1),.d 3 iT (x2)],.sc (I4 x3)] []=(v13 x0 x1 x2 x3).bind fun r=>some ([.agg [.d 22 lT (r.1:LL),.d 3 iT (r.2.1:LI),I4 (r.2.2.1)],.sc (I4 (r.2.2.2))],[]):=by
 refine Eq.trans (b:=tv13 x0 x1 x2 x3 fun r=>some ([.agg [.d 22 lT (r.1:LL),.d 3 iT (r.2.1:LI),I4 (r.2.2.1)],.sc (I4 (r.2.2.2))],[])) (by kernel_rfl) ?_
 unfold v13 tv13
 with_reducible repeat' refine zj ?_ ?_
 all_goals rfl
noncomputable def sv13:OrcS:=fun al H=>dC al fun y1 l2=>dA y1 fun y3=>dC y3 fun y4 l5=>dD 3 iT y4 fun x0=>dC l5 fun y6 l7=>dD 22 lT y6 fun x1=>dC l7 fun y8 l9=>dD 3 iT y8 fun x2=>dE l9<|dC l2 fun y10 l11=>dS y10 fun y12=>yO .i64 y12 fun x3=>dE l11<|dE H <|  some [(ok (v13 x0 x1 x2 x3),[.agg [.d 22 lT ((val (v13 x0 x1 x2 x3)).1:LL),.d 3 iT ((val (v13 x0 x1 x2 x3)).2.1:LI),I4 ((val (v13 x0 x1 x2 x3)).2.2.1)],.sc (I4 ((val (v13 x0 x1 x2 x3)).2.2.2))],[])]
theorem wv13:zl zP dOk base o88 t88 (13,sv13):=by
 intro al H q hq rs H2 h2
 change sv13 al H=_ at hq
 unfold sv13 at hq
 repeat with_reducible first|replace hq:=dCq hq;obtain ⟨_,_,rfl,hq⟩:=hq|(first|replace hq:=dAq hq|replace hq:=dDq hq|replace hq:=dSq hq|replace hq:=yV hq);obtain ⟨_,rfl,hq⟩:=hq|replace hq:=dEq hq;obtain ⟨rfl,hq⟩:=hq
 cases hq
 obtain ⟨hc0,rfl,rfl⟩:=zd h2
 exact ⟨41,(zu (by kernel_rfl)).trans ((ev13 _ _ _ _).trans (zh (zc hc0)))⟩
noncomputable def o89:OrcT:=(13,sv13)::o88
noncomputable def t89:TellT:=t88
abbrev tn89:=ze base o89 t89
theorem ok89:OKT tn89:=zm ok88 ok88 (p:=(13,sv13)) wv13
noncomputable def LaW:Nat→Int→LI→LL→LI→Option (Bool ⊕ Unit)
 | 0,_,_,_,_=>none
 | n+1,x0,x1,x2,x3=>(cond (decide (x0 < (x2.length:Int))) (cond (decide (0≤x0)) (cond (decide ((↑(List.length (List.getD x2 x0.toNat [])):Int) > (20:Int))) (some (.inl (false))) (LaW n (IntKind.wrap IntKind.i64 (x0+(1:Int))) x1 x2 x3)) none) (some (.inr ())))
theorem qLaW:type_of% @LaW.eq_2:=@LaW.eq_2
noncomputable def xLaW (x0:Int) (x1:LI) (x2:LL) (x3:LI):(Bool ⊕ Unit)→Ex×CS:=fun r=>match r with | .inl a0=>(.ret,{ sl:=[(2,.v (.sc (.bool (a0))))],lo:=[],h:=[],n0:=0,w:=true }) | .inr b0=>((.exit 0),{ sl:=[(1,.l 1 0),(5,.l 1 1)],lo:=[(1,[.d 3 iT (x1),.d 22 lT (x2),.d 3 iT (x3)])],h:=[],n0:=0,w:=false })
abbrev cLaW (x0:Int) (x1:LI) (x2:LL) (x3:LI):CS:={ sl:=[(1,.l 1 0),(3,.v (.sc (I4 x0)))],lo:=[(1,[.d 3 iT (x1),.d 22 lT (x2),.d 3 iT (x3)])],h:=[],n0:=0,w:=false }
theorem bLaW (k:Nat) (cN:KN) (cX:KX) (x0:Int) (x1:LI) (x2:LL) (x3:LI):zi zP (tn89 12) (TM.evF zP (tn89) dOk (k+40)) dOk (k+40) (za zP (tn0 12) 12 0) 0 0 (cLaW x0 x1 x2 x3) cN cX=(cond (decide (x0 < (x2.length:Int))) (cond (decide (0≤x0)) (cond (decide (x0 < (x2.length:Int))) (cond (decide ((↑(List.length (List.getD x2 x0.toNat [])):Int) > (20:Int))) (cX .ret { sl:=[(2,.v (.sc (.bool (false))))],lo:=[],h:=[],n0:=0,w:=true }) (cN (cLaW (IntKind.wrap IntKind.i64 (x0+(1:Int))) x1 x2 x3))) none) none) (cX (.exit 0) { sl:=[(1,.l 1 0),(5,.l 1 1)],lo:=[(1,[.d 3 iT (x1),.d 22 lT (x2),.d 3 iT (x3)])],h:=[],n0:=0,w:=false })):=by kernel_rfl
theorem lLaW (k m:Nat):∀ (n:Nat) (x0:Int) (x1:LI) (x2:LL) (x3:LI) (r:(Bool ⊕ Unit)),LaW n x0 x1 x2 x3=some r→zw zP (tn89 12) (TM.evF zP (tn89) dOk (k+40)) dOk (k+40) (za zP (tn0 12) 12 0) 0 0 (n+m) (cLaW x0 x1 x2 x3)=some (xLaW x0 x1 x2 x3 r):=by
 intro n
 induction n with
 | zero=>intro _ _ _ _ r h;cases h
 | succ n ih=>
  intro x0 x1 x2 x3 r
  rw [show n+1+m=n+m+1 by omega,zf,bLaW,qLaW]
  cases (decide (x0 < (x2.length:Int))) with
  | true=>
   cases (decide (0≤x0)) with
   | true=>
    cases (decide ((↑(List.length (List.getD x2 x0.toNat [])):Int) > (20:Int))) with
    | true=>
     intro h;cases h;rfl
    | false=>
     exact ih _ _ _ _ r
   | false=>
    intro h;cases h
  | false=>
   intro h;cases h;rfl
noncomputable def sLaW:TellS:=fun S=>dCS 0 S fun y1 y2 y3=>dSt 1 y1 fun y5 l4=>dL 1 0 y5<|dSI 3 .i64 l4 fun x0 l6=>dE l6<|dLo 1 y2 fun y7 l8=>dC y7 fun y9 l10=>dD 3 iT y9 fun x1=>dC l10 fun y11 l12=>dD 22 lT y11 fun x2=>dC l12 fun y13 l14=>dD 3 iT y13 fun x3=>dE l14<|dE l8<|dE y3 <|  some [(isL (LaW FU x0 x1 x2 x3),.ret,{ sl:=[(2,.v (.sc (.bool ((zH (LaW FU x0 x1 x2 x3))))))],lo:=[],h:=[],n0:=0,w:=true }),(ok (zA (LaW FU x0 x1 x2 x3)),(.exit 0),{ sl:=[(1,.l 1 0),(5,.l 1 1)],lo:=[(1,[.d 3 iT (x1),.d 22 lT (x2),.d 3 iT (x3)])],h:=[],n0:=0,w:=false })]
theorem wLaW:zo zP dOk base o89 t89 ((12,0),sLaW):=by
 refine ⟨.loop (za zP (tn0 12) 12 0),0,by kernel_rfl,?_⟩
 intro S alts e S' h1 h2
 change sLaW S=_ at h1
 unfold sLaW at h1
 repeat with_reducible first|replace h1:=zE h1;obtain ⟨_,_,_,rfl,h1⟩:=h1|(first|replace h1:=ye h1|replace h1:=zF h1|replace h1:=yg h1|replace h1:=dCq h1);obtain ⟨_,_,rfl,h1⟩:=h1|(first|replace h1:=dLq h1|replace h1:=dEq h1);obtain ⟨rfl,h1⟩:=h1|replace h1:=dDq h1;obtain ⟨_,rfl,h1⟩:=h1
 cases h1
 rcases zK h2 with ⟨hc0,rfl,rfl⟩ | h2
 · exact ⟨FU+40,(zb rfl).trans (lLaW FU 40 FU _ _ _ _ _ (zT hc0))⟩
 obtain ⟨hc1,rfl,rfl⟩:=zk h2
 exact ⟨FU+40,(zb rfl).trans (lLaW FU 40 FU _ _ _ _ _ (zN (zc hc1)))⟩
noncomputable def o90:OrcT:=o89
noncomputable def t90:TellT:=((12,0),sLaW)::t89
abbrev tn90:=ze base o90 t90
theorem ok90:OKT tn90:=zq ok89 ok89 (p:=((12,0),sLaW)) wLaW
noncomputable def tv12 {β:Type} (x0:LI) (x1:LL) (x2:LI) (K:Bool→Option β):Option β:=(cond (isL (LaW FU 0 x0 x1 x2)) (K (zH (LaW FU 0 x0 x1 x2))) (cond (ok (zA (LaW FU 0 x0 x1 x2))) (cond (decide ((x0.length:Int)≤(20:Int))) (cond (decide ((x1.length:Int)≤(20:Int))) (K (decide ((x2.length:Int)≤(40:Int)))) (K (false))) (K (false))) none))
noncomputable def v12 (x0:LI) (x1:LL) (x2:LI):Option Bool:=tv12 x0 x1 x2 some
theorem ev12 (x0:LI) (x1:LL) (x2:LI):zn zP (tn90 12) (TM.evF zP (tn90) dOk 40) dOk 40 12 [.agg [.d 3 iT (x0),.d 22 lT (x1),.d 3 iT (x2)]] []=(v12 x0 x1 x2).bind fun r=>some ([.sc (.bool (r))],[]):=by
 refine Eq.trans (b:=tv12 x0 x1 x2 fun r=>some ([.sc (.bool (r))],[])) (by kernel_rfl) ?_
 unfold v12 tv12
 with_reducible repeat' refine zj ?_ ?_
 all_goals rfl
noncomputable def sv12:OrcS:=fun al H=>dC al fun y1 l2=>dA y1 fun y3=>dC y3 fun y4 l5=>dD 3 iT y4 fun x0=>dC l5 fun y6 l7=>dD 22 lT y6 fun x1=>dC l7 fun y8 l9=>dD 3 iT y8 fun x2=>dE l9<|dE l2<|dE H <|  some [(ok (v12 x0 x1 x2),[.sc (.bool ((val (v12 x0 x1 x2))))],[])]
theorem wv12:zl zP dOk base o90 t90 (12,sv12):=by
 intro al H q hq rs H2 h2
 change sv12 al H=_ at hq
 unfold sv12 at hq
 repeat with_reducible first|replace hq:=dCq hq;obtain ⟨_,_,rfl,hq⟩:=hq|(first|replace hq:=dAq hq|replace hq:=dDq hq);obtain ⟨_,rfl,hq⟩:=hq|replace hq:=dEq hq;obtain ⟨rfl,hq⟩:=hq
 cases hq
 obtain ⟨hc0,rfl,rfl⟩:=zd h2
 exact ⟨41,(zu (by kernel_rfl)).trans ((ev12 _ _ _).trans (zh (zc hc0)))⟩
noncomputable def o91:OrcT:=(12,sv12)::o90
noncomputable def t91:TellT:=t90
abbrev tn91:=ze base o91 t91
theorem ok91:OKT tn91:=zm ok90 ok90 (p:=(12,sv12)) wv12
noncomputable def Lbq:Nat→Int→Int→LI→LL→LI→LI→LL→LI→Option ((LL)×(LI))
 | 0,_,_,_,_,_,_,_,_=>none
 | n+1,x0,x1,x2,x3,x4,x5,x6,x7=>(cond (decide (x1 < x0)) (cond (decide (List.length x6+List.length [[0]]≤nat_lit 2147483648)) (cond (decide (List.length x7+List.length [0]≤nat_lit 2147483648)) (Lbq n x0 (IntKind.wrap IntKind.i64 (x1+(1:Int))) x2 x3 x4 x5 (x6++[[0]]) (x7++[0])) none) none) (some (x6,x7)))
theorem qLbq:type_of% @Lbq.eq_2:=@Lbq.eq_2
noncomputable def xLbq (x0 x1:Int) (x2:LI) (x3:LL) (x4:LI) (x5:LI) (x6:LL) (x7:LI):((LL)×(LI))→Ex×CS:=fun r=>((.exit 0),{ sl:=[(4,.l 4 0),(5,.l 5 0)],lo:=[(4,[.g 0,.g 1,.g 2]),(5,[.g 3,.g 4,.g 5])],h:=[.row 3 iT (x2),.row 22 lT (x3),.row 3 iT (x4),.row 3 iT (x5),.row 22 lT (r.1:LL),.row 3 iT (r.2:LI)],n0:=0,w:=false })
abbrev cLbq (x0 x1:Int) (x2:LI) (x3:LL) (x4:LI) (x5:LI) (x6:LL) (x7:LI):CS:={ sl:=[(4,.l 4 0),(5,.l 5 0),(9,.v (.sc (I4 x0))),(10,.v (.sc (I4 x1)))],lo:=[(4,[.g 0,.g 1,.g 2]),(5,[.g 3,.g 4,.g 5])],h:=[.row 3 iT (x2),.row 22 lT (x3),.row 3 iT (x4),.row 3 iT (x5),.row 22 lT (x6),.row 3 iT (x7)],n0:=0,w:=false }
theorem bLbq (k:Nat) (cN:KN) (cX:KX) (x0 x1:Int) (x2:LI) (x3:LL) (x4:LI) (x5:LI) (x6:LL) (x7:LI):zi zP (tn91 19) (TM.evF zP (tn91) dOk (k+40)) dOk (k+40) (za zP (tn0 19) 19 0) 0 0 (cLbq x0 x1 x2 x3 x4 x5 x6 x7) cN cX=(cond (decide (x1 < x0)) (cond (decide (List.length x6+List.length [[0]]≤nat_lit 2147483648)) (cond (decide (List.length x7+List.length [0]≤nat_lit 2147483648)) (cN (cLbq x0 (IntKind.wrap IntKind.i64 (x1+(1:Int))) x2 x3 x4 x5 (x6++[[0]]:LL) (x7++[0]:LI))) none) none) (cX (.exit 0) { sl:=[(4,.l 4 0),(5,.l 5 0)],lo:=[(4,[.g 0,.g 1,.g 2]),(5,[.g 3,.g 4,.g 5])],h:=[.row 3 iT (x2),.row 22 lT (x3),.row 3 iT (x4),.row 3 iT (x5),.row 22 lT (x6),.row 3 iT (x7)],n0:=0,w:=false })):=by kernel_rfl
theorem lLbq (k m:Nat):∀ (n:Nat) (x0 x1:Int) (x2:LI) (x3:LL) (x4:LI) (x5:LI) (x6:LL) (x7:LI) (r:((LL)×(LI))),Lbq n x0 x1 x2 x3 x4 x5 x6 x7=some r→zw zP (tn91 19) (TM.evF zP (tn91) dOk (k+40)) dOk (k+40) (za zP (tn0 19) 19 0) 0 0 (n+m) (cLbq x0 x1 x2 x3 x4 x5 x6 x7)=some (xLbq x0 x1 x2 x3 x4 x5 x6 x7 r):=by
 intro n
 induction n with
 | zero=>intro _ _ _ _ _ _ _ _ r h;cases h
 | succ n ih=>
  intro x0 x1 x2 x3 x4 x5 x6 x7 r
  rw [show n+1+m=n+m+1 by omega,zf,bLbq,qLbq]
  with_reducible repeat' refine zS ?_ ?_
  all_goals first | exact ih _ _ _ _ _ _ _ _ r | (intro h;cases h;done) | (intro h;cases h;rfl)
noncomputable def sLbq:TellS:=fun S=>dCS 0 S fun y1 y2 y3=>dSt 4 y1 fun y5 l4=>dL 4 0 y5<|dSt 5 l4 fun y7 l6=>dL 5 0 y7<|dSI 9 .i64 l6 fun x0 l8=>dSI 10 .i64 l8 fun x1 l9=>dE l9<|dLo 4 y2 fun y10 l11=>dC y10 fun y12 l13=>dG 0 y12<|dC l13 fun y14 l15=>dG 1 y14<|dC l15 fun y16 l17=>dG 2 y16<|dE l17<|dLo 5 l11 fun y18 l19=>dC y18 fun y20 l21=>dG 3 y20<|dC l21 fun y22 l23=>dG 4 y22<|dC l23 fun y24 l25=>dG 5 y24<|dE l25<|dE l19<|dHR 3 iT y3 fun x2 l26=>dHR 22 lT l26 fun x3 l27=>dHR 3 iT l27 fun x4 l28=>dHR 3 iT l28 fun x5 l29=>dHR 22 lT l29 fun x6 l30=>dHR 3 iT l30 fun x7 l31=>dE l31 <|  some [(ok (Lbq FU x0 x1 x2 x3 x4 x5 x6 x7),(.exit 0),{ sl:=[(4,.l 4 0),(5,.l 5 0)],lo:=[(4,[.g 0,.g 1,.g 2]),(5,[.g 3,.g 4,.g 5])],h:=[.row 3 iT (x2),.row 22 lT (x3),.row 3 iT (x4),.row 3 iT (x5),.row 22 lT ((val (Lbq FU x0 x1 x2 x3 x4 x5 x6 x7)).1:LL),.row 3 iT ((val (Lbq FU x0 x1 x2 x3 x4 x5 x6 x7)).2:LI)],n0:=0,w:=false })]
theorem wLbq:zo zP dOk base o91 t91 ((19,0),sLbq):=by
 refine ⟨.loop (za zP (tn0 19) 19 0),0,by kernel_rfl,?_⟩
 intro S alts e S' h1 h2
 change sLbq S=_ at h1
 unfold sLbq at h1
 repeat with_reducible first|replace h1:=zE h1;obtain ⟨_,_,_,rfl,h1⟩:=h1|(first|replace h1:=ye h1|replace h1:=zF h1|replace h1:=yg h1|replace h1:=dCq h1|replace h1:=zV h1);obtain ⟨_,_,rfl,h1⟩:=h1|(first|replace h1:=dLq h1|replace h1:=dEq h1|replace h1:=dGq h1);obtain ⟨rfl,h1⟩:=h1
 cases h1
 obtain ⟨hc0,rfl,rfl⟩:=zk h2
 exact ⟨FU+40,(zb rfl).trans (lLbq FU 40 FU _ _ _ _ _ _ _ _ _ (zc hc0))⟩
noncomputable def o92:OrcT:=o91
noncomputable def t92:TellT:=((19,0),sLbq)::t91
abbrev tn92:=ze base o92 t92
theorem ok92:OKT tn92:=zq ok91 ok91 (p:=((19,0),sLbq)) wLbq
noncomputable def tv19 {β:Type} (x0 x1:Int) (K:((LI)×(LL)×(LI))→Option β):Option β:=(cond (ok (Lbq FU x1 0 [] [] [] [x0] [] [])) (K ([x0],(val (Lbq FU x1 0 [] [] [] [x0] [] [])).1,(val (Lbq FU x1 0 [] [] [] [x0] [] [])).2)) none)
noncomputable def v19 (x0 x1:Int):Option ((LI)×(LL)×(LI)):=tv19 x0 x1 some
theorem ev19 (x0 x1:Int):zn zP (tn92 19) (TM.evF zP (tn92) dOk 40) dOk 40 19 [.sc (I4 x0),.sc (I4 x1)] []=(v19 x0 x1).bind fun r=>some ([.agg [.d 3 iT (r.1:LI),.d 22 lT (r.2.1:LL),.d 3 iT (r.2.2:LI)]],[]):=by
 refine Eq.trans (b:=tv19 x0 x1 fun r=>some ([.agg [.d 3 iT (r.1:LI),.d 22 lT (r.2.1:LL),.d 3 iT (r.2.2:LI)]],[])) (by kernel_rfl) ?_
 unfold v19 tv19
 with_reducible repeat' refine zj ?_ ?_
 all_goals rfl
noncomputable def sv19:OrcS:=fun al H=>dC al fun y1 l2=>dS y1 fun y3=>yO .i64 y3 fun x0=>dC l2 fun y4 l5=>dS y4 fun y6=>yO .i64 y6 fun x1=>dE l5<|dE H <|  some [(ok (v19 x0 x1),[.agg [.d 3 iT ((val (v19 x0 x1)).1:LI),.d 22 lT ((val (v19 x0 x1)).2.1:LL),.d 3 iT ((val (v19 x0 x1)).2.2:LI)]],[])]
theorem wv19:zl zP dOk base o92 t92 (19,sv19):=by
 intro al H q hq rs H2 h2
 change sv19 al H=_ at hq
 unfold sv19 at hq
 repeat with_reducible first|replace hq:=dCq hq;obtain ⟨_,_,rfl,hq⟩:=hq|(first|replace hq:=dSq hq|replace hq:=yV hq);obtain ⟨_,rfl,hq⟩:=hq|replace hq:=dEq hq;obtain ⟨rfl,hq⟩:=hq
 cases hq
 obtain ⟨hc0,rfl,rfl⟩:=zd h2
 exact ⟨41,(zu (by kernel_rfl)).trans ((ev19 _ _).trans (zh (zc hc0)))⟩
noncomputable def o93:OrcT:=(19,sv19)::o92
noncomputable def t93:TellT:=t92
abbrev tn93:=ze base o93 t93
theorem ok93:OKT tn93:=zm ok92 ok92 (p:=(19,sv19)) wv19
noncomputable def LaT:Nat→LI→LI→Int→Option (Bool ⊕ Unit)
 | 0,_,_,_=>none
 | n+1,x0,x1,x2=>(cond (decide (x2 < (x0.length:Int))) (cond (decide (0≤x2)) (cond (decide (x2 < (x1.length:Int))) (cond (List.getD x0 x2.toNat 0 != List.getD x1 x2.toNat 0) (some (.inl (false))) (LaT n x0 x1 (IntKind.wrap IntKind.i64 (x2+(1:Int))))) none) none) (some (.inr ())))
theorem qLaT:type_of% @LaT.eq_2:=@LaT.eq_2
noncomputable def xLaT (x0:LI) (x1:LI) (x2:Int):(Bool ⊕ Unit)→Ex×CS:=fun r=>match r with | .inl a0=>(.ret,{ sl:=[(4,.v (.sc (.bool (a0))))],lo:=[],h:=[],n0:=0,w:=true }) | .inr b0=>((.exit 0),{ sl:=[],lo:=[],h:=[],n0:=0,w:=false })
abbrev cLaT (x0:LI) (x1:LI) (x2:Int):CS:={ sl:=[(0,.v (.sc (.d 3 iT x0))),(1,.v (.sc (.d 3 iT x1))),(5,.v (.sc (I4 x2)))],lo:=[],h:=[],n0:=0,w:=false }
theorem bLaT (k:Nat) (cN:KN) (cX:KX) (x0:LI) (x1:LI) (x2:Int):zi zP (tn93 20) (TM.evF zP (tn93) dOk (k+40)) dOk (k+40) (za zP (tn0 20) 20 0) 0 0 (cLaT x0 x1 x2) cN cX=(cond (decide (x2 < (x0.length:Int))) (cond (decide (0≤x2)) (cond (decide (x2 < (x0.length:Int))) (cond (decide (0≤x2)) (cond (decide (x2 < (x1.length:Int))) (cond (List.getD x0 x2.toNat 0 != List.getD x1 x2.toNat 0) (cX .ret { sl:=[(4,.v (.sc (.bool (false))))],lo:=[],h:=[],n0:=0,w:=true }) (cN (cLaT x0 x1 (IntKind.wrap IntKind.i64 (x2+(1:Int)))))) none) none) none) none) (cX (.exit 0) { sl:=[],lo:=[],h:=[],n0:=0,w:=false })):=by kernel_rfl
theorem lLaT (k m:Nat):∀ (n:Nat) (x0:LI) (x1:LI) (x2:Int) (r:(Bool ⊕ Unit)),LaT n x0 x1 x2=some r→zw zP (tn93 20) (TM.evF zP (tn93) dOk (k+40)) dOk (k+40) (za zP (tn0 20) 20 0) 0 0 (n+m) (cLaT x0 x1 x2)=some (xLaT x0 x1 x2 r):=by
 intro n
 induction n with
 | zero=>intro _ _ _ r h;cases h
 | succ n ih=>
  intro x0 x1 x2 r
  rw [show n+1+m=n+m+1 by omega,zf,bLaT,qLaT]
  cases (decide (x2 < (x0.length:Int))) with
  | true=>
   cases (decide (0≤x2)) with
   | true=>
    cases (decide (x2 < (x1.length:Int))) with
    | true=>
     cases (List.getD x0 x2.toNat 0 != List.getD x1 x2.toNat 0) with
     | true=>
      intro h;cases h;rfl
     | false=>
      exact ih _ _ _ r
    | false=>
     intro h;cases h
   | false=>
    intro h;cases h
  | false=>
   intro h;cases h;rfl
noncomputable def sLaT:TellS:=fun S=>dCS 0 S fun y1 y2 y3=>dSs 0 y1 fun y5 l4=>dD 3 iT y5 fun x0=>dSs 1 l4 fun y7 l6=>dD 3 iT y7 fun x1=>dSI 5 .i64 l6 fun x2 l8=>dE l8<|dE y2<|dE y3 <|  some [(isL (LaT FU x0 x1 x2),.ret,{ sl:=[(4,.v (.sc (.bool ((zH (LaT FU x0 x1 x2))))))],lo:=[],h:=[],n0:=0,w:=true }),(ok (zA (LaT FU x0 x1 x2)),(.exit 0),{ sl:=[],lo:=[],h:=[],n0:=0,w:=false })]
theorem wLaT:zo zP dOk base o93 t93 ((20,0),sLaT):=by
 refine ⟨.loop (za zP (tn0 20) 20 0),0,by kernel_rfl,?_⟩
 intro S alts e S' h1 h2
 change sLaT S=_ at h1
 unfold sLaT at h1
 repeat with_reducible first|replace h1:=zE h1;obtain ⟨_,_,_,rfl,h1⟩:=h1|(first|replace h1:=zJ h1|replace h1:=zF h1);obtain ⟨_,_,rfl,h1⟩:=h1|replace h1:=dDq h1;obtain ⟨_,rfl,h1⟩:=h1|replace h1:=dEq h1;obtain ⟨rfl,h1⟩:=h1
 cases h1
 rcases zK h2 with ⟨hc0,rfl,rfl⟩ | h2
 · exact ⟨FU+40,(zb rfl).trans (lLaT FU 40 FU _ _ _ _ (zT hc0))⟩
 obtain ⟨hc1,rfl,rfl⟩:=zk h2
 exact ⟨FU+40,(zb rfl).trans (lLaT FU 40 FU _ _ _ _ (zN (zc hc1)))⟩
noncomputable def o94:OrcT:=o93
noncomputable def t94:TellT:=((20,0),sLaT)::t93
abbrev tn94:=ze base o94 t94
theorem ok94:OKT tn94:=zq ok93 ok93 (p:=((20,0),sLaT)) wLaT
noncomputable def tv20 {β:Type} (x0:LI) (x1:LI) (K:Bool→Option β):Option β:=(cond ((x0.length:Int) != (x1.length:Int)) (K (false)) (cond (isL (LaT FU x0 x1 0)) (K (zH (LaT FU x0 x1 0))) (cond (ok (zA (LaT FU x0 x1 0))) (K (true)) none)))
noncomputable def v20 (x0:LI) (x1:LI):Option Bool:=tv20 x0 x1 some
theorem ev20 (x0:LI) (x1:LI):zn zP (tn94 20) (TM.evF zP (tn94) dOk 40) dOk 40 20 [.sc (.d 3 iT x0),.sc (.d 3 iT x1)] []=(v20 x0 x1).bind fun r=>some ([.sc (.bool (r))],[]):=by
 refine Eq.trans (b:=tv20 x0 x1 fun r=>some ([.sc (.bool (r))],[])) (by kernel_rfl) ?_
 unfold v20 tv20
 with_reducible repeat' refine zj ?_ ?_
 all_goals rfl
noncomputable def sv20:OrcS:=fun al H=>dC al fun y1 l2=>dS y1 fun y3=>dD 3 iT y3 fun x0=>dC l2 fun y4 l5=>dS y4 fun y6=>dD 3 iT y6 fun x1=>dE l5<|dE H <|  some [(ok (v20 x0 x1),[.sc (.bool ((val (v20 x0 x1))))],[])]
theorem wv20:zl zP dOk base o94 t94 (20,sv20):=by
 intro al H q hq rs H2 h2
 change sv20 al H=_ at hq
 unfold sv20 at hq
 repeat with_reducible first|replace hq:=dCq hq;obtain ⟨_,_,rfl,hq⟩:=hq|(first|replace hq:=dSq hq|replace hq:=dDq hq);obtain ⟨_,rfl,hq⟩:=hq|replace hq:=dEq hq;obtain ⟨rfl,hq⟩:=hq
 cases hq
 obtain ⟨hc0,rfl,rfl⟩:=zd h2
 exact ⟨41,(zu (by kernel_rfl)).trans ((ev20 _ _).trans (zh (zc hc0)))⟩
noncomputable def o95:OrcT:=(20,sv20)::o94
noncomputable def t95:TellT:=t94
abbrev tn95:=ze base o95 t95
theorem ok95:OKT tn95:=zm ok94 ok94 (p:=(20,sv20)) wv20
noncomputable def LaI:Nat→Int→LL→LI→Int→LL→LI→Int→Option (Bool ⊕ Unit)
 | 0,_,_,_,_,_,_,_=>none
 | n+1,x0,x1,x2,x3,x4,x5,x6=>(cond (decide (x0 < (x1.length:Int))) (cond (decide (0≤x0)) (cond (decide (x0 < (x4.length:Int))) (cond (ok (v20 (List.getD x1 x0.toNat []) (List.getD x4 x0.toNat []))) (cond (!val (v20 (List.getD x1 x0.toNat []) (List.getD x4 x0.toNat []))) (some (.inl (false))) (LaI n (IntKind.wrap IntKind.i64 (x0+(1:Int))) x1 x2 x3 x4 x5 x6)) none) none) none) (some (.inr ())))
theorem qLaI:type_of% @LaI.eq_2:=@LaI.eq_2
noncomputable def xLaI (x0:Int) (x1:LL) (x2:LI) (x3:Int) (x4:LL) (x5:LI) (x6:Int):(Bool ⊕ Unit)→Ex×CS:=fun r=>match r with | .inl a0=>(.ret,{ sl:=[(4,.v (.sc (.bool (a0))))],lo:=[],h:=[],n0:=0,w:=true }) | .inr b0=>((.exit 0),{ sl:=[(2,.l 2 0),(3,.l 3 0),(29,.l 2 0)],lo:=[],h:=[],n0:=0,w:=false })
abbrev cLaI (x0:Int) (x1:LL) (x2:LI) (x3:Int) (x4:LL) (x5:LI) (x6:Int):CS:={ sl:=[(2,.l 2 0),(3,.l 3 0),(5,.v (.sc (I4 x0)))],lo:=[(2,[.d 22 lT (x1),.d 3 iT (x2),I4 (x3)]),(3,[.d 22 lT (x4),.d 3 iT (x5),I4 (x6)])],h:=[],n0:=0,w:=false }
theorem bLaI (k:Nat) (cN:KN) (cX:KX) (x0:Int) (x1:LL) (x2:LI) (x3:Int) (x4:LL) (x5:LI) (x6:Int):zi zP (tn95 15) (TM.evF zP (tn95) dOk (k+40)) dOk (k+40) (za zP (tn0 15) 15 0) 0 0 (cLaI x0 x1 x2 x3 x4 x5 x6) cN cX=(cond (decide (x0 < (x1.length:Int))) (cond (decide (0≤x0)) (cond (decide (x0 < (x1.length:Int))) (cond (decide (0≤x0)) (cond (decide (x0 < (x4.length:Int))) (cond (ok (v20 (List.getD x1 x0.toNat []) (List.getD x4 x0.toNat []))) (cond (!val (v20 (List.getD x1 x0.toNat []) (List.getD x4 x0.toNat []))) (cX .ret { sl:=[(4,.v (.sc (.bool (false))))],lo:=[],h:=[],n0:=0,w:=true }) (cN (cLaI (IntKind.wrap IntKind.i64 (x0+(1:Int))) x1 x2 x3 x4 x5 x6))) none) none) none) none) none) (cX (.exit 0) { sl:=[(2,.l 2 0),(3,.l 3 0),(29,.l 2 0)],lo:=[],h:=[],n0:=0,w:=false })):=by kernel_rfl
theorem lLaI (k m:Nat):∀ (n:Nat) (x0:Int) (x1:LL) (x2:LI) (x3:Int) (x4:LL) (x5:LI) (x6:Int) (r:(Bool ⊕ Unit)),LaI n x0 x1 x2 x3 x4 x5 x6=some r→zw zP (tn95 15) (TM.evF zP (tn95) dOk (k+40)) dOk (k+40) (za zP (tn0 15) 15 0) 0 0 (n+m) (cLaI x0 x1 x2 x3 x4 x5 x6)=some (xLaI x0 x1 x2 x3 x4 x5 x6 r):=by
 intro n
 induction n with
 | zero=>intro _ _ _ _ _ _ _ r h;cases h
 | succ n ih=>
  intro x0 x1 x2 x3 x4 x5 x6 r
  rw [show n+1+m=n+m+1 by omega,zf,bLaI,qLaI]
  cases (decide (x0 < (x1.length:Int))) with
  | true=>
   cases (decide (0≤x0)) with
   | true=>
    cases (decide (x0 < (x4.length:Int))) with
    | true=>
     cases (ok (v20 (List.getD x1 x0.toNat []) (List.getD x4 x0.toNat []))) with
     | true=>
      cases (!val (v20 (List.getD x1 x0.toNat []) (List.getD x4 x0.toNat []))) with
      | true=>
       intro h;cases h;rfl
      | false=>
       exact ih _ _ _ _ _ _ _ r
     | false=>
      intro h;cases h
    | false=>
     intro h;cases h
   | false=>
    intro h;cases h
  | false=>
   intro h;cases h;rfl
noncomputable def sLaI:TellS:=fun S=>dCS 0 S fun y1 y2 y3=>dSt 2 y1 fun y5 l4=>dL 2 0 y5<|dSt 3 l4 fun y7 l6=>dL 3 0 y7<|dSI 5 .i64 l6 fun x0 l8=>dE l8<|dLo 2 y2 fun y9 l10=>dC y9 fun y11 l12=>dD 22 lT y11 fun x1=>dC l12 fun y13 l14=>dD 3 iT y13 fun x2=>dK l14 fun x3 l15=>dE l15<|dLo 3 l10 fun y16 l17=>dC y16 fun y18 l19=>dD 22 lT y18 fun x4=>dC l19 fun y20 l21=>dD 3 iT y20 fun x5=>dK l21 fun x6 l22=>dE l22<|dE l17<|dE y3 <|  some [(isL (LaI FU x0 x1 x2 x3 x4 x5 x6),.ret,{ sl:=[(4,.v (.sc (.bool ((zH (LaI FU x0 x1 x2 x3 x4 x5 x6))))))],lo:=[],h:=[],n0:=0,w:=true }),(ok (zA (LaI FU x0 x1 x2 x3 x4 x5 x6)),(.exit 0),{ sl:=[(2,.l 2 0),(3,.l 3 0),(29,.l 2 0)],lo:=[],h:=[],n0:=0,w:=false })]
theorem wLaI:zo zP dOk base o95 t95 ((15,0),sLaI):=by
 refine ⟨.loop (za zP (tn0 15) 15 0),0,by kernel_rfl,?_⟩
 intro S alts e S' h1 h2
 change sLaI S=_ at h1
 unfold sLaI at h1
 repeat with_reducible first|replace h1:=zE h1;obtain ⟨_,_,_,rfl,h1⟩:=h1|(first|replace h1:=ye h1|replace h1:=zF h1|replace h1:=yg h1|replace h1:=dCq h1|replace h1:=zQ h1);obtain ⟨_,_,rfl,h1⟩:=h1|(first|replace h1:=dLq h1|replace h1:=dEq h1);obtain ⟨rfl,h1⟩:=h1|replace h1:=dDq h1;obtain ⟨_,rfl,h1⟩:=h1
 cases h1
 rcases zK h2 with ⟨hc0,rfl,rfl⟩ | h2
 · exact ⟨FU+40,(zb rfl).trans (lLaI FU 40 FU _ _ _ _ _ _ _ _ (zT hc0))⟩
 obtain ⟨hc1,rfl,rfl⟩:=zk h2
 exact ⟨FU+40,(zb rfl).trans (lLaI FU 40 FU _ _ _ _ _ _ _ _ (zN (zc hc1)))⟩
noncomputable def o96:OrcT:=o95
noncomputable def t96:TellT:=((15,0),sLaI)::t95
abbrev tn96:=ze base o96 t96
theorem ok96:OKT tn96:=zq ok95 ok95 (p:=((15,0),sLaI)) wLaI
noncomputable def tv15 {β:Type} (x0:LL) (x1:LI) (x2:Int) (x3:LL) (x4:LI) (x5:Int) (K:Bool→Option β):Option β:=(cond (x2 != x5) (K (false)) (cond ((x0.length:Int) != (x3.length:Int)) (K (false)) (cond (ok (v20 x1 x4)) (cond (!val (v20 x1 x4)) (K (false)) (cond (isL (LaI FU 0 x0 x1 x2 x3 x4 x5)) (K (zH (LaI FU 0 x0 x1 x2 x3 x4 x5))) (cond (ok (zA (LaI FU 0 x0 x1 x2 x3 x4 x5))) (K (true)) none))) none)))
noncomputable def v15 (x0:LL) (x1:LI) (x2:Int) (x3:LL) (x4:LI) (x5:Int):Option Bool:=tv15 x0 x1 x2 x3 x4 x5 some
theorem ev15 (x0:LL) (x1:LI) (x2:Int) (x3:LL) (x4:LI) (x5:Int):zn zP (tn96 15) (TM.evF zP (tn96) dOk 40) dOk 40 15 [.agg [.d 22 lT (x0),.d 3 iT (x1),I4 (x2)],.agg [.d 22 lT (x3),.d 3 iT (x4),I4 (x5)]] []=(v15 x0 x1 x2 x3 x4 x5).bind fun r=>some ([.sc (.bool (r))],[]):=by
 refine Eq.trans (b:=tv15 x0 x1 x2 x3 x4 x5 fun r=>some ([.sc (.bool (r))],[])) (by kernel_rfl) ?_
 unfold v15 tv15
 with_reducible repeat' refine zj ?_ ?_
 all_goals rfl
noncomputable def sv15:OrcS:=fun al H=>dC al fun y1 l2=>dA y1 fun y3=>dC y3 fun y4 l5=>dD 22 lT y4 fun x0=>dC l5 fun y6 l7=>dD 3 iT y6 fun x1=>dK l7 fun x2 l8=>dE l8<|dC l2 fun y9 l10=>dA y9 fun y11=>dC y11 fun y12 l13=>dD 22 lT y12 fun x3=>dC l13 fun y14 l15=>dD 3 iT y14 fun x4=>dK l15 fun x5 l16=>dE l16<|dE l10<|dE H <|  some [(ok (v15 x0 x1 x2 x3 x4 x5),[.sc (.bool ((val (v15 x0 x1 x2 x3 x4 x5))))],[])]
theorem wv15:zl zP dOk base o96 t96 (15,sv15):=by
 intro al H q hq rs H2 h2
 change sv15 al H=_ at hq
 unfold sv15 at hq
 repeat with_reducible first|(first|replace hq:=dCq hq|replace hq:=zQ hq);obtain ⟨_,_,rfl,hq⟩:=hq|(first|replace hq:=dAq hq|replace hq:=dDq hq);obtain ⟨_,rfl,hq⟩:=hq|replace hq:=dEq hq;obtain ⟨rfl,hq⟩:=hq
 cases hq
 obtain ⟨hc0,rfl,rfl⟩:=zd h2
 exact ⟨41,(zu (by kernel_rfl)).trans ((ev15 _ _ _ _ _ _).trans (zh (zc hc0)))⟩
noncomputable def o97:OrcT:=(15,sv15)::o96
noncomputable def t97:TellT:=t96
abbrev tn97:=ze base o97 t97
theorem ok97:OKT tn97:=zm ok96 ok96 (p:=(15,sv15)) wv15
noncomputable def v11:Option Bool:=(some (true))
theorem ev11:zn zP (tn97 11) (TM.evF zP (tn97) dOk 40) dOk 40 11 [] []=(v11).bind fun r=>some ([.sc (.bool (r))],[]):=by
 refine Eq.trans (b:=(some ([.sc (.bool (true))],[]))) (by kernel_rfl) ?_
 unfold v11
 with_reducible repeat' refine zj ?_ ?_
 all_goals rfl
noncomputable def sv11:OrcS:=fun al H=>dE al<|dE H <|  some [(ok (v11),[.sc (.bool ((val (v11))))],[])]
theorem wv11:zl zP dOk base o97 t97 (11,sv11):=by
 intro al H q hq rs H2 h2
 change sv11 al H=_ at hq
 unfold sv11 at hq
 obtain ⟨rfl,g1⟩:=dEq hq
 obtain ⟨rfl,g2⟩:=dEq g1
 cases g2
 obtain ⟨hc0,rfl,rfl⟩:=zd h2
 exact ⟨41,(zu (by kernel_rfl)).trans ((ev11 ).trans (zh (zc hc0)))⟩
noncomputable def o98:OrcT:=(11,sv11)::o97
noncomputable def t98:TellT:=t97
abbrev tn98:=ze base o98 t98
theorem ok98:OKT tn98:=zm ok97 ok97 (p:=(11,sv11)) wv11
noncomputable def LaU:Nat→Int→LI→LL→LI→LI→LI→L3→L3→Option L3
 | 0,_,_,_,_,_,_,_,_=>none
 | n+1,x0,x1,x2,x3,x4,x5,x6,x7=>(cond (decide (x0 < (x2.length:Int))) (cond (decide (0≤x0)) (cond (decide (List.length x7+List.length [[List.getD x2 x0.toNat []]]≤nat_lit 2147483648)) (LaU n (IntKind.wrap IntKind.i64 (x0+(1:Int))) x1 x2 x3 x4 x5 x6 (x7++[[List.getD x2 x0.toNat []]])) none) none) (some x7))
theorem qLaU:type_of% @LaU.eq_2:=@LaU.eq_2
noncomputable def xLaU (x0:Int) (x1:LI) (x2:LL) (x3:LI) (x4:LI) (x5:LI) (x6:L3) (x7:L3):L3→Ex×CS:=fun r=>((.exit 0),{ sl:=[(1,.l 1 0),(2,.l 2 0),(3,.l 3 0),(9,.l 1 1)],lo:=[(2,[.g 0,.g 1]),(3,[.d 3 iT (x4),.g 2])],h:=[.row 3 iT (x5),.row 23 mT (x6),.row 23 mT (r:L3)],n0:=0,w:=false })
abbrev cLaU (x0:Int) (x1:LI) (x2:LL) (x3:LI) (x4:LI) (x5:LI) (x6:L3) (x7:L3):CS:={ sl:=[(1,.l 1 0),(2,.l 2 0),(3,.l 3 0),(4,.v (.sc (I4 x0)))],lo:=[(1,[.d 3 iT (x1),.d 22 lT (x2),.d 3 iT (x3)]),(2,[.g 0,.g 1]),(3,[.d 3 iT (x4),.g 2])],h:=[.row 3 iT (x5),.row 23 mT (x6),.row 23 mT (x7)],n0:=0,w:=false }
theorem bLaU (k:Nat) (cN:KN) (cX:KX) (x0:Int) (x1:LI) (x2:LL) (x3:LI) (x4:LI) (x5:LI) (x6:L3) (x7:L3):zi zP (tn98 17) (TM.evF zP (tn98) dOk (k+40)) dOk (k+40) (za zP (tn0 17) 17 0) 0 0 (cLaU x0 x1 x2 x3 x4 x5 x6 x7) cN cX=(cond (decide (x0 < (x2.length:Int))) (cond (decide (0≤x0)) (cond (decide (x0 < (x2.length:Int))) (cond (decide (List.length x7+List.length [[List.getD x2 x0.toNat []]]≤nat_lit 2147483648)) (cN (cLaU (IntKind.wrap IntKind.i64 (x0+(1:Int))) x1 x2 x3 x4 x5 x6 (x7++[[List.getD x2 x0.toNat []]]:L3))) none) none) none) (cX (.exit 0) { sl:=[(1,.l 1 0),(2,.l 2 0),(3,.l 3 0),(9,.l 1 1)],lo:=[(2,[.g 0,.g 1]),(3,[.d 3 iT (x4),.g 2])],h:=[.row 3 iT (x5),.row 23 mT (x6),.row 23 mT (x7)],n0:=0,w:=false })):=by kernel_rfl
theorem lLaU (k m:Nat):∀ (n:Nat) (x0:Int) (x1:LI) (x2:LL) (x3:LI) (x4:LI) (x5:LI) (x6:L3) (x7:L3) (r:L3),LaU n x0 x1 x2 x3 x4 x5 x6 x7=some r→zw zP (tn98 17) (TM.evF zP (tn98) dOk (k+40)) dOk (k+40) (za zP (tn0 17) 17 0) 0 0 (n+m) (cLaU x0 x1 x2 x3 x4 x5 x6 x7)=some (xLaU x0 x1 x2 x3 x4 x5 x6 x7 r):=by
 intro n
 induction n with
 | zero=>intro _ _ _ _ _ _ _ _ r h;cases h
 | succ n ih=>
  intro x0 x1 x2 x3 x4 x5 x6 x7 r
  rw [show n+1+m=n+m+1 by omega,zf,bLaU,qLaU]
  cases (decide (x0 < (x2.length:Int))) with
  | true=>
   cases (decide (0≤x0)) with
   | true=>
    cases (decide (List.length x7+List.length [[List.getD x2 x0.toNat []]]≤nat_lit 2147483648)) with
    | true=>
     exact ih _ _ _ _ _ _ _ _ r
    | false=>
     intro h;cases h
   | false=>
    intro h;cases h
  | false=>
   intro h;cases h;rfl
noncomputable def sLaU:TellS:=fun S=>dCS 0 S fun y1 y2 y3=>dSt 1 y1 fun y5 l4=>dL 1 0 y5<|dSt 2 l4 fun y7 l6=>dL 2 0 y7<|dSt 3 l6 fun y9 l8=>dL 3 0 y9<|dSI 4 .i64 l8 fun x0 l10=>dE l10<|dLo 1 y2 fun y11 l12=>dC y11 fun y13 l14=>dD 3 iT y13 fun x1=>dC l14 fun y15 l16=>dD 22 lT y15 fun x2=>dC l16 fun y17 l18=>dD 3 iT y17 fun x3=>dE l18<|dLo 2 l12 fun y19 l20=>dC y19 fun y21 l22=>dG 0 y21<|dC l22 fun y23 l24=>dG 1 y23<|dE l24<|dLo 3 l20 fun y25 l26=>dC y25 fun y27 l28=>dD 3 iT y27 fun x4=>dC l28 fun y29 l30=>dG 2 y29<|dE l30<|dE l26<|dHR 3 iT y3 fun x5 l31=>dHR 23 mT l31 fun x6 l32=>dHR 23 mT l32 fun x7 l33=>dE l33 <|  some [(ok (LaU FU x0 x1 x2 x3 x4 x5 x6 x7),(.exit 0),{ sl:=[(1,.l 1 0),(2,.l 2 0),(3,.l 3 0),(9,.l 1 1)],lo:=[(2,[.g 0,.g 1]),(3,[.d 3 iT (x4),.g 2])],h:=[.row 3 iT (x5),.row 23 mT (x6),.row 23 mT ((val (LaU FU x0 x1 x2 x3 x4 x5 x6 x7)):L3)],n0:=0,w:=false })]
theorem wLaU:zo zP dOk base o98 t98 ((17,0),sLaU):=by
 refine ⟨.loop (za zP (tn0 17) 17 0),0,by kernel_rfl,?_⟩
 intro S alts e S' h1 h2
 change sLaU S=_ at h1
 unfold sLaU at h1
 repeat with_reducible first|replace h1:=zE h1;obtain ⟨_,_,_,rfl,h1⟩:=h1|(first|replace h1:=ye h1|replace h1:=zF h1|replace h1:=yg h1|replace h1:=dCq h1|replace h1:=zV h1);obtain ⟨_,_,rfl,h1⟩:=h1|(first|replace h1:=dLq h1|replace h1:=dEq h1|replace h1:=dGq h1);obtain ⟨rfl,h1⟩:=h1|replace h1:=dDq h1;obtain ⟨_,rfl,h1⟩:=h1
 cases h1
 obtain ⟨hc0,rfl,rfl⟩:=zk h2
 exact ⟨FU+40,(zb rfl).trans (lLaU FU 40 FU _ _ _ _ _ _ _ _ _ (zc hc0))⟩
noncomputable def o99:OrcT:=o98
noncomputable def t99:TellT:=((17,0),sLaU)::t98
abbrev tn99:=ze base o99 t99
theorem ok99:OKT tn99:=zq ok98 ok98 (p:=((17,0),sLaU)) wLaU
noncomputable def v17 (x0:LI) (x1:LL) (x2:LI):Option L3:=(cond (ok (LaU FU 0 x0 x1 x2 x0 [] [] [])) (some (val (LaU FU 0 x0 x1 x2 x0 [] [] []))) none)
theorem ev17 (x0:LI) (x1:LL) (x2:LI):zn zP (tn99 17) (TM.evF zP (tn99) dOk 40) dOk 40 17 [.agg [.d 3 iT (x0),.d 22 lT (x1),.d 3 iT (x2)]] []=(v17 x0 x1 x2).bind fun r=>some ([.agg [.d 3 iT (x0),.d 23 mT (r:L3)]],[]):=by
 refine Eq.trans (b:=(cond (ok (LaU FU 0 x0 x1 x2 x0 [] [] [])) (some ([.agg [.d 3 iT (x0),.d 23 mT (val (LaU FU 0 x0 x1 x2 x0 [] [] []):L3)]],[])) none)) (by kernel_rfl) ?_
 unfold v17
 with_reducible repeat' refine zj ?_ ?_
 all_goals rfl
noncomputable def sv17:OrcS:=fun al H=>dC al fun y1 l2=>dA y1 fun y3=>dC y3 fun y4 l5=>dD 3 iT y4 fun x0=>dC l5 fun y6 l7=>dD 22 lT y6 fun x1=>dC l7 fun y8 l9=>dD 3 iT y8 fun x2=>dE l9<|dE l2<|dE H <|  some [(ok (v17 x0 x1 x2),[.agg [.d 3 iT (x0),.d 23 mT ((val (v17 x0 x1 x2)):L3)]],[])]
theorem wv17:zl zP dOk base o99 t99 (17,sv17):=by
 intro al H q hq rs H2 h2
 change sv17 al H=_ at hq
 unfold sv17 at hq
 repeat with_reducible first|replace hq:=dCq hq;obtain ⟨_,_,rfl,hq⟩:=hq|(first|replace hq:=dAq hq|replace hq:=dDq hq);obtain ⟨_,rfl,hq⟩:=hq|replace hq:=dEq hq;obtain ⟨rfl,hq⟩:=hq
 cases hq
 obtain ⟨hc0,rfl,rfl⟩:=zd h2
 exact ⟨41,(zu (by kernel_rfl)).trans ((ev17 _ _ _).trans (zh (zc hc0)))⟩
noncomputable def o100:OrcT:=(17,sv17)::o99
noncomputable def t100:TellT:=t99
abbrev tn100:=ze base o100 t100
theorem ok100:OKT tn100:=zm ok99 ok99 (p:=(17,sv17)) wv17
noncomputable def LaP:Nat→Int→LI→L3→Option (Bool ⊕ Unit)
 | 0,_,_,_=>none
 | n+1,x0,x1,x2=>(cond (decide (x0 < (x1.length:Int))) (cond (decide (0≤x0)) (cond (decide (List.getD x1 x0.toNat 0 < 0)) (some (.inl (false))) (cond (decide (List.getD x1 x0.toNat 0 > (1000:Int))) (some (.inl (false))) (LaP n (IntKind.wrap IntKind.i64 (x0+(1:Int))) x1 x2))) none) (some (.inr ())))
theorem qLaP:type_of% @LaP.eq_2:=@LaP.eq_2
noncomputable def xLaP (x0:Int) (x1:LI) (x2:L3):(Bool ⊕ Unit)→Ex×CS:=fun r=>match r with | .inl a0=>(.ret,{ sl:=[(2,.v (.sc (.bool (a0))))],lo:=[],h:=[],n0:=0,w:=true }) | .inr b0=>((.exit 0),{ sl:=[(1,.l 1 0),(30,.l 1 0)],lo:=[(1,[.d 3 iT (x1),.d 23 mT (x2)])],h:=[],n0:=0,w:=false })
abbrev cLaP (x0:Int) (x1:LI) (x2:L3):CS:={ sl:=[(1,.l 1 0),(3,.v (.sc (I4 x0)))],lo:=[(1,[.d 3 iT (x1),.d 23 mT (x2)])],h:=[],n0:=0,w:=false }
theorem bLaP (k:Nat) (cN:KN) (cX:KX) (x0:Int) (x1:LI) (x2:L3):zi zP (tn100 54) (TM.evF zP (tn100) dOk (k+40)) dOk (k+40) (za zP (tn0 54) 54 0) 0 0 (cLaP x0 x1 x2) cN cX=(cond (decide (x0 < (x1.length:Int))) (cond (decide (0≤x0)) (cond (decide (x0 < (x1.length:Int))) (cond (decide (List.getD x1 x0.toNat 0 < 0)) (cX .ret { sl:=[(2,.v (.sc (.bool (false))))],lo:=[],h:=[],n0:=0,w:=true }) (cond (decide (0≤x0)) (cond (decide (x0 < (x1.length:Int))) (cond (decide (List.getD x1 x0.toNat 0 > (1000:Int))) (cX .ret { sl:=[(2,.v (.sc (.bool (false))))],lo:=[],h:=[],n0:=0,w:=true }) (cN (cLaP (IntKind.wrap IntKind.i64 (x0+(1:Int))) x1 x2))) none) none)) none) none) (cX (.exit 0) { sl:=[(1,.l 1 0),(30,.l 1 0)],lo:=[(1,[.d 3 iT (x1),.d 23 mT (x2)])],h:=[],n0:=0,w:=false })):=by kernel_rfl
theorem lLaP (k m:Nat):∀ (n:Nat) (x0:Int) (x1:LI) (x2:L3) (r:(Bool ⊕ Unit)),LaP n x0 x1 x2=some r→zw zP (tn100 54) (TM.evF zP (tn100) dOk (k+40)) dOk (k+40) (za zP (tn0 54) 54 0) 0 0 (n+m) (cLaP x0 x1 x2)=some (xLaP x0 x1 x2 r):=by
 intro n
 induction n with
 | zero=>intro _ _ _ r h;cases h
 | succ n ih=>
  intro x0 x1 x2 r
  rw [show n+1+m=n+m+1 by omega,zf,bLaP,qLaP]
  cases (decide (x0 < (x1.length:Int))) with
  | true=>
   cases (decide (0≤x0)) with
   | true=>
    cases (decide (List.getD x1 x0.toNat 0 < 0)) with
    | true=>
     intro h;cases h;rfl
    | false=>
     cases (decide (List.getD x1 x0.toNat 0 > (1000:Int))) with
     | true=>
      intro h;cases h;rfl
     | false=>
      exact ih _ _ _ r
   | false=>
    intro h;cases h
  | false=>
   intro h;cases h;rfl
noncomputable def sLaP:TellS:=fun S=>dCS 0 S fun y1 y2 y3=>dSt 1 y1 fun y5 l4=>dL 1 0 y5<|dSI 3 .i64 l4 fun x0 l6=>dE l6<|dLo 1 y2 fun y7 l8=>dC y7 fun y9 l10=>dD 3 iT y9 fun x1=>dC l10 fun y11 l12=>dD 23 mT y11 fun x2=>dE l12<|dE l8<|dE y3 <|  some [(isL (LaP FU x0 x1 x2),.ret,{ sl:=[(2,.v (.sc (.bool ((zH (LaP FU x0 x1 x2))))))],lo:=[],h:=[],n0:=0,w:=true }),(ok (zA (LaP FU x0 x1 x2)),(.exit 0),{ sl:=[(1,.l 1 0),(30,.l 1 0)],lo:=[(1,[.d 3 iT (x1),.d 23 mT (x2)])],h:=[],n0:=0,w:=false })]
theorem wLaP:zo zP dOk base o100 t100 ((54,0),sLaP):=by
 refine ⟨.loop (za zP (tn0 54) 54 0),0,by kernel_rfl,?_⟩
 intro S alts e S' h1 h2
 change sLaP S=_ at h1
 unfold sLaP at h1
 repeat with_reducible first|replace h1:=zE h1;obtain ⟨_,_,_,rfl,h1⟩:=h1|(first|replace h1:=ye h1|replace h1:=zF h1|replace h1:=yg h1|replace h1:=dCq h1);obtain ⟨_,_,rfl,h1⟩:=h1|(first|replace h1:=dLq h1|replace h1:=dEq h1);obtain ⟨rfl,h1⟩:=h1|replace h1:=dDq h1;obtain ⟨_,rfl,h1⟩:=h1
 cases h1
 rcases zK h2 with ⟨hc0,rfl,rfl⟩ | h2
 · exact ⟨FU+40,(zb rfl).trans (lLaP FU 40 FU _ _ _ _ (zT hc0))⟩
 obtain ⟨hc1,rfl,rfl⟩:=zk h2
 exact ⟨FU+40,(zb rfl).trans (lLaP FU 40 FU _ _ _ _ (zN (zc hc1)))⟩
noncomputable def o101:OrcT:=o100
noncomputable def t101:TellT:=((54,0),sLaP)::t100
abbrev tn101:=ze base o101 t101
theorem ok101:OKT tn101:=zq ok100 ok100 (p:=((54,0),sLaP)) wLaP
noncomputable def LaQ:Nat→LI→Int→Int→Option (Bool ⊕ Unit)
 | 0,_,_,_=>none
 | n+1,x0,x1,x2=>(cond (decide (x2 < (x0.length:Int))) (cond (decide (0≤x2)) (cond (decide (List.getD x0 x2.toNat 0 < 0)) (some (.inl (false))) (cond (decide (List.getD x0 x2.toNat 0≥x1)) (some (.inl (false))) (cond (decide (x2 > 0)) (cond (decide (0≤IntKind.wrap IntKind.i64 (x2 - (1:Int)))) (cond (decide (IntKind.wrap IntKind.i64 (x2 - (1:Int)) < (x0.length:Int))) (cond (decide (List.getD x0 x2.toNat 0≤List.getD x0 (IntKind.wrap IntKind.i64 (x2 - (1:Int))).toNat 0)) (some (.inl (false))) (LaQ n x0 x1 (IntKind.wrap IntKind.i64 (x2+(1:Int))))) none) none) (LaQ n x0 x1 (IntKind.wrap IntKind.i64 (x2+(1:Int))))))) none) (some (.inr ())))
theorem qLaQ:type_of% @LaQ.eq_2:=@LaQ.eq_2
noncomputable def xLaQ (x0:LI) (x1 x2:Int):(Bool ⊕ Unit)→Ex×CS:=fun r=>match r with | .inl a0=>(.ret,{ sl:=[(4,.v (.sc (.bool (a0))))],lo:=[],h:=[],n0:=0,w:=true }) | .inr b0=>((.exit 0),{ sl:=[(0,.v (.sc (.d 3 iT x0)))],lo:=[],h:=[],n0:=0,w:=false })
abbrev cLaQ (x0:LI) (x1 x2:Int):CS:={ sl:=[(0,.v (.sc (.d 3 iT x0))),(1,.v (.sc (I4 x1))),(5,.v (.sc (I4 x2)))],lo:=[],h:=[],n0:=0,w:=false }
theorem bLaQ (k:Nat) (cN:KN) (cX:KX) (x0:LI) (x1 x2:Int):zi zP (tn101 72) (TM.evF zP (tn101) dOk (k+40)) dOk (k+40) (za zP (tn0 72) 72 0) 0 0 (cLaQ x0 x1 x2) cN cX=(cond (decide (x2 < (x0.length:Int))) (cond (decide (0≤x2)) (cond (decide (x2 < (x0.length:Int))) (cond (decide (List.getD x0 x2.toNat 0 < 0)) (cX .ret { sl:=[(4,.v (.sc (.bool (false))))],lo:=[],h:=[],n0:=0,w:=true }) (cond (decide (0≤x2)) (cond (decide (x2 < (x0.length:Int))) (cond (decide (List.getD x0 x2.toNat 0≥x1)) (cX .ret { sl:=[(4,.v (.sc (.bool (false))))],lo:=[],h:=[],n0:=0,w:=true }) (cond (decide (x2 > 0)) (cond (decide (0≤x2)) (cond (decide (x2 < (x0.length:Int))) (cond (decide (0≤IntKind.wrap IntKind.i64 (x2 - (1:Int)))) (cond (decide (IntKind.wrap IntKind.i64 (x2 - (1:Int)) < (x0.length:Int))) (cond (decide (List.getD x0 x2.toNat 0≤List.getD x0 (IntKind.wrap IntKind.i64 (x2 - (1:Int))).toNat 0)) (cX .ret { sl:=[(4,.v (.sc (.bool (false))))],lo:=[],h:=[],n0:=0,w:=true }) (cN (cLaQ x0 x1 (IntKind.wrap IntKind.i64 (x2+(1:Int)))))) none) none) none) none) (cN (cLaQ x0 x1 (IntKind.wrap IntKind.i64 (x2+(1:Int))))))) none) none)) none) none) (cX (.exit 0) { sl:=[(0,.v (.sc (.d 3 iT x0)))],lo:=[],h:=[],n0:=0,w:=false })):=by kernel_rfl
theorem lLaQ (k m:Nat):∀ (n:Nat) (x0:LI) (x1 x2:Int) (r:(Bool ⊕ Unit)),LaQ n x0 x1 x2=some r→zw zP (tn101 72) (TM.evF zP (tn101) dOk (k+40)) dOk (k+40) (za zP (tn0 72) 72 0) 0 0 (n+m) (cLaQ x0 x1 x2)=some (xLaQ x0 x1 x2 r):=by
 intro n
 induction n with
 | zero=>intro _ _ _ r h;cases h
 | succ n ih=>
  intro x0 x1 x2 r
  rw [show n+1+m=n+m+1 by omega,zf,bLaQ,qLaQ]
  cases (decide (x2 < (x0.length:Int))) with
  | true=>
   cases (decide (0≤x2)) with
   | true=>
    cases (decide (List.getD x0 x2.toNat 0 < 0)) with
    | true=>
     intro h;cases h;rfl
    | false=>
     cases (decide (List.getD x0 x2.toNat 0≥x1)) with
     | true=>
      intro h;cases h;rfl
     | false=>
      cases (decide (x2 > 0)) with
      | true=>
       cases (decide (0≤IntKind.wrap IntKind.i64 (x2 - (1:Int)))) with
       | true=>
        cases (decide (IntKind.wrap IntKind.i64 (x2 - (1:Int)) < (x0.length:Int))) with
        | true=>
         cases (decide (List.getD x0 x2.toNat 0≤List.getD x0 (IntKind.wrap IntKind.i64 (x2 - (1:Int))).toNat 0)) with
         | true=>
          intro h;cases h;rfl
         | false=>
          exact ih _ _ _ r
        | false=>
         intro h;cases h
       | false=>
        intro h;cases h
      | false=>
       exact ih _ _ _ r
   | false=>
    intro h;cases h
  | false=>
   intro h;cases h;rfl
noncomputable def sLaQ:TellS:=fun S=>dCS 0 S fun y1 y2 y3=>dSs 0 y1 fun y5 l4=>dD 3 iT y5 fun x0=>dSI 1 .i64 l4 fun x1 l6=>dSI 5 .i64 l6 fun x2 l7=>dE l7<|dE y2<|dE y3 <|  some [(isL (LaQ FU x0 x1 x2),.ret,{ sl:=[(4,.v (.sc (.bool ((zH (LaQ FU x0 x1 x2))))))],lo:=[],h:=[],n0:=0,w:=true }),(ok (zA (LaQ FU x0 x1 x2)),(.exit 0),{ sl:=[(0,.v (.sc (.d 3 iT x0)))],lo:=[],h:=[],n0:=0,w:=false })]
theorem wLaQ:zo zP dOk base o101 t101 ((72,0),sLaQ):=by
 refine ⟨.loop (za zP (tn0 72) 72 0),0,by kernel_rfl,?_⟩
 intro S alts e S' h1 h2
 change sLaQ S=_ at h1
 unfold sLaQ at h1
 repeat with_reducible first|replace h1:=zE h1;obtain ⟨_,_,_,rfl,h1⟩:=h1|(first|replace h1:=zJ h1|replace h1:=zF h1);obtain ⟨_,_,rfl,h1⟩:=h1|replace h1:=dDq h1;obtain ⟨_,rfl,h1⟩:=h1|replace h1:=dEq h1;obtain ⟨rfl,h1⟩:=h1
 cases h1
 rcases zK h2 with ⟨hc0,rfl,rfl⟩ | h2
 · exact ⟨FU+40,(zb rfl).trans (lLaQ FU 40 FU _ _ _ _ (zT hc0))⟩
 obtain ⟨hc1,rfl,rfl⟩:=zk h2
 exact ⟨FU+40,(zb rfl).trans (lLaQ FU 40 FU _ _ _ _ (zN (zc hc1)))⟩
noncomputable def o102:OrcT:=o101
noncomputable def t102:TellT:=((72,0),sLaQ)::t101
abbrev tn102:=ze base o102 t102
theorem ok102:OKT tn102:=zq ok101 ok101 (p:=((72,0),sLaQ)) wLaQ
noncomputable def tv72 {β:Type} (x0:LI) (x1:Int) (K:Bool→Option β):Option β:=(cond (isL (LaQ FU x0 x1 0)) (K (zH (LaQ FU x0 x1 0))) (cond (ok (zA (LaQ FU x0 x1 0))) (cond (decide ((x0.length:Int)≥(1:Int))) (K (decide ((x0.length:Int)≤(6:Int)))) (K (false))) none))
noncomputable def v72 (x0:LI) (x1:Int):Option Bool:=tv72 x0 x1 some
theorem ev72 (x0:LI) (x1:Int):zn zP (tn102 72) (TM.evF zP (tn102) dOk 40) dOk 40 72 [.sc (.d 3 iT x0),.sc (I4 x1)] []=(v72 x0 x1).bind fun r=>some ([.sc (.bool (r))],[]):=by
 refine Eq.trans (b:=tv72 x0 x1 fun r=>some ([.sc (.bool (r))],[])) (by kernel_rfl) ?_
 unfold v72 tv72
 with_reducible repeat' refine zj ?_ ?_
 all_goals rfl
noncomputable def sv72:OrcS:=fun al H=>dC al fun y1 l2=>dS y1 fun y3=>dD 3 iT y3 fun x0=>dC l2 fun y4 l5=>dS y4 fun y6=>yO .i64 y6 fun x1=>dE l5<|dE H <|  some [(ok (v72 x0 x1),[.sc (.bool ((val (v72 x0 x1))))],[])]
theorem wv72:zl zP dOk base o102 t102 (72,sv72):=by
 intro al H q hq rs H2 h2
 change sv72 al H=_ at hq
 unfold sv72 at hq
 repeat with_reducible first|replace hq:=dCq hq;obtain ⟨_,_,rfl,hq⟩:=hq|(first|replace hq:=dSq hq|replace hq:=dDq hq|replace hq:=yV hq);obtain ⟨_,rfl,hq⟩:=hq|replace hq:=dEq hq;obtain ⟨rfl,hq⟩:=hq
 cases hq
 obtain ⟨hc0,rfl,rfl⟩:=zd h2
 exact ⟨41,(zu (by kernel_rfl)).trans ((ev72 _ _).trans (zh (zc hc0)))⟩
noncomputable def o103:OrcT:=(72,sv72)::o102
noncomputable def t103:TellT:=t102
abbrev tn103:=ze base o103 t103
theorem ok103:OKT tn103:=zm ok102 ok102 (p:=(72,sv72)) wv72
noncomputable def Lal:Nat→Int→LL→Int→LI→L3→Option (Bool ⊕ Unit)
 | 0,_,_,_,_,_=>none
 | n+1,x0,x1,x2,x3,x4=>(cond (decide (x2 < (x1.length:Int))) (cond (decide (0≤x2)) (cond (ok (v72 (List.getD x1 x2.toNat []) (x3.length:Int))) (cond (!val (v72 (List.getD x1 x2.toNat []) (x3.length:Int))) (some (.inl (false))) (Lal n x0 x1 (IntKind.wrap IntKind.i64 (x2+(1:Int))) x3 x4)) none) none) (some (.inr ())))
theorem qLal:type_of% @Lal.eq_2:=@Lal.eq_2
noncomputable def xLal (x0:Int) (x1:LL) (x2:Int) (x3:LI) (x4:L3):(Bool ⊕ Unit)→Ex×CS:=fun r=>match r with | .inl a0=>(.ret,{ sl:=[(2,.v (.sc (.bool (a0))))],lo:=[],h:=[],n0:=0,w:=true }) | .inr b0=>((.exit 4),{ sl:=[(1,.l 1 0),(4,.v (.sc (I4 x0)))],lo:=[(1,[.d 3 iT (x3),.d 23 mT (x4)])],h:=[],n0:=0,w:=false })
abbrev cLal (x0:Int) (x1:LL) (x2:Int) (x3:LI) (x4:L3):CS:={ sl:=[(1,.l 1 0),(4,.v (.sc (I4 x0))),(5,.v (.sc (.d 22 lT x1))),(6,.v (.sc (I4 x2)))],lo:=[(1,[.d 3 iT (x3),.d 23 mT (x4)])],h:=[],n0:=0,w:=false }
theorem bLal (k:Nat) (cN:KN) (cX:KX) (x0:Int) (x1:LL) (x2:Int) (x3:LI) (x4:L3):zi zP (tn103 54) (TM.evF zP (tn103) dOk (k+40)) dOk (k+40) (za zP (tn0 54) 54 32) 4 32 (cLal x0 x1 x2 x3 x4) cN cX=(cond (decide (x2 < (x1.length:Int))) (cond (decide (0≤x2)) (cond (decide (x2 < (x1.length:Int))) (cond (ok (v72 (List.getD x1 x2.toNat []) (x3.length:Int))) (cond (!val (v72 (List.getD x1 x2.toNat []) (x3.length:Int))) (cX .ret { sl:=[(2,.v (.sc (.bool (false))))],lo:=[],h:=[],n0:=0,w:=true }) (cN (cLal x0 x1 (IntKind.wrap IntKind.i64 (x2+(1:Int))) x3 x4))) none) none) none) (cX (.exit 4) { sl:=[(1,.l 1 0),(4,.v (.sc (I4 x0)))],lo:=[(1,[.d 3 iT (x3),.d 23 mT (x4)])],h:=[],n0:=0,w:=false })):=by kernel_rfl
theorem lLal (k m:Nat):∀ (n:Nat) (x0:Int) (x1:LL) (x2:Int) (x3:LI) (x4:L3) (r:(Bool ⊕ Unit)),Lal n x0 x1 x2 x3 x4=some r→zw zP (tn103 54) (TM.evF zP (tn103) dOk (k+40)) dOk (k+40) (za zP (tn0 54) 54 32) 4 32 (n+m) (cLal x0 x1 x2 x3 x4)=some (xLal x0 x1 x2 x3 x4 r):=by
 intro n
 induction n with
 | zero=>intro _ _ _ _ _ r h;cases h
 | succ n ih=>
  intro x0 x1 x2 x3 x4 r
  rw [show n+1+m=n+m+1 by omega,zf,bLal,qLal]
  cases (decide (x2 < (x1.length:Int))) with
  | true=>
   cases (decide (0≤x2)) with
   | true=>
    cases (ok (v72 (List.getD x1 x2.toNat []) (x3.length:Int))) with
    | true=>
     cases (!val (v72 (List.getD x1 x2.toNat []) (x3.length:Int))) with
     | true=>
      intro h;cases h;rfl
     | false=>
      exact ih _ _ _ _ _ r
    | false=>
     intro h;cases h
   | false=>
    intro h;cases h
  | false=>
   intro h;cases h;rfl
noncomputable def sLal:TellS:=fun S=>dCS 0 S fun y1 y2 y3=>dSt 1 y1 fun y5 l4=>dL 1 0 y5<|dSI 4 .i64 l4 fun x0 l6=>dSs 5 l6 fun y8 l7=>dD 22 lT y8 fun x1=>dSI 6 .i64 l7 fun x2 l9=>dE l9<|dLo 1 y2 fun y10 l11=>dC y10 fun y12 l13=>dD 3 iT y12 fun x3=>dC l13 fun y14 l15=>dD 23 mT y14 fun x4=>dE l15<|dE l11<|dE y3 <|  some [(isL (Lal FU x0 x1 x2 x3 x4),.ret,{ sl:=[(2,.v (.sc (.bool ((zH (Lal FU x0 x1 x2 x3 x4))))))],lo:=[],h:=[],n0:=0,w:=true }),(ok (zA (Lal FU x0 x1 x2 x3 x4)),(.exit 4),{ sl:=[(1,.l 1 0),(4,.v (.sc (I4 x0)))],lo:=[(1,[.d 3 iT (x3),.d 23 mT (x4)])],h:=[],n0:=0,w:=false })]
theorem wLal:zo zP dOk base o103 t103 ((54,32),sLal):=by
 refine ⟨.loop (za zP (tn0 54) 54 32),4,by kernel_rfl,?_⟩
 intro S alts e S' h1 h2
 change sLal S=_ at h1
 unfold sLal at h1
 repeat with_reducible first|replace h1:=zE h1;obtain ⟨_,_,_,rfl,h1⟩:=h1|(first|replace h1:=ye h1|replace h1:=zF h1|replace h1:=zJ h1|replace h1:=yg h1|replace h1:=dCq h1);obtain ⟨_,_,rfl,h1⟩:=h1|(first|replace h1:=dLq h1|replace h1:=dEq h1);obtain ⟨rfl,h1⟩:=h1|replace h1:=dDq h1;obtain ⟨_,rfl,h1⟩:=h1
 cases h1
 rcases zK h2 with ⟨hc0,rfl,rfl⟩ | h2
 · exact ⟨FU+40,(zb rfl).trans (lLal FU 40 FU _ _ _ _ _ _ (zT hc0))⟩
 obtain ⟨hc1,rfl,rfl⟩:=zk h2
 exact ⟨FU+40,(zb rfl).trans (lLal FU 40 FU _ _ _ _ _ _ (zN (zc hc1)))⟩
noncomputable def o104:OrcT:=o103
noncomputable def t104:TellT:=((54,32),sLal)::t103
abbrev tn104:=ze base o104 t104
theorem ok104:OKT tn104:=zq ok103 ok103 (p:=((54,32),sLal)) wLal
noncomputable def LaO:Nat→Int→LI→L3→Option (Bool ⊕ Unit)
 | 0,_,_,_=>none
 | n+1,x0,x1,x2=>(cond (decide (x0 < (x2.length:Int))) (cond (decide (0≤x0)) (cond (decide ((↑(List.length (List.getD x2 x0.toNat [])):Int) < (1:Int))) (some (.inl (false))) (cond (decide ((↑(List.length (List.getD x2 x0.toNat [])):Int) > (4:Int))) (some (.inl (false))) (cond (isL (Lal FU x0 (List.getD x2 x0.toNat []) 0 x1 x2)) (some (.inl (zH (Lal FU x0 (List.getD x2 x0.toNat []) 0 x1 x2)))) (cond (ok (zA (Lal FU x0 (List.getD x2 x0.toNat []) 0 x1 x2))) (LaO n (IntKind.wrap IntKind.i64 (x0+(1:Int))) x1 x2) none)))) none) (some (.inr ())))
theorem qLaO:type_of% @LaO.eq_2:=@LaO.eq_2
noncomputable def xLaO (x0:Int) (x1:LI) (x2:L3):(Bool ⊕ Unit)→Ex×CS:=fun r=>match r with | .inl a0=>(.ret,{ sl:=[(2,.v (.sc (.bool (a0))))],lo:=[],h:=[],n0:=0,w:=true }) | .inr b0=>((.exit 2),{ sl:=[(1,.l 1 0),(51,.l 1 1)],lo:=[],h:=[],n0:=0,w:=false })
abbrev cLaO (x0:Int) (x1:LI) (x2:L3):CS:={ sl:=[(1,.l 1 0),(4,.v (.sc (I4 x0)))],lo:=[(1,[.d 3 iT (x1),.d 23 mT (x2)])],h:=[],n0:=0,w:=false }
theorem bLaO (k:Nat) (cN:KN) (cX:KX) (x0:Int) (x1:LI) (x2:L3):zi zP (tn104 54) (TM.evF zP (tn104) dOk (k+40)) dOk (k+40) (za zP (tn0 54) 54 16) 2 16 (cLaO x0 x1 x2) cN cX=(cond (decide (x0 < (x2.length:Int))) (cond (decide (0≤x0)) (cond (decide (x0 < (x2.length:Int))) (cond (decide ((↑(List.length (List.getD x2 x0.toNat [])):Int) < (1:Int))) (cX .ret { sl:=[(2,.v (.sc (.bool (false))))],lo:=[],h:=[],n0:=0,w:=true }) (cond (decide ((↑(List.length (List.getD x2 x0.toNat [])):Int) > (4:Int))) (cX .ret { sl:=[(2,.v (.sc (.bool (false))))],lo:=[],h:=[],n0:=0,w:=true }) (cond (isL (Lal FU x0 (List.getD x2 x0.toNat []) 0 x1 x2)) (cX .ret { sl:=[(2,.v (.sc (.bool (zH (Lal FU x0 (List.getD x2 x0.toNat []) 0 x1 x2)))))],lo:=[],h:=[],n0:=0,w:=true }) (cond (ok (zA (Lal FU x0 (List.getD x2 x0.toNat []) 0 x1 x2))) (cN (cLaO (IntKind.wrap IntKind.i64 (x0+(1:Int))) x1 x2)) none)))) none) none) (cX (.exit 2) { sl:=[(1,.l 1 0),(51,.l 1 1)],lo:=[],h:=[],n0:=0,w:=false })):=by kernel_rfl
theorem lLaO (k m:Nat):∀ (n:Nat) (x0:Int) (x1:LI) (x2:L3) (r:(Bool ⊕ Unit)),LaO n x0 x1 x2=some r→zw zP (tn104 54) (TM.evF zP (tn104) dOk (k+40)) dOk (k+40) (za zP (tn0 54) 54 16) 2 16 (n+m) (cLaO x0 x1 x2)=some (xLaO x0 x1 x2 r):=by
 intro n
 induction n with
 | zero=>intro _ _ _ r h;cases h
 | succ n ih=>
  intro x0 x1 x2 r
  rw [show n+1+m=n+m+1 by omega,zf,bLaO,qLaO]
  cases (decide (x0 < (x2.length:Int))) with
  | true=>
   cases (decide (0≤x0)) with
   | true=>
    cases (decide ((↑(List.length (List.getD x2 x0.toNat [])):Int) < (1:Int))) with
    | true=>
     intro h;cases h;rfl
    | false=>
     cases (decide ((↑(List.length (List.getD x2 x0.toNat [])):Int) > (4:Int))) with
     | true=>
      intro h;cases h;rfl
     | false=>
      cases (isL (Lal FU x0 (List.getD x2 x0.toNat []) 0 x1 x2)) with
      | true=>
       intro h;cases h;rfl
      | false=>
       cases (ok (zA (Lal FU x0 (List.getD x2 x0.toNat []) 0 x1 x2))) with
       | true=>
        exact ih _ _ _ r
       | false=>
        intro h;cases h
   | false=>
    intro h;cases h
  | false=>
   intro h;cases h;rfl
noncomputable def sLaO:TellS:=fun S=>dCS 0 S fun y1 y2 y3=>dSt 1 y1 fun y5 l4=>dL 1 0 y5<|dSI 4 .i64 l4 fun x0 l6=>dE l6<|dLo 1 y2 fun y7 l8=>dC y7 fun y9 l10=>dD 3 iT y9 fun x1=>dC l10 fun y11 l12=>dD 23 mT y11 fun x2=>dE l12<|dE l8<|dE y3 <|  some [(isL (LaO FU x0 x1 x2),.ret,{ sl:=[(2,.v (.sc (.bool ((zH (LaO FU x0 x1 x2))))))],lo:=[],h:=[],n0:=0,w:=true }),(ok (zA (LaO FU x0 x1 x2)),(.exit 2),{ sl:=[(1,.l 1 0),(51,.l 1 1)],lo:=[],h:=[],n0:=0,w:=false })]
theorem wLaO:zo zP dOk base o104 t104 ((54,16),sLaO):=by
 refine ⟨.loop (za zP (tn0 54) 54 16),2,by kernel_rfl,?_⟩
 intro S alts e S' h1 h2
 change sLaO S=_ at h1
 unfold sLaO at h1
 repeat with_reducible first|replace h1:=zE h1;obtain ⟨_,_,_,rfl,h1⟩:=h1|(first|replace h1:=ye h1|replace h1:=zF h1|replace h1:=yg h1|replace h1:=dCq h1);obtain ⟨_,_,rfl,h1⟩:=h1|(first|replace h1:=dLq h1|replace h1:=dEq h1);obtain ⟨rfl,h1⟩:=h1|replace h1:=dDq h1;obtain ⟨_,rfl,h1⟩:=h1
 cases h1
 rcases zK h2 with ⟨hc0,rfl,rfl⟩ | h2
 · exact ⟨FU+40,(zb rfl).trans (lLaO FU 40 FU _ _ _ _ (zT hc0))⟩
 obtain ⟨hc1,rfl,rfl⟩:=zk h2
 exact ⟨FU+40,(zb rfl).trans (lLaO FU 40 FU _ _ _ _ (zN (zc hc1)))⟩
noncomputable def o105:OrcT:=o104
noncomputable def t105:TellT:=((54,16),sLaO)::t104
abbrev tn105:=ze base o105 t105
theorem ok105:OKT tn105:=zq ok104 ok104 (p:=((54,16),sLaO)) wLaO
noncomputable def tv54 {β:Type} (x0:LI) (x1:L3) (K:Bool→Option β):Option β:=(cond (decide ((x0.length:Int) < (1:Int))) (K (false)) (cond (decide ((x0.length:Int) > (8:Int))) (K (false)) (cond (decide ((x1.length:Int) < (1:Int))) (K (false)) (cond (decide ((x1.length:Int) > (8:Int))) (K (false)) (cond (isL (LaP FU 0 x0 x1)) (K (zH (LaP FU 0 x0 x1))) (cond (ok (zA (LaP FU 0 x0 x1))) (cond (isL (LaO FU 0 x0 x1)) (K (zH (LaO FU 0 x0 x1))) (cond (ok (zA (LaO FU 0 x0 x1))) (K (true)) none)) none))))))
noncomputable def v54 (x0:LI) (x1:L3):Option Bool:=tv54 x0 x1 some
theorem ev54 (x0:LI) (x1:L3):zn zP (tn105 54) (TM.evF zP (tn105) dOk 40) dOk 40 54 [.agg [.d 3 iT (x0),.d 23 mT (x1)]] []=(v54 x0 x1).bind fun r=>some ([.sc (.bool (r))],[]):=by
 refine Eq.trans (b:=tv54 x0 x1 fun r=>some ([.sc (.bool (r))],[])) (by kernel_rfl) ?_
 unfold v54 tv54
 with_reducible repeat' refine zj ?_ ?_
 all_goals rfl
noncomputable def sv54:OrcS:=fun al H=>dC al fun y1 l2=>dA y1 fun y3=>dC y3 fun y4 l5=>dD 3 iT y4 fun x0=>dC l5 fun y6 l7=>dD 23 mT y6 fun x1=>dE l7<|dE l2<|dE H <|  some [(ok (v54 x0 x1),[.sc (.bool ((val (v54 x0 x1))))],[])]
theorem wv54:zl zP dOk base o105 t105 (54,sv54):=by
 intro al H q hq rs H2 h2
 change sv54 al H=_ at hq
 unfold sv54 at hq
 repeat with_reducible first|replace hq:=dCq hq;obtain ⟨_,_,rfl,hq⟩:=hq|(first|replace hq:=dAq hq|replace hq:=dDq hq);obtain ⟨_,rfl,hq⟩:=hq|replace hq:=dEq hq;obtain ⟨rfl,hq⟩:=hq
 cases hq
 obtain ⟨hc0,rfl,rfl⟩:=zd h2
 exact ⟨41,(zu (by kernel_rfl)).trans ((ev54 _ _).trans (zh (zc hc0)))⟩
noncomputable def o106:OrcT:=(54,sv54)::o105
noncomputable def t106:TellT:=t105
abbrev tn106:=ze base o106 t106
theorem ok106:OKT tn106:=zm ok105 ok105 (p:=(54,sv54)) wv54
noncomputable def Lan:Nat→LL→Int→Int→LI→L3→Option (Bool ⊕ Unit)
 | 0,_,_,_,_,_=>none
 | n+1,x0,x1,x2,x3,x4=>(cond (decide (0≤x1)) (cond (decide (x1 < (x0.length:Int))) (cond (decide (x2 < (↑(List.length (List.getD x0 x1.toNat [])):Int))) (cond (decide (0≤x2)) (cond (decide (List.getD (List.getD x0 x1.toNat []) x2.toNat 0 < 0)) (some (.inl (false))) (cond (decide (List.getD (List.getD x0 x1.toNat []) x2.toNat 0 > (1000000000:Int))) (some (.inl (false))) (Lan n x0 x1 (IntKind.wrap IntKind.i64 (x2+(1:Int))) x3 x4))) none) (some (.inr ()))) none) none)
theorem qLan:type_of% @Lan.eq_2:=@Lan.eq_2
noncomputable def xLan (x0:LL) (x1 x2:Int) (x3:LI) (x4:L3):(Bool ⊕ Unit)→Ex×CS:=fun r=>match r with | .inl a0=>(.ret,{ sl:=[(4,.v (.sc (.bool (a0))))],lo:=[],h:=[],n0:=0,w:=true }) | .inr b0=>((.exit 2),{ sl:=[(1,.v (.sc (.d 22 lT x0))),(2,.l 2 0),(5,.v (.sc (I4 x1)))],lo:=[(2,[.d 3 iT (x3),.d 23 mT (x4)])],h:=[],n0:=0,w:=false })
abbrev cLan (x0:LL) (x1 x2:Int) (x3:LI) (x4:L3):CS:={ sl:=[(1,.v (.sc (.d 22 lT x0))),(2,.l 2 0),(5,.v (.sc (I4 x1))),(6,.v (.sc (I4 x2)))],lo:=[(2,[.d 3 iT (x3),.d 23 mT (x4)])],h:=[],n0:=0,w:=false }
theorem bLan (k:Nat) (cN:KN) (cX:KX) (x0:LL) (x1 x2:Int) (x3:LI) (x4:L3):zi zP (tn106 16) (TM.evF zP (tn106) dOk (k+40)) dOk (k+40) (za zP (tn0 16) 16 16) 2 16 (cLan x0 x1 x2 x3 x4) cN cX=(cond (decide (0≤x1)) (cond (decide (x1 < (x0.length:Int))) (cond (decide (x2 < (↑(List.length (List.getD x0 x1.toNat [])):Int))) (cond (decide (0≤x1)) (cond (decide (x1 < (x0.length:Int))) (cond (decide (0≤x2)) (cond (decide (x2 < (↑(List.length (List.getD x0 x1.toNat [])):Int))) (cond (decide (List.getD (List.getD x0 x1.toNat []) x2.toNat 0 < 0)) (cX .ret { sl:=[(4,.v (.sc (.bool (false))))],lo:=[],h:=[],n0:=0,w:=true }) (cond (decide (0≤x1)) (cond (decide (x1 < (x0.length:Int))) (cond (decide (0≤x2)) (cond (decide (x2 < (↑(List.length (List.getD x0 x1.toNat [])):Int))) (cond (decide (List.getD (List.getD x0 x1.toNat []) x2.toNat 0 > (1000000000:Int))) (cX .ret { sl:=[(4,.v (.sc (.bool (false))))],lo:=[],h:=[],n0:=0,w:=true }) (cN (cLan x0 x1 (IntKind.wrap IntKind.i64 (x2+(1:Int))) x3 x4))) none) none) none) none)) none) none) none) none) (cX (.exit 2) { sl:=[(1,.v (.sc (.d 22 lT x0))),(2,.l 2 0),(5,.v (.sc (I4 x1)))],lo:=[(2,[.d 3 iT (x3),.d 23 mT (x4)])],h:=[],n0:=0,w:=false })) none) none):=by kernel_rfl
theorem lLan (k m:Nat):∀ (n:Nat) (x0:LL) (x1 x2:Int) (x3:LI) (x4:L3) (r:(Bool ⊕ Unit)),Lan n x0 x1 x2 x3 x4=some r→zw zP (tn106 16) (TM.evF zP (tn106) dOk (k+40)) dOk (k+40) (za zP (tn0 16) 16 16) 2 16 (n+m) (cLan x0 x1 x2 x3 x4)=some (xLan x0 x1 x2 x3 x4 r):=by
 intro n
 induction n with
 | zero=>intro _ _ _ _ _ r h;cases h
 | succ n ih=>
  intro x0 x1 x2 x3 x4 r
  rw [show n+1+m=n+m+1 by omega,zf,bLan,qLan]
  cases (decide (0≤x1)) with
  | true=>
   cases (decide (x1 < (x0.length:Int))) with
   | true=>
    cases (decide (x2 < (↑(List.length (List.getD x0 x1.toNat [])):Int))) with
    | true=>
     cases (decide (0≤x2)) with
     | true=>
      cases (decide (List.getD (List.getD x0 x1.toNat []) x2.toNat 0 < 0)) with
      | true=>
       intro h;cases h;rfl
      | false=>
       cases (decide (List.getD (List.getD x0 x1.toNat []) x2.toNat 0 > (1000000000:Int))) with
       | true=>
        intro h;cases h;rfl
       | false=>
        exact ih _ _ _ _ _ r
     | false=>
      intro h;cases h
    | false=>
     intro h;cases h;rfl
   | false=>
    intro h;cases h
  | false=>
   intro h;cases h
noncomputable def sLan:TellS:=fun S=>dCS 0 S fun y1 y2 y3=>dSs 1 y1 fun y5 l4=>dD 22 lT y5 fun x0=>dSt 2 l4 fun y7 l6=>dL 2 0 y7<|dSI 5 .i64 l6 fun x1 l8=>dSI 6 .i64 l8 fun x2 l9=>dE l9<|dLo 2 y2 fun y10 l11=>dC y10 fun y12 l13=>dD 3 iT y12 fun x3=>dC l13 fun y14 l15=>dD 23 mT y14 fun x4=>dE l15<|dE l11<|dE y3 <|  some [(isL (Lan FU x0 x1 x2 x3 x4),.ret,{ sl:=[(4,.v (.sc (.bool ((zH (Lan FU x0 x1 x2 x3 x4))))))],lo:=[],h:=[],n0:=0,w:=true }),(ok (zA (Lan FU x0 x1 x2 x3 x4)),(.exit 2),{ sl:=[(1,.v (.sc (.d 22 lT x0))),(2,.l 2 0),(5,.v (.sc (I4 x1)))],lo:=[(2,[.d 3 iT (x3),.d 23 mT (x4)])],h:=[],n0:=0,w:=false })]
theorem wLan:zo zP dOk base o106 t106 ((16,16),sLan):=by
 refine ⟨.loop (za zP (tn0 16) 16 16),2,by kernel_rfl,?_⟩
 intro S alts e S' h1 h2
 change sLan S=_ at h1
 unfold sLan at h1
 repeat with_reducible first|replace h1:=zE h1;obtain ⟨_,_,_,rfl,h1⟩:=h1|(first|replace h1:=zJ h1|replace h1:=ye h1|replace h1:=zF h1|replace h1:=yg h1|replace h1:=dCq h1);obtain ⟨_,_,rfl,h1⟩:=h1|replace h1:=dDq h1;obtain ⟨_,rfl,h1⟩:=h1|(first|replace h1:=dLq h1|replace h1:=dEq h1);obtain ⟨rfl,h1⟩:=h1
 cases h1
 rcases zK h2 with ⟨hc0,rfl,rfl⟩ | h2
 · exact ⟨FU+40,(zb rfl).trans (lLan FU 40 FU _ _ _ _ _ _ (zT hc0))⟩
 obtain ⟨hc1,rfl,rfl⟩:=zk h2
 exact ⟨FU+40,(zb rfl).trans (lLan FU 40 FU _ _ _ _ _ _ (zN (zc hc1)))⟩
noncomputable def o107:OrcT:=o106
noncomputable def t107:TellT:=((16,16),sLan)::t106
abbrev tn107:=ze base o107 t107
theorem ok107:OKT tn107:=zq ok106 ok106 (p:=((16,16),sLan)) wLan
noncomputable def LaV:Nat→LL→Int→LI→L3→Option (Bool ⊕ Unit)
 | 0,_,_,_,_=>none
 | n+1,x0,x1,x2,x3=>(cond (decide (x1 < (x0.length:Int))) (cond (decide (0≤x1)) (cond (decide (x1 < (x3.length:Int))) (cond ((↑(List.length (List.getD x0 x1.toNat [])):Int) != (↑(List.length (List.getD x3 x1.toNat [])):Int)) (some (.inl (false))) (cond (isL (Lan FU x0 x1 0 x2 x3)) (some (.inl (zH (Lan FU x0 x1 0 x2 x3)))) (cond (ok (zA (Lan FU x0 x1 0 x2 x3))) (LaV n x0 (IntKind.wrap IntKind.i64 (x1+(1:Int))) x2 x3) none))) none) none) (some (.inr ())))
theorem qLaV:type_of% @LaV.eq_2:=@LaV.eq_2
noncomputable def xLaV (x0:LL) (x1:Int) (x2:LI) (x3:L3):(Bool ⊕ Unit)→Ex×CS:=fun r=>match r with | .inl a0=>(.ret,{ sl:=[(4,.v (.sc (.bool (a0))))],lo:=[],h:=[],n0:=0,w:=true }) | .inr b0=>((.exit 0),{ sl:=[(2,.l 2 0)],lo:=[],h:=[],n0:=0,w:=false })
abbrev cLaV (x0:LL) (x1:Int) (x2:LI) (x3:L3):CS:={ sl:=[(1,.v (.sc (.d 22 lT x0))),(2,.l 2 0),(5,.v (.sc (I4 x1)))],lo:=[(2,[.d 3 iT (x2),.d 23 mT (x3)])],h:=[],n0:=0,w:=false }
theorem bLaV (k:Nat) (cN:KN) (cX:KX) (x0:LL) (x1:Int) (x2:LI) (x3:L3):zi zP (tn107 16) (TM.evF zP (tn107) dOk (k+40)) dOk (k+40) (za zP (tn0 16) 16 0) 0 0 (cLaV x0 x1 x2 x3) cN cX=(cond (decide (x1 < (x0.length:Int))) (cond (decide (0≤x1)) (cond (decide (x1 < (x0.length:Int))) (cond (decide (0≤x1)) (cond (decide (x1 < (x3.length:Int))) (cond ((↑(List.length (List.getD x0 x1.toNat [])):Int) != (↑(List.length (List.getD x3 x1.toNat [])):Int)) (cX .ret { sl:=[(4,.v (.sc (.bool (false))))],lo:=[],h:=[],n0:=0,w:=true }) (cond (isL (Lan FU x0 x1 0 x2 x3)) (cX .ret { sl:=[(4,.v (.sc (.bool (zH (Lan FU x0 x1 0 x2 x3)))))],lo:=[],h:=[],n0:=0,w:=true }) (cond (ok (zA (Lan FU x0 x1 0 x2 x3))) (cN (cLaV x0 (IntKind.wrap IntKind.i64 (x1+(1:Int))) x2 x3)) none))) none) none) none) none) (cX (.exit 0) { sl:=[(2,.l 2 0)],lo:=[],h:=[],n0:=0,w:=false })):=by kernel_rfl
theorem lLaV (k m:Nat):∀ (n:Nat) (x0:LL) (x1:Int) (x2:LI) (x3:L3) (r:(Bool ⊕ Unit)),LaV n x0 x1 x2 x3=some r→zw zP (tn107 16) (TM.evF zP (tn107) dOk (k+40)) dOk (k+40) (za zP (tn0 16) 16 0) 0 0 (n+m) (cLaV x0 x1 x2 x3)=some (xLaV x0 x1 x2 x3 r):=by
 intro n
 induction n with
 | zero=>intro _ _ _ _ r h;cases h
 | succ n ih=>
  intro x0 x1 x2 x3 r
  rw [show n+1+m=n+m+1 by omega,zf,bLaV,qLaV]
  cases (decide (x1 < (x0.length:Int))) with
  | true=>
   cases (decide (0≤x1)) with
   | true=>
    cases (decide (x1 < (x3.length:Int))) with
    | true=>
     cases ((↑(List.length (List.getD x0 x1.toNat [])):Int) != (↑(List.length (List.getD x3 x1.toNat [])):Int)) with
     | true=>
      intro h;cases h;rfl
     | false=>
      cases (isL (Lan FU x0 x1 0 x2 x3)) with
      | true=>
       intro h;cases h;rfl
      | false=>
       cases (ok (zA (Lan FU x0 x1 0 x2 x3))) with
       | true=>
        exact ih _ _ _ _ r
       | false=>
        intro h;cases h
    | false=>
     intro h;cases h
   | false=>
    intro h;cases h
  | false=>
   intro h;cases h;rfl
noncomputable def sLaV:TellS:=fun S=>dCS 0 S fun y1 y2 y3=>dSs 1 y1 fun y5 l4=>dD 22 lT y5 fun x0=>dSt 2 l4 fun y7 l6=>dL 2 0 y7<|dSI 5 .i64 l6 fun x1 l8=>dE l8<|dLo 2 y2 fun y9 l10=>dC y9 fun y11 l12=>dD 3 iT y11 fun x2=>dC l12 fun y13 l14=>dD 23 mT y13 fun x3=>dE l14<|dE l10<|dE y3 <|  some [(isL (LaV FU x0 x1 x2 x3),.ret,{ sl:=[(4,.v (.sc (.bool ((zH (LaV FU x0 x1 x2 x3))))))],lo:=[],h:=[],n0:=0,w:=true }),(ok (zA (LaV FU x0 x1 x2 x3)),(.exit 0),{ sl:=[(2,.l 2 0)],lo:=[],h:=[],n0:=0,w:=false })]
theorem wLaV:zo zP dOk base o107 t107 ((16,0),sLaV):=by
 refine ⟨.loop (za zP (tn0 16) 16 0),0,by kernel_rfl,?_⟩
 intro S alts e S' h1 h2
 change sLaV S=_ at h1
 unfold sLaV at h1
 repeat with_reducible first|replace h1:=zE h1;obtain ⟨_,_,_,rfl,h1⟩:=h1|(first|replace h1:=zJ h1|replace h1:=ye h1|replace h1:=zF h1|replace h1:=yg h1|replace h1:=dCq h1);obtain ⟨_,_,rfl,h1⟩:=h1|replace h1:=dDq h1;obtain ⟨_,rfl,h1⟩:=h1|(first|replace h1:=dLq h1|replace h1:=dEq h1);obtain ⟨rfl,h1⟩:=h1
 cases h1
 rcases zK h2 with ⟨hc0,rfl,rfl⟩ | h2
 · exact ⟨FU+40,(zb rfl).trans (lLaV FU 40 FU _ _ _ _ _ (zT hc0))⟩
 obtain ⟨hc1,rfl,rfl⟩:=zk h2
 exact ⟨FU+40,(zb rfl).trans (lLaV FU 40 FU _ _ _ _ _ (zN (zc hc1)))⟩
noncomputable def o108:OrcT:=o107
noncomputable def t108:TellT:=((16,0),sLaV)::t107
abbrev tn108:=ze base o108 t108
theorem ok108:OKT tn108:=zq ok107 ok107 (p:=((16,0),sLaV)) wLaV
noncomputable def tv16 {β:Type} (x0:LI) (x1:L3) (x2:LL) (K:Bool→Option β):Option β:=(cond ((x2.length:Int) != (x1.length:Int)) (K (false)) (cond (isL (LaV FU x2 0 x0 x1)) (K (zH (LaV FU x2 0 x0 x1))) (cond (ok (zA (LaV FU x2 0 x0 x1))) (K (true)) none)))
noncomputable def v16 (x0:LI) (x1:L3) (x2:LL):Option Bool:=tv16 x0 x1 x2 some
theorem ev16 (x0:LI) (x1:L3) (x2:LL):zn zP (tn108 16) (TM.evF zP (tn108) dOk 40) dOk 40 16 [.agg [.d 3 iT (x0),.d 23 mT (x1)],.sc (.d 22 lT x2)] []=(v16 x0 x1 x2).bind fun r=>some ([.sc (.bool (r))],[]):=by
 refine Eq.trans (b:=tv16 x0 x1 x2 fun r=>some ([.sc (.bool (r))],[])) (by kernel_rfl) ?_
 unfold v16 tv16
 with_reducible repeat' refine zj ?_ ?_
 all_goals rfl
noncomputable def sv16:OrcS:=fun al H=>dC al fun y1 l2=>dA y1 fun y3=>dC y3 fun y4 l5=>dD 3 iT y4 fun x0=>dC l5 fun y6 l7=>dD 23 mT y6 fun x1=>dE l7<|dC l2 fun y8 l9=>dS y8 fun y10=>dD 22 lT y10 fun x2=>dE l9<|dE H <|  some [(ok (v16 x0 x1 x2),[.sc (.bool ((val (v16 x0 x1 x2))))],[])]
theorem wv16:zl zP dOk base o108 t108 (16,sv16):=by
 intro al H q hq rs H2 h2
 change sv16 al H=_ at hq
 unfold sv16 at hq
 repeat with_reducible first|replace hq:=dCq hq;obtain ⟨_,_,rfl,hq⟩:=hq|(first|replace hq:=dAq hq|replace hq:=dDq hq|replace hq:=dSq hq);obtain ⟨_,rfl,hq⟩:=hq|replace hq:=dEq hq;obtain ⟨rfl,hq⟩:=hq
 cases hq
 obtain ⟨hc0,rfl,rfl⟩:=zd h2
 exact ⟨41,(zu (by kernel_rfl)).trans ((ev16 _ _ _).trans (zh (zc hc0)))⟩
noncomputable def o109:OrcT:=(16,sv16)::o108
noncomputable def t109:TellT:=t108
abbrev tn109:=ze base o109 t109
theorem ok109:OKT tn109:=zm ok108 ok108 (p:=(16,sv16)) wv16
noncomputable def LaY:Nat→LI→Int→LI→L3→Option (Bool ⊕ Unit)
 | 0,_,_,_,_=>none
 | n+1,x0,x1,x2,x3=>(cond (decide (x1 < (x0.length:Int))) (cond (decide (0≤x1)) (cond (decide (List.getD x0 x1.toNat 0 < 0)) (some (.inl (false))) (cond (decide (List.getD x0 x1.toNat 0 > (1000000000000:Int))) (some (.inl (false))) (LaY n x0 (IntKind.wrap IntKind.i64 (x1+(1:Int))) x2 x3))) none) (some (.inr ())))
theorem qLaY:type_of% @LaY.eq_2:=@LaY.eq_2
noncomputable def xLaY (x0:LI) (x1:Int) (x2:LI) (x3:L3):(Bool ⊕ Unit)→Ex×CS:=fun r=>match r with | .inl a0=>(.ret,{ sl:=[(4,.v (.sc (.bool (a0))))],lo:=[],h:=[],n0:=0,w:=true }) | .inr b0=>((.exit 0),{ sl:=[(1,.v (.sc (.d 3 iT x0))),(2,.l 2 0)],lo:=[(2,[.d 3 iT (x2),.d 23 mT (x3)])],h:=[],n0:=0,w:=false })
abbrev cLaY (x0:LI) (x1:Int) (x2:LI) (x3:L3):CS:={ sl:=[(1,.v (.sc (.d 3 iT x0))),(2,.l 2 0),(5,.v (.sc (I4 x1)))],lo:=[(2,[.d 3 iT (x2),.d 23 mT (x3)])],h:=[],n0:=0,w:=false }
theorem bLaY (k:Nat) (cN:KN) (cX:KX) (x0:LI) (x1:Int) (x2:LI) (x3:L3):zi zP (tn109 73) (TM.evF zP (tn109) dOk (k+40)) dOk (k+40) (za zP (tn0 73) 73 0) 0 0 (cLaY x0 x1 x2 x3) cN cX=(cond (decide (x1 < (x0.length:Int))) (cond (decide (0≤x1)) (cond (decide (x1 < (x0.length:Int))) (cond (decide (List.getD x0 x1.toNat 0 < 0)) (cX .ret { sl:=[(4,.v (.sc (.bool (false))))],lo:=[],h:=[],n0:=0,w:=true }) (cond (decide (0≤x1)) (cond (decide (x1 < (x0.length:Int))) (cond (decide (List.getD x0 x1.toNat 0 > (1000000000000:Int))) (cX .ret { sl:=[(4,.v (.sc (.bool (false))))],lo:=[],h:=[],n0:=0,w:=true }) (cN (cLaY x0 (IntKind.wrap IntKind.i64 (x1+(1:Int))) x2 x3))) none) none)) none) none) (cX (.exit 0) { sl:=[(1,.v (.sc (.d 3 iT x0))),(2,.l 2 0)],lo:=[(2,[.d 3 iT (x2),.d 23 mT (x3)])],h:=[],n0:=0,w:=false })):=by kernel_rfl
theorem lLaY (k m:Nat):∀ (n:Nat) (x0:LI) (x1:Int) (x2:LI) (x3:L3) (r:(Bool ⊕ Unit)),LaY n x0 x1 x2 x3=some r→zw zP (tn109 73) (TM.evF zP (tn109) dOk (k+40)) dOk (k+40) (za zP (tn0 73) 73 0) 0 0 (n+m) (cLaY x0 x1 x2 x3)=some (xLaY x0 x1 x2 x3 r):=by
 intro n
 induction n with
 | zero=>intro _ _ _ _ r h;cases h
 | succ n ih=>
  intro x0 x1 x2 x3 r
  rw [show n+1+m=n+m+1 by omega,zf,bLaY,qLaY]
  cases (decide (x1 < (x0.length:Int))) with
  | true=>
   cases (decide (0≤x1)) with
   | true=>
    cases (decide (List.getD x0 x1.toNat 0 < 0)) with
    | true=>
     intro h;cases h;rfl
    | false=>
     cases (decide (List.getD x0 x1.toNat 0 > (1000000000000:Int))) with
     | true=>
      intro h;cases h;rfl
     | false=>
      exact ih _ _ _ _ r
   | false=>
    intro h;cases h
  | false=>
   intro h;cases h;rfl
noncomputable def sLaY:TellS:=fun S=>dCS 0 S fun y1 y2 y3=>dSs 1 y1 fun y5 l4=>dD 3 iT y5 fun x0=>dSt 2 l4 fun y7 l6=>dL 2 0 y7<|dSI 5 .i64 l6 fun x1 l8=>dE l8<|dLo 2 y2 fun y9 l10=>dC y9 fun y11 l12=>dD 3 iT y11 fun x2=>dC l12 fun y13 l14=>dD 23 mT y13 fun x3=>dE l14<|dE l10<|dE y3 <|  some [(isL (LaY FU x0 x1 x2 x3),.ret,{ sl:=[(4,.v (.sc (.bool ((zH (LaY FU x0 x1 x2 x3))))))],lo:=[],h:=[],n0:=0,w:=true }),(ok (zA (LaY FU x0 x1 x2 x3)),(.exit 0),{ sl:=[(1,.v (.sc (.d 3 iT x0))),(2,.l 2 0)],lo:=[(2,[.d 3 iT (x2),.d 23 mT (x3)])],h:=[],n0:=0,w:=false })]
theorem wLaY:zo zP dOk base o109 t109 ((73,0),sLaY):=by
 refine ⟨.loop (za zP (tn0 73) 73 0),0,by kernel_rfl,?_⟩
 intro S alts e S' h1 h2
 change sLaY S=_ at h1
 unfold sLaY at h1
 repeat with_reducible first|replace h1:=zE h1;obtain ⟨_,_,_,rfl,h1⟩:=h1|(first|replace h1:=zJ h1|replace h1:=ye h1|replace h1:=zF h1|replace h1:=yg h1|replace h1:=dCq h1);obtain ⟨_,_,rfl,h1⟩:=h1|replace h1:=dDq h1;obtain ⟨_,rfl,h1⟩:=h1|(first|replace h1:=dLq h1|replace h1:=dEq h1);obtain ⟨rfl,h1⟩:=h1
 cases h1
 rcases zK h2 with ⟨hc0,rfl,rfl⟩ | h2
 · exact ⟨FU+40,(zb rfl).trans (lLaY FU 40 FU _ _ _ _ _ (zT hc0))⟩
 obtain ⟨hc1,rfl,rfl⟩:=zk h2
 exact ⟨FU+40,(zb rfl).trans (lLaY FU 40 FU _ _ _ _ _ (zN (zc hc1)))⟩
noncomputable def o110:OrcT:=o109
noncomputable def t110:TellT:=((73,0),sLaY)::t109
abbrev tn110:=ze base o110 t110
theorem ok110:OKT tn110:=zq ok109 ok109 (p:=((73,0),sLaY)) wLaY
noncomputable def tv73 {β:Type} (x0:LI) (x1:L3) (x2:LI) (K:Bool→Option β):Option β:=(cond (isL (LaY FU x2 0 x0 x1)) (K (zH (LaY FU x2 0 x0 x1))) (cond (ok (zA (LaY FU x2 0 x0 x1))) (K ((x2.length:Int)==(x0.length:Int))) none))
noncomputable def v73 (x0:LI) (x1:L3) (x2:LI):Option Bool:=tv73 x0 x1 x2 some
theorem ev73 (x0:LI) (x1:L3) (x2:LI):zn zP (tn110 73) (TM.evF zP (tn110) dOk 40) dOk 40 73 [.agg [.d 3 iT (x0),.d 23 mT (x1)],.sc (.d 3 iT x2)] []=(v73 x0 x1 x2).bind fun r=>some ([.sc (.bool (r))],[]):=by
 refine Eq.trans (b:=tv73 x0 x1 x2 fun r=>some ([.sc (.bool (r))],[])) (by kernel_rfl) ?_
 unfold v73 tv73
 with_reducible repeat' refine zj ?_ ?_
 all_goals rfl
noncomputable def sv73:OrcS:=fun al H=>dC al fun y1 l2=>dA y1 fun y3=>dC y3 fun y4 l5=>dD 3 iT y4 fun x0=>dC l5 fun y6 l7=>dD 23 mT y6 fun x1=>dE l7<|dC l2 fun y8 l9=>dS y8 fun y10=>dD 3 iT y10 fun x2=>dE l9<|dE H <|  some [(ok (v73 x0 x1 x2),[.sc (.bool ((val (v73 x0 x1 x2))))],[])]
theorem wv73:zl zP dOk base o110 t110 (73,sv73):=by
 intro al H q hq rs H2 h2
 change sv73 al H=_ at hq
 unfold sv73 at hq
 repeat with_reducible first|replace hq:=dCq hq;obtain ⟨_,_,rfl,hq⟩:=hq|(first|replace hq:=dAq hq|replace hq:=dDq hq|replace hq:=dSq hq);obtain ⟨_,rfl,hq⟩:=hq|replace hq:=dEq hq;obtain ⟨rfl,hq⟩:=hq
 cases hq
 obtain ⟨hc0,rfl,rfl⟩:=zd h2
 exact ⟨41,(zu (by kernel_rfl)).trans ((ev73 _ _ _).trans (zh (zc hc0)))⟩
noncomputable def o111:OrcT:=(73,sv73)::o110
noncomputable def t111:TellT:=t110
abbrev tn111:=ze base o111 t111
theorem ok111:OKT tn111:=zm ok110 ok110 (p:=(73,sv73)) wv73
noncomputable def Lbk:Nat→LI→Int→Int→Option (Bool ⊕ Unit)
 | 0,_,_,_=>none
 | n+1,x0,x1,x2=>(cond (decide (x2 < (x0.length:Int))) (cond (decide (0≤x2)) (cond (List.getD x0 x2.toNat 0==x1) (some (.inl (true))) (Lbk n x0 x1 (IntKind.wrap IntKind.i64 (x2+(1:Int))))) none) (some (.inr ())))
theorem qLbk:type_of% @Lbk.eq_2:=@Lbk.eq_2
noncomputable def xLbk (x0:LI) (x1 x2:Int):(Bool ⊕ Unit)→Ex×CS:=fun r=>match r with | .inl a0=>(.ret,{ sl:=[(4,.v (.sc (.bool (a0))))],lo:=[],h:=[],n0:=0,w:=true }) | .inr b0=>((.exit 0),{ sl:=[],lo:=[],h:=[],n0:=0,w:=false })
abbrev cLbk (x0:LI) (x1 x2:Int):CS:={ sl:=[(0,.v (.sc (.d 3 iT x0))),(1,.v (.sc (I4 x1))),(5,.v (.sc (I4 x2)))],lo:=[],h:=[],n0:=0,w:=false }
theorem bLbk (k:Nat) (cN:KN) (cX:KX) (x0:LI) (x1 x2:Int):zi zP (tn111 55) (TM.evF zP (tn111) dOk (k+40)) dOk (k+40) (za zP (tn0 55) 55 0) 0 0 (cLbk x0 x1 x2) cN cX=(cond (decide (x2 < (x0.length:Int))) (cond (decide (0≤x2)) (cond (decide (x2 < (x0.length:Int))) (cond (List.getD x0 x2.toNat 0==x1) (cX .ret { sl:=[(4,.v (.sc (.bool (true))))],lo:=[],h:=[],n0:=0,w:=true }) (cN (cLbk x0 x1 (IntKind.wrap IntKind.i64 (x2+(1:Int)))))) none) none) (cX (.exit 0) { sl:=[],lo:=[],h:=[],n0:=0,w:=false })):=by kernel_rfl
theorem lLbk (k m:Nat):∀ (n:Nat) (x0:LI) (x1 x2:Int) (r:(Bool ⊕ Unit)),Lbk n x0 x1 x2=some r→zw zP (tn111 55) (TM.evF zP (tn111) dOk (k+40)) dOk (k+40) (za zP (tn0 55) 55 0) 0 0 (n+m) (cLbk x0 x1 x2)=some (xLbk x0 x1 x2 r):=by
 intro n
 induction n with
 | zero=>intro _ _ _ r h;cases h
 | succ n ih=>
  intro x0 x1 x2 r
  rw [show n+1+m=n+m+1 by omega,zf,bLbk,qLbk]
  cases (decide (x2 < (x0.length:Int))) with
  | true=>
   cases (decide (0≤x2)) with
   | true=>
    cases (List.getD x0 x2.toNat 0==x1) with
    | true=>
     intro h;cases h;rfl
    | false=>
     exact ih _ _ _ r
   | false=>
    intro h;cases h
  | false=>
   intro h;cases h;rfl
noncomputable def sLbk:TellS:=fun S=>dCS 0 S fun y1 y2 y3=>dSs 0 y1 fun y5 l4=>dD 3 iT y5 fun x0=>dSI 1 .i64 l4 fun x1 l6=>dSI 5 .i64 l6 fun x2 l7=>dE l7<|dE y2<|dE y3 <|  some [(isL (Lbk FU x0 x1 x2),.ret,{ sl:=[(4,.v (.sc (.bool ((zH (Lbk FU x0 x1 x2))))))],lo:=[],h:=[],n0:=0,w:=true }),(ok (zA (Lbk FU x0 x1 x2)),(.exit 0),{ sl:=[],lo:=[],h:=[],n0:=0,w:=false })]
theorem wLbk:zo zP dOk base o111 t111 ((55,0),sLbk):=by
 refine ⟨.loop (za zP (tn0 55) 55 0),0,by kernel_rfl,?_⟩
 intro S alts e S' h1 h2
 change sLbk S=_ at h1
 unfold sLbk at h1
 repeat with_reducible first|replace h1:=zE h1;obtain ⟨_,_,_,rfl,h1⟩:=h1|(first|replace h1:=zJ h1|replace h1:=zF h1);obtain ⟨_,_,rfl,h1⟩:=h1|replace h1:=dDq h1;obtain ⟨_,rfl,h1⟩:=h1|replace h1:=dEq h1;obtain ⟨rfl,h1⟩:=h1
 cases h1
 rcases zK h2 with ⟨hc0,rfl,rfl⟩ | h2
 · exact ⟨FU+40,(zb rfl).trans (lLbk FU 40 FU _ _ _ _ (zT hc0))⟩
 obtain ⟨hc1,rfl,rfl⟩:=zk h2
 exact ⟨FU+40,(zb rfl).trans (lLbk FU 40 FU _ _ _ _ (zN (zc hc1)))⟩
noncomputable def o112:OrcT:=o111
noncomputable def t112:TellT:=((55,0),sLbk)::t111
abbrev tn112:=ze base o112 t112
theorem ok112:OKT tn112:=zq ok111 ok111 (p:=((55,0),sLbk)) wLbk
noncomputable def tv55 {β:Type} (x0:LI) (x1:Int) (K:Bool→Option β):Option β:=(cond (isL (Lbk FU x0 x1 0)) (K (zH (Lbk FU x0 x1 0))) (cond (ok (zA (Lbk FU x0 x1 0))) (K (false)) none))
noncomputable def v55 (x0:LI) (x1:Int):Option Bool:=tv55 x0 x1 some
theorem ev55 (x0:LI) (x1:Int):zn zP (tn112 55) (TM.evF zP (tn112) dOk 40) dOk 40 55 [.sc (.d 3 iT x0),.sc (I4 x1)] []=(v55 x0 x1).bind fun r=>some ([.sc (.bool (r))],[]):=by
 refine Eq.trans (b:=tv55 x0 x1 fun r=>some ([.sc (.bool (r))],[])) (by kernel_rfl) ?_
 unfold v55 tv55
 with_reducible repeat' refine zj ?_ ?_
 all_goals rfl
noncomputable def sv55:OrcS:=fun al H=>dC al fun y1 l2=>dS y1 fun y3=>dD 3 iT y3 fun x0=>dC l2 fun y4 l5=>dS y4 fun y6=>yO .i64 y6 fun x1=>dE l5<|dE H <|  some [(ok (v55 x0 x1),[.sc (.bool ((val (v55 x0 x1))))],[])]
theorem wv55:zl zP dOk base o112 t112 (55,sv55):=by
 intro al H q hq rs H2 h2
 change sv55 al H=_ at hq
 unfold sv55 at hq
 repeat with_reducible first|replace hq:=dCq hq;obtain ⟨_,_,rfl,hq⟩:=hq|(first|replace hq:=dSq hq|replace hq:=dDq hq|replace hq:=yV hq);obtain ⟨_,rfl,hq⟩:=hq|replace hq:=dEq hq;obtain ⟨rfl,hq⟩:=hq
 cases hq
 obtain ⟨hc0,rfl,rfl⟩:=zd h2
 exact ⟨41,(zu (by kernel_rfl)).trans ((ev55 _ _).trans (zh (zc hc0)))⟩
noncomputable def o113:OrcT:=(55,sv55)::o112
noncomputable def t113:TellT:=t112
abbrev tn113:=ze base o113 t113
theorem ok113:OKT tn113:=zm ok112 ok112 (p:=(55,sv55)) wv55
noncomputable def Lar:Nat→LL→Int→Int→Int→Int→LI→L3→Option Int
 | 0,_,_,_,_,_,_,_=>none
 | n+1,x0,x1,x2,x3,x4,x5,x6=>(cond (decide (0≤x3)) (cond (decide (x3 < (x6.length:Int))) (cond (decide (x4 < (↑(List.length (List.getD x6 x3.toNat [])):Int))) (cond (decide (0≤x4)) (cond (ok (v55 (List.getD (List.getD x6 x3.toNat []) x4.toNat []) x1)) (cond (val (v55 (List.getD (List.getD x6 x3.toNat []) x4.toNat []) x1)) (cond (decide (x3 < (x0.length:Int))) (cond (decide (x4 < (↑(List.length (List.getD x0 x3.toNat [])):Int))) (Lar n x0 x1 (IntKind.wrap IntKind.i64 (x2+List.getD (List.getD x0 x3.toNat []) x4.toNat 0)) x3 (IntKind.wrap IntKind.i64 (x4+(1:Int))) x5 x6) none) none) (Lar n x0 x1 x2 x3 (IntKind.wrap IntKind.i64 (x4+(1:Int))) x5 x6)) none) none) (some x2)) none) none)
theorem qLar:type_of% @Lar.eq_2:=@Lar.eq_2
noncomputable def xLar (x0:LL) (x1 x2 x3 x4:Int) (x5:LI) (x6:L3):Int→Ex×CS:=fun r=>((.exit 2),{ sl:=[(1,.v (.sc (.d 22 lT x0))),(2,.v (.sc (I4 x1))),(3,.l 3 0),(7,.v (.sc (I4 (r)))),(8,.v (.sc (I4 x3))),(18,.l 3 1)],lo:=[(3,[.d 3 iT (x5),.d 23 mT (x6)])],h:=[],n0:=0,w:=false })
abbrev cLar (x0:LL) (x1 x2 x3 x4:Int) (x5:LI) (x6:L3):CS:={ sl:=[(1,.v (.sc (.d 22 lT x0))),(2,.v (.sc (I4 x1))),(3,.l 3 0),(7,.v (.sc (I4 x2))),(8,.v (.sc (I4 x3))),(9,.v (.sc (I4 x4)))],lo:=[(3,[.d 3 iT (x5),.d 23 mT (x6)])],h:=[],n0:=0,w:=false }
theorem bLar (k:Nat) (cN:KN) (cX:KX) (x0:LL) (x1 x2 x3 x4:Int) (x5:LI) (x6:L3):zi zP (tn113 35) (TM.evF zP (tn113) dOk (k+40)) dOk (k+40) (za zP (tn0 35) 35 16) 2 16 (cLar x0 x1 x2 x3 x4 x5 x6) cN cX=(cond (decide (0≤x3)) (cond (decide (x3 < (x6.length:Int))) (cond (decide (x4 < (↑(List.length (List.getD x6 x3.toNat [])):Int))) (cond (decide (0≤x3)) (cond (decide (x3 < (x6.length:Int))) (cond (decide (0≤x4)) (cond (decide (x4 < (↑(List.length (List.getD x6 x3.toNat [])):Int))) (cond (ok (v55 (List.getD (List.getD x6 x3.toNat []) x4.toNat []) x1)) (cond (val (v55 (List.getD (List.getD x6 x3.toNat []) x4.toNat []) x1)) (cond (decide (0≤x3)) (cond (decide (x3 < (x0.length:Int))) (cond (decide (0≤x4)) (cond (decide (x4 < (↑(List.length (List.getD x0 x3.toNat [])):Int))) (cN (cLar x0 x1 (IntKind.wrap IntKind.i64 (x2+List.getD (List.getD x0 x3.toNat []) x4.toNat 0)) x3 (IntKind.wrap IntKind.i64 (x4+(1:Int))) x5 x6)) none) none) none) none) (cN (cLar x0 x1 x2 x3 (IntKind.wrap IntKind.i64 (x4+(1:Int))) x5 x6))) none) none) none) none) none) (cP cX (xLar x0 x1 x2 x3 x4 x5 x6 x2))) none) none):=by kernel_rfl
theorem lLar (k m:Nat):∀ (n:Nat) (x0:LL) (x1 x2 x3 x4:Int) (x5:LI) (x6:L3) (r:Int),Lar n x0 x1 x2 x3 x4 x5 x6=some r→zw zP (tn113 35) (TM.evF zP (tn113) dOk (k+40)) dOk (k+40) (za zP (tn0 35) 35 16) 2 16 (n+m) (cLar x0 x1 x2 x3 x4 x5 x6)=some (xLar x0 x1 x2 x3 x4 x5 x6 r):=by
 intro n
 induction n with
 | zero=>intro _ _ _ _ _ _ _ r h;cases h
 | succ n ih=>
  intro x0 x1 x2 x3 x4 x5 x6 r
  rw [show n+1+m=n+m+1 by omega,zf,bLar,qLar]
  cases (decide (0≤x3)) with
  | true=>
   cases (decide (x3 < (x6.length:Int))) with
   | true=>
    cases (decide (x4 < (↑(List.length (List.getD x6 x3.toNat [])):Int))) with
    | true=>
     cases (decide (0≤x4)) with
     | true=>
      cases (ok (v55 (List.getD (List.getD x6 x3.toNat []) x4.toNat []) x1)) with
      | true=>
       cases (val (v55 (List.getD (List.getD x6 x3.toNat []) x4.toNat []) x1)) with
       | true=>
        cases (decide (x3 < (x0.length:Int))) with
        | true=>
         cases (decide (x4 < (↑(List.length (List.getD x0 x3.toNat [])):Int))) with
         | true=>
          exact ih _ _ _ _ _ _ _ r
         | false=>
          intro h;cases h
        | false=>
         intro h;cases h
       | false=>
        exact ih _ _ _ _ _ _ _ r
      | false=>
       intro h;cases h
     | false=>
      intro h;cases h
    | false=>
     intro h;cases h;rfl
   | false=>
    intro h;cases h
  | false=>
   intro h;cases h
noncomputable def sLar:TellS:=fun S=>dCS 0 S fun y1 y2 y3=>dSs 1 y1 fun y5 l4=>dD 22 lT y5 fun x0=>dSI 2 .i64 l4 fun x1 l6=>dSt 3 l6 fun y8 l7=>dL 3 0 y8<|dSI 7 .i64 l7 fun x2 l9=>dSI 8 .i64 l9 fun x3 l10=>dSI 9 .i64 l10 fun x4 l11=>dE l11<|dLo 3 y2 fun y12 l13=>dC y12 fun y14 l15=>dD 3 iT y14 fun x5=>dC l15 fun y16 l17=>dD 23 mT y16 fun x6=>dE l17<|dE l13<|dE y3 <|  some [te (Lar FU x0 x1 x2 x3 x4 x5 x6) (xLar x0 x1 x2 x3 x4 x5 x6)]
theorem wLar:zo zP dOk base o113 t113 ((35,16),sLar):=by
 refine ⟨.loop (za zP (tn0 35) 35 16),2,by kernel_rfl,?_⟩
 intro S alts e S' h1 h2
 change sLar S=_ at h1
 unfold sLar at h1
 repeat with_reducible first|replace h1:=zE h1;obtain ⟨_,_,_,rfl,h1⟩:=h1|(first|replace h1:=zJ h1|replace h1:=zF h1|replace h1:=ye h1|replace h1:=yg h1|replace h1:=dCq h1);obtain ⟨_,_,rfl,h1⟩:=h1|replace h1:=dDq h1;obtain ⟨_,rfl,h1⟩:=h1|(first|replace h1:=dLq h1|replace h1:=dEq h1);obtain ⟨rfl,h1⟩:=h1
 cases h1
 obtain ⟨hc0,rfl,rfl⟩:=zk h2
 exact ⟨FU+40,(zb rfl).trans (lLar FU 40 FU _ _ _ _ _ _ _ _ (zc hc0))⟩
noncomputable def o114:OrcT:=o113
noncomputable def t114:TellT:=((35,16),sLar)::t113
abbrev tn114:=ze base o114 t114
theorem ok114:OKT tn114:=zq ok113 ok113 (p:=((35,16),sLar)) wLar
noncomputable def LaE:Nat→LL→Int→Int→Int→LI→L3→Option Int
 | 0,_,_,_,_,_,_=>none
 | n+1,x0,x1,x2,x3,x4,x5=>(cond (decide (x3 < (x5.length:Int))) (cond (ok (Lar FU x0 x1 x2 x3 0 x4 x5)) (LaE n x0 x1 (val (Lar FU x0 x1 x2 x3 0 x4 x5)) (IntKind.wrap IntKind.i64 (x3+(1:Int))) x4 x5) none) (some x2))
theorem qLaE:type_of% @LaE.eq_2:=@LaE.eq_2
noncomputable def xLaE (x0:LL) (x1 x2 x3:Int) (x4:LI) (x5:L3):Int→Ex×CS:=fun r=>((.exit 0),{ sl:=[(3,.l 3 0),(7,.v (.sc (I4 (r)))),(11,.l 3 1)],lo:=[],h:=[],n0:=0,w:=false })
abbrev cLaE (x0:LL) (x1 x2 x3:Int) (x4:LI) (x5:L3):CS:={ sl:=[(1,.v (.sc (.d 22 lT x0))),(2,.v (.sc (I4 x1))),(3,.l 3 0),(7,.v (.sc (I4 x2))),(8,.v (.sc (I4 x3)))],lo:=[(3,[.d 3 iT (x4),.d 23 mT (x5)])],h:=[],n0:=0,w:=false }
theorem bLaE (k:Nat) (cN:KN) (cX:KX) (x0:LL) (x1 x2 x3:Int) (x4:LI) (x5:L3):zi zP (tn114 35) (TM.evF zP (tn114) dOk (k+40)) dOk (k+40) (za zP (tn0 35) 35 0) 0 0 (cLaE x0 x1 x2 x3 x4 x5) cN cX=(cond (decide (x3 < (x5.length:Int))) (cond (ok (Lar FU x0 x1 x2 x3 0 x4 x5)) (cN (cLaE x0 x1 (val (Lar FU x0 x1 x2 x3 0 x4 x5)) (IntKind.wrap IntKind.i64 (x3+(1:Int))) x4 x5)) none) (cP cX (xLaE x0 x1 x2 x3 x4 x5 x2))):=by kernel_rfl
theorem lLaE (k m:Nat):∀ (n:Nat) (x0:LL) (x1 x2 x3:Int) (x4:LI) (x5:L3) (r:Int),LaE n x0 x1 x2 x3 x4 x5=some r→zw zP (tn114 35) (TM.evF zP (tn114) dOk (k+40)) dOk (k+40) (za zP (tn0 35) 35 0) 0 0 (n+m) (cLaE x0 x1 x2 x3 x4 x5)=some (xLaE x0 x1 x2 x3 x4 x5 r):=by
 intro n
 induction n with
 | zero=>intro _ _ _ _ _ _ r h;cases h
 | succ n ih=>
  intro x0 x1 x2 x3 x4 x5 r
  rw [show n+1+m=n+m+1 by omega,zf,bLaE,qLaE]
  with_reducible repeat' refine zS ?_ ?_
  all_goals first | exact ih _ _ _ _ _ _ r | (intro h;cases h;done) | (intro h;cases h;rfl)
noncomputable def sLaE:TellS:=fun S=>dCS 0 S fun y1 y2 y3=>dSs 1 y1 fun y5 l4=>dD 22 lT y5 fun x0=>dSI 2 .i64 l4 fun x1 l6=>dSt 3 l6 fun y8 l7=>dL 3 0 y8<|dSI 7 .i64 l7 fun x2 l9=>dSI 8 .i64 l9 fun x3 l10=>dE l10<|dLo 3 y2 fun y11 l12=>dC y11 fun y13 l14=>dD 3 iT y13 fun x4=>dC l14 fun y15 l16=>dD 23 mT y15 fun x5=>dE l16<|dE l12<|dE y3 <|  some [te (LaE FU x0 x1 x2 x3 x4 x5) (xLaE x0 x1 x2 x3 x4 x5)]
theorem wLaE:zo zP dOk base o114 t114 ((35,0),sLaE):=by
 refine ⟨.loop (za zP (tn0 35) 35 0),0,by kernel_rfl,?_⟩
 intro S alts e S' h1 h2
 change sLaE S=_ at h1
 unfold sLaE at h1
 repeat with_reducible first|replace h1:=zE h1;obtain ⟨_,_,_,rfl,h1⟩:=h1|(first|replace h1:=zJ h1|replace h1:=zF h1|replace h1:=ye h1|replace h1:=yg h1|replace h1:=dCq h1);obtain ⟨_,_,rfl,h1⟩:=h1|replace h1:=dDq h1;obtain ⟨_,rfl,h1⟩:=h1|(first|replace h1:=dLq h1|replace h1:=dEq h1);obtain ⟨rfl,h1⟩:=h1
 cases h1
 obtain ⟨hc0,rfl,rfl⟩:=zk h2
 exact ⟨FU+40,(zb rfl).trans (lLaE FU 40 FU _ _ _ _ _ _ _ (zc hc0))⟩
noncomputable def o115:OrcT:=o114
noncomputable def t115:TellT:=((35,0),sLaE)::t114
abbrev tn115:=ze base o115 t115
theorem ok115:OKT tn115:=zq ok114 ok114 (p:=((35,0),sLaE)) wLaE
noncomputable def v35 (x0:LI) (x1:L3) (x2:LL) (x3:Int):Option Int:=(cond (ok (LaE FU x2 x3 0 0 x0 x1)) (some (val (LaE FU x2 x3 0 0 x0 x1))) none)
theorem ev35 (x0:LI) (x1:L3) (x2:LL) (x3:Int):zn zP (tn115 35) (TM.evF zP (tn115) dOk 40) dOk 40 35 [.agg [.d 3 iT (x0),.d 23 mT (x1)],.sc (.d 22 lT x2),.sc (I4 x3)] []=(v35 x0 x1 x2 x3).bind fun r=>some ([.sc (I4 (r))],[]):=by
 refine Eq.trans (b:=(cond (ok (LaE FU x2 x3 0 0 x0 x1)) (some ([.sc (I4 (val (LaE FU x2 x3 0 0 x0 x1)))],[])) none)) (by kernel_rfl) ?_
 unfold v35
 with_reducible repeat' refine zj ?_ ?_
 all_goals rfl
noncomputable def sv35:OrcS:=fun al H=>dC al fun y1 l2=>dA y1 fun y3=>dC y3 fun y4 l5=>dD 3 iT y4 fun x0=>dC l5 fun y6 l7=>dD 23 mT y6 fun x1=>dE l7<|dC l2 fun y8 l9=>dS y8 fun y10=>dD 22 lT y10 fun x2=>dC l9 fun y11 l12=>dS y11 fun y13=>yO .i64 y13 fun x3=>dE l12<|dE H <|  some [(ok (v35 x0 x1 x2 x3),[.sc (I4 ((val (v35 x0 x1 x2 x3))))],[])]
theorem wv35:zl zP dOk base o115 t115 (35,sv35):=by
 intro al H q hq rs H2 h2
 change sv35 al H=_ at hq
 unfold sv35 at hq
 repeat with_reducible first|replace hq:=dCq hq;obtain ⟨_,_,rfl,hq⟩:=hq|(first|replace hq:=dAq hq|replace hq:=dDq hq|replace hq:=dSq hq|replace hq:=yV hq);obtain ⟨_,rfl,hq⟩:=hq|replace hq:=dEq hq;obtain ⟨rfl,hq⟩:=hq
 cases hq
 obtain ⟨hc0,rfl,rfl⟩:=zd h2
 exact ⟨41,(zu (by kernel_rfl)).trans ((ev35 _ _ _ _).trans (zh (zc hc0)))⟩
noncomputable def o116:OrcT:=(35,sv35)::o115
noncomputable def t116:TellT:=t115
abbrev tn116:=ze base o116 t116
theorem ok116:OKT tn116:=zm ok115 ok115 (p:=(35,sv35)) wv35
noncomputable def LaM:Nat→LL→Int→LI→L3→Option (Bool ⊕ Unit)
 | 0,_,_,_,_=>none
 | n+1,x0,x1,x2,x3=>(cond (decide (x1 < (x2.length:Int))) (cond (ok (v35 x2 x3 x0 x1)) (cond (decide (0≤x1)) (cond (decide (val (v35 x2 x3 x0 x1) > IntKind.wrap IntKind.i64 ((1000000:Int)*List.getD x2 x1.toNat 0))) (some (.inl (false))) (LaM n x0 (IntKind.wrap IntKind.i64 (x1+(1:Int))) x2 x3)) none) none) (some (.inr ())))
theorem qLaM:type_of% @LaM.eq_2:=@LaM.eq_2
noncomputable def xLaM (x0:LL) (x1:Int) (x2:LI) (x3:L3):(Bool ⊕ Unit)→Ex×CS:=fun r=>match r with | .inl a0=>(.ret,{ sl:=[(4,.v (.sc (.bool (a0))))],lo:=[],h:=[],n0:=0,w:=true }) | .inr b0=>((.exit 0),{ sl:=[(2,.l 2 0),(7,.l 2 0)],lo:=[],h:=[],n0:=0,w:=false })
abbrev cLaM (x0:LL) (x1:Int) (x2:LI) (x3:L3):CS:={ sl:=[(1,.v (.sc (.d 22 lT x0))),(2,.l 2 0),(5,.v (.sc (I4 x1)))],lo:=[(2,[.d 3 iT (x2),.d 23 mT (x3)])],h:=[],n0:=0,w:=false }
theorem bLaM (k:Nat) (cN:KN) (cX:KX) (x0:LL) (x1:Int) (x2:LI) (x3:L3):zi zP (tn116 18) (TM.evF zP (tn116) dOk (k+40)) dOk (k+40) (za zP (tn0 18) 18 0) 0 0 (cLaM x0 x1 x2 x3) cN cX=(cond (decide (x1 < (x2.length:Int))) (cond (ok (v35 x2 x3 x0 x1)) (cond (decide (0≤x1)) (cond (decide (x1 < (x2.length:Int))) (cond (decide (val (v35 x2 x3 x0 x1) > IntKind.wrap IntKind.i64 ((1000000:Int)*List.getD x2 x1.toNat 0))) (cX .ret { sl:=[(4,.v (.sc (.bool (false))))],lo:=[],h:=[],n0:=0,w:=true }) (cN (cLaM x0 (IntKind.wrap IntKind.i64 (x1+(1:Int))) x2 x3))) none) none) none) (cX (.exit 0) { sl:=[(2,.l 2 0),(7,.l 2 0)],lo:=[],h:=[],n0:=0,w:=false })):=by kernel_rfl
theorem lLaM (k m:Nat):∀ (n:Nat) (x0:LL) (x1:Int) (x2:LI) (x3:L3) (r:(Bool ⊕ Unit)),LaM n x0 x1 x2 x3=some r→zw zP (tn116 18) (TM.evF zP (tn116) dOk (k+40)) dOk (k+40) (za zP (tn0 18) 18 0) 0 0 (n+m) (cLaM x0 x1 x2 x3)=some (xLaM x0 x1 x2 x3 r):=by
 intro n
 induction n with
 | zero=>intro _ _ _ _ r h;cases h
 | succ n ih=>
  intro x0 x1 x2 x3 r
  rw [show n+1+m=n+m+1 by omega,zf,bLaM,qLaM]
  cases (decide (x1 < (x2.length:Int))) with
  | true=>
   cases (ok (v35 x2 x3 x0 x1)) with
   | true=>
    cases (decide (0≤x1)) with
    | true=>
     cases (decide (val (v35 x2 x3 x0 x1) > IntKind.wrap IntKind.i64 ((1000000:Int)*List.getD x2 x1.toNat 0))) with
     | true=>
      intro h;cases h;rfl
     | false=>
      exact ih _ _ _ _ r
    | false=>
     intro h;cases h
   | false=>
    intro h;cases h
  | false=>
   intro h;cases h;rfl
noncomputable def sLaM:TellS:=fun S=>dCS 0 S fun y1 y2 y3=>dSs 1 y1 fun y5 l4=>dD 22 lT y5 fun x0=>dSt 2 l4 fun y7 l6=>dL 2 0 y7<|dSI 5 .i64 l6 fun x1 l8=>dE l8<|dLo 2 y2 fun y9 l10=>dC y9 fun y11 l12=>dD 3 iT y11 fun x2=>dC l12 fun y13 l14=>dD 23 mT y13 fun x3=>dE l14<|dE l10<|dE y3 <|  some [(isL (LaM FU x0 x1 x2 x3),.ret,{ sl:=[(4,.v (.sc (.bool ((zH (LaM FU x0 x1 x2 x3))))))],lo:=[],h:=[],n0:=0,w:=true }),(ok (zA (LaM FU x0 x1 x2 x3)),(.exit 0),{ sl:=[(2,.l 2 0),(7,.l 2 0)],lo:=[],h:=[],n0:=0,w:=false })]
theorem wLaM:zo zP dOk base o116 t116 ((18,0),sLaM):=by
 refine ⟨.loop (za zP (tn0 18) 18 0),0,by kernel_rfl,?_⟩
 intro S alts e S' h1 h2
 change sLaM S=_ at h1
 unfold sLaM at h1
 repeat with_reducible first|replace h1:=zE h1;obtain ⟨_,_,_,rfl,h1⟩:=h1|(first|replace h1:=zJ h1|replace h1:=ye h1|replace h1:=zF h1|replace h1:=yg h1|replace h1:=dCq h1);obtain ⟨_,_,rfl,h1⟩:=h1|replace h1:=dDq h1;obtain ⟨_,rfl,h1⟩:=h1|(first|replace h1:=dLq h1|replace h1:=dEq h1);obtain ⟨rfl,h1⟩:=h1
 cases h1
 rcases zK h2 with ⟨hc0,rfl,rfl⟩ | h2
 · exact ⟨FU+40,(zb rfl).trans (lLaM FU 40 FU _ _ _ _ _ (zT hc0))⟩
 obtain ⟨hc1,rfl,rfl⟩:=zk h2
 exact ⟨FU+40,(zb rfl).trans (lLaM FU 40 FU _ _ _ _ _ (zN (zc hc1)))⟩
noncomputable def o117:OrcT:=o116
noncomputable def t117:TellT:=((18,0),sLaM)::t116
abbrev tn117:=ze base o117 t117
theorem ok117:OKT tn117:=zq ok116 ok116 (p:=((18,0),sLaM)) wLaM
noncomputable def tv18 {β:Type} (x0:LI) (x1:L3) (x2:LL) (K:Bool→Option β):Option β:=(cond (isL (LaM FU x2 0 x0 x1)) (K (zH (LaM FU x2 0 x0 x1))) (cond (ok (zA (LaM FU x2 0 x0 x1))) (K (true)) none))
noncomputable def v18 (x0:LI) (x1:L3) (x2:LL):Option Bool:=tv18 x0 x1 x2 some
theorem ev18 (x0:LI) (x1:L3) (x2:LL):zn zP (tn117 18) (TM.evF zP (tn117) dOk 40) dOk 40 18 [.agg [.d 3 iT (x0),.d 23 mT (x1)],.sc (.d 22 lT x2)] []=(v18 x0 x1 x2).bind fun r=>some ([.sc (.bool (r))],[]):=by
 refine Eq.trans (b:=tv18 x0 x1 x2 fun r=>some ([.sc (.bool (r))],[])) (by kernel_rfl) ?_
 unfold v18 tv18
 with_reducible repeat' refine zj ?_ ?_
 all_goals rfl
noncomputable def sv18:OrcS:=fun al H=>dC al fun y1 l2=>dA y1 fun y3=>dC y3 fun y4 l5=>dD 3 iT y4 fun x0=>dC l5 fun y6 l7=>dD 23 mT y6 fun x1=>dE l7<|dC l2 fun y8 l9=>dS y8 fun y10=>dD 22 lT y10 fun x2=>dE l9<|dE H <|  some [(ok (v18 x0 x1 x2),[.sc (.bool ((val (v18 x0 x1 x2))))],[])]
theorem wv18:zl zP dOk base o117 t117 (18,sv18):=by
 intro al H q hq rs H2 h2
 change sv18 al H=_ at hq
 unfold sv18 at hq
 repeat with_reducible first|replace hq:=dCq hq;obtain ⟨_,_,rfl,hq⟩:=hq|(first|replace hq:=dAq hq|replace hq:=dDq hq|replace hq:=dSq hq);obtain ⟨_,rfl,hq⟩:=hq|replace hq:=dEq hq;obtain ⟨rfl,hq⟩:=hq
 cases hq
 obtain ⟨hc0,rfl,rfl⟩:=zd h2
 exact ⟨41,(zu (by kernel_rfl)).trans ((ev18 _ _ _).trans (zh (zc hc0)))⟩
noncomputable def o118:OrcT:=(18,sv18)::o117
noncomputable def t118:TellT:=t117
abbrev tn118:=ze base o118 t118
theorem ok118:OKT tn118:=zm ok117 ok117 (p:=(18,sv18)) wv18
noncomputable def LaF:Nat→LI→Int→Int→Option Int
 | 0,_,_,_=>none
 | n+1,x0,x1,x2=>(cond (decide (x2 < (x0.length:Int))) (cond (decide (0≤x2)) (LaF n x0 (IntKind.wrap IntKind.i64 (x1+List.getD x0 x2.toNat 0)) (IntKind.wrap IntKind.i64 (x2+(1:Int)))) none) (some x1))
theorem qLaF:type_of% @LaF.eq_2:=@LaF.eq_2
noncomputable def xLaF (x0:LI) (x1 x2:Int):Int→Ex×CS:=fun r=>((.exit 0),{ sl:=[(3,.v (.sc (I4 (r))))],lo:=[],h:=[],n0:=0,w:=false })
abbrev cLaF (x0:LI) (x1 x2:Int):CS:={ sl:=[(0,.v (.sc (.d 3 iT x0))),(3,.v (.sc (I4 x1))),(4,.v (.sc (I4 x2)))],lo:=[],h:=[],n0:=0,w:=false }
theorem bLaF (k:Nat) (cN:KN) (cX:KX) (x0:LI) (x1 x2:Int):zi zP (tn118 79) (TM.evF zP (tn118) dOk (k+40)) dOk (k+40) (za zP (tn0 79) 79 0) 0 0 (cLaF x0 x1 x2) cN cX=(cond (decide (x2 < (x0.length:Int))) (cond (decide (0≤x2)) (cond (decide (x2 < (x0.length:Int))) (cN (cLaF x0 (IntKind.wrap IntKind.i64 (x1+List.getD x0 x2.toNat 0)) (IntKind.wrap IntKind.i64 (x2+(1:Int))))) none) none) (cP cX (xLaF x0 x1 x2 x1))):=by kernel_rfl
theorem lLaF (k m:Nat):∀ (n:Nat) (x0:LI) (x1 x2:Int) (r:Int),LaF n x0 x1 x2=some r→zw zP (tn118 79) (TM.evF zP (tn118) dOk (k+40)) dOk (k+40) (za zP (tn0 79) 79 0) 0 0 (n+m) (cLaF x0 x1 x2)=some (xLaF x0 x1 x2 r):=by
 intro n
 induction n with
 | zero=>intro _ _ _ r h;cases h
 | succ n ih=>
  intro x0 x1 x2 r
  rw [show n+1+m=n+m+1 by omega,zf,bLaF,qLaF]
  cases (decide (x2 < (x0.length:Int))) with
  | true=>
   cases (decide (0≤x2)) with
   | true=>
    exact ih _ _ _ r
   | false=>
    intro h;cases h
  | false=>
   intro h;cases h;rfl
noncomputable def sLaF:TellS:=fun S=>dCS 0 S fun y1 y2 y3=>dSs 0 y1 fun y5 l4=>dD 3 iT y5 fun x0=>dSI 3 .i64 l4 fun x1 l6=>dSI 4 .i64 l6 fun x2 l7=>dE l7<|dE y2<|dE y3 <|  some [te (LaF FU x0 x1 x2) (xLaF x0 x1 x2)]
theorem wLaF:zo zP dOk base o118 t118 ((79,0),sLaF):=by
 refine ⟨.loop (za zP (tn0 79) 79 0),0,by kernel_rfl,?_⟩
 intro S alts e S' h1 h2
 change sLaF S=_ at h1
 unfold sLaF at h1
 repeat with_reducible first|replace h1:=zE h1;obtain ⟨_,_,_,rfl,h1⟩:=h1|(first|replace h1:=zJ h1|replace h1:=zF h1);obtain ⟨_,_,rfl,h1⟩:=h1|replace h1:=dDq h1;obtain ⟨_,rfl,h1⟩:=h1|replace h1:=dEq h1;obtain ⟨rfl,h1⟩:=h1
 cases h1
 obtain ⟨hc0,rfl,rfl⟩:=zk h2
 exact ⟨FU+40,(zb rfl).trans (lLaF FU 40 FU _ _ _ _ (zc hc0))⟩
noncomputable def o119:OrcT:=o118
noncomputable def t119:TellT:=((79,0),sLaF)::t118
abbrev tn119:=ze base o119 t119
theorem ok119:OKT tn119:=zq ok118 ok118 (p:=((79,0),sLaF)) wLaF
noncomputable def v79 (x0:LI):Option Int:=(cond (ok (LaF FU x0 0 0)) (some (val (LaF FU x0 0 0))) none)
theorem ev79 (x0:LI):zn zP (tn119 79) (TM.evF zP (tn119) dOk 40) dOk 40 79 [.sc (.d 3 iT x0)] []=(v79 x0).bind fun r=>some ([.sc (I4 (r))],[]):=by
 refine Eq.trans (b:=(cond (ok (LaF FU x0 0 0)) (some ([.sc (I4 (val (LaF FU x0 0 0)))],[])) none)) (by kernel_rfl) ?_
 unfold v79
 with_reducible repeat' refine zj ?_ ?_
 all_goals rfl
noncomputable def sv79:OrcS:=fun al H=>dC al fun y1 l2=>dS y1 fun y3=>dD 3 iT y3 fun x0=>dE l2<|dE H <|  some [(ok (v79 x0),[.sc (I4 ((val (v79 x0))))],[])]
theorem wv79:zl zP dOk base o119 t119 (79,sv79):=by
 intro al H q hq rs H2 h2
 change sv79 al H=_ at hq
 unfold sv79 at hq
 obtain ⟨_,_,rfl,g1⟩:=dCq hq
 obtain ⟨_,rfl,g2⟩:=dSq g1
 obtain ⟨_,rfl,g3⟩:=dDq g2
 obtain ⟨rfl,g4⟩:=dEq g3
 obtain ⟨rfl,g5⟩:=dEq g4
 cases g5
 obtain ⟨hc0,rfl,rfl⟩:=zd h2
 exact ⟨41,(zu (by kernel_rfl)).trans ((ev79 _).trans (zh (zc hc0)))⟩
noncomputable def o120:OrcT:=(79,sv79)::o119
noncomputable def t120:TellT:=t119
abbrev tn120:=ze base o120 t120
theorem ok120:OKT tn120:=zm ok119 ok119 (p:=(79,sv79)) wv79
noncomputable def LaL:Nat→LI→LI→Int→Int→Option Int
 | 0,_,_,_,_=>none
 | n+1,x0,x1,x2,x3=>(cond (decide (x3 < (x0.length:Int))) (cond (decide (0≤x3)) (cond (decide (0≤List.getD x0 x3.toNat 0)) (cond (decide (List.getD x0 x3.toNat 0 < (x1.length:Int))) (LaL n x0 x1 (IntKind.wrap IntKind.i64 (x2+List.getD x1 (List.getD x0 x3.toNat 0).toNat 0)) (IntKind.wrap IntKind.i64 (x3+(1:Int)))) none) none) none) (some x2))
theorem qLaL:type_of% @LaL.eq_2:=@LaL.eq_2
noncomputable def xLaL (x0:LI) (x1:LI) (x2 x3:Int):Int→Ex×CS:=fun r=>((.exit 0),{ sl:=[(5,.v (.sc (I4 (r))))],lo:=[],h:=[],n0:=0,w:=false })
abbrev cLaL (x0:LI) (x1:LI) (x2 x3:Int):CS:={ sl:=[(0,.v (.sc (.d 3 iT x0))),(1,.v (.sc (.d 3 iT x1))),(5,.v (.sc (I4 x2))),(6,.v (.sc (I4 x3)))],lo:=[],h:=[],n0:=0,w:=false }
theorem bLaL (k:Nat) (cN:KN) (cX:KX) (x0:LI) (x1:LI) (x2 x3:Int):zi zP (tn120 80) (TM.evF zP (tn120) dOk (k+40)) dOk (k+40) (za zP (tn0 80) 80 0) 0 0 (cLaL x0 x1 x2 x3) cN cX=(cond (decide (x3 < (x0.length:Int))) (cond (decide (0≤x3)) (cond (decide (x3 < (x0.length:Int))) (cond (decide (0≤List.getD x0 x3.toNat 0)) (cond (decide (List.getD x0 x3.toNat 0 < (x1.length:Int))) (cN (cLaL x0 x1 (IntKind.wrap IntKind.i64 (x2+List.getD x1 (List.getD x0 x3.toNat 0).toNat 0)) (IntKind.wrap IntKind.i64 (x3+(1:Int))))) none) none) none) none) (cP cX (xLaL x0 x1 x2 x3 x2))):=by kernel_rfl
theorem lLaL (k m:Nat):∀ (n:Nat) (x0:LI) (x1:LI) (x2 x3:Int) (r:Int),LaL n x0 x1 x2 x3=some r→zw zP (tn120 80) (TM.evF zP (tn120) dOk (k+40)) dOk (k+40) (za zP (tn0 80) 80 0) 0 0 (n+m) (cLaL x0 x1 x2 x3)=some (xLaL x0 x1 x2 x3 r):=by
 intro n
 induction n with
 | zero=>intro _ _ _ _ r h;cases h
 | succ n ih=>
  intro x0 x1 x2 x3 r
  rw [show n+1+m=n+m+1 by omega,zf,bLaL,qLaL]
  cases (decide (x3 < (x0.length:Int))) with
  | true=>
   cases (decide (0≤x3)) with
   | true=>
    cases (decide (0≤List.getD x0 x3.toNat 0)) with
    | true=>
     cases (decide (List.getD x0 x3.toNat 0 < (x1.length:Int))) with
     | true=>
      exact ih _ _ _ _ r
     | false=>
      intro h;cases h
    | false=>
     intro h;cases h
   | false=>
    intro h;cases h
  | false=>
   intro h;cases h;rfl
noncomputable def sLaL:TellS:=fun S=>dCS 0 S fun y1 y2 y3=>dSs 0 y1 fun y5 l4=>dD 3 iT y5 fun x0=>dSs 1 l4 fun y7 l6=>dD 3 iT y7 fun x1=>dSI 5 .i64 l6 fun x2 l8=>dSI 6 .i64 l8 fun x3 l9=>dE l9<|dE y2<|dE y3 <|  some [te (LaL FU x0 x1 x2 x3) (xLaL x0 x1 x2 x3)]
theorem wLaL:zo zP dOk base o120 t120 ((80,0),sLaL):=by
 refine ⟨.loop (za zP (tn0 80) 80 0),0,by kernel_rfl,?_⟩
 intro S alts e S' h1 h2
 change sLaL S=_ at h1
 unfold sLaL at h1
 repeat with_reducible first|replace h1:=zE h1;obtain ⟨_,_,_,rfl,h1⟩:=h1|(first|replace h1:=zJ h1|replace h1:=zF h1);obtain ⟨_,_,rfl,h1⟩:=h1|replace h1:=dDq h1;obtain ⟨_,rfl,h1⟩:=h1|replace h1:=dEq h1;obtain ⟨rfl,h1⟩:=h1
 cases h1
 obtain ⟨hc0,rfl,rfl⟩:=zk h2
 exact ⟨FU+40,(zb rfl).trans (lLaL FU 40 FU _ _ _ _ _ (zc hc0))⟩
noncomputable def o121:OrcT:=o120
noncomputable def t121:TellT:=((80,0),sLaL)::t120
abbrev tn121:=ze base o121 t121
theorem ok121:OKT tn121:=zq ok120 ok120 (p:=((80,0),sLaL)) wLaL
noncomputable def v80 (x0:LI) (x1:LI):Option Int:=(cond (ok (LaL FU x0 x1 0 0)) (some (val (LaL FU x0 x1 0 0))) none)
theorem ev80 (x0:LI) (x1:LI):zn zP (tn121 80) (TM.evF zP (tn121) dOk 40) dOk 40 80 [.sc (.d 3 iT x0),.sc (.d 3 iT x1)] []=(v80 x0 x1).bind fun r=>some ([.sc (I4 (r))],[]):=by
 refine Eq.trans (b:=(cond (ok (LaL FU x0 x1 0 0)) (some ([.sc (I4 (val (LaL FU x0 x1 0 0)))],[])) none)) (by kernel_rfl) ?_
 unfold v80
 with_reducible repeat' refine zj ?_ ?_
 all_goals rfl
noncomputable def sv80:OrcS:=fun al H=>dC al fun y1 l2=>dS y1 fun y3=>dD 3 iT y3 fun x0=>dC l2 fun y4 l5=>dS y4 fun y6=>dD 3 iT y6 fun x1=>dE l5<|dE H <|  some [(ok (v80 x0 x1),[.sc (I4 ((val (v80 x0 x1))))],[])]
theorem wv80:zl zP dOk base o121 t121 (80,sv80):=by
 intro al H q hq rs H2 h2
 change sv80 al H=_ at hq
 unfold sv80 at hq
 repeat with_reducible first|replace hq:=dCq hq;obtain ⟨_,_,rfl,hq⟩:=hq|(first|replace hq:=dSq hq|replace hq:=dDq hq);obtain ⟨_,rfl,hq⟩:=hq|replace hq:=dEq hq;obtain ⟨rfl,hq⟩:=hq
 cases hq
 obtain ⟨hc0,rfl,rfl⟩:=zd h2
 exact ⟨41,(zu (by kernel_rfl)).trans ((ev80 _ _).trans (zh (zc hc0)))⟩
noncomputable def o122:OrcT:=(80,sv80)::o121
noncomputable def t122:TellT:=t121
abbrev tn122:=ze base o122 t122
theorem ok122:OKT tn122:=zm ok121 ok121 (p:=(80,sv80)) wv80
end
end Go.Proofs.Ytgmebdomopdgmaa
