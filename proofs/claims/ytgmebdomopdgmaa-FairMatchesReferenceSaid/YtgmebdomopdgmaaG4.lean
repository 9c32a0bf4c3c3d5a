/- What some functions and loops come to: printed and checked. Written by a program of ours. -/
import Derived.Test.YtgmebdomopdgmaaG3
set_option linter.all false
set_option maxRecDepth 1000000
set_option maxHeartbeats 4000000
namespace Go.Proofs.Ytgmebdomopdgmaa
open Go Go.AM Go.TM Go.Proofs
noncomputable section
noncomputable def Lav:Nat→LL→LI→Int→Int→Int→LI→L3→Option (Bool ⊕ Unit)
 | 0,_,_,_,_,_,_,_=>none
 | n+1,x0,x1,x2,x3,x4,x5,x6=>(cond (decide (0≤x2)) (cond (decide (x2 < (x6.length:Int))) (cond (decide (x4 < (↑(List.length (List.getD x6 x2.toNat [])):Int))) (cond (decide (0≤x4)) (cond (ok (v80 (List.getD (List.getD x6 x2.toNat []) x4.toNat []) x1)) (cond (decide (val (v80 (List.getD (List.getD x6 x2.toNat []) x4.toNat []) x1) < x3)) (some (.inl (false))) (Lav n x0 x1 x2 x3 (IntKind.wrap IntKind.i64 (x4+(1:Int))) x5 x6)) none) none) (some (.inr ()))) none) none)
theorem qLav:type_of% @Lav.eq_2:=@Lav.eq_2
noncomputable def xLav (x0:LL) (x1:LI) (x2 x3 x4:Int) (x5:LI) (x6:L3):(Bool ⊕ Unit)→Ex×CS:=fun r=>match r with | .inl a0=>(.ret,{ sl:=[(6,.v (.sc (.bool (a0))))],lo:=[],h:=[],n0:=0,w:=true }) | .inr b0=>((.exit 2),{ sl:=[(1,.v (.sc (.d 22 lT x0))),(2,.v (.sc (.d 3 iT x1))),(3,.l 3 0),(7,.v (.sc (I4 x2))),(35,.l 3 1)],lo:=[(3,[.d 3 iT (x5),.d 23 mT (x6)])],h:=[],n0:=0,w:=false })
abbrev cLav (x0:LL) (x1:LI) (x2 x3 x4:Int) (x5:LI) (x6:L3):CS:={ sl:=[(1,.v (.sc (.d 22 lT x0))),(2,.v (.sc (.d 3 iT x1))),(3,.l 3 0),(7,.v (.sc (I4 x2))),(9,.v (.sc (I4 x3))),(10,.v (.sc (I4 x4)))],lo:=[(3,[.d 3 iT (x5),.d 23 mT (x6)])],h:=[],n0:=0,w:=false }
theorem bLav (k:Nat) (cN:KN) (cX:KX) (x0:LL) (x1:LI) (x2 x3 x4:Int) (x5:LI) (x6:L3):zi zP (tn122 74) (TM.evF zP (tn122) dOk (k+40)) dOk (k+40) (za zP (tn0 74) 74 16) 2 16 (cLav x0 x1 x2 x3 x4 x5 x6) cN cX=(cond (decide (0≤x2)) (cond (decide (x2 < (x6.length:Int))) (cond (decide (x4 < (↑(List.length (List.getD x6 x2.toNat [])):Int))) (cond (decide (0≤x2)) (cond (decide (x2 < (x6.length:Int))) (cond (decide (0≤x4)) (cond (decide (x4 < (↑(List.length (List.getD x6 x2.toNat [])):Int))) (cond (ok (v80 (List.getD (List.getD x6 x2.toNat []) x4.toNat []) x1)) (cond (decide (val (v80 (List.getD (List.getD x6 x2.toNat []) x4.toNat []) x1) < x3)) (cX .ret { sl:=[(6,.v (.sc (.bool (false))))],lo:=[],h:=[],n0:=0,w:=true }) (cN (cLav x0 x1 x2 x3 (IntKind.wrap IntKind.i64 (x4+(1:Int))) x5 x6))) none) none) none) none) none) (cX (.exit 2) { sl:=[(1,.v (.sc (.d 22 lT x0))),(2,.v (.sc (.d 3 iT x1))),(3,.l 3 0),(7,.v (.sc (I4 x2))),(35,.l 3 1)],lo:=[(3,[.d 3 iT (x5),.d 23 mT (x6)])],h:=[],n0:=0,w:=false })) none) none):=by kernel_rfl
theorem lLav (k m:Nat):∀ (n:Nat) (x0:LL) (x1:LI) (x2 x3 x4:Int) (x5:LI) (x6:L3) (r:(Bool ⊕ Unit)),Lav n x0 x1 x2 x3 x4 x5 x6=some r→zw zP (tn122 74) (TM.evF zP (tn122) dOk (k+40)) dOk (k+40) (za zP (tn0 74) 74 16) 2 16 (n+m) (cLav x0 x1 x2 x3 x4 x5 x6)=some (xLav x0 x1 x2 x3 x4 x5 x6 r):=by
 intro n
 induction n with
 | zero=>intro _ _ _ _ _ _ _ r h;cases h
 | succ n ih=>
  intro x0 x1 x2 x3 x4 x5 x6 r
  rw [show n+1+m=n+m+1 by omega,zf,bLav,qLav]
  cases (decide (0≤x2)) with
  | true=>
   cases (decide (x2 < (x6.length:Int))) with
   | true=>
    cases (decide (x4 < (↑(List.length (List.getD x6 x2.toNat [])):Int))) with
    | true=>
     cases (decide (0≤x4)) with
     | true=>
      cases (ok (v80 (List.getD (List.getD x6 x2.toNat []) x4.toNat []) x1)) with
      | true=>
       cases (decide (val (v80 (List.getD (List.getD x6 x2.toNat []) x4.toNat []) x1) < x3)) with
       | true=>
        intro h;cases h;rfl
       | false=>
        exact ih _ _ _ _ _ _ _ r
      | false=>
       intro h;cases h
     | false=>
      intro h;cases h
    | false=>
     intro h;cases h;rfl
   | false=>
    intro h;cases h
  | false=>
   intro h;cases h
noncomputable def sLav:TellS:=fun S=>dCS 0 S fun y1 y2 y3=>dSs 1 y1 fun y5 l4=>dD 22 lT y5 fun x0=>dSs 2 l4 fun y7 l6=>dD 3 iT y7 fun x1=>dSt 3 l6 fun y9 l8=>dL 3 0 y9<|dSI 7 .i64 l8 fun x2 l10=>dSI 9 .i64 l10 fun x3 l11=>dSI 10 .i64 l11 fun x4 l12=>dE l12<|dLo 3 y2 fun y13 l14=>dC y13 fun y15 l16=>dD 3 iT y15 fun x5=>dC l16 fun y17 l18=>dD 23 mT y17 fun x6=>dE l18<|dE l14<|dE y3 <|  some [(isL (Lav FU x0 x1 x2 x3 x4 x5 x6),.ret,{ sl:=[(6,.v (.sc (.bool ((zH (Lav FU x0 x1 x2 x3 x4 x5 x6))))))],lo:=[],h:=[],n0:=0,w:=true }),(ok (zA (Lav FU x0 x1 x2 x3 x4 x5 x6)),(.exit 2),{ sl:=[(1,.v (.sc (.d 22 lT x0))),(2,.v (.sc (.d 3 iT x1))),(3,.l 3 0),(7,.v (.sc (I4 x2))),(35,.l 3 1)],lo:=[(3,[.d 3 iT (x5),.d 23 mT (x6)])],h:=[],n0:=0,w:=false })]
theorem wLav:zo zP dOk base o122 t122 ((74,16),sLav):=by
 refine ⟨.loop (za zP (tn0 74) 74 16),2,by kernel_rfl,?_⟩
 intro S alts e S' h1 h2
 change sLav S=_ at h1
 unfold sLav at h1
 repeat with_reducible first|replace h1:=zE h1;obtain ⟨_,_,_,rfl,h1⟩:=h1|(first|replace h1:=zJ h1|replace h1:=ye h1|replace h1:=zF h1|replace h1:=yg h1|replace h1:=dCq h1);obtain ⟨_,_,rfl,h1⟩:=h1|replace h1:=dDq h1;obtain ⟨_,rfl,h1⟩:=h1|(first|replace h1:=dLq h1|replace h1:=dEq h1);obtain ⟨rfl,h1⟩:=h1
 cases h1
 rcases zK h2 with ⟨hc0,rfl,rfl⟩ | h2
 · exact ⟨FU+40,(zb rfl).trans (lLav FU 40 FU _ _ _ _ _ _ _ _ (zT hc0))⟩
 obtain ⟨hc1,rfl,rfl⟩:=zk h2
 exact ⟨FU+40,(zb rfl).trans (lLav FU 40 FU _ _ _ _ _ _ _ _ (zN (zc hc1)))⟩
noncomputable def o123:OrcT:=o122
noncomputable def t123:TellT:=((74,16),sLav)::t122
abbrev tn123:=ze base o123 t123
theorem ok123:OKT tn123:=zq ok122 ok122 (p:=((74,16),sLav)) wLav
noncomputable def LaN:Nat→LL→LI→Int→LI→L3→Option (Bool ⊕ Unit)
 | 0,_,_,_,_,_=>none
 | n+1,x0,x1,x2,x3,x4=>(cond (decide (x2 < (x4.length:Int))) (cond (decide (0≤x2)) (cond (decide (x2 < (x0.length:Int))) (cond (ok (v79 (List.getD x0 x2.toNat []))) (cond (decide (val (v79 (List.getD x0 x2.toNat [])) < (1:Int))) (some (.inl (false))) (cond (decide (val (v79 (List.getD x0 x2.toNat []))≠0)) (cond (isL (Lav FU x0 x1 x2 (IntKind.wrap IntKind.i64 (Int.tdiv (IntKind.wrap IntKind.i64 (IntKind.wrap IntKind.i64 ((1000000000000:Int)+val (v79 (List.getD x0 x2.toNat []))) - (1:Int))) (val (v79 (List.getD x0 x2.toNat []))))) 0 x3 x4)) (some (.inl (zH (Lav FU x0 x1 x2 (IntKind.wrap IntKind.i64 (Int.tdiv (IntKind.wrap IntKind.i64 (IntKind.wrap IntKind.i64 ((1000000000000:Int)+val (v79 (List.getD x0 x2.toNat []))) - (1:Int))) (val (v79 (List.getD x0 x2.toNat []))))) 0 x3 x4)))) (cond (ok (zA (Lav FU x0 x1 x2 (IntKind.wrap IntKind.i64 (Int.tdiv (IntKind.wrap IntKind.i64 (IntKind.wrap IntKind.i64 ((1000000000000:Int)+val (v79 (List.getD x0 x2.toNat []))) - (1:Int))) (val (v79 (List.getD x0 x2.toNat []))))) 0 x3 x4))) (LaN n x0 x1 (IntKind.wrap IntKind.i64 (x2+(1:Int))) x3 x4) none)) none)) none) none) none) (some (.inr ())))
theorem qLaN:type_of% @LaN.eq_2:=@LaN.eq_2
noncomputable def xLaN (x0:LL) (x1:LI) (x2:Int) (x3:LI) (x4:L3):(Bool ⊕ Unit)→Ex×CS:=fun r=>match r with | .inl a0=>(.ret,{ sl:=[(6,.v (.sc (.bool (a0))))],lo:=[],h:=[],n0:=0,w:=true }) | .inr b0=>((.exit 0),{ sl:=[(3,.l 3 0),(16,.l 3 1)],lo:=[],h:=[],n0:=0,w:=false })
abbrev cLaN (x0:LL) (x1:LI) (x2:Int) (x3:LI) (x4:L3):CS:={ sl:=[(1,.v (.sc (.d 22 lT x0))),(2,.v (.sc (.d 3 iT x1))),(3,.l 3 0),(7,.v (.sc (I4 x2)))],lo:=[(3,[.d 3 iT (x3),.d 23 mT (x4)])],h:=[],n0:=0,w:=false }
theorem bLaN (k:Nat) (cN:KN) (cX:KX) (x0:LL) (x1:LI) (x2:Int) (x3:LI) (x4:L3):zi zP (tn123 74) (TM.evF zP (tn123) dOk (k+40)) dOk (k+40) (za zP (tn0 74) 74 0) 0 0 (cLaN x0 x1 x2 x3 x4) cN cX=(cond (decide (x2 < (x4.length:Int))) (cond (decide (0≤x2)) (cond (decide (x2 < (x0.length:Int))) (cond (ok (v79 (List.getD x0 x2.toNat []))) (cond (decide (val (v79 (List.getD x0 x2.toNat [])) < (1:Int))) (cX .ret { sl:=[(6,.v (.sc (.bool (false))))],lo:=[],h:=[],n0:=0,w:=true }) (cond (decide (val (v79 (List.getD x0 x2.toNat []))≠0)) (cond (isL (Lav FU x0 x1 x2 (IntKind.wrap IntKind.i64 (Int.tdiv (IntKind.wrap IntKind.i64 (IntKind.wrap IntKind.i64 ((1000000000000:Int)+val (v79 (List.getD x0 x2.toNat []))) - (1:Int))) (val (v79 (List.getD x0 x2.toNat []))))) 0 x3 x4)) (cX .ret { sl:=[(6,.v (.sc (.bool (zH (Lav FU x0 x1 x2 (IntKind.wrap IntKind.i64 (Int.tdiv (IntKind.wrap IntKind.i64 (IntKind.wrap IntKind.i64 ((1000000000000:Int)+val (v79 (List.getD x0 x2.toNat []))) - (1:Int))) (val (v79 (List.getD x0 x2.toNat []))))) 0 x3 x4)))))],lo:=[],h:=[],n0:=0,w:=true }) (cond (ok (zA (Lav FU x0 x1 x2 (IntKind.wrap IntKind.i64 (Int.tdiv (IntKind.wrap IntKind.i64 (IntKind.wrap IntKind.i64 ((1000000000000:Int)+val (v79 (List.getD x0 x2.toNat []))) - (1:Int))) (val (v79 (List.getD x0 x2.toNat []))))) 0 x3 x4))) (cN (cLaN x0 x1 (IntKind.wrap IntKind.i64 (x2+(1:Int))) x3 x4)) none)) none)) none) none) none) (cX (.exit 0) { sl:=[(3,.l 3 0),(16,.l 3 1)],lo:=[],h:=[],n0:=0,w:=false })):=by kernel_rfl
theorem lLaN (k m:Nat):∀ (n:Nat) (x0:LL) (x1:LI) (x2:Int) (x3:LI) (x4:L3) (r:(Bool ⊕ Unit)),LaN n x0 x1 x2 x3 x4=some r→zw zP (tn123 74) (TM.evF zP (tn123) dOk (k+40)) dOk (k+40) (za zP (tn0 74) 74 0) 0 0 (n+m) (cLaN x0 x1 x2 x3 x4)=some (xLaN x0 x1 x2 x3 x4 r):=by
 intro n
 induction n with
 | zero=>intro _ _ _ _ _ r h;cases h
 | succ n ih=>
  intro x0 x1 x2 x3 x4 r
  rw [show n+1+m=n+m+1 by omega,zf,bLaN,qLaN]
  with_reducible repeat' refine zS ?_ ?_
  all_goals first | exact ih _ _ _ _ _ r | (intro h;cases h;done) | (intro h;cases h;rfl)
noncomputable def sLaN:TellS:=fun S=>dCS 0 S fun y1 y2 y3=>dSs 1 y1 fun y5 l4=>dD 22 lT y5 fun x0=>dSs 2 l4 fun y7 l6=>dD 3 iT y7 fun x1=>dSt 3 l6 fun y9 l8=>dL 3 0 y9<|dSI 7 .i64 l8 fun x2 l10=>dE l10<|dLo 3 y2 fun y11 l12=>dC y11 fun y13 l14=>dD 3 iT y13 fun x3=>dC l14 fun y15 l16=>dD 23 mT y15 fun x4=>dE l16<|dE l12<|dE y3 <|  some [(isL (LaN FU x0 x1 x2 x3 x4),.ret,{ sl:=[(6,.v (.sc (.bool ((zH (LaN FU x0 x1 x2 x3 x4))))))],lo:=[],h:=[],n0:=0,w:=true }),(ok (zA (LaN FU x0 x1 x2 x3 x4)),(.exit 0),{ sl:=[(3,.l 3 0),(16,.l 3 1)],lo:=[],h:=[],n0:=0,w:=false })]
theorem wLaN:zo zP dOk base o123 t123 ((74,0),sLaN):=by
 refine ⟨.loop (za zP (tn0 74) 74 0),0,by kernel_rfl,?_⟩
 intro S alts e S' h1 h2
 change sLaN S=_ at h1
 unfold sLaN at h1
 repeat with_reducible first|replace h1:=zE h1;obtain ⟨_,_,_,rfl,h1⟩:=h1|(first|replace h1:=zJ h1|replace h1:=ye h1|replace h1:=zF h1|replace h1:=yg h1|replace h1:=dCq h1);obtain ⟨_,_,rfl,h1⟩:=h1|replace h1:=dDq h1;obtain ⟨_,rfl,h1⟩:=h1|(first|replace h1:=dLq h1|replace h1:=dEq h1);obtain ⟨rfl,h1⟩:=h1
 cases h1
 rcases zK h2 with ⟨hc0,rfl,rfl⟩ | h2
 · exact ⟨FU+40,(zb rfl).trans (lLaN FU 40 FU _ _ _ _ _ _ (zT hc0))⟩
 obtain ⟨hc1,rfl,rfl⟩:=zk h2
 exact ⟨FU+40,(zb rfl).trans (lLaN FU 40 FU _ _ _ _ _ _ (zN (zc hc1)))⟩
noncomputable def o124:OrcT:=o123
noncomputable def t124:TellT:=((74,0),sLaN)::t123
abbrev tn124:=ze base o124 t124
theorem ok124:OKT tn124:=zq ok123 ok123 (p:=((74,0),sLaN)) wLaN
noncomputable def tv74 {β:Type} (x0:LI) (x1:L3) (x2:LL) (x3:LI) (K:Bool→Option β):Option β:=(cond (ok (v18 x0 x1 x2)) (cond (!val (v18 x0 x1 x2)) (K (false)) (cond (isL (LaN FU x2 x3 0 x0 x1)) (K (zH (LaN FU x2 x3 0 x0 x1))) (cond (ok (zA (LaN FU x2 x3 0 x0 x1))) (K (true)) none))) none)
noncomputable def v74 (x0:LI) (x1:L3) (x2:LL) (x3:LI):Option Bool:=tv74 x0 x1 x2 x3 some
theorem ev74 (x0:LI) (x1:L3) (x2:LL) (x3:LI):zn zP (tn124 74) (TM.evF zP (tn124) dOk 40) dOk 40 74 [.agg [.d 3 iT (x0),.d 23 mT (x1)],.sc (.d 22 lT x2),.sc (.d 3 iT x3)] []=(v74 x0 x1 x2 x3).bind fun r=>some ([.sc (.bool (r))],[]):=by
 refine Eq.trans (b:=tv74 x0 x1 x2 x3 fun r=>some ([.sc (.bool (r))],[])) (by kernel_rfl) ?_
 unfold v74 tv74
 with_reducible repeat' refine zj ?_ ?_
 all_goals rfl
noncomputable def sv74:OrcS:=fun al H=>dC al fun y1 l2=>dA y1 fun y3=>dC y3 fun y4 l5=>dD 3 iT y4 fun x0=>dC l5 fun y6 l7=>dD 23 mT y6 fun x1=>dE l7<|dC l2 fun y8 l9=>dS y8 fun y10=>dD 22 lT y10 fun x2=>dC l9 fun y11 l12=>dS y11 fun y13=>dD 3 iT y13 fun x3=>dE l12<|dE H <|  some [(ok (v74 x0 x1 x2 x3),[.sc (.bool ((val (v74 x0 x1 x2 x3))))],[])]
theorem wv74:zl zP dOk base o124 t124 (74,sv74):=by
 intro al H q hq rs H2 h2
 change sv74 al H=_ at hq
 unfold sv74 at hq
 repeat with_reducible first|replace hq:=dCq hq;obtain ⟨_,_,rfl,hq⟩:=hq|(first|replace hq:=dAq hq|replace hq:=dDq hq|replace hq:=dSq hq);obtain ⟨_,rfl,hq⟩:=hq|replace hq:=dEq hq;obtain ⟨rfl,hq⟩:=hq
 cases hq
 obtain ⟨hc0,rfl,rfl⟩:=zd h2
 exact ⟨41,(zu (by kernel_rfl)).trans ((ev74 _ _ _ _).trans (zh (zc hc0)))⟩
noncomputable def o125:OrcT:=(74,sv74)::o124
noncomputable def t125:TellT:=t124
abbrev tn125:=ze base o125 t125
theorem ok125:OKT tn125:=zm ok124 ok124 (p:=(74,sv74)) wv74
noncomputable def LaK:Nat→LI→Int→Int→LI→L3→Option Int
 | 0,_,_,_,_,_=>none
 | n+1,x0,x1,x2,x3,x4=>(cond (decide (x2 < (x0.length:Int))) (cond (decide (0≤x2)) (cond (decide (x2 < (x3.length:Int))) (LaK n x0 (IntKind.wrap IntKind.i64 (x1+IntKind.wrap IntKind.i64 (List.getD x0 x2.toNat 0*List.getD x3 x2.toNat 0))) (IntKind.wrap IntKind.i64 (x2+(1:Int))) x3 x4) none) none) (some x1))
theorem qLaK:type_of% @LaK.eq_2:=@LaK.eq_2
noncomputable def xLaK (x0:LI) (x1 x2:Int) (x3:LI) (x4:L3):Int→Ex×CS:=fun r=>((.exit 0),{ sl:=[(2,.l 2 0),(5,.v (.sc (I4 (r))))],lo:=[],h:=[],n0:=0,w:=false })
abbrev cLaK (x0:LI) (x1 x2:Int) (x3:LI) (x4:L3):CS:={ sl:=[(1,.v (.sc (.d 3 iT x0))),(2,.l 2 0),(5,.v (.sc (I4 x1))),(6,.v (.sc (I4 x2)))],lo:=[(2,[.d 3 iT (x3),.d 23 mT (x4)])],h:=[],n0:=0,w:=false }
theorem bLaK (k:Nat) (cN:KN) (cX:KX) (x0:LI) (x1 x2:Int) (x3:LI) (x4:L3):zi zP (tn125 75) (TM.evF zP (tn125) dOk (k+40)) dOk (k+40) (za zP (tn0 75) 75 0) 0 0 (cLaK x0 x1 x2 x3 x4) cN cX=(cond (decide (x2 < (x0.length:Int))) (cond (decide (0≤x2)) (cond (decide (x2 < (x0.length:Int))) (cond (decide (0≤x2)) (cond (decide (x2 < (x3.length:Int))) (cN (cLaK x0 (IntKind.wrap IntKind.i64 (x1+IntKind.wrap IntKind.i64 (List.getD x0 x2.toNat 0*List.getD x3 x2.toNat 0))) (IntKind.wrap IntKind.i64 (x2+(1:Int))) x3 x4)) none) none) none) none) (cP cX (xLaK x0 x1 x2 x3 x4 x1))):=by kernel_rfl
theorem lLaK (k m:Nat):∀ (n:Nat) (x0:LI) (x1 x2:Int) (x3:LI) (x4:L3) (r:Int),LaK n x0 x1 x2 x3 x4=some r→zw zP (tn125 75) (TM.evF zP (tn125) dOk (k+40)) dOk (k+40) (za zP (tn0 75) 75 0) 0 0 (n+m) (cLaK x0 x1 x2 x3 x4)=some (xLaK x0 x1 x2 x3 x4 r):=by
 intro n
 induction n with
 | zero=>intro _ _ _ _ _ r h;cases h
 | succ n ih=>
  intro x0 x1 x2 x3 x4 r
  rw [show n+1+m=n+m+1 by omega,zf,bLaK,qLaK]
  cases (decide (x2 < (x0.length:Int))) with
  | true=>
   cases (decide (0≤x2)) with
   | true=>
    cases (decide (x2 < (x3.length:Int))) with
    | true=>
     exact ih _ _ _ _ _ r
    | false=>
     intro h;cases h
   | false=>
    intro h;cases h
  | false=>
   intro h;cases h;rfl
noncomputable def sLaK:TellS:=fun S=>dCS 0 S fun y1 y2 y3=>dSs 1 y1 fun y5 l4=>dD 3 iT y5 fun x0=>dSt 2 l4 fun y7 l6=>dL 2 0 y7<|dSI 5 .i64 l6 fun x1 l8=>dSI 6 .i64 l8 fun x2 l9=>dE l9<|dLo 2 y2 fun y10 l11=>dC y10 fun y12 l13=>dD 3 iT y12 fun x3=>dC l13 fun y14 l15=>dD 23 mT y14 fun x4=>dE l15<|dE l11<|dE y3 <|  some [te (LaK FU x0 x1 x2 x3 x4) (xLaK x0 x1 x2 x3 x4)]
theorem wLaK:zo zP dOk base o125 t125 ((75,0),sLaK):=by
 refine ⟨.loop (za zP (tn0 75) 75 0),0,by kernel_rfl,?_⟩
 intro S alts e S' h1 h2
 change sLaK S=_ at h1
 unfold sLaK at h1
 repeat with_reducible first|replace h1:=zE h1;obtain ⟨_,_,_,rfl,h1⟩:=h1|(first|replace h1:=zJ h1|replace h1:=ye h1|replace h1:=zF h1|replace h1:=yg h1|replace h1:=dCq h1);obtain ⟨_,_,rfl,h1⟩:=h1|replace h1:=dDq h1;obtain ⟨_,rfl,h1⟩:=h1|(first|replace h1:=dLq h1|replace h1:=dEq h1);obtain ⟨rfl,h1⟩:=h1
 cases h1
 obtain ⟨hc0,rfl,rfl⟩:=zk h2
 exact ⟨FU+40,(zb rfl).trans (lLaK FU 40 FU _ _ _ _ _ _ (zc hc0))⟩
noncomputable def o126:OrcT:=o125
noncomputable def t126:TellT:=((75,0),sLaK)::t125
abbrev tn126:=ze base o126 t126
theorem ok126:OKT tn126:=zq ok125 ok125 (p:=((75,0),sLaK)) wLaK
noncomputable def v75 (x0:LI) (x1:L3) (x2:LI):Option Int:=(cond (ok (LaK FU x2 0 0 x0 x1)) (some (val (LaK FU x2 0 0 x0 x1))) none)
theorem ev75 (x0:LI) (x1:L3) (x2:LI):zn zP (tn126 75) (TM.evF zP (tn126) dOk 40) dOk 40 75 [.agg [.d 3 iT (x0),.d 23 mT (x1)],.sc (.d 3 iT x2)] []=(v75 x0 x1 x2).bind fun r=>some ([.sc (I4 (r))],[]):=by
 refine Eq.trans (b:=(cond (ok (LaK FU x2 0 0 x0 x1)) (some ([.sc (I4 (val (LaK FU x2 0 0 x0 x1)))],[])) none)) (by kernel_rfl) ?_
 unfold v75
 with_reducible repeat' refine zj ?_ ?_
 all_goals rfl
noncomputable def sv75:OrcS:=fun al H=>dC al fun y1 l2=>dA y1 fun y3=>dC y3 fun y4 l5=>dD 3 iT y4 fun x0=>dC l5 fun y6 l7=>dD 23 mT y6 fun x1=>dE l7<|dC l2 fun y8 l9=>dS y8 fun y10=>dD 3 iT y10 fun x2=>dE l9<|dE H <|  some [(ok (v75 x0 x1 x2),[.sc (I4 ((val (v75 x0 x1 x2))))],[])]
theorem wv75:zl zP dOk base o126 t126 (75,sv75):=by
 intro al H q hq rs H2 h2
 change sv75 al H=_ at hq
 unfold sv75 at hq
 repeat with_reducible first|replace hq:=dCq hq;obtain ⟨_,_,rfl,hq⟩:=hq|(first|replace hq:=dAq hq|replace hq:=dDq hq|replace hq:=dSq hq);obtain ⟨_,rfl,hq⟩:=hq|replace hq:=dEq hq;obtain ⟨rfl,hq⟩:=hq
 cases hq
 obtain ⟨hc0,rfl,rfl⟩:=zd h2
 exact ⟨41,(zu (by kernel_rfl)).trans ((ev75 _ _ _).trans (zh (zc hc0)))⟩
noncomputable def o127:OrcT:=(75,sv75)::o126
noncomputable def t127:TellT:=t126
abbrev tn127:=ze base o127 t127
theorem ok127:OKT tn127:=zm ok126 ok126 (p:=(75,sv75)) wv75
noncomputable def tv59 {β:Type} (x0:LI) (x1:L3) (x2:LL) (x3:LI) (K:(Int×Int)→Option β):Option β:=(cond (ok (v54 x0 x1)) (cond (!val (v54 x0 x1)) (K (0,(1:Int))) (cond (ok (v16 x0 x1 x2)) (cond (!val (v16 x0 x1 x2)) (K (0,(1:Int))) (cond (ok (v73 x0 x1 x3)) (cond (!val (v73 x0 x1 x3)) (K (0,(1:Int))) (cond (ok (v74 x0 x1 x2 x3)) (cond (!val (v74 x0 x1 x2 x3)) (K (0,(17:Int))) (cond (ok (v75 x0 x1 x3)) (cond (decide (max 0 (IntKind.wrap IntKind.i64 (val (v75 x0 x1 x3) - IntKind.wrap IntKind.i64 ((1000000:Int)*(x1.length:Int)))) > (1000000000000:Int))) (K (0,(3:Int))) (K (max 0 (IntKind.wrap IntKind.i64 (val (v75 x0 x1 x3) - IntKind.wrap IntKind.i64 ((1000000:Int)*(x1.length:Int)))),0))) none)) none)) none)) none)) none)
noncomputable def v59 (x0:LI) (x1:L3) (x2:LL) (x3:LI):Option (Int×Int):=tv59 x0 x1 x2 x3 some
theorem ev59 (x0:LI) (x1:L3) (x2:LL) (x3:LI):zn zP (tn127 59) (TM.evF zP (tn127) dOk 40) dOk 40 59 [.agg [.d 3 iT (x0),.d 23 mT (x1)],.sc (.d 22 lT x2),.sc (.d 3 iT x3)] []=(v59 x0 x1 x2 x3).bind fun r=>some ([.sc (I4 (r.1)),.sc (I4 (r.2))],[]):=by
 refine Eq.trans (b:=tv59 x0 x1 x2 x3 fun r=>some ([.sc (I4 (r.1)),.sc (I4 (r.2))],[])) (by kernel_rfl) ?_
 unfold v59 tv59
 with_reducible repeat' refine zj ?_ ?_
 all_goals rfl
noncomputable def sv59:OrcS:=fun al H=>dC al fun y1 l2=>dA y1 fun y3=>dC y3 fun y4 l5=>dD 3 iT y4 fun x0=>dC l5 fun y6 l7=>dD 23 mT y6 fun x1=>dE l7<|dC l2 fun y8 l9=>dS y8 fun y10=>dD 22 lT y10 fun x2=>dC l9 fun y11 l12=>dS y11 fun y13=>dD 3 iT y13 fun x3=>dE l12<|dE H <|  some [(ok (v59 x0 x1 x2 x3),[.sc (I4 ((val (v59 x0 x1 x2 x3)).1)),.sc (I4 ((val (v59 x0 x1 x2 x3)).2))],[])]
theorem wv59:zl zP dOk base o127 t127 (59,sv59):=by
 intro al H q hq rs H2 h2
 change sv59 al H=_ at hq
 unfold sv59 at hq
 repeat with_reducible first|replace hq:=dCq hq;obtain ⟨_,_,rfl,hq⟩:=hq|(first|replace hq:=dAq hq|replace hq:=dDq hq|replace hq:=dSq hq);obtain ⟨_,rfl,hq⟩:=hq|replace hq:=dEq hq;obtain ⟨rfl,hq⟩:=hq
 cases hq
 obtain ⟨hc0,rfl,rfl⟩:=zd h2
 exact ⟨41,(zu (by kernel_rfl)).trans ((ev59 _ _ _ _).trans (zh (zc hc0)))⟩
noncomputable def o128:OrcT:=(59,sv59)::o127
noncomputable def t128:TellT:=t127
abbrev tn128:=ze base o128 t128
theorem ok128:OKT tn128:=zm ok127 ok127 (p:=(59,sv59)) wv59
noncomputable def LaS:Nat→Int→LI→LL→LI→Option (Bool ⊕ Unit)
 | 0,_,_,_,_=>none
 | n+1,x0,x1,x2,x3=>(cond (decide (x0 < (x3.length:Int))) (cond (decide (0≤x0)) (cond (List.getD x3 x0.toNat 0 != 0) (some (.inl (false))) (LaS n (IntKind.wrap IntKind.i64 (x0+(1:Int))) x1 x2 x3)) none) (some (.inr ())))
theorem qLaS:type_of% @LaS.eq_2:=@LaS.eq_2
noncomputable def xLaS (x0:Int) (x1:LI) (x2:LL) (x3:LI):(Bool ⊕ Unit)→Ex×CS:=fun r=>match r with | .inl a0=>(.ret,{ sl:=[(2,.v (.sc (.bool (a0))))],lo:=[],h:=[],n0:=0,w:=true }) | .inr b0=>((.exit 0),{ sl:=[(1,.l 1 0),(18,.l 1 2)],lo:=[],h:=[],n0:=0,w:=false })
abbrev cLaS (x0:Int) (x1:LI) (x2:LL) (x3:LI):CS:={ sl:=[(1,.l 1 0),(3,.v (.sc (I4 x0)))],lo:=[(1,[.d 3 iT (x1),.d 22 lT (x2),.d 3 iT (x3)])],h:=[],n0:=0,w:=false }
theorem bLaS (k:Nat) (cN:KN) (cX:KX) (x0:Int) (x1:LI) (x2:LL) (x3:LI):zi zP (tn128 30) (TM.evF zP (tn128) dOk (k+40)) dOk (k+40) (za zP (tn0 30) 30 0) 0 0 (cLaS x0 x1 x2 x3) cN cX=(cond (decide (x0 < (x3.length:Int))) (cond (decide (0≤x0)) (cond (decide (x0 < (x3.length:Int))) (cond (List.getD x3 x0.toNat 0 != 0) (cX .ret { sl:=[(2,.v (.sc (.bool (false))))],lo:=[],h:=[],n0:=0,w:=true }) (cN (cLaS (IntKind.wrap IntKind.i64 (x0+(1:Int))) x1 x2 x3))) none) none) (cX (.exit 0) { sl:=[(1,.l 1 0),(18,.l 1 2)],lo:=[],h:=[],n0:=0,w:=false })):=by kernel_rfl
theorem lLaS (k m:Nat):∀ (n:Nat) (x0:Int) (x1:LI) (x2:LL) (x3:LI) (r:(Bool ⊕ Unit)),LaS n x0 x1 x2 x3=some r→zw zP (tn128 30) (TM.evF zP (tn128) dOk (k+40)) dOk (k+40) (za zP (tn0 30) 30 0) 0 0 (n+m) (cLaS x0 x1 x2 x3)=some (xLaS x0 x1 x2 x3 r):=by
 intro n
 induction n with
 | zero=>intro _ _ _ _ r h;cases h
 | succ n ih=>
  intro x0 x1 x2 x3 r
  rw [show n+1+m=n+m+1 by omega,zf,bLaS,qLaS]
  cases (decide (x0 < (x3.length:Int))) with
  | true=>
   cases (decide (0≤x0)) with
   | true=>
    cases (List.getD x3 x0.toNat 0 != 0) with
    | true=>
     intro h;cases h;rfl
    | false=>
     exact ih _ _ _ _ r
   | false=>
    intro h;cases h
  | false=>
   intro h;cases h;rfl
noncomputable def sLaS:TellS:=fun S=>dCS 0 S fun y1 y2 y3=>dSt 1 y1 fun y5 l4=>dL 1 0 y5<|dSI 3 .i64 l4 fun x0 l6=>dE l6<|dLo 1 y2 fun y7 l8=>dC y7 fun y9 l10=>dD 3 iT y9 fun x1=>dC l10 fun y11 l12=>dD 22 lT y11 fun x2=>dC l12 fun y13 l14=>dD 3 iT y13 fun x3=>dE l14<|dE l8<|dE y3 <|  some [(isL (LaS FU x0 x1 x2 x3),.ret,{ sl:=[(2,.v (.sc (.bool ((zH (LaS FU x0 x1 x2 x3))))))],lo:=[],h:=[],n0:=0,w:=true }),(ok (zA (LaS FU x0 x1 x2 x3)),(.exit 0),{ sl:=[(1,.l 1 0),(18,.l 1 2)],lo:=[],h:=[],n0:=0,w:=false })]
theorem wLaS:zo zP dOk base o128 t128 ((30,0),sLaS):=by
 refine ⟨.loop (za zP (tn0 30) 30 0),0,by kernel_rfl,?_⟩
 intro S alts e S' h1 h2
 change sLaS S=_ at h1
 unfold sLaS at h1
 repeat with_reducible first|replace h1:=zE h1;obtain ⟨_,_,_,rfl,h1⟩:=h1|(first|replace h1:=ye h1|replace h1:=zF h1|replace h1:=yg h1|replace h1:=dCq h1);obtain ⟨_,_,rfl,h1⟩:=h1|(first|replace h1:=dLq h1|replace h1:=dEq h1);obtain ⟨rfl,h1⟩:=h1|replace h1:=dDq h1;obtain ⟨_,rfl,h1⟩:=h1
 cases h1
 rcases zK h2 with ⟨hc0,rfl,rfl⟩ | h2
 · exact ⟨FU+40,(zb rfl).trans (lLaS FU 40 FU _ _ _ _ _ (zT hc0))⟩
 obtain ⟨hc1,rfl,rfl⟩:=zk h2
 exact ⟨FU+40,(zb rfl).trans (lLaS FU 40 FU _ _ _ _ _ (zN (zc hc1)))⟩
noncomputable def o129:OrcT:=o128
noncomputable def t129:TellT:=((30,0),sLaS)::t128
abbrev tn129:=ze base o129 t129
theorem ok129:OKT tn129:=zq ok128 ok128 (p:=((30,0),sLaS)) wLaS
noncomputable def tv30 {β:Type} (x0:LI) (x1:LL) (x2:LI) (K:Bool→Option β):Option β:=(cond (ok (v17 x0 x1 x2)) (cond (ok (v54 x0 (val (v17 x0 x1 x2)))) (cond (!val (v54 x0 (val (v17 x0 x1 x2)))) (K (false)) (cond ((x2.length:Int) != (x1.length:Int)) (K (false)) (cond (isL (LaS FU 0 x0 x1 x2)) (K (zH (LaS FU 0 x0 x1 x2))) (cond (ok (zA (LaS FU 0 x0 x1 x2))) (K (true)) none)))) none) none)
noncomputable def v30 (x0:LI) (x1:LL) (x2:LI):Option Bool:=tv30 x0 x1 x2 some
theorem ev30 (x0:LI) (x1:LL) (x2:LI):zn zP (tn129 30) (TM.evF zP (tn129) dOk 40) dOk 40 30 [.agg [.d 3 iT (x0),.d 22 lT (x1),.d 3 iT (x2)]] []=(v30 x0 x1 x2).bind fun r=>some ([.sc (.bool (r))],[]):=by
 refine Eq.trans (b:=tv30 x0 x1 x2 fun r=>some ([.sc (.bool (r))],[])) (by kernel_rfl) ?_
 unfold v30 tv30
 with_reducible repeat' refine zj ?_ ?_
 all_goals rfl
noncomputable def sv30:OrcS:=fun al H=>dC al fun y1 l2=>dA y1 fun y3=>dC y3 fun y4 l5=>dD 3 iT y4 fun x0=>dC l5 fun y6 l7=>dD 22 lT y6 fun x1=>dC l7 fun y8 l9=>dD 3 iT y8 fun x2=>dE l9<|dE l2<|dE H <|  some [(ok (v30 x0 x1 x2),[.sc (.bool ((val (v30 x0 x1 x2))))],[])]
theorem wv30:zl zP dOk base o129 t129 (30,sv30):=by
 intro al H q hq rs H2 h2
 change sv30 al H=_ at hq
 unfold sv30 at hq
 repeat with_reducible first|replace hq:=dCq hq;obtain ⟨_,_,rfl,hq⟩:=hq|(first|replace hq:=dAq hq|replace hq:=dDq hq);obtain ⟨_,rfl,hq⟩:=hq|replace hq:=dEq hq;obtain ⟨rfl,hq⟩:=hq
 cases hq
 obtain ⟨hc0,rfl,rfl⟩:=zd h2
 exact ⟨41,(zu (by kernel_rfl)).trans ((ev30 _ _ _).trans (zh (zc hc0)))⟩
noncomputable def o130:OrcT:=(30,sv30)::o129
noncomputable def t130:TellT:=t129
abbrev tn130:=ze base o130 t130
theorem ok130:OKT tn130:=zm ok129 ok129 (p:=(30,sv30)) wv30
noncomputable def Lbb:Nat→Int→Int→LI→LL→LI→Option (Bool ⊕ Unit)
 | 0,_,_,_,_,_=>none
 | n+1,x0,x1,x2,x3,x4=>(cond (decide (x1 < (x3.length:Int))) (cond (decide (0≤x1)) (cond (ok (v55 (List.getD x3 x1.toNat []) x0)) (cond (val (v55 (List.getD x3 x1.toNat []) x0)) (some (.inl (true))) (Lbb n x0 (IntKind.wrap IntKind.i64 (x1+(1:Int))) x2 x3 x4)) none) none) (some (.inr ())))
theorem qLbb:type_of% @Lbb.eq_2:=@Lbb.eq_2
noncomputable def xLbb (x0 x1:Int) (x2:LI) (x3:LL) (x4:LI):(Bool ⊕ Unit)→Ex×CS:=fun r=>match r with | .inl a0=>(.ret,{ sl:=[(4,.v (.sc (.bool (a0))))],lo:=[],h:=[],n0:=0,w:=true }) | .inr b0=>((.exit 0),{ sl:=[(2,.l 2 0),(7,.l 2 1)],lo:=[],h:=[],n0:=0,w:=false })
abbrev cLbb (x0 x1:Int) (x2:LI) (x3:LL) (x4:LI):CS:={ sl:=[(1,.v (.sc (I4 x0))),(2,.l 2 0),(5,.v (.sc (I4 x1)))],lo:=[(2,[.d 3 iT (x2),.d 22 lT (x3),.d 3 iT (x4)])],h:=[],n0:=0,w:=false }
theorem bLbb (k:Nat) (cN:KN) (cX:KX) (x0 x1:Int) (x2:LI) (x3:LL) (x4:LI):zi zP (tn130 31) (TM.evF zP (tn130) dOk (k+40)) dOk (k+40) (za zP (tn0 31) 31 0) 0 0 (cLbb x0 x1 x2 x3 x4) cN cX=(cond (decide (x1 < (x3.length:Int))) (cond (decide (0≤x1)) (cond (decide (x1 < (x3.length:Int))) (cond (ok (v55 (List.getD x3 x1.toNat []) x0)) (cond (val (v55 (List.getD x3 x1.toNat []) x0)) (cX .ret { sl:=[(4,.v (.sc (.bool (true))))],lo:=[],h:=[],n0:=0,w:=true }) (cN (cLbb x0 (IntKind.wrap IntKind.i64 (x1+(1:Int))) x2 x3 x4))) none) none) none) (cX (.exit 0) { sl:=[(2,.l 2 0),(7,.l 2 1)],lo:=[],h:=[],n0:=0,w:=false })):=by kernel_rfl
theorem lLbb (k m:Nat):∀ (n:Nat) (x0 x1:Int) (x2:LI) (x3:LL) (x4:LI) (r:(Bool ⊕ Unit)),Lbb n x0 x1 x2 x3 x4=some r→zw zP (tn130 31) (TM.evF zP (tn130) dOk (k+40)) dOk (k+40) (za zP (tn0 31) 31 0) 0 0 (n+m) (cLbb x0 x1 x2 x3 x4)=some (xLbb x0 x1 x2 x3 x4 r):=by
 intro n
 induction n with
 | zero=>intro _ _ _ _ _ r h;cases h
 | succ n ih=>
  intro x0 x1 x2 x3 x4 r
  rw [show n+1+m=n+m+1 by omega,zf,bLbb,qLbb]
  cases (decide (x1 < (x3.length:Int))) with
  | true=>
   cases (decide (0≤x1)) with
   | true=>
    cases (ok (v55 (List.getD x3 x1.toNat []) x0)) with
    | true=>
     cases (val (v55 (List.getD x3 x1.toNat []) x0)) with
     | true=>
      intro h;cases h;rfl
     | false=>
      exact ih _ _ _ _ _ r
    | false=>
     intro h;cases h
   | false=>
    intro h;cases h
  | false=>
   intro h;cases h;rfl
noncomputable def sLbb:TellS:=fun S=>dCS 0 S fun y1 y2 y3=>dSI 1 .i64 y1 fun x0 l4=>dSt 2 l4 fun y6 l5=>dL 2 0 y6<|dSI 5 .i64 l5 fun x1 l7=>dE l7<|dLo 2 y2 fun y8 l9=>dC y8 fun y10 l11=>dD 3 iT y10 fun x2=>dC l11 fun y12 l13=>dD 22 lT y12 fun x3=>dC l13 fun y14 l15=>dD 3 iT y14 fun x4=>dE l15<|dE l9<|dE y3 <|  some [(isL (Lbb FU x0 x1 x2 x3 x4),.ret,{ sl:=[(4,.v (.sc (.bool ((zH (Lbb FU x0 x1 x2 x3 x4))))))],lo:=[],h:=[],n0:=0,w:=true }),(ok (zA (Lbb FU x0 x1 x2 x3 x4)),(.exit 0),{ sl:=[(2,.l 2 0),(7,.l 2 1)],lo:=[],h:=[],n0:=0,w:=false })]
theorem wLbb:zo zP dOk base o130 t130 ((31,0),sLbb):=by
 refine ⟨.loop (za zP (tn0 31) 31 0),0,by kernel_rfl,?_⟩
 intro S alts e S' h1 h2
 change sLbb S=_ at h1
 unfold sLbb at h1
 repeat with_reducible first|replace h1:=zE h1;obtain ⟨_,_,_,rfl,h1⟩:=h1|(first|replace h1:=zF h1|replace h1:=ye h1|replace h1:=yg h1|replace h1:=dCq h1);obtain ⟨_,_,rfl,h1⟩:=h1|(first|replace h1:=dLq h1|replace h1:=dEq h1);obtain ⟨rfl,h1⟩:=h1|replace h1:=dDq h1;obtain ⟨_,rfl,h1⟩:=h1
 cases h1
 rcases zK h2 with ⟨hc0,rfl,rfl⟩ | h2
 · exact ⟨FU+40,(zb rfl).trans (lLbb FU 40 FU _ _ _ _ _ _ (zT hc0))⟩
 obtain ⟨hc1,rfl,rfl⟩:=zk h2
 exact ⟨FU+40,(zb rfl).trans (lLbb FU 40 FU _ _ _ _ _ _ (zN (zc hc1)))⟩
noncomputable def o131:OrcT:=o130
noncomputable def t131:TellT:=((31,0),sLbb)::t130
abbrev tn131:=ze base o131 t131
theorem ok131:OKT tn131:=zq ok130 ok130 (p:=((31,0),sLbb)) wLbb
noncomputable def tv31 {β:Type} (x0:LI) (x1:LL) (x2:LI) (x3:Int) (K:Bool→Option β):Option β:=(cond (isL (Lbb FU x3 0 x0 x1 x2)) (K (zH (Lbb FU x3 0 x0 x1 x2))) (cond (ok (zA (Lbb FU x3 0 x0 x1 x2))) (K (false)) none))
noncomputable def v31 (x0:LI) (x1:LL) (x2:LI) (x3:Int):Option Bool:=tv31 x0 x1 x2 x3 some
theorem ev31 (x0:LI) (x1:LL) (x2:LI) (x3:Int):zn zP (tn131 31) (TM.evF zP (tn131) dOk 40) dOk 40 31 [.agg [.d 3 iT (x0),.d 22 lT (x1),.d 3 iT (x2)],.sc (I4 x3)] []=(v31 x0 x1 x2 x3).bind fun r=>some ([.sc (.bool (r))],[]):=by
 refine Eq.trans (b:=tv31 x0 x1 x2 x3 fun r=>some ([.sc (.bool (r))],[])) (by kernel_rfl) ?_
 unfold v31 tv31
 with_reducible repeat' refine zj ?_ ?_
 all_goals rfl
noncomputable def sv31:OrcS:=fun al H=>dC al fun y1 l2=>dA y1 fun y3=>dC y3 fun y4 l5=>dD 3 iT y4 fun x0=>dC l5 fun y6 l7=>dD 22 lT y6 fun x1=>dC l7 fun y8 l9=>dD 3 iT y8 fun x2=>dE l9<|dC l2 fun y10 l11=>dS y10 fun y12=>yO .i64 y12 fun x3=>dE l11<|dE H <|  some [(ok (v31 x0 x1 x2 x3),[.sc (.bool ((val (v31 x0 x1 x2 x3))))],[])]
theorem wv31:zl zP dOk base o131 t131 (31,sv31):=by
 intro al H q hq rs H2 h2
 change sv31 al H=_ at hq
 unfold sv31 at hq
 repeat with_reducible first|replace hq:=dCq hq;obtain ⟨_,_,rfl,hq⟩:=hq|(first|replace hq:=dAq hq|replace hq:=dDq hq|replace hq:=dSq hq|replace hq:=yV hq);obtain ⟨_,rfl,hq⟩:=hq|replace hq:=dEq hq;obtain ⟨rfl,hq⟩:=hq
 cases hq
 obtain ⟨hc0,rfl,rfl⟩:=zd h2
 exact ⟨41,(zu (by kernel_rfl)).trans ((ev31 _ _ _ _).trans (zh (zc hc0)))⟩
noncomputable def o132:OrcT:=(31,sv31)::o131
noncomputable def t132:TellT:=t131
abbrev tn132:=ze base o132 t132
theorem ok132:OKT tn132:=zm ok131 ok131 (p:=(31,sv31)) wv31
noncomputable def Lax:Nat→Int→LI→LL→LI→LI→Option LI
 | 0,_,_,_,_,_=>none
 | n+1,x0,x1,x2,x3,x4=>(cond (decide (x0 < (x1.length:Int))) (cond (ok (v31 x1 x2 x3 x0)) (cond (val (v31 x1 x2 x3 x0)) (cond (decide (List.length x4+List.length [(1000:Int)]≤nat_lit 2147483648)) (Lax n (IntKind.wrap IntKind.i64 (x0+(1:Int))) x1 x2 x3 (x4++[(1000:Int)])) none) (cond (decide (List.length x4+List.length [0]≤nat_lit 2147483648)) (Lax n (IntKind.wrap IntKind.i64 (x0+(1:Int))) x1 x2 x3 (x4++[0])) none)) none) (some x4))
theorem qLax:type_of% @Lax.eq_2:=@Lax.eq_2
noncomputable def xLax (x0:Int) (x1:LI) (x2:LL) (x3:LI) (x4:LI):LI→Ex×CS:=fun r=>((.exit 0),{ sl:=[(1,.l 1 0),(3,.v (.sc (.g 0))),(7,.l 1 0)],lo:=[],h:=[.row 3 iT (r:LI)],n0:=0,w:=false })
abbrev cLax (x0:Int) (x1:LI) (x2:LL) (x3:LI) (x4:LI):CS:={ sl:=[(1,.l 1 0),(3,.v (.sc (.g 0))),(4,.v (.sc (I4 x0)))],lo:=[(1,[.d 3 iT (x1),.d 22 lT (x2),.d 3 iT (x3)])],h:=[.row 3 iT (x4)],n0:=0,w:=false }
theorem bLax (k:Nat) (cN:KN) (cX:KX) (x0:Int) (x1:LI) (x2:LL) (x3:LI) (x4:LI):zi zP (tn132 32) (TM.evF zP (tn132) dOk (k+40)) dOk (k+40) (za zP (tn0 32) 32 0) 0 0 (cLax x0 x1 x2 x3 x4) cN cX=(cond (decide (x0 < (x1.length:Int))) (cond (ok (v31 x1 x2 x3 x0)) (cond (val (v31 x1 x2 x3 x0)) (cond (decide (List.length x4+List.length [(1000:Int)]≤nat_lit 2147483648)) (cN (cLax (IntKind.wrap IntKind.i64 (x0+(1:Int))) x1 x2 x3 (x4++[(1000:Int)]:LI))) none) (cond (decide (List.length x4+List.length [0]≤nat_lit 2147483648)) (cN (cLax (IntKind.wrap IntKind.i64 (x0+(1:Int))) x1 x2 x3 (x4++[0]:LI))) none)) none) (cP cX (xLax x0 x1 x2 x3 x4 x4))):=by kernel_rfl
theorem lLax (k m:Nat):∀ (n:Nat) (x0:Int) (x1:LI) (x2:LL) (x3:LI) (x4:LI) (r:LI),Lax n x0 x1 x2 x3 x4=some r→zw zP (tn132 32) (TM.evF zP (tn132) dOk (k+40)) dOk (k+40) (za zP (tn0 32) 32 0) 0 0 (n+m) (cLax x0 x1 x2 x3 x4)=some (xLax x0 x1 x2 x3 x4 r):=by
 intro n
 induction n with
 | zero=>intro _ _ _ _ _ r h;cases h
 | succ n ih=>
  intro x0 x1 x2 x3 x4 r
  rw [show n+1+m=n+m+1 by omega,zf,bLax,qLax]
  with_reducible repeat' refine zS ?_ ?_
  all_goals first | exact ih _ _ _ _ _ r | (intro h;cases h;done) | (intro h;cases h;rfl)
noncomputable def sLax:TellS:=fun S=>dCS 0 S fun y1 y2 y3=>dSt 1 y1 fun y5 l4=>dL 1 0 y5<|dSs 3 l4 fun y7 l6=>dG 0 y7<|dSI 4 .i64 l6 fun x0 l8=>dE l8<|dLo 1 y2 fun y9 l10=>dC y9 fun y11 l12=>dD 3 iT y11 fun x1=>dC l12 fun y13 l14=>dD 22 lT y13 fun x2=>dC l14 fun y15 l16=>dD 3 iT y15 fun x3=>dE l16<|dE l10<|dHR 3 iT y3 fun x4 l17=>dE l17 <|  some [te (Lax FU x0 x1 x2 x3 x4) (xLax x0 x1 x2 x3 x4)]
theorem wLax:zo zP dOk base o132 t132 ((32,0),sLax):=by
 refine ⟨.loop (za zP (tn0 32) 32 0),0,by kernel_rfl,?_⟩
 intro S alts e S' h1 h2
 change sLax S=_ at h1
 unfold sLax at h1
 repeat with_reducible first|replace h1:=zE h1;obtain ⟨_,_,_,rfl,h1⟩:=h1|(first|replace h1:=ye h1|replace h1:=zJ h1|replace h1:=zF h1|replace h1:=yg h1|replace h1:=dCq h1|replace h1:=zV h1);obtain ⟨_,_,rfl,h1⟩:=h1|(first|replace h1:=dLq h1|replace h1:=dGq h1|replace h1:=dEq h1);obtain ⟨rfl,h1⟩:=h1|replace h1:=dDq h1;obtain ⟨_,rfl,h1⟩:=h1
 cases h1
 obtain ⟨hc0,rfl,rfl⟩:=zk h2
 exact ⟨FU+40,(zb rfl).trans (lLax FU 40 FU _ _ _ _ _ _ (zc hc0))⟩
noncomputable def o133:OrcT:=o132
noncomputable def t133:TellT:=((32,0),sLax)::t132
abbrev tn133:=ze base o133 t133
theorem ok133:OKT tn133:=zq ok132 ok132 (p:=((32,0),sLax)) wLax
noncomputable def v32 (x0:LI) (x1:LL) (x2:LI):Option LI:=(cond (ok (Lax FU 0 x0 x1 x2 [])) (some (val (Lax FU 0 x0 x1 x2 []))) none)
theorem ev32 (x0:LI) (x1:LL) (x2:LI):zn zP (tn133 32) (TM.evF zP (tn133) dOk 40) dOk 40 32 [.agg [.d 3 iT (x0),.d 22 lT (x1),.d 3 iT (x2)]] []=(v32 x0 x1 x2).bind fun r=>some ([.sc (.d 3 iT (r:LI))],[]):=by
 refine Eq.trans (b:=(cond (ok (Lax FU 0 x0 x1 x2 [])) (some ([.sc (.d 3 iT (val (Lax FU 0 x0 x1 x2 []):LI))],[])) none)) (by kernel_rfl) ?_
 unfold v32
 with_reducible repeat' refine zj ?_ ?_
 all_goals rfl
noncomputable def sv32:OrcS:=fun al H=>dC al fun y1 l2=>dA y1 fun y3=>dC y3 fun y4 l5=>dD 3 iT y4 fun x0=>dC l5 fun y6 l7=>dD 22 lT y6 fun x1=>dC l7 fun y8 l9=>dD 3 iT y8 fun x2=>dE l9<|dE l2<|dE H <|  some [(ok (v32 x0 x1 x2),[.sc (.d 3 iT ((val (v32 x0 x1 x2)):LI))],[])]
theorem wv32:zl zP dOk base o133 t133 (32,sv32):=by
 intro al H q hq rs H2 h2
 change sv32 al H=_ at hq
 unfold sv32 at hq
 repeat with_reducible first|replace hq:=dCq hq;obtain ⟨_,_,rfl,hq⟩:=hq|(first|replace hq:=dAq hq|replace hq:=dDq hq);obtain ⟨_,rfl,hq⟩:=hq|replace hq:=dEq hq;obtain ⟨rfl,hq⟩:=hq
 cases hq
 obtain ⟨hc0,rfl,rfl⟩:=zd h2
 exact ⟨41,(zu (by kernel_rfl)).trans ((ev32 _ _ _).trans (zh (zc hc0)))⟩
noncomputable def o134:OrcT:=(32,sv32)::o133
noncomputable def t134:TellT:=t133
abbrev tn134:=ze base o134 t134
theorem ok134:OKT tn134:=zm ok133 ok133 (p:=(32,sv32)) wv32
noncomputable def LaG:Nat→LI→LI→Int→Int→Option Int
 | 0,_,_,_,_=>none
 | n+1,x0,x1,x2,x3=>(cond (decide (x3 < (x1.length:Int))) (cond (decide (0≤x3)) (cond (decide (0≤List.getD x1 x3.toNat 0)) (cond (decide (List.getD x1 x3.toNat 0 < (x0.length:Int))) (LaG n x0 x1 (IntKind.wrap IntKind.i64 (x2+List.getD x0 (List.getD x1 x3.toNat 0).toNat 0)) (IntKind.wrap IntKind.i64 (x3+(1:Int)))) none) none) none) (some x2))
theorem qLaG:type_of% @LaG.eq_2:=@LaG.eq_2
noncomputable def xLaG (x0:LI) (x1:LI) (x2 x3:Int):Int→Ex×CS:=fun r=>((.exit 0),{ sl:=[(5,.v (.sc (I4 (r))))],lo:=[],h:=[],n0:=0,w:=false })
abbrev cLaG (x0:LI) (x1:LI) (x2 x3:Int):CS:={ sl:=[(0,.v (.sc (.d 3 iT x0))),(1,.v (.sc (.d 3 iT x1))),(5,.v (.sc (I4 x2))),(6,.v (.sc (I4 x3)))],lo:=[],h:=[],n0:=0,w:=false }
theorem bLaG (k:Nat) (cN:KN) (cX:KX) (x0:LI) (x1:LI) (x2 x3:Int):zi zP (tn134 58) (TM.evF zP (tn134) dOk (k+40)) dOk (k+40) (za zP (tn0 58) 58 0) 0 0 (cLaG x0 x1 x2 x3) cN cX=(cond (decide (x3 < (x1.length:Int))) (cond (decide (0≤x3)) (cond (decide (x3 < (x1.length:Int))) (cond (decide (0≤List.getD x1 x3.toNat 0)) (cond (decide (List.getD x1 x3.toNat 0 < (x0.length:Int))) (cN (cLaG x0 x1 (IntKind.wrap IntKind.i64 (x2+List.getD x0 (List.getD x1 x3.toNat 0).toNat 0)) (IntKind.wrap IntKind.i64 (x3+(1:Int))))) none) none) none) none) (cP cX (xLaG x0 x1 x2 x3 x2))):=by kernel_rfl
theorem lLaG (k m:Nat):∀ (n:Nat) (x0:LI) (x1:LI) (x2 x3:Int) (r:Int),LaG n x0 x1 x2 x3=some r→zw zP (tn134 58) (TM.evF zP (tn134) dOk (k+40)) dOk (k+40) (za zP (tn0 58) 58 0) 0 0 (n+m) (cLaG x0 x1 x2 x3)=some (xLaG x0 x1 x2 x3 r):=by
 intro n
 induction n with
 | zero=>intro _ _ _ _ r h;cases h
 | succ n ih=>
  intro x0 x1 x2 x3 r
  rw [show n+1+m=n+m+1 by omega,zf,bLaG,qLaG]
  cases (decide (x3 < (x1.length:Int))) with
  | true=>
   cases (decide (0≤x3)) with
   | true=>
    cases (decide (0≤List.getD x1 x3.toNat 0)) with
    | true=>
     cases (decide (List.getD x1 x3.toNat 0 < (x0.length:Int))) with
     | true=>
      exact ih _ _ _ _ r
     | false=>
      intro h;cases h
    | false=>
     intro h;cases h
   | false=>
    intro h;cases h
  | false=>
   intro h;cases h;rfl
noncomputable def sLaG:TellS:=fun S=>dCS 0 S fun y1 y2 y3=>dSs 0 y1 fun y5 l4=>dD 3 iT y5 fun x0=>dSs 1 l4 fun y7 l6=>dD 3 iT y7 fun x1=>dSI 5 .i64 l6 fun x2 l8=>dSI 6 .i64 l8 fun x3 l9=>dE l9<|dE y2<|dE y3 <|  some [te (LaG FU x0 x1 x2 x3) (xLaG x0 x1 x2 x3)]
theorem wLaG:zo zP dOk base o134 t134 ((58,0),sLaG):=by
 refine ⟨.loop (za zP (tn0 58) 58 0),0,by kernel_rfl,?_⟩
 intro S alts e S' h1 h2
 change sLaG S=_ at h1
 unfold sLaG at h1
 repeat with_reducible first|replace h1:=zE h1;obtain ⟨_,_,_,rfl,h1⟩:=h1|(first|replace h1:=zJ h1|replace h1:=zF h1);obtain ⟨_,_,rfl,h1⟩:=h1|replace h1:=dDq h1;obtain ⟨_,rfl,h1⟩:=h1|replace h1:=dEq h1;obtain ⟨rfl,h1⟩:=h1
 cases h1
 obtain ⟨hc0,rfl,rfl⟩:=zk h2
 exact ⟨FU+40,(zb rfl).trans (lLaG FU 40 FU _ _ _ _ _ (zc hc0))⟩
noncomputable def o135:OrcT:=o134
noncomputable def t135:TellT:=((58,0),sLaG)::t134
abbrev tn135:=ze base o135 t135
theorem ok135:OKT tn135:=zq ok134 ok134 (p:=((58,0),sLaG)) wLaG
noncomputable def v58 (x0:LI) (x1:LI):Option Int:=(cond (ok (LaG FU x0 x1 0 0)) (some (val (LaG FU x0 x1 0 0))) none)
theorem ev58 (x0:LI) (x1:LI):zn zP (tn135 58) (TM.evF zP (tn135) dOk 40) dOk 40 58 [.sc (.d 3 iT x0),.sc (.d 3 iT x1)] []=(v58 x0 x1).bind fun r=>some ([.sc (I4 (r))],[]):=by
 refine Eq.trans (b:=(cond (ok (LaG FU x0 x1 0 0)) (some ([.sc (I4 (val (LaG FU x0 x1 0 0)))],[])) none)) (by kernel_rfl) ?_
 unfold v58
 with_reducible repeat' refine zj ?_ ?_
 all_goals rfl
noncomputable def sv58:OrcS:=fun al H=>dC al fun y1 l2=>dS y1 fun y3=>dD 3 iT y3 fun x0=>dC l2 fun y4 l5=>dS y4 fun y6=>dD 3 iT y6 fun x1=>dE l5<|dE H <|  some [(ok (v58 x0 x1),[.sc (I4 ((val (v58 x0 x1))))],[])]
theorem wv58:zl zP dOk base o135 t135 (58,sv58):=by
 intro al H q hq rs H2 h2
 change sv58 al H=_ at hq
 unfold sv58 at hq
 repeat with_reducible first|replace hq:=dCq hq;obtain ⟨_,_,rfl,hq⟩:=hq|(first|replace hq:=dSq hq|replace hq:=dDq hq);obtain ⟨_,rfl,hq⟩:=hq|replace hq:=dEq hq;obtain ⟨rfl,hq⟩:=hq
 cases hq
 obtain ⟨hc0,rfl,rfl⟩:=zd h2
 exact ⟨41,(zu (by kernel_rfl)).trans ((ev58 _ _).trans (zh (zc hc0)))⟩
noncomputable def o136:OrcT:=(58,sv58)::o135
noncomputable def t136:TellT:=t135
abbrev tn136:=ze base o136 t136
theorem ok136:OKT tn136:=zm ok135 ok135 (p:=(58,sv58)) wv58
noncomputable def Lam:Nat→LI→Int→Int→Int→LI→LL→LI→LI→Option Int
 | 0,_,_,_,_,_,_,_,_=>none
 | n+1,x0,x1,x2,x3,x4,x5,x6,x7=>(cond (decide (x3 < (x5.length:Int))) (cond (decide (0≤x3)) (cond (ok (v55 (List.getD x5 x3.toNat []) x1)) (cond (val (v55 (List.getD x5 x3.toNat []) x1)) (cond (ok (v58 x0 (List.getD x5 x3.toNat []))) (cond (decide (val (v58 x0 (List.getD x5 x3.toNat []))≠0)) (Lam n x0 x1 (IntKind.wrap IntKind.i64 (x2+IntKind.wrap IntKind.i64 (Int.tdiv (1000000000:Int) (val (v58 x0 (List.getD x5 x3.toNat [])))))) (IntKind.wrap IntKind.i64 (x3+(1:Int))) x4 x5 x6 x7) none) none) (Lam n x0 x1 x2 (IntKind.wrap IntKind.i64 (x3+(1:Int))) x4 x5 x6 x7)) none) none) (some x2))
theorem qLam:type_of% @Lam.eq_2:=@Lam.eq_2
noncomputable def xLam (x0:LI) (x1 x2 x3:Int) (x4:LI) (x5:LL) (x6:LI) (x7:LI):Int→Ex×CS:=fun r=>((.exit 2),{ sl:=[(1,.v (.sc (.d 3 iT x0))),(2,.l 2 0),(5,.v (.sc (.g 0))),(6,.v (.sc (I4 x1))),(7,.v (.sc (I4 (r)))),(17,.l 2 1)],lo:=[(2,[.d 3 iT (x4),.d 22 lT (x5),.d 3 iT (x6)])],h:=[.row 3 iT (x7)],n0:=0,w:=false })
abbrev cLam (x0:LI) (x1 x2 x3:Int) (x4:LI) (x5:LL) (x6:LI) (x7:LI):CS:={ sl:=[(1,.v (.sc (.d 3 iT x0))),(2,.l 2 0),(5,.v (.sc (.g 0))),(6,.v (.sc (I4 x1))),(7,.v (.sc (I4 x2))),(8,.v (.sc (I4 x3)))],lo:=[(2,[.d 3 iT (x4),.d 22 lT (x5),.d 3 iT (x6)])],h:=[.row 3 iT (x7)],n0:=0,w:=false }
theorem bLam (k:Nat) (cN:KN) (cX:KX) (x0:LI) (x1 x2 x3:Int) (x4:LI) (x5:LL) (x6:LI) (x7:LI):zi zP (tn136 56) (TM.evF zP (tn136) dOk (k+40)) dOk (k+40) (za zP (tn0 56) 56 16) 2 16 (cLam x0 x1 x2 x3 x4 x5 x6 x7) cN cX=(cond (decide (x3 < (x5.length:Int))) (cond (decide (0≤x3)) (cond (decide (x3 < (x5.length:Int))) (cond (ok (v55 (List.getD x5 x3.toNat []) x1)) (cond (val (v55 (List.getD x5 x3.toNat []) x1)) (cond (decide (0≤x3)) (cond (decide (x3 < (x5.length:Int))) (cond (ok (v58 x0 (List.getD x5 x3.toNat []))) (cond (decide (val (v58 x0 (List.getD x5 x3.toNat []))≠0)) (cN (cLam x0 x1 (IntKind.wrap IntKind.i64 (x2+IntKind.wrap IntKind.i64 (Int.tdiv (1000000000:Int) (val (v58 x0 (List.getD x5 x3.toNat [])))))) (IntKind.wrap IntKind.i64 (x3+(1:Int))) x4 x5 x6 x7)) none) none) none) none) (cN (cLam x0 x1 x2 (IntKind.wrap IntKind.i64 (x3+(1:Int))) x4 x5 x6 x7))) none) none) none) (cP cX (xLam x0 x1 x2 x3 x4 x5 x6 x7 x2))):=by kernel_rfl
theorem lLam (k m:Nat):∀ (n:Nat) (x0:LI) (x1 x2 x3:Int) (x4:LI) (x5:LL) (x6:LI) (x7:LI) (r:Int),Lam n x0 x1 x2 x3 x4 x5 x6 x7=some r→zw zP (tn136 56) (TM.evF zP (tn136) dOk (k+40)) dOk (k+40) (za zP (tn0 56) 56 16) 2 16 (n+m) (cLam x0 x1 x2 x3 x4 x5 x6 x7)=some (xLam x0 x1 x2 x3 x4 x5 x6 x7 r):=by
 intro n
 induction n with
 | zero=>intro _ _ _ _ _ _ _ _ r h;cases h
 | succ n ih=>
  intro x0 x1 x2 x3 x4 x5 x6 x7 r
  rw [show n+1+m=n+m+1 by omega,zf,bLam,qLam]
  cases (decide (x3 < (x5.length:Int))) with
  | true=>
   cases (decide (0≤x3)) with
   | true=>
    cases (ok (v55 (List.getD x5 x3.toNat []) x1)) with
    | true=>
     cases (val (v55 (List.getD x5 x3.toNat []) x1)) with
     | true=>
      cases (ok (v58 x0 (List.getD x5 x3.toNat []))) with
      | true=>
       cases (decide (val (v58 x0 (List.getD x5 x3.toNat []))≠0)) with
       | true=>
        exact ih _ _ _ _ _ _ _ _ r
       | false=>
        intro h;cases h
      | false=>
       intro h;cases h
     | false=>
      exact ih _ _ _ _ _ _ _ _ r
    | false=>
     intro h;cases h
   | false=>
    intro h;cases h
  | false=>
   intro h;cases h;rfl
noncomputable def sLam:TellS:=fun S=>dCS 0 S fun y1 y2 y3=>dSs 1 y1 fun y5 l4=>dD 3 iT y5 fun x0=>dSt 2 l4 fun y7 l6=>dL 2 0 y7<|dSs 5 l6 fun y9 l8=>dG 0 y9<|dSI 6 .i64 l8 fun x1 l10=>dSI 7 .i64 l10 fun x2 l11=>dSI 8 .i64 l11 fun x3 l12=>dE l12<|dLo 2 y2 fun y13 l14=>dC y13 fun y15 l16=>dD 3 iT y15 fun x4=>dC l16 fun y17 l18=>dD 22 lT y17 fun x5=>dC l18 fun y19 l20=>dD 3 iT y19 fun x6=>dE l20<|dE l14<|dHR 3 iT y3 fun x7 l21=>dE l21 <|  some [te (Lam FU x0 x1 x2 x3 x4 x5 x6 x7) (xLam x0 x1 x2 x3 x4 x5 x6 x7)]
theorem wLam:zo zP dOk base o136 t136 ((56,16),sLam):=by
 refine ⟨.loop (za zP (tn0 56) 56 16),2,by kernel_rfl,?_⟩
 intro S alts e S' h1 h2
 change sLam S=_ at h1
 unfold sLam at h1
 repeat with_reducible first|replace h1:=zE h1;obtain ⟨_,_,_,rfl,h1⟩:=h1|(first|replace h1:=zJ h1|replace h1:=ye h1|replace h1:=zF h1|replace h1:=yg h1|replace h1:=dCq h1|replace h1:=zV h1);obtain ⟨_,_,rfl,h1⟩:=h1|replace h1:=dDq h1;obtain ⟨_,rfl,h1⟩:=h1|(first|replace h1:=dLq h1|replace h1:=dGq h1|replace h1:=dEq h1);obtain ⟨rfl,h1⟩:=h1
 cases h1
 obtain ⟨hc0,rfl,rfl⟩:=zk h2
 exact ⟨FU+40,(zb rfl).trans (lLam FU 40 FU _ _ _ _ _ _ _ _ _ (zc hc0))⟩
noncomputable def o137:OrcT:=o136
noncomputable def t137:TellT:=((56,16),sLam)::t136
abbrev tn137:=ze base o137 t137
theorem ok137:OKT tn137:=zq ok136 ok136 (p:=((56,16),sLam)) wLam
noncomputable def LaH:Nat→LI→Int→LI→LL→LI→LI→Option LI
 | 0,_,_,_,_,_,_=>none
 | n+1,x0,x1,x2,x3,x4,x5=>(cond (decide (x1 < (x2.length:Int))) (cond (ok (Lam FU x0 x1 0 0 x2 x3 x4 x5)) (cond (decide (List.length x5+List.length [val (Lam FU x0 x1 0 0 x2 x3 x4 x5)]≤nat_lit 2147483648)) (LaH n x0 (IntKind.wrap IntKind.i64 (x1+(1:Int))) x2 x3 x4 (x5++[val (Lam FU x0 x1 0 0 x2 x3 x4 x5)])) none) none) (some x5))
theorem qLaH:type_of% @LaH.eq_2:=@LaH.eq_2
noncomputable def xLaH (x0:LI) (x1:Int) (x2:LI) (x3:LL) (x4:LI) (x5:LI):LI→Ex×CS:=fun r=>((.exit 0),{ sl:=[(2,.l 2 0),(5,.v (.sc (.g 0))),(10,.l 2 0)],lo:=[],h:=[.row 3 iT (r:LI)],n0:=0,w:=false })
abbrev cLaH (x0:LI) (x1:Int) (x2:LI) (x3:LL) (x4:LI) (x5:LI):CS:={ sl:=[(1,.v (.sc (.d 3 iT x0))),(2,.l 2 0),(5,.v (.sc (.g 0))),(6,.v (.sc (I4 x1)))],lo:=[(2,[.d 3 iT (x2),.d 22 lT (x3),.d 3 iT (x4)])],h:=[.row 3 iT (x5)],n0:=0,w:=false }
theorem bLaH (k:Nat) (cN:KN) (cX:KX) (x0:LI) (x1:Int) (x2:LI) (x3:LL) (x4:LI) (x5:LI):zi zP (tn137 56) (TM.evF zP (tn137) dOk (k+40)) dOk (k+40) (za zP (tn0 56) 56 0) 0 0 (cLaH x0 x1 x2 x3 x4 x5) cN cX=(cond (decide (x1 < (x2.length:Int))) (cond (ok (Lam FU x0 x1 0 0 x2 x3 x4 x5)) (cond (decide (List.length x5+List.length [val (Lam FU x0 x1 0 0 x2 x3 x4 x5)]≤nat_lit 2147483648)) (cN (cLaH x0 (IntKind.wrap IntKind.i64 (x1+(1:Int))) x2 x3 x4 (x5++[val (Lam FU x0 x1 0 0 x2 x3 x4 x5)]:LI))) none) none) (cP cX (xLaH x0 x1 x2 x3 x4 x5 x5))):=by kernel_rfl
theorem lLaH (k m:Nat):∀ (n:Nat) (x0:LI) (x1:Int) (x2:LI) (x3:LL) (x4:LI) (x5:LI) (r:LI),LaH n x0 x1 x2 x3 x4 x5=some r→zw zP (tn137 56) (TM.evF zP (tn137) dOk (k+40)) dOk (k+40) (za zP (tn0 56) 56 0) 0 0 (n+m) (cLaH x0 x1 x2 x3 x4 x5)=some (xLaH x0 x1 x2 x3 x4 x5 r):=by
 intro n
 induction n with
 | zero=>intro _ _ _ _ _ _ r h;cases h
 | succ n ih=>
  intro x0 x1 x2 x3 x4 x5 r
  rw [show n+1+m=n+m+1 by omega,zf,bLaH,qLaH]
  with_reducible repeat' refine zS ?_ ?_
  all_goals first | exact ih _ _ _ _ _ _ r | (intro h;cases h;done) | (intro h;cases h;rfl)
noncomputable def sLaH:TellS:=fun S=>dCS 0 S fun y1 y2 y3=>dSs 1 y1 fun y5 l4=>dD 3 iT y5 fun x0=>dSt 2 l4 fun y7 l6=>dL 2 0 y7<|dSs 5 l6 fun y9 l8=>dG 0 y9<|dSI 6 .i64 l8 fun x1 l10=>dE l10<|dLo 2 y2 fun y11 l12=>dC y11 fun y13 l14=>dD 3 iT y13 fun x2=>dC l14 fun y15 l16=>dD 22 lT y15 fun x3=>dC l16 fun y17 l18=>dD 3 iT y17 fun x4=>dE l18<|dE l12<|dHR 3 iT y3 fun x5 l19=>dE l19 <|  some [te (LaH FU x0 x1 x2 x3 x4 x5) (xLaH x0 x1 x2 x3 x4 x5)]
theorem wLaH:zo zP dOk base o137 t137 ((56,0),sLaH):=by
 refine ⟨.loop (za zP (tn0 56) 56 0),0,by kernel_rfl,?_⟩
 intro S alts e S' h1 h2
 change sLaH S=_ at h1
 unfold sLaH at h1
 repeat with_reducible first|replace h1:=zE h1;obtain ⟨_,_,_,rfl,h1⟩:=h1|(first|replace h1:=zJ h1|replace h1:=ye h1|replace h1:=zF h1|replace h1:=yg h1|replace h1:=dCq h1|replace h1:=zV h1);obtain ⟨_,_,rfl,h1⟩:=h1|replace h1:=dDq h1;obtain ⟨_,rfl,h1⟩:=h1|(first|replace h1:=dLq h1|replace h1:=dGq h1|replace h1:=dEq h1);obtain ⟨rfl,h1⟩:=h1
 cases h1
 obtain ⟨hc0,rfl,rfl⟩:=zk h2
 exact ⟨FU+40,(zb rfl).trans (lLaH FU 40 FU _ _ _ _ _ _ _ (zc hc0))⟩
noncomputable def o138:OrcT:=o137
noncomputable def t138:TellT:=((56,0),sLaH)::t137
abbrev tn138:=ze base o138 t138
theorem ok138:OKT tn138:=zq ok137 ok137 (p:=((56,0),sLaH)) wLaH
noncomputable def v56 (x0:LI) (x1:LL) (x2:LI) (x3:LI):Option LI:=(cond (ok (LaH FU x3 0 x0 x1 x2 [])) (some (val (LaH FU x3 0 x0 x1 x2 []))) none)
theorem ev56 (x0:LI) (x1:LL) (x2:LI) (x3:LI):zn zP (tn138 56) (TM.evF zP (tn138) dOk 40) dOk 40 56 [.agg [.d 3 iT (x0),.d 22 lT (x1),.d 3 iT (x2)],.sc (.d 3 iT x3)] []=(v56 x0 x1 x2 x3).bind fun r=>some ([.sc (.d 3 iT (r:LI))],[]):=by
 refine Eq.trans (b:=(cond (ok (LaH FU x3 0 x0 x1 x2 [])) (some ([.sc (.d 3 iT (val (LaH FU x3 0 x0 x1 x2 []):LI))],[])) none)) (by kernel_rfl) ?_
 unfold v56
 with_reducible repeat' refine zj ?_ ?_
 all_goals rfl
noncomputable def sv56:OrcS:=fun al H=>dC al fun y1 l2=>dA y1 fun y3=>dC y3 fun y4 l5=>dD 3 iT y4 fun x0=>dC l5 fun y6 l7=>dD 22 lT y6 fun x1=>dC l7 fun y8 l9=>dD 3 iT y8 fun x2=>dE l9<|dC l2 fun y10 l11=>dS y10 fun y12=>dD 3 iT y12 fun x3=>dE l11<|dE H <|  some [(ok (v56 x0 x1 x2 x3),[.sc (.d 3 iT ((val (v56 x0 x1 x2 x3)):LI))],[])]
theorem wv56:zl zP dOk base o138 t138 (56,sv56):=by
 intro al H q hq rs H2 h2
 change sv56 al H=_ at hq
 unfold sv56 at hq
 repeat with_reducible first|replace hq:=dCq hq;obtain ⟨_,_,rfl,hq⟩:=hq|(first|replace hq:=dAq hq|replace hq:=dDq hq|replace hq:=dSq hq);obtain ⟨_,rfl,hq⟩:=hq|replace hq:=dEq hq;obtain ⟨rfl,hq⟩:=hq
 cases hq
 obtain ⟨hc0,rfl,rfl⟩:=zd h2
 exact ⟨41,(zu (by kernel_rfl)).trans ((ev56 _ _ _ _).trans (zh (zc hc0)))⟩
noncomputable def o139:OrcT:=(56,sv56)::o138
noncomputable def t139:TellT:=t138
abbrev tn139:=ze base o139 t139
theorem ok139:OKT tn139:=zm ok138 ok138 (p:=(56,sv56)) wv56
noncomputable def Lap:Nat→LI→LI→Int→Int→Int→LI→LL→LI→Option Int
 | 0,_,_,_,_,_,_,_,_=>none
 | n+1,x0,x1,x2,x3,x4,x5,x6,x7=>(cond (decide (x4 < (x1.length:Int))) (cond (decide (0≤x4)) (cond (decide (0≤List.getD x1 x4.toNat 0)) (cond (decide (List.getD x1 x4.toNat 0 < (x5.length:Int))) (cond (decide (List.getD x1 x4.toNat 0 < (x0.length:Int))) (cond (decide (List.getD x0 (List.getD x1 x4.toNat 0).toNat 0≠0)) (cond (decide (x3 < 0)) (Lap n x0 x1 x2 (IntKind.wrap IntKind.i64 (Int.tdiv (IntKind.wrap IntKind.i64 (IntKind.wrap IntKind.i64 (x2*List.getD x5 (List.getD x1 x4.toNat 0).toNat 0)*(1000000:Int))) (List.getD x0 (List.getD x1 x4.toNat 0).toNat 0))) (IntKind.wrap IntKind.i64 (x4+(1:Int))) x5 x6 x7) (cond (decide (IntKind.wrap IntKind.i64 (Int.tdiv (IntKind.wrap IntKind.i64 (IntKind.wrap IntKind.i64 (x2*List.getD x5 (List.getD x1 x4.toNat 0).toNat 0)*(1000000:Int))) (List.getD x0 (List.getD x1 x4.toNat 0).toNat 0)) < x3)) (Lap n x0 x1 x2 (IntKind.wrap IntKind.i64 (Int.tdiv (IntKind.wrap IntKind.i64 (IntKind.wrap IntKind.i64 (x2*List.getD x5 (List.getD x1 x4.toNat 0).toNat 0)*(1000000:Int))) (List.getD x0 (List.getD x1 x4.toNat 0).toNat 0))) (IntKind.wrap IntKind.i64 (x4+(1:Int))) x5 x6 x7) (Lap n x0 x1 x2 x3 (IntKind.wrap IntKind.i64 (x4+(1:Int))) x5 x6 x7))) none) none) none) none) none) (some x3))
theorem qLap:type_of% @Lap.eq_2:=@Lap.eq_2
noncomputable def xLap (x0:LI) (x1:LI) (x2 x3 x4:Int) (x5:LI) (x6:LL) (x7:LI):Int→Ex×CS:=fun r=>((.exit 0),{ sl:=[(4,.l 4 0),(10,.v (.sc (I4 (r))))],lo:=[],h:=[],n0:=0,w:=false })
abbrev cLap (x0:LI) (x1:LI) (x2 x3 x4:Int) (x5:LI) (x6:LL) (x7:LI):CS:={ sl:=[(2,.v (.sc (.d 3 iT x0))),(3,.v (.sc (.d 3 iT x1))),(4,.l 4 0),(9,.v (.sc (I4 x2))),(10,.v (.sc (I4 x3))),(11,.v (.sc (I4 x4)))],lo:=[(4,[.d 3 iT (x5),.d 22 lT (x6),.d 3 iT (x7)])],h:=[],n0:=0,w:=false }
theorem bLap (k:Nat) (cN:KN) (cX:KX) (x0:LI) (x1:LI) (x2 x3 x4:Int) (x5:LI) (x6:LL) (x7:LI):zi zP (tn139 57) (TM.evF zP (tn139) dOk (k+40)) dOk (k+40) (za zP (tn0 57) 57 0) 0 0 (cLap x0 x1 x2 x3 x4 x5 x6 x7) cN cX=(cond (decide (x4 < (x1.length:Int))) (cond (decide (0≤x4)) (cond (decide (x4 < (x1.length:Int))) (cond (decide (0≤List.getD x1 x4.toNat 0)) (cond (decide (List.getD x1 x4.toNat 0 < (x5.length:Int))) (cond (decide (0≤x4)) (cond (decide (x4 < (x1.length:Int))) (cond (decide (0≤List.getD x1 x4.toNat 0)) (cond (decide (List.getD x1 x4.toNat 0 < (x0.length:Int))) (cond (decide (List.getD x0 (List.getD x1 x4.toNat 0).toNat 0≠0)) (cond (decide (x3 < 0)) (cN (cLap x0 x1 x2 (IntKind.wrap IntKind.i64 (Int.tdiv (IntKind.wrap IntKind.i64 (IntKind.wrap IntKind.i64 (x2*List.getD x5 (List.getD x1 x4.toNat 0).toNat 0)*(1000000:Int))) (List.getD x0 (List.getD x1 x4.toNat 0).toNat 0))) (IntKind.wrap IntKind.i64 (x4+(1:Int))) x5 x6 x7)) (cond (decide (IntKind.wrap IntKind.i64 (Int.tdiv (IntKind.wrap IntKind.i64 (IntKind.wrap IntKind.i64 (x2*List.getD x5 (List.getD x1 x4.toNat 0).toNat 0)*(1000000:Int))) (List.getD x0 (List.getD x1 x4.toNat 0).toNat 0)) < x3)) (cN (cLap x0 x1 x2 (IntKind.wrap IntKind.i64 (Int.tdiv (IntKind.wrap IntKind.i64 (IntKind.wrap IntKind.i64 (x2*List.getD x5 (List.getD x1 x4.toNat 0).toNat 0)*(1000000:Int))) (List.getD x0 (List.getD x1 x4.toNat 0).toNat 0))) (IntKind.wrap IntKind.i64 (x4+(1:Int))) x5 x6 x7)) (cN (cLap x0 x1 x2 x3 (IntKind.wrap IntKind.i64 (x4+(1:Int))) x5 x6 x7)))) none) none) none) none) none) none) none) none) none) (cP cX (xLap x0 x1 x2 x3 x4 x5 x6 x7 x3))):=by kernel_rfl
theorem lLap (k m:Nat):∀ (n:Nat) (x0:LI) (x1:LI) (x2 x3 x4:Int) (x5:LI) (x6:LL) (x7:LI) (r:Int),Lap n x0 x1 x2 x3 x4 x5 x6 x7=some r→zw zP (tn139 57) (TM.evF zP (tn139) dOk (k+40)) dOk (k+40) (za zP (tn0 57) 57 0) 0 0 (n+m) (cLap x0 x1 x2 x3 x4 x5 x6 x7)=some (xLap x0 x1 x2 x3 x4 x5 x6 x7 r):=by
 intro n
 induction n with
 | zero=>intro _ _ _ _ _ _ _ _ r h;cases h
 | succ n ih=>
  intro x0 x1 x2 x3 x4 x5 x6 x7 r
  rw [show n+1+m=n+m+1 by omega,zf,bLap,qLap]
  cases (decide (x4 < (x1.length:Int))) with
  | true=>
   cases (decide (0≤x4)) with
   | true=>
    cases (decide (0≤List.getD x1 x4.toNat 0)) with
    | true=>
     cases (decide (List.getD x1 x4.toNat 0 < (x5.length:Int))) with
     | true=>
      cases (decide (List.getD x1 x4.toNat 0 < (x0.length:Int))) with
      | true=>
       cases (decide (List.getD x0 (List.getD x1 x4.toNat 0).toNat 0≠0)) with
       | true=>
        cases (decide (x3 < 0)) with
        | true=>
         exact ih _ _ _ _ _ _ _ _ r
        | false=>
         cases (decide (IntKind.wrap IntKind.i64 (Int.tdiv (IntKind.wrap IntKind.i64 (IntKind.wrap IntKind.i64 (x2*List.getD x5 (List.getD x1 x4.toNat 0).toNat 0)*(1000000:Int))) (List.getD x0 (List.getD x1 x4.toNat 0).toNat 0)) < x3)) with
         | true=>
          exact ih _ _ _ _ _ _ _ _ r
         | false=>
          exact ih _ _ _ _ _ _ _ _ r
       | false=>
        intro h;cases h
      | false=>
       intro h;cases h
     | false=>
      intro h;cases h
    | false=>
     intro h;cases h
   | false=>
    intro h;cases h
  | false=>
   intro h;cases h;rfl
noncomputable def sLap:TellS:=fun S=>dCS 0 S fun y1 y2 y3=>dSs 2 y1 fun y5 l4=>dD 3 iT y5 fun x0=>dSs 3 l4 fun y7 l6=>dD 3 iT y7 fun x1=>dSt 4 l6 fun y9 l8=>dL 4 0 y9<|dSI 9 .i64 l8 fun x2 l10=>dSI 10 .i64 l10 fun x3 l11=>dSI 11 .i64 l11 fun x4 l12=>dE l12<|dLo 4 y2 fun y13 l14=>dC y13 fun y15 l16=>dD 3 iT y15 fun x5=>dC l16 fun y17 l18=>dD 22 lT y17 fun x6=>dC l18 fun y19 l20=>dD 3 iT y19 fun x7=>dE l20<|dE l14<|dE y3 <|  some [te (Lap FU x0 x1 x2 x3 x4 x5 x6 x7) (xLap x0 x1 x2 x3 x4 x5 x6 x7)]
theorem wLap:zo zP dOk base o139 t139 ((57,0),sLap):=by
 refine ⟨.loop (za zP (tn0 57) 57 0),0,by kernel_rfl,?_⟩
 intro S alts e S' h1 h2
 change sLap S=_ at h1
 unfold sLap at h1
 repeat with_reducible first|replace h1:=zE h1;obtain ⟨_,_,_,rfl,h1⟩:=h1|(first|replace h1:=zJ h1|replace h1:=ye h1|replace h1:=zF h1|replace h1:=yg h1|replace h1:=dCq h1);obtain ⟨_,_,rfl,h1⟩:=h1|replace h1:=dDq h1;obtain ⟨_,rfl,h1⟩:=h1|(first|replace h1:=dLq h1|replace h1:=dEq h1);obtain ⟨rfl,h1⟩:=h1
 cases h1
 obtain ⟨hc0,rfl,rfl⟩:=zk h2
 exact ⟨FU+40,(zb rfl).trans (lLap FU 40 FU _ _ _ _ _ _ _ _ _ (zc hc0))⟩
noncomputable def o140:OrcT:=o139
noncomputable def t140:TellT:=((57,0),sLap)::t139
abbrev tn140:=ze base o140 t140
theorem ok140:OKT tn140:=zq ok139 ok139 (p:=((57,0),sLap)) wLap
noncomputable def tv57 {β:Type} (x0:LI) (x1:LL) (x2:LI) (x3:LI) (x4:LI) (x5:LI) (K:Int→Option β):Option β:=(cond (ok (v58 x3 x5)) (cond (decide (val (v58 x3 x5)≠0)) (cond (ok (Lap FU x4 x5 (IntKind.wrap IntKind.i64 (Int.tdiv (1000000000:Int) (val (v58 x3 x5)))) (-1:Int) 0 x0 x1 x2)) (K (val (Lap FU x4 x5 (IntKind.wrap IntKind.i64 (Int.tdiv (1000000000:Int) (val (v58 x3 x5)))) (-1:Int) 0 x0 x1 x2))) none) none) none)
noncomputable def v57 (x0:LI) (x1:LL) (x2:LI) (x3:LI) (x4:LI) (x5:LI):Option Int:=tv57 x0 x1 x2 x3 x4 x5 some
theorem ev57 (x0:LI) (x1:LL) (x2:LI) (x3:LI) (x4:LI) (x5:LI):zn zP (tn140 57) (TM.evF zP (tn140) dOk 40) dOk 40 57 [.agg [.d 3 iT (x0),.d 22 lT (x1),.d 3 iT (x2)],.sc (.d 3 iT x3),.sc (.d 3 iT x4),.sc (.d 3 iT x5)] []=(v57 x0 x1 x2 x3 x4 x5).bind fun r=>some ([.sc (I4 (r))],[]):=by
 refine Eq.trans (b:=tv57 x0 x1 x2 x3 x4 x5 fun r=>some ([.sc (I4 (r))],[])) (by kernel_rfl) ?_
 unfold v57 tv57
 with_reducible repeat' refine zj ?_ ?_
 all_goals rfl
noncomputable def sv57:OrcS:=fun al H=>dC al fun y1 l2=>dA y1 fun y3=>dC y3 fun y4 l5=>dD 3 iT y4 fun x0=>dC l5 fun y6 l7=>dD 22 lT y6 fun x1=>dC l7 fun y8 l9=>dD 3 iT y8 fun x2=>dE l9<|dC l2 fun y10 l11=>dS y10 fun y12=>dD 3 iT y12 fun x3=>dC l11 fun y13 l14=>dS y13 fun y15=>dD 3 iT y15 fun x4=>dC l14 fun y16 l17=>dS y16 fun y18=>dD 3 iT y18 fun x5=>dE l17<|dE H <|  some [(ok (v57 x0 x1 x2 x3 x4 x5),[.sc (I4 ((val (v57 x0 x1 x2 x3 x4 x5))))],[])]
theorem wv57:zl zP dOk base o140 t140 (57,sv57):=by
 intro al H q hq rs H2 h2
 change sv57 al H=_ at hq
 unfold sv57 at hq
 repeat with_reducible first|replace hq:=dCq hq;obtain ⟨_,_,rfl,hq⟩:=hq|(first|replace hq:=dAq hq|replace hq:=dDq hq|replace hq:=dSq hq);obtain ⟨_,rfl,hq⟩:=hq|replace hq:=dEq hq;obtain ⟨rfl,hq⟩:=hq
 cases hq
 obtain ⟨hc0,rfl,rfl⟩:=zd h2
 exact ⟨41,(zu (by kernel_rfl)).trans ((ev57 _ _ _ _ _ _).trans (zh (zc hc0)))⟩
noncomputable def o141:OrcT:=(57,sv57)::o140
noncomputable def t141:TellT:=t140
abbrev tn141:=ze base o141 t141
theorem ok141:OKT tn141:=zm ok140 ok140 (p:=(57,sv57)) wv57
noncomputable def Lac:Nat→LI→LI→Int→Int→LI→LL→LI→Int→Int→LL→LI→LL→LI→Option (Int×(LL))
 | 0,_,_,_,_,_,_,_,_,_,_,_,_,_=>none
 | n+1,x0,x1,x2,x3,x4,x5,x6,x7,x8,x9,A,B,C=>(cond (decide (x3 < (x5.length:Int))) (cond (decide (0≤x3)) (cond (ok (v57 x4 x5 x6 x0 x1 (List.getD x5 x3.toNat []))) (cond (decide (List.length B+List.length [[val (v57 x4 x5 x6 x0 x1 (List.getD x5 x3.toNat []))]]≤nat_lit 2147483648)) (cond (ok (v58 x0 (List.getD x5 x3.toNat []))) (cond (decide (x2 < 0)) (Lac n x0 x1 (IntKind.wrap IntKind.i64 (val (v58 x0 (List.getD x5 x3.toNat []))*val (v57 x4 x5 x6 x0 x1 (List.getD x5 x3.toNat [])))) (IntKind.wrap IntKind.i64 (x3+(1:Int))) x4 x5 x6 x7 x8 x9 A (B++[[val (v57 x4 x5 x6 x0 x1 (List.getD x5 x3.toNat []))]]) C) (cond (decide (IntKind.wrap IntKind.i64 (val (v58 x0 (List.getD x5 x3.toNat []))*val (v57 x4 x5 x6 x0 x1 (List.getD x5 x3.toNat []))) < x2)) (Lac n x0 x1 (IntKind.wrap IntKind.i64 (val (v58 x0 (List.getD x5 x3.toNat []))*val (v57 x4 x5 x6 x0 x1 (List.getD x5 x3.toNat [])))) (IntKind.wrap IntKind.i64 (x3+(1:Int))) x4 x5 x6 x7 x8 x9 A (B++[[val (v57 x4 x5 x6 x0 x1 (List.getD x5 x3.toNat []))]]) C) (Lac n x0 x1 x2 (IntKind.wrap IntKind.i64 (x3+(1:Int))) x4 x5 x6 x7 x8 x9 A (B++[[val (v57 x4 x5 x6 x0 x1 (List.getD x5 x3.toNat []))]]) C))) none) none) none) none) (some (x2,B)))
theorem qLac:type_of% @Lac.eq_2:=@Lac.eq_2
noncomputable def xLac (x0:LI) (x1:LI) (x2 x3:Int) (x4:LI) (x5:LL) (x6:LI) (x7 x8:Int) (x9:LL) (A:LI) (B:LL) (C:LI):(Int×(LL))→Ex×CS:=fun r=>((.exit 0),{ sl:=[(1,.v (.sc (.d 3 iT x0))),(2,.l 2 0),(4,.l 4 0),(7,.l 7 0),(8,.v (.sc (I4 (r.1)))),(19,.l 2 1)],lo:=[(2,[.d 3 iT (x4),.d 22 lT (x5),.d 3 iT (x6)]),(4,[.g 0,.g 1,I4 (x7)]),(7,[.g 2,.g 3,I4 (x8)])],h:=[.row 22 lT (x9),.row 3 iT (A),.row 22 lT (r.2:LL),.row 3 iT (C)],n0:=0,w:=false })
abbrev cLac (x0:LI) (x1:LI) (x2 x3:Int) (x4:LI) (x5:LL) (x6:LI) (x7 x8:Int) (x9:LL) (A:LI) (B:LL) (C:LI):CS:={ sl:=[(1,.v (.sc (.d 3 iT x0))),(2,.l 2 0),(4,.l 4 0),(6,.v (.sc (.d 3 iT x1))),(7,.l 7 0),(8,.v (.sc (I4 x2))),(9,.v (.sc (I4 x3)))],lo:=[(2,[.d 3 iT (x4),.d 22 lT (x5),.d 3 iT (x6)]),(4,[.g 0,.g 1,I4 (x7)]),(7,[.g 2,.g 3,I4 (x8)])],h:=[.row 22 lT (x9),.row 3 iT (A),.row 22 lT (B),.row 3 iT (C)],n0:=0,w:=false }
theorem bLac (k:Nat) (cN:KN) (cX:KX) (x0:LI) (x1:LI) (x2 x3:Int) (x4:LI) (x5:LL) (x6:LI) (x7 x8:Int) (x9:LL) (A:LI) (B:LL) (C:LI):zi zP (tn141 33) (TM.evF zP (tn141) dOk (k+40)) dOk (k+40) (za zP (tn0 33) 33 0) 0 0 (cLac x0 x1 x2 x3 x4 x5 x6 x7 x8 x9 A B C) cN cX=(cond (decide (x3 < (x5.length:Int))) (cond (decide (0≤x3)) (cond (decide (x3 < (x5.length:Int))) (cond (ok (v57 x4 x5 x6 x0 x1 (List.getD x5 x3.toNat []))) (cond (decide (List.length B+List.length [[val (v57 x4 x5 x6 x0 x1 (List.getD x5 x3.toNat []))]]≤nat_lit 2147483648)) (cond (decide (0≤x3)) (cond (decide (x3 < (x5.length:Int))) (cond (ok (v58 x0 (List.getD x5 x3.toNat []))) (cond (decide (x2 < 0)) (cN (cLac x0 x1 (IntKind.wrap IntKind.i64 (val (v58 x0 (List.getD x5 x3.toNat []))*val (v57 x4 x5 x6 x0 x1 (List.getD x5 x3.toNat [])))) (IntKind.wrap IntKind.i64 (x3+(1:Int))) x4 x5 x6 x7 x8 x9 A (B++[[val (v57 x4 x5 x6 x0 x1 (List.getD x5 x3.toNat []))]]:LL) C)) (cond (decide (IntKind.wrap IntKind.i64 (val (v58 x0 (List.getD x5 x3.toNat []))*val (v57 x4 x5 x6 x0 x1 (List.getD x5 x3.toNat []))) < x2)) (cN (cLac x0 x1 (IntKind.wrap IntKind.i64 (val (v58 x0 (List.getD x5 x3.toNat []))*val (v57 x4 x5 x6 x0 x1 (List.getD x5 x3.toNat [])))) (IntKind.wrap IntKind.i64 (x3+(1:Int))) x4 x5 x6 x7 x8 x9 A (B++[[val (v57 x4 x5 x6 x0 x1 (List.getD x5 x3.toNat []))]]:LL) C)) (cN (cLac x0 x1 x2 (IntKind.wrap IntKind.i64 (x3+(1:Int))) x4 x5 x6 x7 x8 x9 A (B++[[val (v57 x4 x5 x6 x0 x1 (List.getD x5 x3.toNat []))]]:LL) C)))) none) none) none) none) none) none) none) (cX (.exit 0) { sl:=[(1,.v (.sc (.d 3 iT x0))),(2,.l 2 0),(4,.l 4 0),(7,.l 7 0),(8,.v (.sc (I4 x2))),(19,.l 2 1)],lo:=[(2,[.d 3 iT (x4),.d 22 lT (x5),.d 3 iT (x6)]),(4,[.g 0,.g 1,I4 (x7)]),(7,[.g 2,.g 3,I4 (x8)])],h:=[.row 22 lT (x9),.row 3 iT (A),.row 22 lT (B),.row 3 iT (C)],n0:=0,w:=false })):=by kernel_rfl
theorem lLac (k m:Nat):∀ (n:Nat) (x0:LI) (x1:LI) (x2 x3:Int) (x4:LI) (x5:LL) (x6:LI) (x7 x8:Int) (x9:LL) (A:LI) (B:LL) (C:LI) (r:(Int×(LL))),Lac n x0 x1 x2 x3 x4 x5 x6 x7 x8 x9 A B C=some r→zw zP (tn141 33) (TM.evF zP (tn141) dOk (k+40)) dOk (k+40) (za zP (tn0 33) 33 0) 0 0 (n+m) (cLac x0 x1 x2 x3 x4 x5 x6 x7 x8 x9 A B C)=some (xLac x0 x1 x2 x3 x4 x5 x6 x7 x8 x9 A B C r):=by
 intro n
 induction n with
 | zero=>intro _ _ _ _ _ _ _ _ _ _ _ _ _ r h;cases h
 | succ n ih=>
  intro x0 x1 x2 x3 x4 x5 x6 x7 x8 x9 A B C r
  rw [show n+1+m=n+m+1 by omega,zf,bLac,qLac]
  cases (decide (x3 < (x5.length:Int))) with
  | true=>
   cases (decide (0≤x3)) with
   | true=>
    cases (ok (v57 x4 x5 x6 x0 x1 (List.getD x5 x3.toNat []))) with
    | true=>
     cases (decide (List.length B+List.length [[val (v57 x4 x5 x6 x0 x1 (List.getD x5 x3.toNat []))]]≤nat_lit 2147483648)) with
     | true=>
      cases (ok (v58 x0 (List.getD x5 x3.toNat []))) with
      | true=>
       cases (decide (x2 < 0)) with
       | true=>
        exact ih _ _ _ _ _ _ _ _ _ _ _ _ _ r
       | false=>
        cases (decide (IntKind.wrap IntKind.i64 (val (v58 x0 (List.getD x5 x3.toNat []))*val (v57 x4 x5 x6 x0 x1 (List.getD x5 x3.toNat []))) < x2)) with
        | true=>
         exact ih _ _ _ _ _ _ _ _ _ _ _ _ _ r
        | false=>
         exact ih _ _ _ _ _ _ _ _ _ _ _ _ _ r
      | false=>
       intro h;cases h
     | false=>
      intro h;cases h
    | false=>
     intro h;cases h
   | false=>
    intro h;cases h
  | false=>
   intro h;cases h;rfl
noncomputable def sLac:TellS:=fun S=>dCS 0 S fun y1 y2 y3=>dSs 1 y1 fun y5 l4=>dD 3 iT y5 fun x0=>dSt 2 l4 fun y7 l6=>dL 2 0 y7<|dSt 4 l6 fun y9 l8=>dL 4 0 y9<|dSs 6 l8 fun y11 l10=>dD 3 iT y11 fun x1=>dSt 7 l10 fun y13 l12=>dL 7 0 y13<|dSI 8 .i64 l12 fun x2 l14=>dSI 9 .i64 l14 fun x3 l15=>dE l15<|dLo 2 y2 fun y16 l17=>dC y16 fun y18 l19=>dD 3 iT y18 fun x4=>dC l19 fun y20 l21=>dD 22 lT y20 fun x5=>dC l21 fun y22 l23=>dD 3 iT y22 fun x6=>dE l23<|dLo 4 l17 fun y24 l25=>dC y24 fun y26 l27=>dG 0 y26<|dC l27 fun y28 l29=>dG 1 y28<|dK l29 fun x7 l30=>dE l30<|dLo 7 l25 fun y31 l32=>dC y31 fun y33 l34=>dG 2 y33<|dC l34 fun y35 l36=>dG 3 y35<|dK l36 fun x8 l37=>dE l37<|dE l32<|dHR 22 lT y3 fun x9 l38=>dHR 3 iT l38 fun A l39=>dHR 22 lT l39 fun B l40=>dHR 3 iT l40 fun C l41=>dE l41 <|  some [(ok (Lac FU x0 x1 x2 x3 x4 x5 x6 x7 x8 x9 A B C),(.exit 0),{ sl:=[(1,.v (.sc (.d 3 iT x0))),(2,.l 2 0),(4,.l 4 0),(7,.l 7 0),(8,.v (.sc (I4 ((val (Lac FU x0 x1 x2 x3 x4 x5 x6 x7 x8 x9 A B C)).1)))),(19,.l 2 1)],lo:=[(2,[.d 3 iT (x4),.d 22 lT (x5),.d 3 iT (x6)]),(4,[.g 0,.g 1,I4 (x7)]),(7,[.g 2,.g 3,I4 (x8)])],h:=[.row 22 lT (x9),.row 3 iT (A),.row 22 lT ((val (Lac FU x0 x1 x2 x3 x4 x5 x6 x7 x8 x9 A B C)).2:LL),.row 3 iT (C)],n0:=0,w:=false })]
theorem wLac:zo zP dOk base o141 t141 ((33,0),sLac):=by
 refine ⟨.loop (za zP (tn0 33) 33 0),0,by kernel_rfl,?_⟩
 intro S alts e S' h1 h2
 change sLac S=_ at h1
 unfold sLac at h1
 repeat with_reducible first|replace h1:=zE h1;obtain ⟨_,_,_,rfl,h1⟩:=h1|(first|replace h1:=zJ h1|replace h1:=ye h1|replace h1:=zF h1|replace h1:=yg h1|replace h1:=dCq h1|replace h1:=zQ h1|replace h1:=zV h1);obtain ⟨_,_,rfl,h1⟩:=h1|replace h1:=dDq h1;obtain ⟨_,rfl,h1⟩:=h1|(first|replace h1:=dLq h1|replace h1:=dEq h1|replace h1:=dGq h1);obtain ⟨rfl,h1⟩:=h1
 cases h1
 obtain ⟨hc0,rfl,rfl⟩:=zk h2
 exact ⟨FU+40,(zb rfl).trans (lLac FU 40 FU _ _ _ _ _ _ _ _ _ _ _ _ _ _ (zc hc0))⟩
noncomputable def o142:OrcT:=o141
noncomputable def t142:TellT:=((33,0),sLac)::t141
abbrev tn142:=ze base o142 t142
theorem ok142:OKT tn142:=zq ok141 ok141 (p:=((33,0),sLac)) wLac
noncomputable def Lay:Nat→LI→Int→Int→LI→LL→LI→Int→Int→LL→LI→LL→LI→Option LI
 | 0,_,_,_,_,_,_,_,_,_,_,_,_=>none
 | n+1,x0,x1,x2,x3,x4,x5,x6,x7,x8,x9,A,B=>(cond (decide (x2 < (x3.length:Int))) (cond (decide (0≤x2)) (cond (decide (x2 < (x0.length:Int))) (cond (decide (x1≠0)) (cond (decide (List.length B+List.length [IntKind.wrap IntKind.i64 (Int.tdiv (IntKind.wrap IntKind.i64 (IntKind.wrap IntKind.i64 (IntKind.wrap IntKind.i64 (List.getD x0 x2.toNat 0*(1000000000000:Int))+x1) - (1:Int))) x1)]≤nat_lit 2147483648)) (Lay n x0 x1 (IntKind.wrap IntKind.i64 (x2+(1:Int))) x3 x4 x5 x6 x7 x8 x9 A (B++[IntKind.wrap IntKind.i64 (Int.tdiv (IntKind.wrap IntKind.i64 (IntKind.wrap IntKind.i64 (IntKind.wrap IntKind.i64 (List.getD x0 x2.toNat 0*(1000000000000:Int))+x1) - (1:Int))) x1)])) none) none) none) none) (some B))
theorem qLay:type_of% @Lay.eq_2:=@Lay.eq_2
noncomputable def xLay (x0:LI) (x1 x2:Int) (x3:LI) (x4:LL) (x5:LI) (x6 x7:Int) (x8:LL) (x9:LI) (A:LL) (B:LI):LI→Ex×CS:=fun r=>((.exit 2),{ sl:=[(2,.l 2 0),(4,.l 4 0),(7,.l 7 0),(62,.l 2 0)],lo:=[(2,[.d 3 iT (x3),.d 22 lT (x4),.d 3 iT (x5)]),(4,[.g 0,.g 1,I4 (x6)]),(7,[.g 2,.g 3,I4 (x7)])],h:=[.row 22 lT (x8),.row 3 iT (x9),.row 22 lT (A),.row 3 iT (r:LI)],n0:=0,w:=false })
abbrev cLay (x0:LI) (x1 x2:Int) (x3:LI) (x4:LL) (x5:LI) (x6 x7:Int) (x8:LL) (x9:LI) (A:LL) (B:LI):CS:={ sl:=[(1,.v (.sc (.d 3 iT x0))),(2,.l 2 0),(4,.l 4 0),(7,.l 7 0),(8,.v (.sc (I4 x1))),(12,.v (.sc (I4 x2)))],lo:=[(2,[.d 3 iT (x3),.d 22 lT (x4),.d 3 iT (x5)]),(4,[.g 0,.g 1,I4 (x6)]),(7,[.g 2,.g 3,I4 (x7)])],h:=[.row 22 lT (x8),.row 3 iT (x9),.row 22 lT (A),.row 3 iT (B)],n0:=0,w:=false }
theorem bLay (k:Nat) (cN:KN) (cX:KX) (x0:LI) (x1 x2:Int) (x3:LI) (x4:LL) (x5:LI) (x6 x7:Int) (x8:LL) (x9:LI) (A:LL) (B:LI):zi zP (tn142 33) (TM.evF zP (tn142) dOk (k+40)) dOk (k+40) (za zP (tn0 33) 33 16) 2 16 (cLay x0 x1 x2 x3 x4 x5 x6 x7 x8 x9 A B) cN cX=(cond (decide (x2 < (x3.length:Int))) (cond (decide (0≤x2)) (cond (decide (x2 < (x0.length:Int))) (cond (decide (x1≠0)) (cond (decide (List.length B+List.length [IntKind.wrap IntKind.i64 (Int.tdiv (IntKind.wrap IntKind.i64 (IntKind.wrap IntKind.i64 (IntKind.wrap IntKind.i64 (List.getD x0 x2.toNat 0*(1000000000000:Int))+x1) - (1:Int))) x1)]≤nat_lit 2147483648)) (cN (cLay x0 x1 (IntKind.wrap IntKind.i64 (x2+(1:Int))) x3 x4 x5 x6 x7 x8 x9 A (B++[IntKind.wrap IntKind.i64 (Int.tdiv (IntKind.wrap IntKind.i64 (IntKind.wrap IntKind.i64 (IntKind.wrap IntKind.i64 (List.getD x0 x2.toNat 0*(1000000000000:Int))+x1) - (1:Int))) x1)]:LI))) none) none) none) none) (cP cX (xLay x0 x1 x2 x3 x4 x5 x6 x7 x8 x9 A B B))):=by kernel_rfl
theorem lLay (k m:Nat):∀ (n:Nat) (x0:LI) (x1 x2:Int) (x3:LI) (x4:LL) (x5:LI) (x6 x7:Int) (x8:LL) (x9:LI) (A:LL) (B:LI) (r:LI),Lay n x0 x1 x2 x3 x4 x5 x6 x7 x8 x9 A B=some r→zw zP (tn142 33) (TM.evF zP (tn142) dOk (k+40)) dOk (k+40) (za zP (tn0 33) 33 16) 2 16 (n+m) (cLay x0 x1 x2 x3 x4 x5 x6 x7 x8 x9 A B)=some (xLay x0 x1 x2 x3 x4 x5 x6 x7 x8 x9 A B r):=by
 intro n
 induction n with
 | zero=>intro _ _ _ _ _ _ _ _ _ _ _ _ r h;cases h
 | succ n ih=>
  intro x0 x1 x2 x3 x4 x5 x6 x7 x8 x9 A B r
  rw [show n+1+m=n+m+1 by omega,zf,bLay,qLay]
  with_reducible repeat' refine zS ?_ ?_
  all_goals first | exact ih _ _ _ _ _ _ _ _ _ _ _ _ r | (intro h;cases h;done) | (intro h;cases h;rfl)
noncomputable def sLay:TellS:=fun S=>dCS 0 S fun y1 y2 y3=>dSs 1 y1 fun y5 l4=>dD 3 iT y5 fun x0=>dSt 2 l4 fun y7 l6=>dL 2 0 y7<|dSt 4 l6 fun y9 l8=>dL 4 0 y9<|dSt 7 l8 fun y11 l10=>dL 7 0 y11<|dSI 8 .i64 l10 fun x1 l12=>dSI 12 .i64 l12 fun x2 l13=>dE l13<|dLo 2 y2 fun y14 l15=>dC y14 fun y16 l17=>dD 3 iT y16 fun x3=>dC l17 fun y18 l19=>dD 22 lT y18 fun x4=>dC l19 fun y20 l21=>dD 3 iT y20 fun x5=>dE l21<|dLo 4 l15 fun y22 l23=>dC y22 fun y24 l25=>dG 0 y24<|dC l25 fun y26 l27=>dG 1 y26<|dK l27 fun x6 l28=>dE l28<|dLo 7 l23 fun y29 l30=>dC y29 fun y31 l32=>dG 2 y31<|dC l32 fun y33 l34=>dG 3 y33<|dK l34 fun x7 l35=>dE l35<|dE l30<|dHR 22 lT y3 fun x8 l36=>dHR 3 iT l36 fun x9 l37=>dHR 22 lT l37 fun A l38=>dHR 3 iT l38 fun B l39=>dE l39 <|  some [te (Lay FU x0 x1 x2 x3 x4 x5 x6 x7 x8 x9 A B) (xLay x0 x1 x2 x3 x4 x5 x6 x7 x8 x9 A B)]
theorem wLay:zo zP dOk base o142 t142 ((33,16),sLay):=by
 refine ⟨.loop (za zP (tn0 33) 33 16),2,by kernel_rfl,?_⟩
 intro S alts e S' h1 h2
 change sLay S=_ at h1
 unfold sLay at h1
 repeat with_reducible first|replace h1:=zE h1;obtain ⟨_,_,_,rfl,h1⟩:=h1|(first|replace h1:=zJ h1|replace h1:=ye h1|replace h1:=zF h1|replace h1:=yg h1|replace h1:=dCq h1|replace h1:=zQ h1|replace h1:=zV h1);obtain ⟨_,_,rfl,h1⟩:=h1|replace h1:=dDq h1;obtain ⟨_,rfl,h1⟩:=h1|(first|replace h1:=dLq h1|replace h1:=dEq h1|replace h1:=dGq h1);obtain ⟨rfl,h1⟩:=h1
 cases h1
 obtain ⟨hc0,rfl,rfl⟩:=zk h2
 exact ⟨FU+40,(zb rfl).trans (lLay FU 40 FU _ _ _ _ _ _ _ _ _ _ _ _ _ (zc hc0))⟩
noncomputable def o143:OrcT:=o142
noncomputable def t143:TellT:=((33,16),sLay)::t142
abbrev tn143:=ze base o143 t143
theorem ok143:OKT tn143:=zq ok142 ok142 (p:=((33,16),sLay)) wLay
noncomputable def tv33 {β:Type} (x0:LI) (x1:LL) (x2:LI) (x3:LI) (K:((LL)×(LI)×Int×Bool)→Option β):Option β:=(cond (ok (v56 x0 x1 x2 x3)) (cond (ok (Lac FU x3 (val (v56 x0 x1 x2 x3)) (-1:Int) 0 x0 x1 x2 0 0 [] [] [] [])) (cond ((val (Lac FU x3 (val (v56 x0 x1 x2 x3)) (-1:Int) 0 x0 x1 x2 0 0 [] [] [] [])).1==0) (K ([],[],0,false)) (cond (ok (Lay FU x3 (val (Lac FU x3 (val (v56 x0 x1 x2 x3)) (-1:Int) 0 x0 x1 x2 0 0 [] [] [] [])).1 0 x0 x1 x2 0 0 [] [] (val (Lac FU x3 (val (v56 x0 x1 x2 x3)) (-1:Int) 0 x0 x1 x2 0 0 [] [] [] [])).2 [])) (cond (ok (v17 x0 x1 x2)) (cond (ok (v59 x0 (val (v17 x0 x1 x2)) (val (Lac FU x3 (val (v56 x0 x1 x2 x3)) (-1:Int) 0 x0 x1 x2 0 0 [] [] [] [])).2 (val (Lay FU x3 (val (Lac FU x3 (val (v56 x0 x1 x2 x3)) (-1:Int) 0 x0 x1 x2 0 0 [] [] [] [])).1 0 x0 x1 x2 0 0 [] [] (val (Lac FU x3 (val (v56 x0 x1 x2 x3)) (-1:Int) 0 x0 x1 x2 0 0 [] [] [] [])).2 [])))) (cond ((val (v59 x0 (val (v17 x0 x1 x2)) (val (Lac FU x3 (val (v56 x0 x1 x2 x3)) (-1:Int) 0 x0 x1 x2 0 0 [] [] [] [])).2 (val (Lay FU x3 (val (Lac FU x3 (val (v56 x0 x1 x2 x3)) (-1:Int) 0 x0 x1 x2 0 0 [] [] [] [])).1 0 x0 x1 x2 0 0 [] [] (val (Lac FU x3 (val (v56 x0 x1 x2 x3)) (-1:Int) 0 x0 x1 x2 0 0 [] [] [] [])).2 [])))).2 != 0) (K ([],[],0,false)) (K ((val (Lac FU x3 (val (v56 x0 x1 x2 x3)) (-1:Int) 0 x0 x1 x2 0 0 [] [] [] [])).2,val (Lay FU x3 (val (Lac FU x3 (val (v56 x0 x1 x2 x3)) (-1:Int) 0 x0 x1 x2 0 0 [] [] [] [])).1 0 x0 x1 x2 0 0 [] [] (val (Lac FU x3 (val (v56 x0 x1 x2 x3)) (-1:Int) 0 x0 x1 x2 0 0 [] [] [] [])).2 []),(val (v59 x0 (val (v17 x0 x1 x2)) (val (Lac FU x3 (val (v56 x0 x1 x2 x3)) (-1:Int) 0 x0 x1 x2 0 0 [] [] [] [])).2 (val (Lay FU x3 (val (Lac FU x3 (val (v56 x0 x1 x2 x3)) (-1:Int) 0 x0 x1 x2 0 0 [] [] [] [])).1 0 x0 x1 x2 0 0 [] [] (val (Lac FU x3 (val (v56 x0 x1 x2 x3)) (-1:Int) 0 x0 x1 x2 0 0 [] [] [] [])).2 [])))).1,true))) none) none) none)) none) none)
noncomputable def v33 (x0:LI) (x1:LL) (x2:LI) (x3:LI):Option ((LL)×(LI)×Int×Bool):=tv33 x0 x1 x2 x3 some
theorem ev33 (x0:LI) (x1:LL) (x2:LI) (x3:LI):zn zP (tn143 33) (TM.evF zP (tn143) dOk 40) dOk 40 33 [.agg [.d 3 iT (x0),.d 22 lT (x1),.d 3 iT (x2)],.sc (.d 3 iT x3)] []=(v33 x0 x1 x2 x3).bind fun r=>some ([.agg [.d 22 lT (r.1:LL),.d 3 iT (r.2.1:LI),I4 (r.2.2.1)],.sc (.bool (r.2.2.2))],[]):=by
 refine Eq.trans (b:=tv33 x0 x1 x2 x3 fun r=>some ([.agg [.d 22 lT (r.1:LL),.d 3 iT (r.2.1:LI),I4 (r.2.2.1)],.sc (.bool (r.2.2.2))],[])) (by kernel_rfl) ?_
 unfold v33 tv33
 with_reducible repeat' refine zj ?_ ?_
 all_goals rfl
noncomputable def sv33:OrcS:=fun al H=>dC al fun y1 l2=>dA y1 fun y3=>dC y3 fun y4 l5=>dD 3 iT y4 fun x0=>dC l5 fun y6 l7=>dD 22 lT y6 fun x1=>dC l7 fun y8 l9=>dD 3 iT y8 fun x2=>dE l9<|dC l2 fun y10 l11=>dS y10 fun y12=>dD 3 iT y12 fun x3=>dE l11<|dE H <|  some [(ok (v33 x0 x1 x2 x3),[.agg [.d 22 lT ((val (v33 x0 x1 x2 x3)).1:LL),.d 3 iT ((val (v33 x0 x1 x2 x3)).2.1:LI),I4 ((val (v33 x0 x1 x2 x3)).2.2.1)],.sc (.bool ((val (v33 x0 x1 x2 x3)).2.2.2))],[])]
theorem wv33:zl zP dOk base o143 t143 (33,sv33):=by
 intro al H q hq rs H2 h2
 change sv33 al H=_ at hq
 unfold sv33 at hq
 repeat with_reducible first|replace hq:=dCq hq;obtain ⟨_,_,rfl,hq⟩:=hq|(first|replace hq:=dAq hq|replace hq:=dDq hq|replace hq:=dSq hq);obtain ⟨_,rfl,hq⟩:=hq|replace hq:=dEq hq;obtain ⟨rfl,hq⟩:=hq
 cases hq
 obtain ⟨hc0,rfl,rfl⟩:=zd h2
 exact ⟨41,(zu (by kernel_rfl)).trans ((ev33 _ _ _ _).trans (zh (zc hc0)))⟩
noncomputable def o144:OrcT:=(33,sv33)::o143
noncomputable def t144:TellT:=t143
abbrev tn144:=ze base o144 t144
theorem ok144:OKT tn144:=zm ok143 ok143 (p:=(33,sv33)) wv33
noncomputable def Lad:Nat→LI→LI→Int→Int→LI→LL→LI→Option Int
 | 0,_,_,_,_,_,_,_=>none
 | n+1,x0,x1,x2,x3,x4,x5,x6=>(cond (decide (x3 < (x4.length:Int))) (cond (decide (0≤x3)) (cond (decide (x3 < (x0.length:Int))) (cond (decide (List.getD x0 x3.toNat 0 > 0)) (cond (decide (x2 < 0)) (Lad n x0 x1 x3 (IntKind.wrap IntKind.i64 (x3+(1:Int))) x4 x5 x6) (cond (decide (x3 < (x1.length:Int))) (cond (decide (0≤x2)) (cond (decide (x2 < (x4.length:Int))) (cond (decide (x2 < (x1.length:Int))) (cond (decide (IntKind.wrap IntKind.i64 (List.getD x1 x3.toNat 0*List.getD x4 x2.toNat 0) > IntKind.wrap IntKind.i64 (List.getD x1 x2.toNat 0*List.getD x4 x3.toNat 0))) (Lad n x0 x1 x3 (IntKind.wrap IntKind.i64 (x3+(1:Int))) x4 x5 x6) (Lad n x0 x1 x2 (IntKind.wrap IntKind.i64 (x3+(1:Int))) x4 x5 x6)) none) none) none) none)) (Lad n x0 x1 x2 (IntKind.wrap IntKind.i64 (x3+(1:Int))) x4 x5 x6)) none) none) (some x2))
theorem qLad:type_of% @Lad.eq_2:=@Lad.eq_2
noncomputable def xLad (x0:LI) (x1:LI) (x2 x3:Int) (x4:LI) (x5:LL) (x6:LI):Int→Ex×CS:=fun r=>((.exit 0),{ sl:=[(1,.v (.sc (.d 3 iT x0))),(2,.l 2 0),(5,.v (.sc (.d 3 iT x1))),(6,.v (.sc (I4 (r)))),(17,.l 2 0)],lo:=[(2,[.d 3 iT (x4),.d 22 lT (x5),.d 3 iT (x6)])],h:=[],n0:=0,w:=false })
abbrev cLad (x0:LI) (x1:LI) (x2 x3:Int) (x4:LI) (x5:LL) (x6:LI):CS:={ sl:=[(1,.v (.sc (.d 3 iT x0))),(2,.l 2 0),(5,.v (.sc (.d 3 iT x1))),(6,.v (.sc (I4 x2))),(7,.v (.sc (I4 x3)))],lo:=[(2,[.d 3 iT (x4),.d 22 lT (x5),.d 3 iT (x6)])],h:=[],n0:=0,w:=false }
theorem bLad (k:Nat) (cN:KN) (cX:KX) (x0:LI) (x1:LI) (x2 x3:Int) (x4:LI) (x5:LL) (x6:LI):zi zP (tn144 34) (TM.evF zP (tn144) dOk (k+40)) dOk (k+40) (za zP (tn0 34) 34 0) 0 0 (cLad x0 x1 x2 x3 x4 x5 x6) cN cX=(cond (decide (x3 < (x4.length:Int))) (cond (decide (0≤x3)) (cond (decide (x3 < (x0.length:Int))) (cond (decide (List.getD x0 x3.toNat 0 > 0)) (cond (decide (x2 < 0)) (cN (cLad x0 x1 x3 (IntKind.wrap IntKind.i64 (x3+(1:Int))) x4 x5 x6)) (cond (decide (0≤x3)) (cond (decide (x3 < (x1.length:Int))) (cond (decide (0≤x2)) (cond (decide (x2 < (x4.length:Int))) (cond (decide (0≤x2)) (cond (decide (x2 < (x1.length:Int))) (cond (decide (0≤x3)) (cond (decide (x3 < (x4.length:Int))) (cond (decide (IntKind.wrap IntKind.i64 (List.getD x1 x3.toNat 0*List.getD x4 x2.toNat 0) > IntKind.wrap IntKind.i64 (List.getD x1 x2.toNat 0*List.getD x4 x3.toNat 0))) (cN (cLad x0 x1 x3 (IntKind.wrap IntKind.i64 (x3+(1:Int))) x4 x5 x6)) (cN (cLad x0 x1 x2 (IntKind.wrap IntKind.i64 (x3+(1:Int))) x4 x5 x6))) none) none) none) none) none) none) none) none)) (cN (cLad x0 x1 x2 (IntKind.wrap IntKind.i64 (x3+(1:Int))) x4 x5 x6))) none) none) (cP cX (xLad x0 x1 x2 x3 x4 x5 x6 x2))):=by kernel_rfl
theorem lLad (k m:Nat):∀ (n:Nat) (x0:LI) (x1:LI) (x2 x3:Int) (x4:LI) (x5:LL) (x6:LI) (r:Int),Lad n x0 x1 x2 x3 x4 x5 x6=some r→zw zP (tn144 34) (TM.evF zP (tn144) dOk (k+40)) dOk (k+40) (za zP (tn0 34) 34 0) 0 0 (n+m) (cLad x0 x1 x2 x3 x4 x5 x6)=some (xLad x0 x1 x2 x3 x4 x5 x6 r):=by
 intro n
 induction n with
 | zero=>intro _ _ _ _ _ _ _ r h;cases h
 | succ n ih=>
  intro x0 x1 x2 x3 x4 x5 x6 r
  rw [show n+1+m=n+m+1 by omega,zf,bLad,qLad]
  cases (decide (x3 < (x4.length:Int))) with
  | true=>
   cases (decide (0≤x3)) with
   | true=>
    cases (decide (x3 < (x0.length:Int))) with
    | true=>
     cases (decide (List.getD x0 x3.toNat 0 > 0)) with
     | true=>
      cases (decide (x2 < 0)) with
      | true=>
       exact ih _ _ _ _ _ _ _ r
      | false=>
       cases (decide (x3 < (x1.length:Int))) with
       | true=>
        cases (decide (0≤x2)) with
        | true=>
         cases (decide (x2 < (x4.length:Int))) with
         | true=>
          cases (decide (x2 < (x1.length:Int))) with
          | true=>
           cases (decide (IntKind.wrap IntKind.i64 (List.getD x1 x3.toNat 0*List.getD x4 x2.toNat 0) > IntKind.wrap IntKind.i64 (List.getD x1 x2.toNat 0*List.getD x4 x3.toNat 0))) with
           | true=>
            exact ih _ _ _ _ _ _ _ r
           | false=>
            exact ih _ _ _ _ _ _ _ r
          | false=>
           intro h;cases h
         | false=>
          intro h;cases h
        | false=>
         intro h;cases h
       | false=>
        intro h;cases h
     | false=>
      exact ih _ _ _ _ _ _ _ r
    | false=>
     intro h;cases h
   | false=>
    intro h;cases h
  | false=>
   intro h;cases h;rfl
noncomputable def sLad:TellS:=fun S=>dCS 0 S fun y1 y2 y3=>dSs 1 y1 fun y5 l4=>dD 3 iT y5 fun x0=>dSt 2 l4 fun y7 l6=>dL 2 0 y7<|dSs 5 l6 fun y9 l8=>dD 3 iT y9 fun x1=>dSI 6 .i64 l8 fun x2 l10=>dSI 7 .i64 l10 fun x3 l11=>dE l11<|dLo 2 y2 fun y12 l13=>dC y12 fun y14 l15=>dD 3 iT y14 fun x4=>dC l15 fun y16 l17=>dD 22 lT y16 fun x5=>dC l17 fun y18 l19=>dD 3 iT y18 fun x6=>dE l19<|dE l13<|dE y3 <|  some [te (Lad FU x0 x1 x2 x3 x4 x5 x6) (xLad x0 x1 x2 x3 x4 x5 x6)]
theorem wLad:zo zP dOk base o144 t144 ((34,0),sLad):=by
 refine ⟨.loop (za zP (tn0 34) 34 0),0,by kernel_rfl,?_⟩
 intro S alts e S' h1 h2
 change sLad S=_ at h1
 unfold sLad at h1
 repeat with_reducible first|replace h1:=zE h1;obtain ⟨_,_,_,rfl,h1⟩:=h1|(first|replace h1:=zJ h1|replace h1:=ye h1|replace h1:=zF h1|replace h1:=yg h1|replace h1:=dCq h1);obtain ⟨_,_,rfl,h1⟩:=h1|replace h1:=dDq h1;obtain ⟨_,rfl,h1⟩:=h1|(first|replace h1:=dLq h1|replace h1:=dEq h1);obtain ⟨rfl,h1⟩:=h1
 cases h1
 obtain ⟨hc0,rfl,rfl⟩:=zk h2
 exact ⟨FU+40,(zb rfl).trans (lLad FU 40 FU _ _ _ _ _ _ _ _ (zc hc0))⟩
noncomputable def o145:OrcT:=o144
noncomputable def t145:TellT:=((34,0),sLad)::t144
abbrev tn145:=ze base o145 t145
theorem ok145:OKT tn145:=zq ok144 ok144 (p:=((34,0),sLad)) wLad
noncomputable def Lae:Nat→LI→LI→Int→Bool→Int→LI→LL→LI→LI→Option (Bool×(LI))
 | 0,_,_,_,_,_,_,_,_,_=>none
 | n+1,x0,x1,x2,x3,x4,x5,x6,x7,x8=>(cond (decide (x4 < (x5.length:Int))) (cond (decide (0≤x4)) (cond (decide (x4 < (x0.length:Int))) (cond (decide (List.getD x0 x4.toNat 0 > 0)) (cond (decide (x4 < (x1.length:Int))) (cond (decide (0≤x2)) (cond (decide (x2 < (x5.length:Int))) (cond (decide (x2 < (x1.length:Int))) (cond (decide (IntKind.wrap IntKind.i64 (IntKind.wrap IntKind.i64 ((2:Int)*List.getD x5 x4.toNat 0)*List.getD x1 x2.toNat 0)≠0)) (cond x3 (cond (decide (List.length x8+List.length [max (1:Int) (IntKind.wrap IntKind.i64 (Int.tdiv (IntKind.wrap IntKind.i64 (List.getD x0 x4.toNat 0*IntKind.wrap IntKind.i64 (IntKind.wrap IntKind.i64 (List.getD x1 x4.toNat 0*List.getD x5 x2.toNat 0)+IntKind.wrap IntKind.i64 (List.getD x5 x4.toNat 0*List.getD x1 x2.toNat 0)))) (IntKind.wrap IntKind.i64 (IntKind.wrap IntKind.i64 ((2:Int)*List.getD x5 x4.toNat 0)*List.getD x1 x2.toNat 0))))]≤nat_lit 2147483648)) (Lae n x0 x1 x2 (decide (max (1:Int) (IntKind.wrap IntKind.i64 (Int.tdiv (IntKind.wrap IntKind.i64 (List.getD x0 x4.toNat 0*IntKind.wrap IntKind.i64 (IntKind.wrap IntKind.i64 (List.getD x1 x4.toNat 0*List.getD x5 x2.toNat 0)+IntKind.wrap IntKind.i64 (List.getD x5 x4.toNat 0*List.getD x1 x2.toNat 0)))) (IntKind.wrap IntKind.i64 (IntKind.wrap IntKind.i64 ((2:Int)*List.getD x5 x4.toNat 0)*List.getD x1 x2.toNat 0)))) < (50000:Int))) (IntKind.wrap IntKind.i64 (x4+(1:Int))) x5 x6 x7 (x8++[max (1:Int) (IntKind.wrap IntKind.i64 (Int.tdiv (IntKind.wrap IntKind.i64 (List.getD x0 x4.toNat 0*IntKind.wrap IntKind.i64 (IntKind.wrap IntKind.i64 (List.getD x1 x4.toNat 0*List.getD x5 x2.toNat 0)+IntKind.wrap IntKind.i64 (List.getD x5 x4.toNat 0*List.getD x1 x2.toNat 0)))) (IntKind.wrap IntKind.i64 (IntKind.wrap IntKind.i64 ((2:Int)*List.getD x5 x4.toNat 0)*List.getD x1 x2.toNat 0))))])) none) (cond (decide (List.length x8+List.length [max (1:Int) (IntKind.wrap IntKind.i64 (Int.tdiv (IntKind.wrap IntKind.i64 (List.getD x0 x4.toNat 0*IntKind.wrap IntKind.i64 (IntKind.wrap IntKind.i64 (List.getD x1 x4.toNat 0*List.getD x5 x2.toNat 0)+IntKind.wrap IntKind.i64 (List.getD x5 x4.toNat 0*List.getD x1 x2.toNat 0)))) (IntKind.wrap IntKind.i64 (IntKind.wrap IntKind.i64 ((2:Int)*List.getD x5 x4.toNat 0)*List.getD x1 x2.toNat 0))))]≤nat_lit 2147483648)) (Lae n x0 x1 x2 (false) (IntKind.wrap IntKind.i64 (x4+(1:Int))) x5 x6 x7 (x8++[max (1:Int) (IntKind.wrap IntKind.i64 (Int.tdiv (IntKind.wrap IntKind.i64 (List.getD x0 x4.toNat 0*IntKind.wrap IntKind.i64 (IntKind.wrap IntKind.i64 (List.getD x1 x4.toNat 0*List.getD x5 x2.toNat 0)+IntKind.wrap IntKind.i64 (List.getD x5 x4.toNat 0*List.getD x1 x2.toNat 0)))) (IntKind.wrap IntKind.i64 (IntKind.wrap IntKind.i64 ((2:Int)*List.getD x5 x4.toNat 0)*List.getD x1 x2.toNat 0))))])) none)) none) none) none) none) none) (cond x3 (cond (decide (List.length x8+List.length [0]≤nat_lit 2147483648)) (Lae n x0 x1 x2 (true) (IntKind.wrap IntKind.i64 (x4+(1:Int))) x5 x6 x7 (x8++[0])) none) (cond (decide (List.length x8+List.length [0]≤nat_lit 2147483648)) (Lae n x0 x1 x2 (false) (IntKind.wrap IntKind.i64 (x4+(1:Int))) x5 x6 x7 (x8++[0])) none))) none) none) (some (x3,x8)))
theorem qLae:type_of% @Lae.eq_2:=@Lae.eq_2
noncomputable def xLae (x0:LI) (x1:LI) (x2:Int) (x3:Bool) (x4:Int) (x5:LI) (x6:LL) (x7:LI) (x8:LI):(Bool×(LI))→Ex×CS:=fun r=>((.exit 2),{ sl:=[(2,.l 2 0),(8,.v (.sc (.g 0))),(9,.v (.sc (.bool (r.1)))),(57,.l 2 0)],lo:=[],h:=[.row 3 iT (r.2:LI)],n0:=0,w:=false })
abbrev cLae (x0:LI) (x1:LI) (x2:Int) (x3:Bool) (x4:Int) (x5:LI) (x6:LL) (x7:LI) (x8:LI):CS:={ sl:=[(1,.v (.sc (.d 3 iT x0))),(2,.l 2 0),(5,.v (.sc (.d 3 iT x1))),(6,.v (.sc (I4 x2))),(8,.v (.sc (.g 0))),(9,.v (.sc (.bool x3))),(10,.v (.sc (I4 x4)))],lo:=[(2,[.d 3 iT (x5),.d 22 lT (x6),.d 3 iT (x7)])],h:=[.row 3 iT (x8)],n0:=0,w:=false }
theorem bLae (k:Nat) (cN:KN) (cX:KX) (x0:LI) (x1:LI) (x2:Int) (x3:Bool) (x4:Int) (x5:LI) (x6:LL) (x7:LI) (x8:LI):zi zP (tn145 34) (TM.evF zP (tn145) dOk (k+40)) dOk (k+40) (za zP (tn0 34) 34 16) 2 16 (cLae x0 x1 x2 x3 x4 x5 x6 x7 x8) cN cX=(cond (decide (x4 < (x5.length:Int))) (cond (decide (0≤x4)) (cond (decide (x4 < (x0.length:Int))) (cond (decide (List.getD x0 x4.toNat 0 > 0)) (cond (decide (0≤x4)) (cond (decide (x4 < (x0.length:Int))) (cond (decide (0≤x4)) (cond (decide (x4 < (x1.length:Int))) (cond (decide (0≤x2)) (cond (decide (x2 < (x5.length:Int))) (cond (decide (0≤x4)) (cond (decide (x4 < (x5.length:Int))) (cond (decide (0≤x2)) (cond (decide (x2 < (x1.length:Int))) (cond (decide (0≤x4)) (cond (decide (x4 < (x5.length:Int))) (cond (decide (0≤x2)) (cond (decide (x2 < (x1.length:Int))) (cond (decide (IntKind.wrap IntKind.i64 (IntKind.wrap IntKind.i64 ((2:Int)*List.getD x5 x4.toNat 0)*List.getD x1 x2.toNat 0)≠0)) (cond x3 (cond (decide (List.length x8+List.length [max (1:Int) (IntKind.wrap IntKind.i64 (Int.tdiv (IntKind.wrap IntKind.i64 (List.getD x0 x4.toNat 0*IntKind.wrap IntKind.i64 (IntKind.wrap IntKind.i64 (List.getD x1 x4.toNat 0*List.getD x5 x2.toNat 0)+IntKind.wrap IntKind.i64 (List.getD x5 x4.toNat 0*List.getD x1 x2.toNat 0)))) (IntKind.wrap IntKind.i64 (IntKind.wrap IntKind.i64 ((2:Int)*List.getD x5 x4.toNat 0)*List.getD x1 x2.toNat 0))))]≤nat_lit 2147483648)) (cN (cLae x0 x1 x2 (decide (max (1:Int) (IntKind.wrap IntKind.i64 (Int.tdiv (IntKind.wrap IntKind.i64 (List.getD x0 x4.toNat 0*IntKind.wrap IntKind.i64 (IntKind.wrap IntKind.i64 (List.getD x1 x4.toNat 0*List.getD x5 x2.toNat 0)+IntKind.wrap IntKind.i64 (List.getD x5 x4.toNat 0*List.getD x1 x2.toNat 0)))) (IntKind.wrap IntKind.i64 (IntKind.wrap IntKind.i64 ((2:Int)*List.getD x5 x4.toNat 0)*List.getD x1 x2.toNat 0)))) < (50000:Int))) (IntKind.wrap IntKind.i64 (x4+(1:Int))) x5 x6 x7 (x8++[max (1:Int) (IntKind.wrap IntKind.i64 (Int.tdiv (IntKind.wrap IntKind.i64 (List.getD x0 x4.toNat 0*IntKind.wrap IntKind.i64 (IntKind.wrap IntKind.i64 (List.getD x1 x4.toNat 0*List.getD x5 x2.toNat 0)+IntKind.wrap IntKind.i64 (List.getD x5 x4.toNat 0*List.getD x1 x2.toNat 0)))) (IntKind.wrap IntKind.i64 (IntKind.wrap IntKind.i64 ((2:Int)*List.getD x5 x4.toNat 0)*List.getD x1 x2.toNat 0))))]:LI))) none) (cond (decide (List.length x8+List.length [max (1:Int) (IntKind.wrap IntKind.i64 (Int.tdiv (IntKind.wrap IntKind.i64 (List.getD x0 x4.toNat 0*IntKind.wrap IntKind.i64 (IntKind.wrap IntKind.i64 (List.getD x1 x4.toNat 0*List.getD x5 x2.toNat 0)+IntKind.wrap IntKind.i64 (List.getD x5 x4.toNat 0*List.getD x1 x2.toNat 0)))) (IntKind.wrap IntKind.i64 (IntKind.wrap IntKind.i64 ((2:Int)*List.getD x5 x4.toNat 0)*List.getD x1 x2.toNat 0))))]≤nat_lit 2147483648)) (cN (cLae x0 x1 x2 (false) (IntKind.wrap IntKind.i64 (x4+(1:Int))) x5 x6 x7 (x8++[max (1:Int) (IntKind.wrap IntKind.i64 (Int.tdiv (IntKind.wrap IntKind.i64 (List.getD x0 x4.toNat 0*IntKind.wrap IntKind.i64 (IntKind.wrap IntKind.i64 (List.getD x1 x4.toNat 0*List.getD x5 x2.toNat 0)+IntKind.wrap IntKind.i64 (List.getD x5 x4.toNat 0*List.getD x1 x2.toNat 0)))) (IntKind.wrap IntKind.i64 (IntKind.wrap IntKind.i64 ((2:Int)*List.getD x5 x4.toNat 0)*List.getD x1 x2.toNat 0))))]:LI))) none)) none) none) none) none) none) none) none) none) none) none) none) none) none) none) none) (cond x3 (cond (decide (List.length x8+List.length [0]≤nat_lit 2147483648)) (cN (cLae x0 x1 x2 (true) (IntKind.wrap IntKind.i64 (x4+(1:Int))) x5 x6 x7 (x8++[0]:LI))) none) (cond (decide (List.length x8+List.length [0]≤nat_lit 2147483648)) (cN (cLae x0 x1 x2 (false) (IntKind.wrap IntKind.i64 (x4+(1:Int))) x5 x6 x7 (x8++[0]:LI))) none))) none) none) (cX (.exit 2) { sl:=[(2,.l 2 0),(8,.v (.sc (.g 0))),(9,.v (.sc (.bool x3))),(57,.l 2 0)],lo:=[],h:=[.row 3 iT (x8)],n0:=0,w:=false })):=by kernel_rfl
theorem lLae (k m:Nat):∀ (n:Nat) (x0:LI) (x1:LI) (x2:Int) (x3:Bool) (x4:Int) (x5:LI) (x6:LL) (x7:LI) (x8:LI) (r:(Bool×(LI))),Lae n x0 x1 x2 x3 x4 x5 x6 x7 x8=some r→zw zP (tn145 34) (TM.evF zP (tn145) dOk (k+40)) dOk (k+40) (za zP (tn0 34) 34 16) 2 16 (n+m) (cLae x0 x1 x2 x3 x4 x5 x6 x7 x8)=some (xLae x0 x1 x2 x3 x4 x5 x6 x7 x8 r):=by
 intro n
 induction n with
 | zero=>intro _ _ _ _ _ _ _ _ _ r h;cases h
 | succ n ih=>
  intro x0 x1 x2 x3 x4 x5 x6 x7 x8 r
  rw [show n+1+m=n+m+1 by omega,zf,bLae,qLae]
  cases (decide (x4 < (x5.length:Int))) with
  | true=>
   cases (decide (0≤x4)) with
   | true=>
    cases (decide (x4 < (x0.length:Int))) with
    | true=>
     cases (decide (List.getD x0 x4.toNat 0 > 0)) with
     | true=>
      cases (decide (x4 < (x1.length:Int))) with
      | true=>
       cases (decide (0≤x2)) with
       | true=>
        cases (decide (x2 < (x5.length:Int))) with
        | true=>
         cases (decide (x2 < (x1.length:Int))) with
         | true=>
          cases (decide (IntKind.wrap IntKind.i64 (IntKind.wrap IntKind.i64 ((2:Int)*List.getD x5 x4.toNat 0)*List.getD x1 x2.toNat 0)≠0)) with
          | true=>
           cases x3 with
           | true=>
            cases (decide (List.length x8+List.length [max (1:Int) (IntKind.wrap IntKind.i64 (Int.tdiv (IntKind.wrap IntKind.i64 (List.getD x0 x4.toNat 0*IntKind.wrap IntKind.i64 (IntKind.wrap IntKind.i64 (List.getD x1 x4.toNat 0*List.getD x5 x2.toNat 0)+IntKind.wrap IntKind.i64 (List.getD x5 x4.toNat 0*List.getD x1 x2.toNat 0)))) (IntKind.wrap IntKind.i64 (IntKind.wrap IntKind.i64 ((2:Int)*List.getD x5 x4.toNat 0)*List.getD x1 x2.toNat 0))))]≤nat_lit 2147483648)) with
            | true=>
             exact ih _ _ _ _ _ _ _ _ _ r
            | false=>
             intro h;cases h
           | false=>
            cases (decide (List.length x8+List.length [max (1:Int) (IntKind.wrap IntKind.i64 (Int.tdiv (IntKind.wrap IntKind.i64 (List.getD x0 x4.toNat 0*IntKind.wrap IntKind.i64 (IntKind.wrap IntKind.i64 (List.getD x1 x4.toNat 0*List.getD x5 x2.toNat 0)+IntKind.wrap IntKind.i64 (List.getD x5 x4.toNat 0*List.getD x1 x2.toNat 0)))) (IntKind.wrap IntKind.i64 (IntKind.wrap IntKind.i64 ((2:Int)*List.getD x5 x4.toNat 0)*List.getD x1 x2.toNat 0))))]≤nat_lit 2147483648)) with
            | true=>
             exact ih _ _ _ _ _ _ _ _ _ r
            | false=>
             intro h;cases h
          | false=>
           intro h;cases h
         | false=>
          intro h;cases h
        | false=>
         intro h;cases h
       | false=>
        intro h;cases h
      | false=>
       intro h;cases h
     | false=>
      cases x3 with
      | true=>
       cases (decide (List.length x8+List.length [0]≤nat_lit 2147483648)) with
       | true=>
        exact ih _ _ _ _ _ _ _ _ _ r
       | false=>
        intro h;cases h
      | false=>
       cases (decide (List.length x8+List.length [0]≤nat_lit 2147483648)) with
       | true=>
        exact ih _ _ _ _ _ _ _ _ _ r
       | false=>
        intro h;cases h
    | false=>
     intro h;cases h
   | false=>
    intro h;cases h
  | false=>
   intro h;cases h;rfl
noncomputable def sLae:TellS:=fun S=>dCS 0 S fun y1 y2 y3=>dSs 1 y1 fun y5 l4=>dD 3 iT y5 fun x0=>dSt 2 l4 fun y7 l6=>dL 2 0 y7<|dSs 5 l6 fun y9 l8=>dD 3 iT y9 fun x1=>dSI 6 .i64 l8 fun x2 l10=>dSs 8 l10 fun y12 l11=>dG 0 y12<|dSs 9 l11 fun y14 l13=>wp y14 fun x3=>dSI 10 .i64 l13 fun x4 l15=>dE l15<|dLo 2 y2 fun y16 l17=>dC y16 fun y18 l19=>dD 3 iT y18 fun x5=>dC l19 fun y20 l21=>dD 22 lT y20 fun x6=>dC l21 fun y22 l23=>dD 3 iT y22 fun x7=>dE l23<|dE l17<|dHR 3 iT y3 fun x8 l24=>dE l24 <|  some [(ok (Lae FU x0 x1 x2 x3 x4 x5 x6 x7 x8),(.exit 2),{ sl:=[(2,.l 2 0),(8,.v (.sc (.g 0))),(9,.v (.sc (.bool ((val (Lae FU x0 x1 x2 x3 x4 x5 x6 x7 x8)).1)))),(57,.l 2 0)],lo:=[],h:=[.row 3 iT ((val (Lae FU x0 x1 x2 x3 x4 x5 x6 x7 x8)).2:LI)],n0:=0,w:=false })]
theorem wLae:zo zP dOk base o145 t145 ((34,16),sLae):=by
 refine ⟨.loop (za zP (tn0 34) 34 16),2,by kernel_rfl,?_⟩
 intro S alts e S' h1 h2
 change sLae S=_ at h1
 unfold sLae at h1
 repeat with_reducible first|replace h1:=zE h1;obtain ⟨_,_,_,rfl,h1⟩:=h1|(first|replace h1:=zJ h1|replace h1:=ye h1|replace h1:=zF h1|replace h1:=yg h1|replace h1:=dCq h1|replace h1:=zV h1);obtain ⟨_,_,rfl,h1⟩:=h1|(first|replace h1:=dDq h1|replace h1:=xO h1);obtain ⟨_,rfl,h1⟩:=h1|(first|replace h1:=dLq h1|replace h1:=dGq h1|replace h1:=dEq h1);obtain ⟨rfl,h1⟩:=h1
 cases h1
 obtain ⟨hc0,rfl,rfl⟩:=zk h2
 exact ⟨FU+40,(zb rfl).trans (lLae FU 40 FU _ _ _ _ _ _ _ _ _ _ (zc hc0))⟩
noncomputable def o146:OrcT:=o145
noncomputable def t146:TellT:=((34,16),sLae)::t145
abbrev tn146:=ze base o146 t146
theorem ok146:OKT tn146:=zq ok145 ok145 (p:=((34,16),sLae)) wLae
noncomputable def Lao:Nat→Bool→Int→LI→Option LI
 | 0,_,_,_=>none
 | n+1,x0,x1,x2=>(cond (decide (x1 < (x2.length:Int))) (cond x0 (cond (decide (0≤x1)) (cond (decide (x1.toNat < List.length x2)) (Lao n x0 (IntKind.wrap IntKind.i64 (x1+(1:Int))) (List.set x2 x1.toNat (IntKind.wrap IntKind.i64 ((2:Int)*List.getD x2 x1.toNat 0)))) none) none) (some x2)) (some x2))
theorem qLao:type_of% @Lao.eq_2:=@Lao.eq_2
noncomputable def xLao (x0:Bool) (x1:Int) (x2:LI):LI→Ex×CS:=fun r=>((.exit 4),{ sl:=[(8,.v (.sc (.g 0)))],lo:=[],h:=[.row 3 iT (r:LI)],n0:=0,w:=false })
abbrev cLao (x0:Bool) (x1:Int) (x2:LI):CS:={ sl:=[(8,.v (.sc (.g 0))),(9,.v (.sc (.bool x0))),(12,.v (.sc (I4 x1)))],lo:=[],h:=[.row 3 iT (x2)],n0:=0,w:=false }
theorem bLao (k:Nat) (cN:KN) (cX:KX) (x0:Bool) (x1:Int) (x2:LI):zi zP (tn146 34) (TM.evF zP (tn146) dOk (k+40)) dOk (k+40) (za zP (tn0 34) 34 32) 4 32 (cLao x0 x1 x2) cN cX=(cond (decide (x1 < (x2.length:Int))) (cond x0 (cond (decide (0≤x1)) (cond (decide (x1 < (x2.length:Int))) (cond (decide (x1.toNat < List.length x2)) (cond (decide (0≤x1)) (cond (decide (x1 < (x2.length:Int))) (cond (decide (x1.toNat < List.length x2)) (cN (cLao x0 (IntKind.wrap IntKind.i64 (x1+(1:Int))) (List.set x2 x1.toNat (IntKind.wrap IntKind.i64 ((2:Int)*List.getD x2 x1.toNat 0)):LI))) none) none) none) none) none) none) (cP cX (xLao x0 x1 x2 x2))) (cP cX (xLao x0 x1 x2 x2))):=by kernel_rfl
theorem lLao (k m:Nat):∀ (n:Nat) (x0:Bool) (x1:Int) (x2:LI) (r:LI),Lao n x0 x1 x2=some r→zw zP (tn146 34) (TM.evF zP (tn146) dOk (k+40)) dOk (k+40) (za zP (tn0 34) 34 32) 4 32 (n+m) (cLao x0 x1 x2)=some (xLao x0 x1 x2 r):=by
 intro n
 induction n with
 | zero=>intro _ _ _ r h;cases h
 | succ n ih=>
  intro x0 x1 x2 r
  rw [show n+1+m=n+m+1 by omega,zf,bLao,qLao]
  cases (decide (x1 < (x2.length:Int))) with
  | true=>
   cases x0 with
   | true=>
    cases (decide (0≤x1)) with
    | true=>
     cases (decide (x1.toNat < List.length x2)) with
     | true=>
      exact ih _ _ _ r
     | false=>
      intro h;cases h
    | false=>
     intro h;cases h
   | false=>
    intro h;cases h;rfl
  | false=>
   intro h;cases h;rfl
noncomputable def sLao:TellS:=fun S=>dCS 0 S fun y1 y2 y3=>dSs 8 y1 fun y5 l4=>dG 0 y5<|dSs 9 l4 fun y7 l6=>wp y7 fun x0=>dSI 12 .i64 l6 fun x1 l8=>dE l8<|dE y2<|dHR 3 iT y3 fun x2 l9=>dE l9 <|  some [te (Lao FU x0 x1 x2) (xLao x0 x1 x2)]
theorem wLao:zo zP dOk base o146 t146 ((34,32),sLao):=by
 refine ⟨.loop (za zP (tn0 34) 34 32),4,by kernel_rfl,?_⟩
 intro S alts e S' h1 h2
 change sLao S=_ at h1
 unfold sLao at h1
 repeat with_reducible first|replace h1:=zE h1;obtain ⟨_,_,_,rfl,h1⟩:=h1|(first|replace h1:=zJ h1|replace h1:=zF h1|replace h1:=zV h1);obtain ⟨_,_,rfl,h1⟩:=h1|(first|replace h1:=dGq h1|replace h1:=dEq h1);obtain ⟨rfl,h1⟩:=h1|replace h1:=xO h1;obtain ⟨_,rfl,h1⟩:=h1
 cases h1
 obtain ⟨hc0,rfl,rfl⟩:=zk h2
 exact ⟨FU+40,(zb rfl).trans (lLao FU 40 FU _ _ _ _ (zc hc0))⟩
noncomputable def o147:OrcT:=o146
noncomputable def t147:TellT:=((34,32),sLao)::t146
abbrev tn147:=ze base o147 t147
theorem ok147:OKT tn147:=zq ok146 ok146 (p:=((34,32),sLao)) wLao
noncomputable def tv34 {β:Type} (x0:LI) (x1:LL) (x2:LI) (x3:LI) (K:LI→Option β):Option β:=(cond (ok (v56 x0 x1 x2 x3)) (cond (ok (Lad FU x3 (val (v56 x0 x1 x2 x3)) (-1:Int) 0 x0 x1 x2)) (cond (ok (Lae FU x3 (val (v56 x0 x1 x2 x3)) (val (Lad FU x3 (val (v56 x0 x1 x2 x3)) (-1:Int) 0 x0 x1 x2)) true 0 x0 x1 x2 [])) (cond (ok (Lao FU (val (Lae FU x3 (val (v56 x0 x1 x2 x3)) (val (Lad FU x3 (val (v56 x0 x1 x2 x3)) (-1:Int) 0 x0 x1 x2)) true 0 x0 x1 x2 [])).1 0 (val (Lae FU x3 (val (v56 x0 x1 x2 x3)) (val (Lad FU x3 (val (v56 x0 x1 x2 x3)) (-1:Int) 0 x0 x1 x2)) true 0 x0 x1 x2 [])).2)) (K (val (Lao FU (val (Lae FU x3 (val (v56 x0 x1 x2 x3)) (val (Lad FU x3 (val (v56 x0 x1 x2 x3)) (-1:Int) 0 x0 x1 x2)) true 0 x0 x1 x2 [])).1 0 (val (Lae FU x3 (val (v56 x0 x1 x2 x3)) (val (Lad FU x3 (val (v56 x0 x1 x2 x3)) (-1:Int) 0 x0 x1 x2)) true 0 x0 x1 x2 [])).2))) none) none) none) none)
noncomputable def v34 (x0:LI) (x1:LL) (x2:LI) (x3:LI):Option LI:=tv34 x0 x1 x2 x3 some
theorem ev34 (x0:LI) (x1:LL) (x2:LI) (x3:LI):zn zP (tn147 34) (TM.evF zP (tn147) dOk 40) dOk 40 34 [.agg [.d 3 iT (x0),.d 22 lT (x1),.d 3 iT (x2)],.sc (.d 3 iT x3)] []=(v34 x0 x1 x2 x3).bind fun r=>some ([.sc (.d 3 iT (r:LI))],[]):=by
 refine Eq.trans (b:=tv34 x0 x1 x2 x3 fun r=>some ([.sc (.d 3 iT (r:LI))],[])) (by kernel_rfl) ?_
 unfold v34 tv34
 with_reducible repeat' refine zj ?_ ?_
 all_goals rfl
noncomputable def sv34:OrcS:=fun al H=>dC al fun y1 l2=>dA y1 fun y3=>dC y3 fun y4 l5=>dD 3 iT y4 fun x0=>dC l5 fun y6 l7=>dD 22 lT y6 fun x1=>dC l7 fun y8 l9=>dD 3 iT y8 fun x2=>dE l9<|dC l2 fun y10 l11=>dS y10 fun y12=>dD 3 iT y12 fun x3=>dE l11<|dE H <|  some [(ok (v34 x0 x1 x2 x3),[.sc (.d 3 iT ((val (v34 x0 x1 x2 x3)):LI))],[])]
theorem wv34:zl zP dOk base o147 t147 (34,sv34):=by
 intro al H q hq rs H2 h2
 change sv34 al H=_ at hq
 unfold sv34 at hq
 repeat with_reducible first|replace hq:=dCq hq;obtain ⟨_,_,rfl,hq⟩:=hq|(first|replace hq:=dAq hq|replace hq:=dDq hq|replace hq:=dSq hq);obtain ⟨_,rfl,hq⟩:=hq|replace hq:=dEq hq;obtain ⟨rfl,hq⟩:=hq
 cases hq
 obtain ⟨hc0,rfl,rfl⟩:=zd h2
 exact ⟨41,(zu (by kernel_rfl)).trans ((ev34 _ _ _ _).trans (zh (zc hc0)))⟩
noncomputable def o148:OrcT:=(34,sv34)::o147
noncomputable def t148:TellT:=t147
abbrev tn148:=ze base o148 t148
theorem ok148:OKT tn148:=zm ok147 ok147 (p:=(34,sv34)) wv34
noncomputable def Lat:Nat→Int→Int→LI→LL→LI→Int→LL→LI→Option ((Int×Int) ⊕ Unit)
 | 0,_,_,_,_,_,_,_,_=>none
 | n+1,x0,x1,x2,x3,x4,x5,x6,x7=>(cond (decide (x1 < (x2.length:Int))) (cond (ok (v31 x2 x3 x4 x1)) (cond (val (v31 x2 x3 x4 x1)) (cond (decide (0≤x1)) (cond (List.getD x2 x1.toNat 0==0) (some (.inl ((4:Int),0))) (Lat n x0 (IntKind.wrap IntKind.i64 (x1+(1:Int))) x2 x3 x4 x5 x6 x7)) none) (Lat n x0 (IntKind.wrap IntKind.i64 (x1+(1:Int))) x2 x3 x4 x5 x6 x7)) none) (some (.inr ())))
theorem qLat:type_of% @Lat.eq_2:=@Lat.eq_2
noncomputable def xLat (x0 x1:Int) (x2:LI) (x3:LL) (x4:LI) (x5:Int) (x6:LL) (x7:LI):((Int×Int) ⊕ Unit)→Ex×CS:=fun r=>match r with | .inl a0=>(.ret,{ sl:=[(4,.l 4 0),(5,.v (.sc (I4 (a0.1))))],lo:=[(4,[.nil,.nil,I4 (a0.2)])],h:=[],n0:=0,w:=true }) | .inr b0=>((.exit 0),{ sl:=[(1,.v (.sc (I4 x0))),(2,.l 2 0),(4,.l 4 0),(26,.l 2 0)],lo:=[(2,[.d 3 iT (x2),.d 22 lT (x3),.d 3 iT (x4)]),(4,[.g 0,.g 1,I4 (x5)])],h:=[.row 22 lT (x6),.row 3 iT (x7)],n0:=0,w:=false })
abbrev cLat (x0 x1:Int) (x2:LI) (x3:LL) (x4:LI) (x5:Int) (x6:LL) (x7:LI):CS:={ sl:=[(1,.v (.sc (I4 x0))),(2,.l 2 0),(4,.l 4 0),(6,.v (.sc (I4 x1)))],lo:=[(2,[.d 3 iT (x2),.d 22 lT (x3),.d 3 iT (x4)]),(4,[.g 0,.g 1,I4 (x5)])],h:=[.row 22 lT (x6),.row 3 iT (x7)],n0:=0,w:=false }
theorem bLat (k:Nat) (cN:KN) (cX:KX) (x0 x1:Int) (x2:LI) (x3:LL) (x4:LI) (x5:Int) (x6:LL) (x7:LI):zi zP (tn148 14) (TM.evF zP (tn148) dOk (k+40)) dOk (k+40) (za zP (tn0 14) 14 0) 0 0 (cLat x0 x1 x2 x3 x4 x5 x6 x7) cN cX=(cond (decide (x1 < (x2.length:Int))) (cond (ok (v31 x2 x3 x4 x1)) (cond (val (v31 x2 x3 x4 x1)) (cond (decide (0≤x1)) (cond (decide (x1 < (x2.length:Int))) (cond (List.getD x2 x1.toNat 0==0) (cX .ret { sl:=[(4,.l 4 0),(5,.v (.sc (I4 ((4:Int)))))],lo:=[(4,[.nil,.nil,I4 (0)])],h:=[],n0:=0,w:=true }) (cN (cLat x0 (IntKind.wrap IntKind.i64 (x1+(1:Int))) x2 x3 x4 x5 x6 x7))) none) none) (cN (cLat x0 (IntKind.wrap IntKind.i64 (x1+(1:Int))) x2 x3 x4 x5 x6 x7))) none) (cX (.exit 0) { sl:=[(1,.v (.sc (I4 x0))),(2,.l 2 0),(4,.l 4 0),(26,.l 2 0)],lo:=[(2,[.d 3 iT (x2),.d 22 lT (x3),.d 3 iT (x4)]),(4,[.g 0,.g 1,I4 (x5)])],h:=[.row 22 lT (x6),.row 3 iT (x7)],n0:=0,w:=false })):=by kernel_rfl
theorem lLat (k m:Nat):∀ (n:Nat) (x0 x1:Int) (x2:LI) (x3:LL) (x4:LI) (x5:Int) (x6:LL) (x7:LI) (r:((Int×Int) ⊕ Unit)),Lat n x0 x1 x2 x3 x4 x5 x6 x7=some r→zw zP (tn148 14) (TM.evF zP (tn148) dOk (k+40)) dOk (k+40) (za zP (tn0 14) 14 0) 0 0 (n+m) (cLat x0 x1 x2 x3 x4 x5 x6 x7)=some (xLat x0 x1 x2 x3 x4 x5 x6 x7 r):=by
 intro n
 induction n with
 | zero=>intro _ _ _ _ _ _ _ _ r h;cases h
 | succ n ih=>
  intro x0 x1 x2 x3 x4 x5 x6 x7 r
  rw [show n+1+m=n+m+1 by omega,zf,bLat,qLat]
  cases (decide (x1 < (x2.length:Int))) with
  | true=>
   cases (ok (v31 x2 x3 x4 x1)) with
   | true=>
    cases (val (v31 x2 x3 x4 x1)) with
    | true=>
     cases (decide (0≤x1)) with
     | true=>
      cases (List.getD x2 x1.toNat 0==0) with
      | true=>
       intro h;cases h;rfl
      | false=>
       exact ih _ _ _ _ _ _ _ _ r
     | false=>
      intro h;cases h
    | false=>
     exact ih _ _ _ _ _ _ _ _ r
   | false=>
    intro h;cases h
  | false=>
   intro h;cases h;rfl
noncomputable def sLat:TellS:=fun S=>dCS 0 S fun y1 y2 y3=>dSI 1 .i64 y1 fun x0 l4=>dSt 2 l4 fun y6 l5=>dL 2 0 y6<|dSt 4 l5 fun y8 l7=>dL 4 0 y8<|dSI 6 .i64 l7 fun x1 l9=>dE l9<|dLo 2 y2 fun y10 l11=>dC y10 fun y12 l13=>dD 3 iT y12 fun x2=>dC l13 fun y14 l15=>dD 22 lT y14 fun x3=>dC l15 fun y16 l17=>dD 3 iT y16 fun x4=>dE l17<|dLo 4 l11 fun y18 l19=>dC y18 fun y20 l21=>dG 0 y20<|dC l21 fun y22 l23=>dG 1 y22<|dK l23 fun x5 l24=>dE l24<|dE l19<|dHR 22 lT y3 fun x6 l25=>dHR 3 iT l25 fun x7 l26=>dE l26 <|  some [(isL (Lat FU x0 x1 x2 x3 x4 x5 x6 x7),.ret,{ sl:=[(4,.l 4 0),(5,.v (.sc (I4 ((zH (Lat FU x0 x1 x2 x3 x4 x5 x6 x7)).1))))],lo:=[(4,[.nil,.nil,I4 ((zH (Lat FU x0 x1 x2 x3 x4 x5 x6 x7)).2)])],h:=[],n0:=0,w:=true }),(ok (zA (Lat FU x0 x1 x2 x3 x4 x5 x6 x7)),(.exit 0),{ sl:=[(1,.v (.sc (I4 x0))),(2,.l 2 0),(4,.l 4 0),(26,.l 2 0)],lo:=[(2,[.d 3 iT (x2),.d 22 lT (x3),.d 3 iT (x4)]),(4,[.g 0,.g 1,I4 (x5)])],h:=[.row 22 lT (x6),.row 3 iT (x7)],n0:=0,w:=false })]
theorem wLat:zo zP dOk base o148 t148 ((14,0),sLat):=by
 refine ⟨.loop (za zP (tn0 14) 14 0),0,by kernel_rfl,?_⟩
 intro S alts e S' h1 h2
 change sLat S=_ at h1
 unfold sLat at h1
 repeat with_reducible first|replace h1:=zE h1;obtain ⟨_,_,_,rfl,h1⟩:=h1|(first|replace h1:=zF h1|replace h1:=ye h1|replace h1:=yg h1|replace h1:=dCq h1|replace h1:=zQ h1|replace h1:=zV h1);obtain ⟨_,_,rfl,h1⟩:=h1|(first|replace h1:=dLq h1|replace h1:=dEq h1|replace h1:=dGq h1);obtain ⟨rfl,h1⟩:=h1|replace h1:=dDq h1;obtain ⟨_,rfl,h1⟩:=h1
 cases h1
 rcases zK h2 with ⟨hc0,rfl,rfl⟩ | h2
 · exact ⟨FU+40,(zb rfl).trans (lLat FU 40 FU _ _ _ _ _ _ _ _ _ (zT hc0))⟩
 obtain ⟨hc1,rfl,rfl⟩:=zk h2
 exact ⟨FU+40,(zb rfl).trans (lLat FU 40 FU _ _ _ _ _ _ _ _ _ (zN (zc hc1)))⟩
noncomputable def o149:OrcT:=o148
noncomputable def t149:TellT:=((14,0),sLat)::t148
abbrev tn149:=ze base o149 t149
theorem ok149:OKT tn149:=zq ok148 ok148 (p:=((14,0),sLat)) wLat
end
end Go.Proofs.Ytgmebdomopdgmaa
