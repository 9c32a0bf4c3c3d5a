/- What some functions and loops come to: printed and checked. Written by a program of ours. -/
import Derived.Test.YtgmebdomopdgmaaG4
set_option linter.all false
set_option maxRecDepth 1000000
set_option maxHeartbeats 4000000
namespace Go.Proofs.Ytgmebdomopdgmaa
open Go Go.AM Go.TM Go.Proofs
noncomputable section
noncomputable def Lah:Nat→Int→LI→Int→LI→LL→LI→Int→LL→LI→Int→LL→LI→Option ((LL)×(LI)×Int)
 | 0,_,_,_,_,_,_,_,_,_,_,_,_=>none
 | n+1,x0,x1,x2,x3,x4,x5,x6,x7,x8,x9,A,B=>(cond (decide (x2 < x0)) (cond (ok (v34 x3 x4 x5 x1)) (cond (ok (v33 x3 x4 x5 (val (v34 x3 x4 x5 x1)))) (cond (val (v33 x3 x4 x5 (val (v34 x3 x4 x5 x1)))).2.2.2 (cond (decide ((val (v33 x3 x4 x5 (val (v34 x3 x4 x5 x1)))).2.2.1 < x9)) (Lah n x0 (val (v34 x3 x4 x5 x1)) (IntKind.wrap IntKind.i64 (x2+(1:Int))) x3 x4 x5 x6 (val (v33 x3 x4 x5 (val (v34 x3 x4 x5 x1)))).1 (val (v33 x3 x4 x5 (val (v34 x3 x4 x5 x1)))).2.1 (val (v33 x3 x4 x5 (val (v34 x3 x4 x5 x1)))).2.2.1 A B) (Lah n x0 (val (v34 x3 x4 x5 x1)) (IntKind.wrap IntKind.i64 (x2+(1:Int))) x3 x4 x5 x6 x7 x8 x9 A B)) (Lah n x0 (val (v34 x3 x4 x5 x1)) (IntKind.wrap IntKind.i64 (x2+(1:Int))) x3 x4 x5 x6 x7 x8 x9 A B)) none) none) (some (x7,x8,x9)))
theorem qLah:type_of% @Lah.eq_2:=@Lah.eq_2
noncomputable def xLah (x0:Int) (x1:LI) (x2:Int) (x3:LI) (x4:LL) (x5:LI) (x6:Int) (x7:LL) (x8:LI) (x9:Int) (A:LL) (B:LI):((LL)×(LI)×Int)→Ex×CS:=fun r=>((.exit 2),{ sl:=[(2,.l 2 0),(4,.l 4 0),(8,.l 8 0)],lo:=[(4,[.g 0,.g 1,I4 (x6)]),(8,[.d 22 lT (r.1:LL),.d 3 iT (r.2.1:LI),I4 (r.2.2)])],h:=[.row 22 lT (A),.row 3 iT (B)],n0:=0,w:=false })
abbrev cLah (x0:Int) (x1:LI) (x2:Int) (x3:LI) (x4:LL) (x5:LI) (x6:Int) (x7:LL) (x8:LI) (x9:Int) (A:LL) (B:LI):CS:={ sl:=[(1,.v (.sc (I4 x0))),(2,.l 2 0),(4,.l 4 0),(7,.v (.sc (.d 3 iT x1))),(8,.l 8 0),(10,.v (.sc (I4 x2)))],lo:=[(2,[.d 3 iT (x3),.d 22 lT (x4),.d 3 iT (x5)]),(4,[.g 0,.g 1,I4 (x6)]),(8,[.d 22 lT (x7),.d 3 iT (x8),I4 (x9)])],h:=[.row 22 lT (A),.row 3 iT (B)],n0:=0,w:=false }
theorem bLah (k:Nat) (cN:KN) (cX:KX) (x0:Int) (x1:LI) (x2:Int) (x3:LI) (x4:LL) (x5:LI) (x6:Int) (x7:LL) (x8:LI) (x9:Int) (A:LL) (B:LI):zi zP (tn149 14) (TM.evF zP (tn149) dOk (k+40)) dOk (k+40) (za zP (tn0 14) 14 16) 2 16 (cLah x0 x1 x2 x3 x4 x5 x6 x7 x8 x9 A B) cN cX=(cond (decide (x2 < x0)) (cond (ok (v34 x3 x4 x5 x1)) (cond (ok (v33 x3 x4 x5 (val (v34 x3 x4 x5 x1)))) (cond (val (v33 x3 x4 x5 (val (v34 x3 x4 x5 x1)))).2.2.2 (cond (decide ((val (v33 x3 x4 x5 (val (v34 x3 x4 x5 x1)))).2.2.1 < x9)) (cN (cLah x0 (val (v34 x3 x4 x5 x1):LI) (IntKind.wrap IntKind.i64 (x2+(1:Int))) x3 x4 x5 x6 ((val (v33 x3 x4 x5 (val (v34 x3 x4 x5 x1)))).1:LL) ((val (v33 x3 x4 x5 (val (v34 x3 x4 x5 x1)))).2.1:LI) (val (v33 x3 x4 x5 (val (v34 x3 x4 x5 x1)))).2.2.1 A B)) (cN (cLah x0 (val (v34 x3 x4 x5 x1):LI) (IntKind.wrap IntKind.i64 (x2+(1:Int))) x3 x4 x5 x6 x7 x8 x9 A B))) (cN (cLah x0 (val (v34 x3 x4 x5 x1):LI) (IntKind.wrap IntKind.i64 (x2+(1:Int))) x3 x4 x5 x6 x7 x8 x9 A B))) none) none) (cX (.exit 2) { sl:=[(2,.l 2 0),(4,.l 4 0),(8,.l 8 0)],lo:=[(4,[.g 0,.g 1,I4 (x6)]),(8,[.d 22 lT (x7),.d 3 iT (x8),I4 (x9)])],h:=[.row 22 lT (A),.row 3 iT (B)],n0:=0,w:=false })):=by kernel_rfl
theorem lLah (k m:Nat):∀ (n:Nat) (x0:Int) (x1:LI) (x2:Int) (x3:LI) (x4:LL) (x5:LI) (x6:Int) (x7:LL) (x8:LI) (x9:Int) (A:LL) (B:LI) (r:((LL)×(LI)×Int)),Lah n x0 x1 x2 x3 x4 x5 x6 x7 x8 x9 A B=some r→zw zP (tn149 14) (TM.evF zP (tn149) dOk (k+40)) dOk (k+40) (za zP (tn0 14) 14 16) 2 16 (n+m) (cLah x0 x1 x2 x3 x4 x5 x6 x7 x8 x9 A B)=some (xLah x0 x1 x2 x3 x4 x5 x6 x7 x8 x9 A B r):=by
 intro n
 induction n with
 | zero=>intro _ _ _ _ _ _ _ _ _ _ _ _ r h;cases h
 | succ n ih=>
  intro x0 x1 x2 x3 x4 x5 x6 x7 x8 x9 A B r
  rw [show n+1+m=n+m+1 by omega,zf,bLah,qLah]
  with_reducible repeat' refine zS ?_ ?_
  all_goals first | exact ih _ _ _ _ _ _ _ _ _ _ _ _ r | (intro h;cases h;done) | (intro h;cases h;rfl)
noncomputable def sLah:TellS:=fun S=>dCS 0 S fun y1 y2 y3=>dSI 1 .i64 y1 fun x0 l4=>dSt 2 l4 fun y6 l5=>dL 2 0 y6<|dSt 4 l5 fun y8 l7=>dL 4 0 y8<|dSs 7 l7 fun y10 l9=>dD 3 iT y10 fun x1=>dSt 8 l9 fun y12 l11=>dL 8 0 y12<|dSI 10 .i64 l11 fun x2 l13=>dE l13<|dLo 2 y2 fun y14 l15=>dC y14 fun y16 l17=>dD 3 iT y16 fun x3=>dC l17 fun y18 l19=>dD 22 lT y18 fun x4=>dC l19 fun y20 l21=>dD 3 iT y20 fun x5=>dE l21<|dLo 4 l15 fun y22 l23=>dC y22 fun y24 l25=>dG 0 y24<|dC l25 fun y26 l27=>dG 1 y26<|dK l27 fun x6 l28=>dE l28<|dLo 8 l23 fun y29 l30=>dC y29 fun y31 l32=>dD 22 lT y31 fun x7=>dC l32 fun y33 l34=>dD 3 iT y33 fun x8=>dK l34 fun x9 l35=>dE l35<|dE l30<|dHR 22 lT y3 fun A l36=>dHR 3 iT l36 fun B l37=>dE l37 <|  some [(ok (Lah FU x0 x1 x2 x3 x4 x5 x6 x7 x8 x9 A B),(.exit 2),{ sl:=[(2,.l 2 0),(4,.l 4 0),(8,.l 8 0)],lo:=[(4,[.g 0,.g 1,I4 (x6)]),(8,[.d 22 lT ((val (Lah FU x0 x1 x2 x3 x4 x5 x6 x7 x8 x9 A B)).1:LL),.d 3 iT ((val (Lah FU x0 x1 x2 x3 x4 x5 x6 x7 x8 x9 A B)).2.1:LI),I4 ((val (Lah FU x0 x1 x2 x3 x4 x5 x6 x7 x8 x9 A B)).2.2)])],h:=[.row 22 lT (A),.row 3 iT (B)],n0:=0,w:=false })]
theorem wLah:zo zP dOk base o149 t149 ((14,16),sLah):=by
 refine ⟨.loop (za zP (tn0 14) 14 16),2,by kernel_rfl,?_⟩
 intro S alts e S' h1 h2
 change sLah S=_ at h1
 unfold sLah at h1
 repeat with_reducible first|replace h1:=zE h1;obtain ⟨_,_,_,rfl,h1⟩:=h1|(first|replace h1:=zF h1|replace h1:=ye h1|replace h1:=zJ h1|replace h1:=yg h1|replace h1:=dCq h1|replace h1:=zQ h1|replace h1:=zV h1);obtain ⟨_,_,rfl,h1⟩:=h1|(first|replace h1:=dLq h1|replace h1:=dEq h1|replace h1:=dGq h1);obtain ⟨rfl,h1⟩:=h1|replace h1:=dDq h1;obtain ⟨_,rfl,h1⟩:=h1
 cases h1
 obtain ⟨hc0,rfl,rfl⟩:=zk h2
 exact ⟨FU+40,(zb rfl).trans (lLah FU 40 FU _ _ _ _ _ _ _ _ _ _ _ _ _ (zc hc0))⟩
noncomputable def o150:OrcT:=o149
noncomputable def t150:TellT:=((14,16),sLah)::t149
abbrev tn150:=ze base o150 t150
theorem ok150:OKT tn150:=zq ok149 ok149 (p:=((14,16),sLah)) wLah
noncomputable def tv14 {β:Type} (x0:LI) (x1:LL) (x2:LI) (x3:Int) (K:((LL)×(LI)×Int×Int)→Option β):Option β:=(cond (ok (v30 x0 x1 x2)) (cond (!val (v30 x0 x1 x2)) (K ([],[],0,(1:Int))) (cond (decide (x3 < 0)) (K ([],[],0,(1:Int))) (cond (decide (x3 > (1000:Int))) (K ([],[],0,(1:Int))) (cond (isL (Lat FU x3 0 x0 x1 x2 0 [] [])) (K ([],[],(zH (Lat FU x3 0 x0 x1 x2 0 [] [])).2,(zH (Lat FU x3 0 x0 x1 x2 0 [] [])).1)) (cond (ok (zA (Lat FU x3 0 x0 x1 x2 0 [] []))) (cond (ok (v32 x0 x1 x2)) (cond (ok (v33 x0 x1 x2 (val (v32 x0 x1 x2)))) (cond (ok (Lah FU x3 (val (v32 x0 x1 x2)) 0 x0 x1 x2 0 (val (v33 x0 x1 x2 (val (v32 x0 x1 x2)))).1 (val (v33 x0 x1 x2 (val (v32 x0 x1 x2)))).2.1 (val (v33 x0 x1 x2 (val (v32 x0 x1 x2)))).2.2.1 [] [])) (K ((val (Lah FU x3 (val (v32 x0 x1 x2)) 0 x0 x1 x2 0 (val (v33 x0 x1 x2 (val (v32 x0 x1 x2)))).1 (val (v33 x0 x1 x2 (val (v32 x0 x1 x2)))).2.1 (val (v33 x0 x1 x2 (val (v32 x0 x1 x2)))).2.2.1 [] [])).1,(val (Lah FU x3 (val (v32 x0 x1 x2)) 0 x0 x1 x2 0 (val (v33 x0 x1 x2 (val (v32 x0 x1 x2)))).1 (val (v33 x0 x1 x2 (val (v32 x0 x1 x2)))).2.1 (val (v33 x0 x1 x2 (val (v32 x0 x1 x2)))).2.2.1 [] [])).2.1,(val (Lah FU x3 (val (v32 x0 x1 x2)) 0 x0 x1 x2 0 (val (v33 x0 x1 x2 (val (v32 x0 x1 x2)))).1 (val (v33 x0 x1 x2 (val (v32 x0 x1 x2)))).2.1 (val (v33 x0 x1 x2 (val (v32 x0 x1 x2)))).2.2.1 [] [])).2.2,0)) none) none) none) none))))) none)
noncomputable def v14 (x0:LI) (x1:LL) (x2:LI) (x3:Int):Option ((LL)×(LI)×Int×Int):=tv14 x0 x1 x2 x3 some
theorem ev14 (x0:LI) (x1:LL) (x2:LI) (x3:Int):zn zP (tn150 14) (TM.evF zP (tn150) dOk 40) dOk 40 14 [.agg [.d 3 iT (x0),.d 22 lT (x1),.d 3 iT (x2)],.sc (I4 x3)] []=(v14 x0 x1 x2 x3).bind fun r=>some ([.agg [.d 22 lT (r.1:LL),.d 3 iT (r.2.1:LI),I4 (r.2.2.1)],.sc (I4 (r.2.2.2))],[]):=by
 refine Eq.trans (b:=tv14 x0 x1 x2 x3 fun r=>some ([.agg [.d 22 lT (r.1:LL),.d 3 iT (r.2.1:LI),I4 (r.2.2.1)],.sc (I4 (r.2.2.2))],[])) (by kernel_rfl) ?_
 unfold v14 tv14
 with_reducible repeat' refine zj ?_ ?_
 all_goals rfl
noncomputable def sv14:OrcS:=fun al H=>dC al fun y1 l2=>dA y1 fun y3=>dC y3 fun y4 l5=>dD 3 iT y4 fun x0=>dC l5 fun y6 l7=>dD 22 lT y6 fun x1=>dC l7 fun y8 l9=>dD 3 iT y8 fun x2=>dE l9<|dC l2 fun y10 l11=>dS y10 fun y12=>yO .i64 y12 fun x3=>dE l11<|dE H <|  some [(ok (v14 x0 x1 x2 x3),[.agg [.d 22 lT ((val (v14 x0 x1 x2 x3)).1:LL),.d 3 iT ((val (v14 x0 x1 x2 x3)).2.1:LI),I4 ((val (v14 x0 x1 x2 x3)).2.2.1)],.sc (I4 ((val (v14 x0 x1 x2 x3)).2.2.2))],[])]
theorem wv14:zl zP dOk base o150 t150 (14,sv14):=by
 intro al H q hq rs H2 h2
 change sv14 al H=_ at hq
 unfold sv14 at hq
 repeat with_reducible first|replace hq:=dCq hq;obtain ⟨_,_,rfl,hq⟩:=hq|(first|replace hq:=dAq hq|replace hq:=dDq hq|replace hq:=dSq hq|replace hq:=yV hq);obtain ⟨_,rfl,hq⟩:=hq|replace hq:=dEq hq;obtain ⟨rfl,hq⟩:=hq
 cases hq
 obtain ⟨hc0,rfl,rfl⟩:=zd h2
 exact ⟨41,(zu (by kernel_rfl)).trans ((ev14 _ _ _ _).trans (zh (zc hc0)))⟩
noncomputable def o151:OrcT:=(14,sv14)::o150
noncomputable def t151:TellT:=t150
abbrev tn151:=ze base o151 t151
theorem ok151:OKT tn151:=zm ok150 ok150 (p:=(14,sv14)) wv14
noncomputable def Lbr (x0:Int) (x1:Bool) (x2:LI) (x3:LL) (x4:LI):Option Bool:=(cond (ok (v13 x2 x3 x4 x0)) (cond (ok (v14 x2 x3 x4 x0)) (cond x1 (cond (ok (v15 (val (v13 x2 x3 x4 x0)).1 (val (v13 x2 x3 x4 x0)).2.1 (val (v13 x2 x3 x4 x0)).2.2.1 (val (v14 x2 x3 x4 x0)).1 (val (v14 x2 x3 x4 x0)).2.1 (val (v14 x2 x3 x4 x0)).2.2.1)) (cond (val (v15 (val (v13 x2 x3 x4 x0)).1 (val (v13 x2 x3 x4 x0)).2.1 (val (v13 x2 x3 x4 x0)).2.2.1 (val (v14 x2 x3 x4 x0)).1 (val (v14 x2 x3 x4 x0)).2.1 (val (v14 x2 x3 x4 x0)).2.2.1)) (some ((val (v13 x2 x3 x4 x0)).2.2.2==(val (v14 x2 x3 x4 x0)).2.2.2)) (some (false))) none) (some (false))) none) none)
noncomputable def xLbr (x0:Int) (x1:Bool) (x2:LI) (x3:LL) (x4:LI):Bool→Ex×CS:=fun r=>(.ret,{ sl:=[(4,.v (.sc (.bool (r))))],lo:=[],h:=[],n0:=0,w:=true })
theorem bLbr (k:Nat) (cX:Ex→CS→Option (Ex×CS)) (x0:Int) (x1:Bool) (x2:LI) (x3:LL) (x4:LI):Vd zP (tn151 3) (TM.evF zP (tn151) dOk (k+40)) dOk (k+40) (za zP (tn0 3) 3 36) 0 36 { sl:=[(1,.v (.sc (I4 x0))),(2,.l 2 0),(5,.v (.sc (.bool x1)))],lo:=[(2,[.d 3 iT (x2),.d 22 lT (x3),.d 3 iT (x4)])],h:=[],n0:=0,w:=false } cX=(cond (ok (v13 x2 x3 x4 x0)) (cond (ok (v14 x2 x3 x4 x0)) (cond x1 (cond (ok (v15 (val (v13 x2 x3 x4 x0)).1 (val (v13 x2 x3 x4 x0)).2.1 (val (v13 x2 x3 x4 x0)).2.2.1 (val (v14 x2 x3 x4 x0)).1 (val (v14 x2 x3 x4 x0)).2.1 (val (v14 x2 x3 x4 x0)).2.2.1)) (cond (val (v15 (val (v13 x2 x3 x4 x0)).1 (val (v13 x2 x3 x4 x0)).2.1 (val (v13 x2 x3 x4 x0)).2.2.1 (val (v14 x2 x3 x4 x0)).1 (val (v14 x2 x3 x4 x0)).2.1 (val (v14 x2 x3 x4 x0)).2.2.1)) (cP cX (xLbr x0 x1 x2 x3 x4 ((val (v13 x2 x3 x4 x0)).2.2.2==(val (v14 x2 x3 x4 x0)).2.2.2))) (cP cX (xLbr x0 x1 x2 x3 x4 (false)))) none) (cP cX (xLbr x0 x1 x2 x3 x4 (false)))) none) none):=by kernel_rfl
theorem lLbr (k:Nat) (x0:Int) (x1:Bool) (x2:LI) (x3:LL) (x4:LI) (r:Bool):Lbr x0 x1 x2 x3 x4=some r→Vd zP (tn151 3) (TM.evF zP (tn151) dOk (k+40)) dOk (k+40) (za zP (tn0 3) 3 36) 0 36 { sl:=[(1,.v (.sc (I4 x0))),(2,.l 2 0),(5,.v (.sc (.bool x1)))],lo:=[(2,[.d 3 iT (x2),.d 22 lT (x3),.d 3 iT (x4)])],h:=[],n0:=0,w:=false } (fun e s=>some (e,s))=some (xLbr x0 x1 x2 x3 x4 r):=by
 rw [bLbr]
 unfold Lbr
 refine zS ?_ ?_
 refine zS ?_ ?_
 refine zS ?_ ?_
 refine zS ?_ ?_
 refine zS ?_ ?_
 intro h;cases h;rfl
 intro h;cases h;rfl
 intro h;cases h
 intro h;cases h;rfl
 intro h;cases h
 intro h;cases h
noncomputable def sLbr:TellS:=fun S=>dCS 0 S fun y1 y2 y3=>dSI 1 .i64 y1 fun x0 l4=>dSt 2 l4 fun y6 l5=>dL 2 0 y6<|dSs 5 l5 fun y8 l7=>wp y8 fun x1=>dE l7<|dLo 2 y2 fun y9 l10=>dC y9 fun y11 l12=>dD 3 iT y11 fun x2=>dC l12 fun y13 l14=>dD 22 lT y13 fun x3=>dC l14 fun y15 l16=>dD 3 iT y15 fun x4=>dE l16<|dE l10<|dE y3 <|  some [(ok (Lbr x0 x1 x2 x3 x4),.ret,{ sl:=[(4,.v (.sc (.bool ((val (Lbr x0 x1 x2 x3 x4))))))],lo:=[],h:=[],n0:=0,w:=true })]
theorem wLbr:zo zP dOk base o151 t151 ((3,36),sLbr):=by
 refine ⟨(za zP (tn0 3) 3 36),0,by kernel_rfl,?_⟩
 intro S alts e S' h1 h2
 change sLbr S=_ at h1
 unfold sLbr at h1
 repeat with_reducible first|replace h1:=zE h1;obtain ⟨_,_,_,rfl,h1⟩:=h1|(first|replace h1:=zF h1|replace h1:=ye h1|replace h1:=zJ h1|replace h1:=yg h1|replace h1:=dCq h1);obtain ⟨_,_,rfl,h1⟩:=h1|(first|replace h1:=dLq h1|replace h1:=dEq h1);obtain ⟨rfl,h1⟩:=h1|(first|replace h1:=xO h1|replace h1:=dDq h1);obtain ⟨_,rfl,h1⟩:=h1
 cases h1
 obtain ⟨hc0,rfl,rfl⟩:=zk h2
 exact ⟨0+40,(QY rfl).trans (lLbr 0 _ _ _ _ _ _ (zc hc0))⟩
noncomputable def o152:OrcT:=o151
noncomputable def t152:TellT:=((3,36),sLbr)::t151
abbrev tn152:=ze base o152 t152
theorem ok152:OKT tn152:=zq ok151 ok151 (p:=((3,36),sLbr)) wLbr
noncomputable def tv3 {β:Type} (x0:LI) (x1:LL) (x2:LI) (x3:Int) (K:Bool→Option β):Option β:=(cond (ok (v12 x0 x1 x2)) (cond (!val (v12 x0 x1 x2)) (K (true)) (cond (decide (x3 > (30:Int))) (cond (decide (x3≤(1000:Int))) (K (true)) (cond (ok (Lbr x3 (val v11) x0 x1 x2)) (K (val (Lbr x3 (val v11) x0 x1 x2))) none)) (cond (ok (Lbr x3 (val v11) x0 x1 x2)) (K (val (Lbr x3 (val v11) x0 x1 x2))) none))) none)
noncomputable def v3 (x0:LI) (x1:LL) (x2:LI) (x3:Int):Option Bool:=tv3 x0 x1 x2 x3 some
theorem ev3 (x0:LI) (x1:LL) (x2:LI) (x3:Int):zn zP (tn152 3) (TM.evF zP (tn152) dOk 40) dOk 40 3 [.agg [.d 3 iT (x0),.d 22 lT (x1),.d 3 iT (x2)],.sc (I4 x3)] []=(v3 x0 x1 x2 x3).bind fun r=>some ([.sc (.bool (r))],[]):=by
 refine Eq.trans (b:=tv3 x0 x1 x2 x3 fun r=>some ([.sc (.bool (r))],[])) (by kernel_rfl) ?_
 unfold v3 tv3
 with_reducible repeat' refine zj ?_ ?_
 all_goals rfl
noncomputable def sv3:OrcS:=fun al H=>dC al fun y1 l2=>dA y1 fun y3=>dC y3 fun y4 l5=>dD 3 iT y4 fun x0=>dC l5 fun y6 l7=>dD 22 lT y6 fun x1=>dC l7 fun y8 l9=>dD 3 iT y8 fun x2=>dE l9<|dC l2 fun y10 l11=>dS y10 fun y12=>yO .i64 y12 fun x3=>dE l11<|dE H <|  some [(ok (v3 x0 x1 x2 x3),[.sc (.bool ((val (v3 x0 x1 x2 x3))))],[])]
noncomputable def o153:OrcT:=(3,sv3)::o152
noncomputable def t153:TellT:=t152
abbrev tn153:=ze base o153 t153
end
end Go.Proofs.Ytgmebdomopdgmaa
