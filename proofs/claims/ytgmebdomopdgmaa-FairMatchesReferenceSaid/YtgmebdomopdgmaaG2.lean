/- What some functions and loops come to: printed and checked. Written by a program of ours. -/
import Derived.Test.YtgmebdomopdgmaaG1
set_option linter.all false
set_option maxRecDepth 1000000
set_option maxHeartbeats 4000000
namespace Go.Proofs.Ytgmebdomopdgmaa
open Go Go.AM Go.TM Go.Proofs
noncomputable section
noncomputable def tv48 {β:Type} (x0:LI) (x1:LL) (x2:LI) (x3:LI) (K:LI→Option β):Option β:=(cond (decide ((x3.length:Int)≤(x3.length:Int))) (cond (decide ((x3.length:Int)≤(↑(nat_lit 2147483648):Int))) (cond (ok (LaJ FU x1 (x1.length:Int) 0 x0 x1 x2 x3 (List.replicate (x3.length:Int).toNat 0))) (K (val (LaJ FU x1 (x1.length:Int) 0 x0 x1 x2 x3 (List.replicate (x3.length:Int).toNat 0)))) none) none) none)
noncomputable def v48 (x0:LI) (x1:LL) (x2:LI) (x3:LI):Option LI:=tv48 x0 x1 x2 x3 some
theorem ev48 (x0:LI) (x1:LL) (x2:LI) (x3:LI):zn zP (tn62 48) (TM.evF zP (tn62) dOk 40) dOk 40 48 [.sc (.ptr 0 0)] [.box 73 [.d 3 iT (x0),.d 22 lT (x1),.d 3 iT (x2),.g 1,.nil],.row 3 iT (x3)]=(v48 x0 x1 x2 x3).bind fun r=>some ([],[.box 73 [.d 3 iT (x0),.d 22 lT (x1),.d 3 iT (x2),.g 1,.g 2],.row 3 iT (x3),.row 3 iT (r:LI)]):=by
 refine Eq.trans (b:=tv48 x0 x1 x2 x3 fun r=>some ([],[.box 73 [.d 3 iT (x0),.d 22 lT (x1),.d 3 iT (x2),.g 1,.g 2],.row 3 iT (x3),.row 3 iT (r:LI)])) (by kernel_rfl) ?_
 unfold v48 tv48
 with_reducible repeat' refine zj ?_ ?_
 all_goals rfl
noncomputable def sv48:OrcS:=fun al H=>dC al fun y1 l2=>dS y1 fun y3=>zp 0 0 y3<|dE l2<|dHB 73 H fun y5 l4=>dC y5 fun y6 l7=>dD 3 iT y6 fun x0=>dC l7 fun y8 l9=>dD 22 lT y8 fun x1=>dC l9 fun y10 l11=>dD 3 iT y10 fun x2=>dC l11 fun y12 l13=>dG 1 y12<|dC l13 fun y14 l15=>dNil y14<|dE l15<|dHR 3 iT l4 fun x3 l16=>dE l16 <|  some [(ok (v48 x0 x1 x2 x3),[],[.box 73 [.d 3 iT (x0),.d 22 lT (x1),.d 3 iT (x2),.g 1,.g 2],.row 3 iT (x3),.row 3 iT ((val (v48 x0 x1 x2 x3)):LI)])]
theorem wv48:zl zP dOk base o62 t62 (48,sv48):=by
 intro al H q hq rs H2 h2
 change sv48 al H=_ at hq
 unfold sv48 at hq
 repeat with_reducible first|(first|replace hq:=dCq hq|replace hq:=zM hq|replace hq:=zV hq);obtain ⟨_,_,rfl,hq⟩:=hq|(first|replace hq:=dSq hq|replace hq:=dDq hq);obtain ⟨_,rfl,hq⟩:=hq|(first|replace hq:=zx hq|replace hq:=dEq hq|replace hq:=dGq hq|replace hq:=dNilq hq);obtain ⟨rfl,hq⟩:=hq
 cases hq
 obtain ⟨hc0,rfl,rfl⟩:=zd h2
 exact ⟨41,(zu (by kernel_rfl)).trans ((ev48 _ _ _ _).trans (zh (zc hc0)))⟩
noncomputable def o63:OrcT:=(48,sv48)::o62
noncomputable def t63:TellT:=t62
abbrev tn63:=ze base o63 t63
theorem ok63:OKT tn63:=zm ok62 ok62 (p:=(48,sv48)) wv48
noncomputable def tv27 {β:Type} (x0:LI) (x1:LL) (x2:LI) (K:(Bool×(LI)×(LI))→Option β):Option β:=(cond (decide ((x0.length:Int)≤(x0.length:Int))) (cond (decide ((x0.length:Int)≤(↑(nat_lit 2147483648):Int))) (cond (ok (LaA FU true x1 (x1.length:Int) 0 x0 x1 x2 x0 x1 x2 (List.replicate (x0.length:Int).toNat 0))) (cond (ok (v48 x0 x1 x2 (val (LaA FU true x1 (x1.length:Int) 0 x0 x1 x2 x0 x1 x2 (List.replicate (x0.length:Int).toNat 0))).2)) (K ((val (LaA FU true x1 (x1.length:Int) 0 x0 x1 x2 x0 x1 x2 (List.replicate (x0.length:Int).toNat 0))).1,(val (LaA FU true x1 (x1.length:Int) 0 x0 x1 x2 x0 x1 x2 (List.replicate (x0.length:Int).toNat 0))).2,val (v48 x0 x1 x2 (val (LaA FU true x1 (x1.length:Int) 0 x0 x1 x2 x0 x1 x2 (List.replicate (x0.length:Int).toNat 0))).2))) none) none) none) none)
noncomputable def v27 (x0:LI) (x1:LL) (x2:LI):Option (Bool×(LI)×(LI)):=tv27 x0 x1 x2 some
theorem ev27 (x0:LI) (x1:LL) (x2:LI):zn zP (tn63 27) (TM.evF zP (tn63) dOk 40) dOk 40 27 [.agg [.d 3 iT (x0),.d 22 lT (x1),.d 3 iT (x2)]] []=(v27 x0 x1 x2).bind fun r=>some ([.sc (.ptr 0 0),.sc (.bool (r.1))],[.box 73 [.d 3 iT (x0),.d 22 lT (x1),.d 3 iT (x2),.g 1,.g 2],.row 3 iT (r.2.1:LI),.row 3 iT (r.2.2:LI)]):=by
 refine Eq.trans (b:=tv27 x0 x1 x2 fun r=>some ([.sc (.ptr 0 0),.sc (.bool (r.1))],[.box 73 [.d 3 iT (x0),.d 22 lT (x1),.d 3 iT (x2),.g 1,.g 2],.row 3 iT (r.2.1:LI),.row 3 iT (r.2.2:LI)])) (by kernel_rfl) ?_
 unfold v27 tv27
 with_reducible repeat' refine zj ?_ ?_
 all_goals rfl
noncomputable def sv27:OrcS:=fun al H=>dC al fun y1 l2=>dA y1 fun y3=>dC y3 fun y4 l5=>dD 3 iT y4 fun x0=>dC l5 fun y6 l7=>dD 22 lT y6 fun x1=>dC l7 fun y8 l9=>dD 3 iT y8 fun x2=>dE l9<|dE l2<|dE H <|  some [(ok (v27 x0 x1 x2),[.sc (.ptr 0 0),.sc (.bool ((val (v27 x0 x1 x2)).1))],[.box 73 [.d 3 iT (x0),.d 22 lT (x1),.d 3 iT (x2),.g 1,.g 2],.row 3 iT ((val (v27 x0 x1 x2)).2.1:LI),.row 3 iT ((val (v27 x0 x1 x2)).2.2:LI)])]
theorem wv27:zl zP dOk base o63 t63 (27,sv27):=by
 intro al H q hq rs H2 h2
 change sv27 al H=_ at hq
 unfold sv27 at hq
 repeat with_reducible first|replace hq:=dCq hq;obtain ⟨_,_,rfl,hq⟩:=hq|(first|replace hq:=dAq hq|replace hq:=dDq hq);obtain ⟨_,rfl,hq⟩:=hq|replace hq:=dEq hq;obtain ⟨rfl,hq⟩:=hq
 cases hq
 obtain ⟨hc0,rfl,rfl⟩:=zd h2
 exact ⟨41,(zu (by kernel_rfl)).trans ((ev27 _ _ _).trans (zh (zc hc0)))⟩
noncomputable def o64:OrcT:=(27,sv27)::o63
noncomputable def t64:TellT:=t63
abbrev tn64:=ze base o64 t64
theorem ok64:OKT tn64:=zm ok63 ok63 (p:=(27,sv27)) wv27
noncomputable def v24 (x0:Int):Option Bool:=(some (x0 != 0))
theorem ev24 (x0:Int):zn zP (tn64 24) (TM.evF zP (tn64) dOk 40) dOk 40 24 [.sc (I4 x0)] []=(v24 x0).bind fun r=>some ([.sc (.bool (r))],[]):=by
 refine Eq.trans (b:=(some ([.sc (.bool (x0 != 0))],[]))) (by kernel_rfl) ?_
 unfold v24
 with_reducible repeat' refine zj ?_ ?_
 all_goals rfl
noncomputable def sv24:OrcS:=fun al H=>dC al fun y1 l2=>dS y1 fun y3=>yO .i64 y3 fun x0=>dE l2<|dE H <|  some [(ok (v24 x0),[.sc (.bool ((val (v24 x0))))],[])]
theorem wv24:zl zP dOk base o64 t64 (24,sv24):=by
 intro al H q hq rs H2 h2
 change sv24 al H=_ at hq
 unfold sv24 at hq
 obtain ⟨_,_,rfl,g1⟩:=dCq hq
 obtain ⟨_,rfl,g2⟩:=dSq g1
 obtain ⟨_,rfl,g3⟩:=yV g2
 obtain ⟨rfl,g4⟩:=dEq g3
 obtain ⟨rfl,g5⟩:=dEq g4
 cases g5
 obtain ⟨hc0,rfl,rfl⟩:=zd h2
 exact ⟨41,(zu (by kernel_rfl)).trans ((ev24 _).trans (zh (zc hc0)))⟩
noncomputable def o65:OrcT:=(24,sv24)::o64
noncomputable def t65:TellT:=t64
abbrev tn65:=ze base o65 t65
theorem ok65:OKT tn65:=zm ok64 ok64 (p:=(24,sv24)) wv24
noncomputable def Lbi:Nat→LI→Int→Int→Option (Int ⊕ Unit)
 | 0,_,_,_=>none
 | n+1,x0,x1,x2=>(cond (decide (x2 < x1)) (cond (decide (0≤x2)) (cond (decide (x2 < (x0.length:Int))) (cond (val (v24 (List.getD x0 x2.toNat 0))) (some (.inl x2)) (Lbi n x0 x1 (IntKind.wrap IntKind.i64 (x2+(1:Int))))) none) none) (some (.inr ())))
theorem qLbi:type_of% @Lbi.eq_2:=@Lbi.eq_2
noncomputable def xLbi (x0:LI) (x1 x2:Int):(Int ⊕ Unit)→Ex×CS:=fun r=>match r with | .inl a0=>(.ret,{ sl:=[(4,.v (.sc (I4 (a0))))],lo:=[],h:=[],n0:=0,w:=true }) | .inr b0=>((.exit 0),{ sl:=[],lo:=[],h:=[],n0:=0,w:=false })
abbrev cLbi (x0:LI) (x1 x2:Int):CS:={ sl:=[(0,.v (.sc (.d 3 iT x0))),(1,.v (.sc (.fn 24 0 [] []))),(7,.v (.sc (I4 x1))),(8,.v (.sc (I4 x2)))],lo:=[],h:=[],n0:=0,w:=false }
theorem bLbi (k:Nat) (cN:KN) (cX:KX) (x0:LI) (x1 x2:Int):zi zP (tn65 40) (TM.evF zP (tn65) dOk (k+40)) dOk (k+40) (za zP (tn0 40) 40 0) 0 0 (cLbi x0 x1 x2) cN cX=(cond (decide (x2 < x1)) (cond (decide (0≤x2)) (cond (decide (x2 < (x0.length:Int))) (cond (val (v24 (List.getD x0 x2.toNat 0))) (cX .ret { sl:=[(4,.v (.sc (I4 x2)))],lo:=[],h:=[],n0:=0,w:=true }) (cN (cLbi x0 x1 (IntKind.wrap IntKind.i64 (x2+(1:Int)))))) none) none) (cX (.exit 0) { sl:=[],lo:=[],h:=[],n0:=0,w:=false })):=by kernel_rfl
theorem lLbi (k m:Nat):∀ (n:Nat) (x0:LI) (x1 x2:Int) (r:(Int ⊕ Unit)),Lbi n x0 x1 x2=some r→zw zP (tn65 40) (TM.evF zP (tn65) dOk (k+40)) dOk (k+40) (za zP (tn0 40) 40 0) 0 0 (n+m) (cLbi x0 x1 x2)=some (xLbi x0 x1 x2 r):=by
 intro n
 induction n with
 | zero=>intro _ _ _ r h;cases h
 | succ n ih=>
  intro x0 x1 x2 r
  rw [show n+1+m=n+m+1 by omega,zf,bLbi,qLbi]
  with_reducible repeat' refine zS ?_ ?_
  all_goals first | exact ih _ _ _ r | (intro h;cases h;done) | (intro h;cases h;rfl)
noncomputable def sLbi:TellS:=fun S=>dCS 0 S fun y1 y2 y3=>dSs 0 y1 fun y5 l4=>dD 3 iT y5 fun x0=>dSs 1 l4 fun y7 l6=>dFn 24 0 [] y7 fun y8=>dE y8<|dSI 7 .i64 l6 fun x1 l9=>dSI 8 .i64 l9 fun x2 l10=>dE l10<|dE y2<|dE y3 <|  some [(isL (Lbi FU x0 x1 x2),.ret,{ sl:=[(4,.v (.sc (I4 ((zH (Lbi FU x0 x1 x2))))))],lo:=[],h:=[],n0:=0,w:=true }),(ok (zA (Lbi FU x0 x1 x2)),(.exit 0),{ sl:=[],lo:=[],h:=[],n0:=0,w:=false })]
theorem wLbi:zo zP dOk base o65 t65 ((40,0),sLbi):=by
 refine ⟨.loop (za zP (tn0 40) 40 0),0,by kernel_rfl,?_⟩
 intro S alts e S' h1 h2
 change sLbi S=_ at h1
 unfold sLbi at h1
 repeat with_reducible first|replace h1:=zE h1;obtain ⟨_,_,_,rfl,h1⟩:=h1|(first|replace h1:=zJ h1|replace h1:=zF h1);obtain ⟨_,_,rfl,h1⟩:=h1|(first|replace h1:=dDq h1|replace h1:=yt h1);obtain ⟨_,rfl,h1⟩:=h1|replace h1:=dEq h1;obtain ⟨rfl,h1⟩:=h1
 cases h1
 rcases zK h2 with ⟨hc0,rfl,rfl⟩ | h2
 · exact ⟨FU+40,(zb rfl).trans (lLbi FU 40 FU _ _ _ _ (zT hc0))⟩
 obtain ⟨hc1,rfl,rfl⟩:=zk h2
 exact ⟨FU+40,(zb rfl).trans (lLbi FU 40 FU _ _ _ _ (zN (zc hc1)))⟩
noncomputable def o66:OrcT:=o65
noncomputable def t66:TellT:=((40,0),sLbi)::t65
abbrev tn66:=ze base o66 t66
theorem ok66:OKT tn66:=zq ok65 ok65 (p:=((40,0),sLbi)) wLbi
noncomputable def tv40_3 {β:Type} (x0:LI) (K:Int→Option β):Option β:=(cond (isL (Lbi FU x0 (x0.length:Int) 0)) (K (zH (Lbi FU x0 (x0.length:Int) 0))) (cond (ok (zA (Lbi FU x0 (x0.length:Int) 0))) (K ((-1:Int))) none))
noncomputable def v40_3 (x0:LI):Option Int:=tv40_3 x0 some
theorem ev40_3 (x0:LI):zn zP (tn66 40) (TM.evF zP (tn66) dOk 40) dOk 40 40 [.sc (.d 3 iT x0),.sc (.fn 24 0 [] [])] []=(v40_3 x0).bind fun r=>some ([.sc (I4 (r))],[]):=by
 refine Eq.trans (b:=tv40_3 x0 fun r=>some ([.sc (I4 (r))],[])) (by kernel_rfl) ?_
 unfold v40_3 tv40_3
 with_reducible repeat' refine zj ?_ ?_
 all_goals rfl
noncomputable def sv40_3:OrcS:=fun al H=>dC al fun y1 l2=>dS y1 fun y3=>dD 3 iT y3 fun x0=>dC l2 fun y4 l5=>dS y4 fun y6=>dFn 24 0 [] y6 fun y7=>dE y7<|dE l5<|dE H <|  some [(ok (v40_3 x0),[.sc (I4 ((val (v40_3 x0))))],[])]
theorem wv40_3:zl zP dOk base o66 t66 (40,sv40_3):=by
 intro al H q hq rs H2 h2
 change sv40_3 al H=_ at hq
 unfold sv40_3 at hq
 repeat with_reducible first|replace hq:=dCq hq;obtain ⟨_,_,rfl,hq⟩:=hq|(first|replace hq:=dSq hq|replace hq:=dDq hq|replace hq:=yt hq);obtain ⟨_,rfl,hq⟩:=hq|replace hq:=dEq hq;obtain ⟨rfl,hq⟩:=hq
 cases hq
 obtain ⟨hc0,rfl,rfl⟩:=zd h2
 exact ⟨41,(zu (by kernel_rfl)).trans ((ev40_3 _).trans (zh (zc hc0)))⟩
noncomputable def o67:OrcT:=(40,sv40_3)::o66
noncomputable def t67:TellT:=t66
abbrev tn67:=ze base o67 t67
theorem ok67:OKT tn67:=zm ok66 ok66 (p:=(40,sv40_3)) wv40_3
noncomputable def v23_3 (x0:LI):Option Bool:=(cond (ok (v40_3 x0)) (some (decide (val (v40_3 x0)≥0))) none)
theorem ev23_3 (x0:LI):zn zP (tn67 23) (TM.evF zP (tn67) dOk 40) dOk 40 23 [.sc (.d 3 iT x0),.sc (.fn 24 0 [] [])] []=(v23_3 x0).bind fun r=>some ([.sc (.bool (r))],[]):=by
 refine Eq.trans (b:=(cond (ok (v40_3 x0)) (some ([.sc (.bool (decide (val (v40_3 x0)≥0)))],[])) none)) (by kernel_rfl) ?_
 unfold v23_3
 with_reducible repeat' refine zj ?_ ?_
 all_goals rfl
noncomputable def sv23_3:OrcS:=fun al H=>dC al fun y1 l2=>dS y1 fun y3=>dD 3 iT y3 fun x0=>dC l2 fun y4 l5=>dS y4 fun y6=>dFn 24 0 [] y6 fun y7=>dE y7<|dE l5<|dE H <|  some [(ok (v23_3 x0),[.sc (.bool ((val (v23_3 x0))))],[])]
theorem wv23_3:zl zP dOk base o67 t67 (23,sv23_3):=by
 intro al H q hq rs H2 h2
 change sv23_3 al H=_ at hq
 unfold sv23_3 at hq
 repeat with_reducible first|replace hq:=dCq hq;obtain ⟨_,_,rfl,hq⟩:=hq|(first|replace hq:=dSq hq|replace hq:=dDq hq|replace hq:=yt hq);obtain ⟨_,rfl,hq⟩:=hq|replace hq:=dEq hq;obtain ⟨rfl,hq⟩:=hq
 cases hq
 obtain ⟨hc0,rfl,rfl⟩:=zd h2
 exact ⟨41,(zu (by kernel_rfl)).trans ((ev23_3 _).trans (zh (zc hc0)))⟩
noncomputable def o68:OrcT:=(23,sv23_3)::o67
noncomputable def t68:TellT:=t67
abbrev tn68:=ze base o68 t68
theorem ok68:OKT tn68:=zm ok67 ok67 (p:=(23,sv23_3)) wv23_3
noncomputable def v69 (x0 x1:Int) (x2:LI) (x3:LL) (x4:LI) (x5:LI) (x6:LI):Option Int:=(cond (decide (0≤x0)) (cond (decide (x0 < (x2.length:Int))) (cond (decide (x0 < (x6.length:Int))) (cond (decide (x0.toNat < List.length x6)) (cond (decide (List.getD x6 x0.toNat 0≠0)) (some (IntKind.wrap IntKind.i64 (Int.tdiv (IntKind.wrap IntKind.i64 (IntKind.wrap IntKind.i64 (x1*List.getD x2 x0.toNat 0)*(1000000:Int))) (List.getD x6 x0.toNat 0)))) none) none) none) none) none)
theorem ev69 (x0 x1:Int) (x2:LI) (x3:LL) (x4:LI) (x5:LI) (x6:LI):zn zP (tn68 69) (TM.evF zP (tn68) dOk 40) dOk 40 69 [.sc (I4 x0),.sc (.ptr 0 0),.sc (.ptr 1 0)] [.box 3 [I4 (x1)],.box 54 [.ptr 2 0],.box 73 [.d 3 iT (x2),.d 22 lT (x3),.d 3 iT (x4),.g 3,.g 4],.row 3 iT (x5),.row 3 iT (x6)]=(v69 x0 x1 x2 x3 x4 x5 x6).bind fun r=>some ([.sc (I4 (r))],[.box 3 [I4 (x1)],.box 54 [.ptr 2 0],.box 73 [.d 3 iT (x2),.d 22 lT (x3),.d 3 iT (x4),.g 3,.g 4],.row 3 iT (x5),.row 3 iT (x6)]):=by
 refine Eq.trans (b:=(cond (decide (0≤x0)) (cond (decide (x0 < (x2.length:Int))) (cond (decide (0≤x0)) (cond (decide (x0 < (x6.length:Int))) (cond (decide (x0.toNat < List.length x6)) (cond (decide (List.getD x6 x0.toNat 0≠0)) (some ([.sc (I4 (IntKind.wrap IntKind.i64 (Int.tdiv (IntKind.wrap IntKind.i64 (IntKind.wrap IntKind.i64 (x1*List.getD x2 x0.toNat 0)*(1000000:Int))) (List.getD x6 x0.toNat 0))))],[.box 3 [I4 (x1)],.box 54 [.ptr 2 0],.box 73 [.d 3 iT (x2),.d 22 lT (x3),.d 3 iT (x4),.g 3,.g 4],.row 3 iT (x5),.row 3 iT (x6)])) none) none) none) none) none) none)) (by kernel_rfl) ?_
 unfold v69
 cases (decide (0≤x0)) with
 | true=>
  cases (decide (x0 < (x2.length:Int))) with
  | true=>
   cases (decide (x0 < (x6.length:Int))) with
   | true=>
    cases (decide (x0.toNat < List.length x6)) with
    | true=>
     cases (decide (List.getD x6 x0.toNat 0≠0)) with
     | true=>
      rfl
     | false=>
      rfl
    | false=>
     rfl
   | false=>
    rfl
  | false=>
   rfl
 | false=>
  rfl
noncomputable def sv69:OrcS:=fun al H=>dC al fun y1 l2=>dS y1 fun y3=>yO .i64 y3 fun x0=>dC l2 fun y4 l5=>dS y4 fun y6=>zp 0 0 y6<|dC l5 fun y7 l8=>dS y7 fun y9=>zp 1 0 y9<|dE l8<|dHB 3 H fun y11 l10=>dK y11 fun x1 l12=>dE l12<|dHB 54 l10 fun y14 l13=>dC y14 fun y15 l16=>zp 2 0 y15<|dE l16<|dHB 73 l13 fun y18 l17=>dC y18 fun y19 l20=>dD 3 iT y19 fun x2=>dC l20 fun y21 l22=>dD 22 lT y21 fun x3=>dC l22 fun y23 l24=>dD 3 iT y23 fun x4=>dC l24 fun y25 l26=>dG 3 y25<|dC l26 fun y27 l28=>dG 4 y27<|dE l28<|dHR 3 iT l17 fun x5 l29=>dHR 3 iT l29 fun x6 l30=>dE l30 <|  some [(ok (v69 x0 x1 x2 x3 x4 x5 x6),[.sc (I4 ((val (v69 x0 x1 x2 x3 x4 x5 x6))))],[.box 3 [I4 (x1)],.box 54 [.ptr 2 0],.box 73 [.d 3 iT (x2),.d 22 lT (x3),.d 3 iT (x4),.g 3,.g 4],.row 3 iT (x5),.row 3 iT (x6)])]
theorem wv69:zl zP dOk base o68 t68 (69,sv69):=by
 intro al H q hq rs H2 h2
 change sv69 al H=_ at hq
 unfold sv69 at hq
 repeat with_reducible first|(first|replace hq:=dCq hq|replace hq:=zM hq|replace hq:=zQ hq|replace hq:=zV hq);obtain ⟨_,_,rfl,hq⟩:=hq|(first|replace hq:=dSq hq|replace hq:=yV hq|replace hq:=dDq hq);obtain ⟨_,rfl,hq⟩:=hq|(first|replace hq:=zx hq|replace hq:=dEq hq|replace hq:=dGq hq);obtain ⟨rfl,hq⟩:=hq
 cases hq
 obtain ⟨hc0,rfl,rfl⟩:=zd h2
 exact ⟨41,(zu (by kernel_rfl)).trans ((ev69 _ _ _ _ _ _ _).trans (zh (zc hc0)))⟩
noncomputable def o69:OrcT:=(69,sv69)::o68
noncomputable def t69:TellT:=t68
abbrev tn69:=ze base o69 t69
theorem ok69:OKT tn69:=zm ok68 ok68 (p:=(69,sv69)) wv69
noncomputable def LaC:Nat→Int→LI→Int→Int→Int→LI→LL→LI→LI→LI→Option Int
 | 0,_,_,_,_,_,_,_,_,_,_=>none
 | n+1,x0,x1,x2,x3,x4,x5,x6,x7,x8,x9=>(cond (decide (x3 < x2)) (cond (decide (0≤x3)) (cond (decide (x3 < (x1.length:Int))) (cond (ok (v69 (List.getD x1 x3.toNat 0) x4 x5 x6 x7 x8 x9)) (LaC n (min x0 (val (v69 (List.getD x1 x3.toNat 0) x4 x5 x6 x7 x8 x9))) x1 x2 (IntKind.wrap IntKind.i64 (x3+(1:Int))) x4 x5 x6 x7 x8 x9) none) none) none) (some x0))
theorem qLaC:type_of% @LaC.eq_2:=@LaC.eq_2
noncomputable def xLaC (x0:Int) (x1:LI) (x2 x3 x4:Int) (x5:LI) (x6:LL) (x7:LI) (x8:LI) (x9:LI):Int→Ex×CS:=fun r=>((.exit 0),{ sl:=[(5,.v (.sc (I4 (r))))],lo:=[],h:=[.box 3 [I4 (x4)],.box 54 [.ptr 2 0],.box 73 [.d 3 iT (x5),.d 22 lT (x6),.d 3 iT (x7),.g 3,.g 4],.row 3 iT (x8),.row 3 iT (x9)],n0:=5,w:=false })
abbrev cLaC (x0:Int) (x1:LI) (x2 x3 x4:Int) (x5:LI) (x6:LL) (x7:LI) (x8:LI) (x9:LI):CS:={ sl:=[(1,.v (.sc (.fn 69 0 [none,none] [.ptr 0 0,.ptr 1 0]))),(5,.v (.sc (I4 x0))),(14,.v (.sc (.d 3 iT x1))),(15,.v (.sc (I4 x2))),(16,.v (.sc (I4 x3)))],lo:=[],h:=[.box 3 [I4 (x4)],.box 54 [.ptr 2 0],.box 73 [.d 3 iT (x5),.d 22 lT (x6),.d 3 iT (x7),.g 3,.g 4],.row 3 iT (x8),.row 3 iT (x9)],n0:=5,w:=false }
theorem bLaC (k:Nat) (cN:KN) (cX:KX) (x0:Int) (x1:LI) (x2 x3 x4:Int) (x5:LI) (x6:LL) (x7:LI) (x8:LI) (x9:LI):zi zP (tn69 68) (TM.evF zP (tn69) dOk (k+40)) dOk (k+40) (za zP (tn0 68) 68 0) 0 0 (cLaC x0 x1 x2 x3 x4 x5 x6 x7 x8 x9) cN cX=(cond (decide (x3 < x2)) (cond (decide (0≤x3)) (cond (decide (x3 < (x1.length:Int))) (cond (ok (v69 (List.getD x1 x3.toNat 0) x4 x5 x6 x7 x8 x9)) (cN (cLaC (min x0 (val (v69 (List.getD x1 x3.toNat 0) x4 x5 x6 x7 x8 x9))) x1 x2 (IntKind.wrap IntKind.i64 (x3+(1:Int))) x4 x5 x6 x7 x8 x9)) none) none) none) (cP cX (xLaC x0 x1 x2 x3 x4 x5 x6 x7 x8 x9 x0))):=by kernel_rfl
theorem lLaC (k m:Nat):∀ (n:Nat) (x0:Int) (x1:LI) (x2 x3 x4:Int) (x5:LI) (x6:LL) (x7:LI) (x8:LI) (x9:LI) (r:Int),LaC n x0 x1 x2 x3 x4 x5 x6 x7 x8 x9=some r→zw zP (tn69 68) (TM.evF zP (tn69) dOk (k+40)) dOk (k+40) (za zP (tn0 68) 68 0) 0 0 (n+m) (cLaC x0 x1 x2 x3 x4 x5 x6 x7 x8 x9)=some (xLaC x0 x1 x2 x3 x4 x5 x6 x7 x8 x9 r):=by
 intro n
 induction n with
 | zero=>intro _ _ _ _ _ _ _ _ _ _ r h;cases h
 | succ n ih=>
  intro x0 x1 x2 x3 x4 x5 x6 x7 x8 x9 r
  rw [show n+1+m=n+m+1 by omega,zf,bLaC,qLaC]
  with_reducible repeat' refine zS ?_ ?_
  all_goals first | exact ih _ _ _ _ _ _ _ _ _ _ r | (intro h;cases h;done) | (intro h;cases h;rfl)
noncomputable def sLaC:TellS:=fun S=>dCS 5 S fun y1 y2 y3=>dSs 1 y1 fun y5 l4=>dFn 69 0 [none,none] y5 fun y6=>dC y6 fun y7 l8=>zp 0 0 y7<|dC l8 fun y9 l10=>zp 1 0 y9<|dE l10<|dSI 5 .i64 l4 fun x0 l11=>dSs 14 l11 fun y13 l12=>dD 3 iT y13 fun x1=>dSI 15 .i64 l12 fun x2 l14=>dSI 16 .i64 l14 fun x3 l15=>dE l15<|dE y2<|dHB 3 y3 fun y17 l16=>dK y17 fun x4 l18=>dE l18<|dHB 54 l16 fun y20 l19=>dC y20 fun y21 l22=>zp 2 0 y21<|dE l22<|dHB 73 l19 fun y24 l23=>dC y24 fun y25 l26=>dD 3 iT y25 fun x5=>dC l26 fun y27 l28=>dD 22 lT y27 fun x6=>dC l28 fun y29 l30=>dD 3 iT y29 fun x7=>dC l30 fun y31 l32=>dG 3 y31<|dC l32 fun y33 l34=>dG 4 y33<|dE l34<|dHR 3 iT l23 fun x8 l35=>dHR 3 iT l35 fun x9 l36=>dE l36 <|  some [te (LaC FU x0 x1 x2 x3 x4 x5 x6 x7 x8 x9) (xLaC x0 x1 x2 x3 x4 x5 x6 x7 x8 x9)]
theorem wLaC:zo zP dOk base o69 t69 ((68,0),sLaC):=by
 refine ⟨.loop (za zP (tn0 68) 68 0),0,by kernel_rfl,?_⟩
 intro S alts e S' h1 h2
 change sLaC S=_ at h1
 unfold sLaC at h1
 repeat with_reducible first|replace h1:=zE h1;obtain ⟨_,_,_,rfl,h1⟩:=h1|(first|replace h1:=zJ h1|replace h1:=dCq h1|replace h1:=zF h1|replace h1:=zM h1|replace h1:=zQ h1|replace h1:=zV h1);obtain ⟨_,_,rfl,h1⟩:=h1|(first|replace h1:=yt h1|replace h1:=dDq h1);obtain ⟨_,rfl,h1⟩:=h1|(first|replace h1:=zx h1|replace h1:=dEq h1|replace h1:=dGq h1);obtain ⟨rfl,h1⟩:=h1
 cases h1
 obtain ⟨hc0,rfl,rfl⟩:=zk h2
 exact ⟨FU+40,(zb rfl).trans (lLaC FU 40 FU _ _ _ _ _ _ _ _ _ _ _ (zc hc0))⟩
noncomputable def o70:OrcT:=o69
noncomputable def t70:TellT:=((68,0),sLaC)::t69
abbrev tn70:=ze base o70 t70
theorem ok70:OKT tn70:=zq ok69 ok69 (p:=((68,0),sLaC)) wLaC
noncomputable def v68 (x0:LI) (x1:Int) (x2:LI) (x3:LL) (x4:LI) (x5:LI) (x6:LI):Option Int:=(cond (decide (0 < (x0.length:Int))) (cond (ok (v69 (List.getD x0 (Int.toNat 0) 0) x1 x2 x3 x4 x5 x6)) (cond (decide (Int.toNat (1:Int)≤List.length x0)) (cond (decide (List.length x0≤List.length x0)) (cond (ok (LaC FU (val (v69 (List.getD x0 (Int.toNat 0) 0) x1 x2 x3 x4 x5 x6)) (List.drop (Int.toNat (1:Int)) (List.take (List.length x0) x0)) (↑(List.length (List.drop (Int.toNat (1:Int)) (List.take (List.length x0) x0))):Int) 0 x1 x2 x3 x4 x5 x6)) (some (val (LaC FU (val (v69 (List.getD x0 (Int.toNat 0) 0) x1 x2 x3 x4 x5 x6)) (List.drop (Int.toNat (1:Int)) (List.take (List.length x0) x0)) (↑(List.length (List.drop (Int.toNat (1:Int)) (List.take (List.length x0) x0))):Int) 0 x1 x2 x3 x4 x5 x6))) none) none) none) none) none)
theorem ev68 (x0:LI) (x1:Int) (x2:LI) (x3:LL) (x4:LI) (x5:LI) (x6:LI):zn zP (tn70 68) (TM.evF zP (tn70) dOk 40) dOk 40 68 [.sc (.d 3 iT x0),.sc (.fn 69 0 [none,none] [.ptr 0 0,.ptr 1 0])] [.box 3 [I4 (x1)],.box 54 [.ptr 2 0],.box 73 [.d 3 iT (x2),.d 22 lT (x3),.d 3 iT (x4),.g 3,.g 4],.row 3 iT (x5),.row 3 iT (x6)]=(v68 x0 x1 x2 x3 x4 x5 x6).bind fun r=>some ([.sc (I4 (r))],[.box 3 [I4 (x1)],.box 54 [.ptr 2 0],.box 73 [.d 3 iT (x2),.d 22 lT (x3),.d 3 iT (x4),.g 3,.g 4],.row 3 iT (x5),.row 3 iT (x6)]):=by
 refine Eq.trans (b:=(cond (decide (0 < (x0.length:Int))) (cond (ok (v69 (List.getD x0 (Int.toNat 0) 0) x1 x2 x3 x4 x5 x6)) (cond (decide (Int.toNat (1:Int)≤List.length x0)) (cond (decide (List.length x0≤List.length x0)) (cond (decide (List.length x0≤List.length x0)) (cond (ok (LaC FU (val (v69 (List.getD x0 (Int.toNat 0) 0) x1 x2 x3 x4 x5 x6)) (List.drop (Int.toNat (1:Int)) (List.take (List.length x0) x0)) (↑(List.length (List.drop (Int.toNat (1:Int)) (List.take (List.length x0) x0))):Int) 0 x1 x2 x3 x4 x5 x6)) (some ([.sc (I4 (val (LaC FU (val (v69 (List.getD x0 (Int.toNat 0) 0) x1 x2 x3 x4 x5 x6)) (List.drop (Int.toNat (1:Int)) (List.take (List.length x0) x0)) (↑(List.length (List.drop (Int.toNat (1:Int)) (List.take (List.length x0) x0))):Int) 0 x1 x2 x3 x4 x5 x6)))],[.box 3 [I4 (x1)],.box 54 [.ptr 2 0],.box 73 [.d 3 iT (x2),.d 22 lT (x3),.d 3 iT (x4),.g 3,.g 4],.row 3 iT (x5),.row 3 iT (x6)])) none) none) none) none) none) none)) (by kernel_rfl) ?_
 unfold v68
 cases (decide (0 < (x0.length:Int))) with
 | true=>
  cases (ok (v69 (List.getD x0 (Int.toNat 0) 0) x1 x2 x3 x4 x5 x6)) with
  | true=>
   cases (decide (Int.toNat (1:Int)≤List.length x0)) with
   | true=>
    cases (decide (List.length x0≤List.length x0)) with
    | true=>
     cases (ok (LaC FU (val (v69 (List.getD x0 (Int.toNat 0) 0) x1 x2 x3 x4 x5 x6)) (List.drop (Int.toNat (1:Int)) (List.take (List.length x0) x0)) (↑(List.length (List.drop (Int.toNat (1:Int)) (List.take (List.length x0) x0))):Int) 0 x1 x2 x3 x4 x5 x6)) with
     | true=>
      rfl
     | false=>
      rfl
    | false=>
     rfl
   | false=>
    rfl
  | false=>
   rfl
 | false=>
  rfl
noncomputable def sv68:OrcS:=fun al H=>dC al fun y1 l2=>dS y1 fun y3=>dD 3 iT y3 fun x0=>dC l2 fun y4 l5=>dS y4 fun y6=>dFn 69 0 [none,none] y6 fun y7=>dC y7 fun y8 l9=>zp 0 0 y8<|dC l9 fun y10 l11=>zp 1 0 y10<|dE l11<|dE l5<|dHB 3 H fun y13 l12=>dK y13 fun x1 l14=>dE l14<|dHB 54 l12 fun y16 l15=>dC y16 fun y17 l18=>zp 2 0 y17<|dE l18<|dHB 73 l15 fun y20 l19=>dC y20 fun y21 l22=>dD 3 iT y21 fun x2=>dC l22 fun y23 l24=>dD 22 lT y23 fun x3=>dC l24 fun y25 l26=>dD 3 iT y25 fun x4=>dC l26 fun y27 l28=>dG 3 y27<|dC l28 fun y29 l30=>dG 4 y29<|dE l30<|dHR 3 iT l19 fun x5 l31=>dHR 3 iT l31 fun x6 l32=>dE l32 <|  some [(ok (v68 x0 x1 x2 x3 x4 x5 x6),[.sc (I4 ((val (v68 x0 x1 x2 x3 x4 x5 x6))))],[.box 3 [I4 (x1)],.box 54 [.ptr 2 0],.box 73 [.d 3 iT (x2),.d 22 lT (x3),.d 3 iT (x4),.g 3,.g 4],.row 3 iT (x5),.row 3 iT (x6)])]
theorem wv68:zl zP dOk base o70 t70 (68,sv68):=by
 intro al H q hq rs H2 h2
 change sv68 al H=_ at hq
 unfold sv68 at hq
 repeat with_reducible first|(first|replace hq:=dCq hq|replace hq:=zM hq|replace hq:=zQ hq|replace hq:=zV hq);obtain ⟨_,_,rfl,hq⟩:=hq|(first|replace hq:=dSq hq|replace hq:=dDq hq|replace hq:=yt hq);obtain ⟨_,rfl,hq⟩:=hq|(first|replace hq:=zx hq|replace hq:=dEq hq|replace hq:=dGq hq);obtain ⟨rfl,hq⟩:=hq
 cases hq
 obtain ⟨hc0,rfl,rfl⟩:=zd h2
 exact ⟨41,(zu (by kernel_rfl)).trans ((ev68 _ _ _ _ _ _ _).trans (zh (zc hc0)))⟩
noncomputable def o71:OrcT:=(68,sv68)::o70
noncomputable def t71:TellT:=t70
abbrev tn71:=ze base o71 t71
theorem ok71:OKT tn71:=zm ok70 ok70 (p:=(68,sv68)) wv68
noncomputable def tv49 {β:Type} (x0:LI) (x1:LI) (x2:LL) (x3:LI) (x4:LI) (x5:LI) (K:Int→Option β):Option β:=(cond (ok (v52 x0 x1 x2 x3 x4 x5)) (cond (decide (val (v52 x0 x1 x2 x3 x4 x5)≠0)) (cond (ok (v68 x0 (IntKind.wrap IntKind.i64 (Int.tdiv (1000000000:Int) (val (v52 x0 x1 x2 x3 x4 x5)))) x1 x2 x3 x4 x5)) (K (val (v68 x0 (IntKind.wrap IntKind.i64 (Int.tdiv (1000000000:Int) (val (v52 x0 x1 x2 x3 x4 x5)))) x1 x2 x3 x4 x5))) none) none) none)
noncomputable def v49 (x0:LI) (x1:LI) (x2:LL) (x3:LI) (x4:LI) (x5:LI):Option Int:=tv49 x0 x1 x2 x3 x4 x5 some
theorem ev49 (x0:LI) (x1:LI) (x2:LL) (x3:LI) (x4:LI) (x5:LI):zn zP (tn71 49) (TM.evF zP (tn71) dOk 40) dOk 40 49 [.sc (.ptr 0 0),.sc (.d 3 iT x0)] [.box 73 [.d 3 iT (x1),.d 22 lT (x2),.d 3 iT (x3),.g 1,.g 2],.row 3 iT (x4),.row 3 iT (x5)]=(v49 x0 x1 x2 x3 x4 x5).bind fun r=>some ([.sc (I4 (r))],[.box 73 [.d 3 iT (x1),.d 22 lT (x2),.d 3 iT (x3),.g 1,.g 2],.row 3 iT (x4),.row 3 iT (x5)]):=by
 refine Eq.trans (b:=tv49 x0 x1 x2 x3 x4 x5 fun r=>some ([.sc (I4 (r))],[.box 73 [.d 3 iT (x1),.d 22 lT (x2),.d 3 iT (x3),.g 1,.g 2],.row 3 iT (x4),.row 3 iT (x5)])) (by kernel_rfl) ?_
 unfold v49 tv49
 with_reducible repeat' refine zj ?_ ?_
 all_goals rfl
noncomputable def sv49:OrcS:=fun al H=>dC al fun y1 l2=>dS y1 fun y3=>zp 0 0 y3<|dC l2 fun y4 l5=>dS y4 fun y6=>dD 3 iT y6 fun x0=>dE l5<|dHB 73 H fun y8 l7=>dC y8 fun y9 l10=>dD 3 iT y9 fun x1=>dC l10 fun y11 l12=>dD 22 lT y11 fun x2=>dC l12 fun y13 l14=>dD 3 iT y13 fun x3=>dC l14 fun y15 l16=>dG 1 y15<|dC l16 fun y17 l18=>dG 2 y17<|dE l18<|dHR 3 iT l7 fun x4 l19=>dHR 3 iT l19 fun x5 l20=>dE l20 <|  some [(ok (v49 x0 x1 x2 x3 x4 x5),[.sc (I4 ((val (v49 x0 x1 x2 x3 x4 x5))))],[.box 73 [.d 3 iT (x1),.d 22 lT (x2),.d 3 iT (x3),.g 1,.g 2],.row 3 iT (x4),.row 3 iT (x5)])]
theorem wv49:zl zP dOk base o71 t71 (49,sv49):=by
 intro al H q hq rs H2 h2
 change sv49 al H=_ at hq
 unfold sv49 at hq
 repeat with_reducible first|(first|replace hq:=dCq hq|replace hq:=zM hq|replace hq:=zV hq);obtain ⟨_,_,rfl,hq⟩:=hq|(first|replace hq:=dSq hq|replace hq:=dDq hq);obtain ⟨_,rfl,hq⟩:=hq|(first|replace hq:=zx hq|replace hq:=dEq hq|replace hq:=dGq hq);obtain ⟨rfl,hq⟩:=hq
 cases hq
 obtain ⟨hc0,rfl,rfl⟩:=zd h2
 exact ⟨41,(zu (by kernel_rfl)).trans ((ev49 _ _ _ _ _ _).trans (zh (zc hc0)))⟩
noncomputable def o72:OrcT:=(49,sv49)::o71
noncomputable def t72:TellT:=t71
abbrev tn72:=ze base o72 t72
theorem ok72:OKT tn72:=zm ok71 ok71 (p:=(49,sv49)) wv49
noncomputable def Laf:Nat→LL→Int→Int→Int→Int→LI→LL→LI→LI→LI→LL→LI→LL→LI→Option LL
 | 0,_,_,_,_,_,_,_,_,_,_,_,_,_,_=>none
 | n+1,x0,x1,x2,x3,x4,x5,x6,x7,x8,x9,A,B,C,D=>(cond (decide (x2 < x1)) (cond (decide (0≤x2)) (cond (decide (x2 < (x0.length:Int))) (cond (ok (v49 (List.getD x0 x2.toNat []) x5 x6 x7 x8 x9)) (cond (decide (List.length A+List.length [[val (v49 (List.getD x0 x2.toNat []) x5 x6 x7 x8 x9)]]≤nat_lit 2147483648)) (Laf n x0 x1 (IntKind.wrap IntKind.i64 (x2+(1:Int))) x3 x4 x5 x6 x7 x8 x9 (A++[[val (v49 (List.getD x0 x2.toNat []) x5 x6 x7 x8 x9)]]) B C D) none) none) none) none) (some A))
theorem qLaf:type_of% @Laf.eq_2:=@Laf.eq_2
noncomputable def xLaf (x0:LL) (x1 x2 x3 x4:Int) (x5:LI) (x6:LL) (x7:LI) (x8:LI) (x9:LI) (A:LL) (B:LI) (C:LL) (D:LI):LL→Ex×CS:=fun r=>((.exit 0),{ sl:=[(1,.v (.sc (.ptr 3 0))),(2,.l 2 0),(4,.l 4 0),(5,.v (.sc (.ptr 4 0)))],lo:=[(2,[.g 7,.g 8,I4 (x3)]),(4,[.g 5,.g 6,I4 (x4)])],h:=[.box 73 [.d 3 iT (x5),.d 22 lT (x6),.d 3 iT (x7),.g 1,.g 2],.row 3 iT (x8),.row 3 iT (x9),.box 54 [.ptr 0 0],.box 74 [.fn 49 1 [none] [.ptr 0 0]],.row 22 lT (r:LL),.row 3 iT (B),.row 22 lT (C),.row 3 iT (D)],n0:=3,w:=false })
abbrev cLaf (x0:LL) (x1 x2 x3 x4:Int) (x5:LI) (x6:LL) (x7:LI) (x8:LI) (x9:LI) (A:LL) (B:LI) (C:LL) (D:LI):CS:={ sl:=[(1,.v (.sc (.ptr 3 0))),(2,.l 2 0),(4,.l 4 0),(5,.v (.sc (.ptr 4 0))),(19,.v (.sc (.d 22 lT x0))),(20,.v (.sc (I4 x1))),(21,.v (.sc (I4 x2)))],lo:=[(2,[.g 7,.g 8,I4 (x3)]),(4,[.g 5,.g 6,I4 (x4)])],h:=[.box 73 [.d 3 iT (x5),.d 22 lT (x6),.d 3 iT (x7),.g 1,.g 2],.row 3 iT (x8),.row 3 iT (x9),.box 54 [.ptr 0 0],.box 74 [.fn 49 1 [none] [.ptr 0 0]],.row 22 lT (A),.row 3 iT (B),.row 22 lT (C),.row 3 iT (D)],n0:=3,w:=false }
theorem bLaf (k:Nat) (cN:KN) (cX:KX) (x0:LL) (x1 x2 x3 x4:Int) (x5:LI) (x6:LL) (x7:LI) (x8:LI) (x9:LI) (A:LL) (B:LI) (C:LL) (D:LI):zi zP (tn72 28) (TM.evF zP (tn72) dOk (k+40)) dOk (k+40) (za zP (tn0 28) 28 0) 0 0 (cLaf x0 x1 x2 x3 x4 x5 x6 x7 x8 x9 A B C D) cN cX=(cond (decide (x2 < x1)) (cond (decide (0≤x2)) (cond (decide (x2 < (x0.length:Int))) (cond (ok (v49 (List.getD x0 x2.toNat []) x5 x6 x7 x8 x9)) (cond (decide (List.length A+List.length [[val (v49 (List.getD x0 x2.toNat []) x5 x6 x7 x8 x9)]]≤nat_lit 2147483648)) (cN (cLaf x0 x1 (IntKind.wrap IntKind.i64 (x2+(1:Int))) x3 x4 x5 x6 x7 x8 x9 (A++[[val (v49 (List.getD x0 x2.toNat []) x5 x6 x7 x8 x9)]]:LL) B C D)) none) none) none) none) (cP cX (xLaf x0 x1 x2 x3 x4 x5 x6 x7 x8 x9 A B C D A))):=by kernel_rfl
theorem lLaf (k m:Nat):∀ (n:Nat) (x0:LL) (x1 x2 x3 x4:Int) (x5:LI) (x6:LL) (x7:LI) (x8:LI) (x9:LI) (A:LL) (B:LI) (C:LL) (D:LI) (r:LL),Laf n x0 x1 x2 x3 x4 x5 x6 x7 x8 x9 A B C D=some r→zw zP (tn72 28) (TM.evF zP (tn72) dOk (k+40)) dOk (k+40) (za zP (tn0 28) 28 0) 0 0 (n+m) (cLaf x0 x1 x2 x3 x4 x5 x6 x7 x8 x9 A B C D)=some (xLaf x0 x1 x2 x3 x4 x5 x6 x7 x8 x9 A B C D r):=by
 intro n
 induction n with
 | zero=>intro _ _ _ _ _ _ _ _ _ _ _ _ _ _ r h;cases h
 | succ n ih=>
  intro x0 x1 x2 x3 x4 x5 x6 x7 x8 x9 A B C D r
  rw [show n+1+m=n+m+1 by omega,zf,bLaf,qLaf]
  with_reducible repeat' refine zS ?_ ?_
  all_goals first | exact ih _ _ _ _ _ _ _ _ _ _ _ _ _ _ r | (intro h;cases h;done) | (intro h;cases h;rfl)
noncomputable def sLaf:TellS:=fun S=>dCS 3 S fun y1 y2 y3=>dSs 1 y1 fun y5 l4=>zp 3 0 y5<|dSt 2 l4 fun y7 l6=>dL 2 0 y7<|dSt 4 l6 fun y9 l8=>dL 4 0 y9<|dSs 5 l8 fun y11 l10=>zp 4 0 y11<|dSs 19 l10 fun y13 l12=>dD 22 lT y13 fun x0=>dSI 20 .i64 l12 fun x1 l14=>dSI 21 .i64 l14 fun x2 l15=>dE l15<|dLo 2 y2 fun y16 l17=>dC y16 fun y18 l19=>dG 7 y18<|dC l19 fun y20 l21=>dG 8 y20<|dK l21 fun x3 l22=>dE l22<|dLo 4 l17 fun y23 l24=>dC y23 fun y25 l26=>dG 5 y25<|dC l26 fun y27 l28=>dG 6 y27<|dK l28 fun x4 l29=>dE l29<|dE l24<|dHB 73 y3 fun y31 l30=>dC y31 fun y32 l33=>dD 3 iT y32 fun x5=>dC l33 fun y34 l35=>dD 22 lT y34 fun x6=>dC l35 fun y36 l37=>dD 3 iT y36 fun x7=>dC l37 fun y38 l39=>dG 1 y38<|dC l39 fun y40 l41=>dG 2 y40<|dE l41<|dHR 3 iT l30 fun x8 l42=>dHR 3 iT l42 fun x9 l43=>dHB 54 l43 fun y45 l44=>dC y45 fun y46 l47=>zp 0 0 y46<|dE l47<|dHB 74 l44 fun y49 l48=>dC y49 fun y50 l51=>dFn 49 1 [none] y50 fun y52=>dC y52 fun y53 l54=>zp 0 0 y53<|dE l54<|dE l51<|dHR 22 lT l48 fun A l55=>dHR 3 iT l55 fun B l56=>dHR 22 lT l56 fun C l57=>dHR 3 iT l57 fun D l58=>dE l58 <|  some [te (Laf FU x0 x1 x2 x3 x4 x5 x6 x7 x8 x9 A B C D) (xLaf x0 x1 x2 x3 x4 x5 x6 x7 x8 x9 A B C D)]
theorem wLaf:zo zP dOk base o72 t72 ((28,0),sLaf):=by
 refine ⟨.loop (za zP (tn0 28) 28 0),0,by kernel_rfl,?_⟩
 intro S alts e S' h1 h2
 change sLaf S=_ at h1
 unfold sLaf at h1
 repeat with_reducible first|replace h1:=zE h1;obtain ⟨_,_,_,rfl,h1⟩:=h1|(first|replace h1:=zJ h1|replace h1:=ye h1|replace h1:=zF h1|replace h1:=yg h1|replace h1:=dCq h1|replace h1:=zQ h1|replace h1:=zM h1|replace h1:=zV h1);obtain ⟨_,_,rfl,h1⟩:=h1|(first|replace h1:=zx h1|replace h1:=dLq h1|replace h1:=dEq h1|replace h1:=dGq h1);obtain ⟨rfl,h1⟩:=h1|(first|replace h1:=dDq h1|replace h1:=yt h1);obtain ⟨_,rfl,h1⟩:=h1
 cases h1
 obtain ⟨hc0,rfl,rfl⟩:=zk h2
 exact ⟨FU+40,(zb rfl).trans (lLaf FU 40 FU _ _ _ _ _ _ _ _ _ _ _ _ _ _ _ (zc hc0))⟩
noncomputable def o73:OrcT:=o72
noncomputable def t73:TellT:=((28,0),sLaf)::t72
abbrev tn73:=ze base o73 t73
theorem ok73:OKT tn73:=zq ok72 ok72 (p:=((28,0),sLaf)) wLaf
noncomputable def tv51 {β:Type} (x0:LI) (x1:LI) (x2:LL) (x3:LI) (x4:LI) (x5:LI) (K:Int→Option β):Option β:=(cond (ok (v52 x0 x1 x2 x3 x4 x5)) (cond (ok (v49 x0 x1 x2 x3 x4 x5)) (K (IntKind.wrap IntKind.i64 (val (v52 x0 x1 x2 x3 x4 x5)*val (v49 x0 x1 x2 x3 x4 x5)))) none) none)
noncomputable def v51 (x0:LI) (x1:LI) (x2:LL) (x3:LI) (x4:LI) (x5:LI):Option Int:=tv51 x0 x1 x2 x3 x4 x5 some
theorem ev51 (x0:LI) (x1:LI) (x2:LL) (x3:LI) (x4:LI) (x5:LI):zn zP (tn73 51) (TM.evF zP (tn73) dOk 40) dOk 40 51 [.sc (.d 3 iT x0),.sc (.ptr 0 0),.sc (.ptr 4 0)] [.box 54 [.ptr 1 0],.box 73 [.d 3 iT (x1),.d 22 lT (x2),.d 3 iT (x3),.g 2,.g 3],.row 3 iT (x4),.row 3 iT (x5),.box 74 [.fn 49 1 [none] [.ptr 1 0]]]=(v51 x0 x1 x2 x3 x4 x5).bind fun r=>some ([.sc (I4 (r))],[.box 54 [.ptr 1 0],.box 73 [.d 3 iT (x1),.d 22 lT (x2),.d 3 iT (x3),.g 2,.g 3],.row 3 iT (x4),.row 3 iT (x5),.box 74 [.fn 49 1 [none] [.ptr 1 0]]]):=by
 refine Eq.trans (b:=tv51 x0 x1 x2 x3 x4 x5 fun r=>some ([.sc (I4 (r))],[.box 54 [.ptr 1 0],.box 73 [.d 3 iT (x1),.d 22 lT (x2),.d 3 iT (x3),.g 2,.g 3],.row 3 iT (x4),.row 3 iT (x5),.box 74 [.fn 49 1 [none] [.ptr 1 0]]])) (by kernel_rfl) ?_
 unfold v51 tv51
 with_reducible repeat' refine zj ?_ ?_
 all_goals rfl
noncomputable def sv51:OrcS:=fun al H=>dC al fun y1 l2=>dS y1 fun y3=>dD 3 iT y3 fun x0=>dC l2 fun y4 l5=>dS y4 fun y6=>zp 0 0 y6<|dC l5 fun y7 l8=>dS y7 fun y9=>zp 4 0 y9<|dE l8<|dHB 54 H fun y11 l10=>dC y11 fun y12 l13=>zp 1 0 y12<|dE l13<|dHB 73 l10 fun y15 l14=>dC y15 fun y16 l17=>dD 3 iT y16 fun x1=>dC l17 fun y18 l19=>dD 22 lT y18 fun x2=>dC l19 fun y20 l21=>dD 3 iT y20 fun x3=>dC l21 fun y22 l23=>dG 2 y22<|dC l23 fun y24 l25=>dG 3 y24<|dE l25<|dHR 3 iT l14 fun x4 l26=>dHR 3 iT l26 fun x5 l27=>dHB 74 l27 fun y29 l28=>dC y29 fun y30 l31=>dFn 49 1 [none] y30 fun y32=>dC y32 fun y33 l34=>zp 1 0 y33<|dE l34<|dE l31<|dE l28 <|  some [(ok (v51 x0 x1 x2 x3 x4 x5),[.sc (I4 ((val (v51 x0 x1 x2 x3 x4 x5))))],[.box 54 [.ptr 1 0],.box 73 [.d 3 iT (x1),.d 22 lT (x2),.d 3 iT (x3),.g 2,.g 3],.row 3 iT (x4),.row 3 iT (x5),.box 74 [.fn 49 1 [none] [.ptr 1 0]]])]
theorem wv51:zl zP dOk base o73 t73 (51,sv51):=by
 intro al H q hq rs H2 h2
 change sv51 al H=_ at hq
 unfold sv51 at hq
 repeat with_reducible first|(first|replace hq:=dCq hq|replace hq:=zM hq|replace hq:=zV hq);obtain ⟨_,_,rfl,hq⟩:=hq|(first|replace hq:=dSq hq|replace hq:=dDq hq|replace hq:=yt hq);obtain ⟨_,rfl,hq⟩:=hq|(first|replace hq:=zx hq|replace hq:=dEq hq|replace hq:=dGq hq);obtain ⟨rfl,hq⟩:=hq
 cases hq
 obtain ⟨hc0,rfl,rfl⟩:=zd h2
 exact ⟨41,(zu (by kernel_rfl)).trans ((ev51 _ _ _ _ _ _).trans (zh (zc hc0)))⟩
noncomputable def o74:OrcT:=(51,sv51)::o73
noncomputable def t74:TellT:=t73
abbrev tn74:=ze base o74 t74
theorem ok74:OKT tn74:=zm ok73 ok73 (p:=(51,sv51)) wv51
noncomputable def LaB:Nat→Int→LL→Int→Int→LI→LL→LI→LI→LI→Option Int
 | 0,_,_,_,_,_,_,_,_,_=>none
 | n+1,x0,x1,x2,x3,x4,x5,x6,x7,x8=>(cond (decide (x3 < x2)) (cond (decide (0≤x3)) (cond (decide (x3 < (x1.length:Int))) (cond (ok (v51 (List.getD x1 x3.toNat []) x4 x5 x6 x7 x8)) (LaB n (min x0 (val (v51 (List.getD x1 x3.toNat []) x4 x5 x6 x7 x8))) x1 x2 (IntKind.wrap IntKind.i64 (x3+(1:Int))) x4 x5 x6 x7 x8) none) none) none) (some x0))
theorem qLaB:type_of% @LaB.eq_2:=@LaB.eq_2
noncomputable def xLaB (x0:Int) (x1:LL) (x2 x3:Int) (x4:LI) (x5:LL) (x6:LI) (x7:LI) (x8:LI):Int→Ex×CS:=fun r=>((.exit 0),{ sl:=[(5,.v (.sc (I4 (r))))],lo:=[],h:=[.box 54 [.ptr 1 0],.box 73 [.d 3 iT (x4),.d 22 lT (x5),.d 3 iT (x6),.g 2,.g 3],.row 3 iT (x7),.row 3 iT (x8),.box 74 [.fn 49 1 [none] [.ptr 1 0]]],n0:=5,w:=false })
abbrev cLaB (x0:Int) (x1:LL) (x2 x3:Int) (x4:LI) (x5:LL) (x6:LI) (x7:LI) (x8:LI):CS:={ sl:=[(1,.v (.sc (.fn 51 0 [none,none] [.ptr 0 0,.ptr 4 0]))),(5,.v (.sc (I4 x0))),(14,.v (.sc (.d 22 lT x1))),(15,.v (.sc (I4 x2))),(16,.v (.sc (I4 x3)))],lo:=[],h:=[.box 54 [.ptr 1 0],.box 73 [.d 3 iT (x4),.d 22 lT (x5),.d 3 iT (x6),.g 2,.g 3],.row 3 iT (x7),.row 3 iT (x8),.box 74 [.fn 49 1 [none] [.ptr 1 0]]],n0:=5,w:=false }
theorem bLaB (k:Nat) (cN:KN) (cX:KX) (x0:Int) (x1:LL) (x2 x3:Int) (x4:LI) (x5:LL) (x6:LI) (x7:LI) (x8:LI):zi zP (tn74 50) (TM.evF zP (tn74) dOk (k+40)) dOk (k+40) (za zP (tn0 50) 50 0) 0 0 (cLaB x0 x1 x2 x3 x4 x5 x6 x7 x8) cN cX=(cond (decide (x3 < x2)) (cond (decide (0≤x3)) (cond (decide (x3 < (x1.length:Int))) (cond (ok (v51 (List.getD x1 x3.toNat []) x4 x5 x6 x7 x8)) (cN (cLaB (min x0 (val (v51 (List.getD x1 x3.toNat []) x4 x5 x6 x7 x8))) x1 x2 (IntKind.wrap IntKind.i64 (x3+(1:Int))) x4 x5 x6 x7 x8)) none) none) none) (cP cX (xLaB x0 x1 x2 x3 x4 x5 x6 x7 x8 x0))):=by kernel_rfl
theorem lLaB (k m:Nat):∀ (n:Nat) (x0:Int) (x1:LL) (x2 x3:Int) (x4:LI) (x5:LL) (x6:LI) (x7:LI) (x8:LI) (r:Int),LaB n x0 x1 x2 x3 x4 x5 x6 x7 x8=some r→zw zP (tn74 50) (TM.evF zP (tn74) dOk (k+40)) dOk (k+40) (za zP (tn0 50) 50 0) 0 0 (n+m) (cLaB x0 x1 x2 x3 x4 x5 x6 x7 x8)=some (xLaB x0 x1 x2 x3 x4 x5 x6 x7 x8 r):=by
 intro n
 induction n with
 | zero=>intro _ _ _ _ _ _ _ _ _ r h;cases h
 | succ n ih=>
  intro x0 x1 x2 x3 x4 x5 x6 x7 x8 r
  rw [show n+1+m=n+m+1 by omega,zf,bLaB,qLaB]
  with_reducible repeat' refine zS ?_ ?_
  all_goals first | exact ih _ _ _ _ _ _ _ _ _ r | (intro h;cases h;done) | (intro h;cases h;rfl)
noncomputable def sLaB:TellS:=fun S=>dCS 5 S fun y1 y2 y3=>dSs 1 y1 fun y5 l4=>dFn 51 0 [none,none] y5 fun y6=>dC y6 fun y7 l8=>zp 0 0 y7<|dC l8 fun y9 l10=>zp 4 0 y9<|dE l10<|dSI 5 .i64 l4 fun x0 l11=>dSs 14 l11 fun y13 l12=>dD 22 lT y13 fun x1=>dSI 15 .i64 l12 fun x2 l14=>dSI 16 .i64 l14 fun x3 l15=>dE l15<|dE y2<|dHB 54 y3 fun y17 l16=>dC y17 fun y18 l19=>zp 1 0 y18<|dE l19<|dHB 73 l16 fun y21 l20=>dC y21 fun y22 l23=>dD 3 iT y22 fun x4=>dC l23 fun y24 l25=>dD 22 lT y24 fun x5=>dC l25 fun y26 l27=>dD 3 iT y26 fun x6=>dC l27 fun y28 l29=>dG 2 y28<|dC l29 fun y30 l31=>dG 3 y30<|dE l31<|dHR 3 iT l20 fun x7 l32=>dHR 3 iT l32 fun x8 l33=>dHB 74 l33 fun y35 l34=>dC y35 fun y36 l37=>dFn 49 1 [none] y36 fun y38=>dC y38 fun y39 l40=>zp 1 0 y39<|dE l40<|dE l37<|dE l34 <|  some [te (LaB FU x0 x1 x2 x3 x4 x5 x6 x7 x8) (xLaB x0 x1 x2 x3 x4 x5 x6 x7 x8)]
theorem wLaB:zo zP dOk base o74 t74 ((50,0),sLaB):=by
 refine ⟨.loop (za zP (tn0 50) 50 0),0,by kernel_rfl,?_⟩
 intro S alts e S' h1 h2
 change sLaB S=_ at h1
 unfold sLaB at h1
 repeat with_reducible first|replace h1:=zE h1;obtain ⟨_,_,_,rfl,h1⟩:=h1|(first|replace h1:=zJ h1|replace h1:=dCq h1|replace h1:=zF h1|replace h1:=zM h1|replace h1:=zV h1);obtain ⟨_,_,rfl,h1⟩:=h1|(first|replace h1:=yt h1|replace h1:=dDq h1);obtain ⟨_,rfl,h1⟩:=h1|(first|replace h1:=zx h1|replace h1:=dEq h1|replace h1:=dGq h1);obtain ⟨rfl,h1⟩:=h1
 cases h1
 obtain ⟨hc0,rfl,rfl⟩:=zk h2
 exact ⟨FU+40,(zb rfl).trans (lLaB FU 40 FU _ _ _ _ _ _ _ _ _ _ (zc hc0))⟩
noncomputable def o75:OrcT:=o74
noncomputable def t75:TellT:=((50,0),sLaB)::t74
abbrev tn75:=ze base o75 t75
theorem ok75:OKT tn75:=zq ok74 ok74 (p:=((50,0),sLaB)) wLaB
noncomputable def v50 (x0:LL) (x1:LI) (x2:LL) (x3:LI) (x4:LI) (x5:LI):Option Int:=(cond (decide (0 < (x0.length:Int))) (cond (ok (v51 (List.getD x0 (Int.toNat 0) []) x1 x2 x3 x4 x5)) (cond (decide (Int.toNat (1:Int)≤List.length x0)) (cond (decide (List.length x0≤List.length x0)) (cond (ok (LaB FU (val (v51 (List.getD x0 (Int.toNat 0) []) x1 x2 x3 x4 x5)) (List.drop (Int.toNat (1:Int)) (List.take (List.length x0) x0)) (↑(List.length (List.drop (Int.toNat (1:Int)) (List.take (List.length x0) x0))):Int) 0 x1 x2 x3 x4 x5)) (some (val (LaB FU (val (v51 (List.getD x0 (Int.toNat 0) []) x1 x2 x3 x4 x5)) (List.drop (Int.toNat (1:Int)) (List.take (List.length x0) x0)) (↑(List.length (List.drop (Int.toNat (1:Int)) (List.take (List.length x0) x0))):Int) 0 x1 x2 x3 x4 x5))) none) none) none) none) none)
theorem ev50 (x0:LL) (x1:LI) (x2:LL) (x3:LI) (x4:LI) (x5:LI):zn zP (tn75 50) (TM.evF zP (tn75) dOk 40) dOk 40 50 [.sc (.d 22 lT x0),.sc (.fn 51 0 [none,none] [.ptr 0 0,.ptr 4 0])] [.box 54 [.ptr 1 0],.box 73 [.d 3 iT (x1),.d 22 lT (x2),.d 3 iT (x3),.g 2,.g 3],.row 3 iT (x4),.row 3 iT (x5),.box 74 [.fn 49 1 [none] [.ptr 1 0]]]=(v50 x0 x1 x2 x3 x4 x5).bind fun r=>some ([.sc (I4 (r))],[.box 54 [.ptr 1 0],.box 73 [.d 3 iT (x1),.d 22 lT (x2),.d 3 iT (x3),.g 2,.g 3],.row 3 iT (x4),.row 3 iT (x5),.box 74 [.fn 49 1 [none] [.ptr 1 0]]]):=by
 refine Eq.trans (b:=(cond (decide (0 < (x0.length:Int))) (cond (ok (v51 (List.getD x0 (Int.toNat 0) []) x1 x2 x3 x4 x5)) (cond (decide (Int.toNat (1:Int)≤List.length x0)) (cond (decide (List.length x0≤List.length x0)) (cond (decide (List.length x0≤List.length x0)) (cond (ok (LaB FU (val (v51 (List.getD x0 (Int.toNat 0) []) x1 x2 x3 x4 x5)) (List.drop (Int.toNat (1:Int)) (List.take (List.length x0) x0)) (↑(List.length (List.drop (Int.toNat (1:Int)) (List.take (List.length x0) x0))):Int) 0 x1 x2 x3 x4 x5)) (some ([.sc (I4 (val (LaB FU (val (v51 (List.getD x0 (Int.toNat 0) []) x1 x2 x3 x4 x5)) (List.drop (Int.toNat (1:Int)) (List.take (List.length x0) x0)) (↑(List.length (List.drop (Int.toNat (1:Int)) (List.take (List.length x0) x0))):Int) 0 x1 x2 x3 x4 x5)))],[.box 54 [.ptr 1 0],.box 73 [.d 3 iT (x1),.d 22 lT (x2),.d 3 iT (x3),.g 2,.g 3],.row 3 iT (x4),.row 3 iT (x5),.box 74 [.fn 49 1 [none] [.ptr 1 0]]])) none) none) none) none) none) none)) (by kernel_rfl) ?_
 unfold v50
 cases (decide (0 < (x0.length:Int))) with
 | true=>
  cases (ok (v51 (List.getD x0 (Int.toNat 0) []) x1 x2 x3 x4 x5)) with
  | true=>
   cases (decide (Int.toNat (1:Int)≤List.length x0)) with
   | true=>
    cases (decide (List.length x0≤List.length x0)) with
    | true=>
     cases (ok (LaB FU (val (v51 (List.getD x0 (Int.toNat 0) []) x1 x2 x3 x4 x5)) (List.drop (Int.toNat (1:Int)) (List.take (List.length x0) x0)) (↑(List.length (List.drop (Int.toNat (1:Int)) (List.take (List.length x0) x0))):Int) 0 x1 x2 x3 x4 x5)) with
     | true=>
      rfl
     | false=>
      rfl
    | false=>
     rfl
   | false=>
    rfl
  | false=>
   rfl
 | false=>
  rfl
noncomputable def sv50:OrcS:=fun al H=>dC al fun y1 l2=>dS y1 fun y3=>dD 22 lT y3 fun x0=>dC l2 fun y4 l5=>dS y4 fun y6=>dFn 51 0 [none,none] y6 fun y7=>dC y7 fun y8 l9=>zp 0 0 y8<|dC l9 fun y10 l11=>zp 4 0 y10<|dE l11<|dE l5<|dHB 54 H fun y13 l12=>dC y13 fun y14 l15=>zp 1 0 y14<|dE l15<|dHB 73 l12 fun y17 l16=>dC y17 fun y18 l19=>dD 3 iT y18 fun x1=>dC l19 fun y20 l21=>dD 22 lT y20 fun x2=>dC l21 fun y22 l23=>dD 3 iT y22 fun x3=>dC l23 fun y24 l25=>dG 2 y24<|dC l25 fun y26 l27=>dG 3 y26<|dE l27<|dHR 3 iT l16 fun x4 l28=>dHR 3 iT l28 fun x5 l29=>dHB 74 l29 fun y31 l30=>dC y31 fun y32 l33=>dFn 49 1 [none] y32 fun y34=>dC y34 fun y35 l36=>zp 1 0 y35<|dE l36<|dE l33<|dE l30 <|  some [(ok (v50 x0 x1 x2 x3 x4 x5),[.sc (I4 ((val (v50 x0 x1 x2 x3 x4 x5))))],[.box 54 [.ptr 1 0],.box 73 [.d 3 iT (x1),.d 22 lT (x2),.d 3 iT (x3),.g 2,.g 3],.row 3 iT (x4),.row 3 iT (x5),.box 74 [.fn 49 1 [none] [.ptr 1 0]]])]
theorem wv50:zl zP dOk base o75 t75 (50,sv50):=by
 intro al H q hq rs H2 h2
 change sv50 al H=_ at hq
 unfold sv50 at hq
 repeat with_reducible first|(first|replace hq:=dCq hq|replace hq:=zM hq|replace hq:=zV hq);obtain ⟨_,_,rfl,hq⟩:=hq|(first|replace hq:=dSq hq|replace hq:=dDq hq|replace hq:=yt hq);obtain ⟨_,rfl,hq⟩:=hq|(first|replace hq:=zx hq|replace hq:=dEq hq|replace hq:=dGq hq);obtain ⟨rfl,hq⟩:=hq
 cases hq
 obtain ⟨hc0,rfl,rfl⟩:=zd h2
 exact ⟨41,(zu (by kernel_rfl)).trans ((ev50 _ _ _ _ _ _).trans (zh (zc hc0)))⟩
noncomputable def o76:OrcT:=(50,sv50)::o75
noncomputable def t76:TellT:=t75
abbrev tn76:=ze base o76 t76
theorem ok76:OKT tn76:=zm ok75 ok75 (p:=(50,sv50)) wv50
noncomputable def Lau:Nat→Int→Int→Int→Int→Int→LI→LL→LI→LI→LI→LL→LI→LL→LI→Option LI
 | 0,_,_,_,_,_,_,_,_,_,_,_,_,_,_=>none
 | n+1,x0,x1,x2,x3,x4,x5,x6,x7,x8,x9,A,B,C,D=>(cond (decide (x2 < x1)) (cond (decide (0≤x2)) (cond (decide (x2 < (x8.length:Int))) (cond (decide (x2.toNat < List.length x8)) (cond (decide (x0≠0)) (cond (decide (List.length B+List.length [IntKind.wrap IntKind.i64 (Int.tdiv (IntKind.wrap IntKind.i64 (IntKind.wrap IntKind.i64 (IntKind.wrap IntKind.i64 (List.getD x8 x2.toNat 0*(1000000000000:Int))+x0) - (1:Int))) x0)]≤nat_lit 2147483648)) (Lau n x0 x1 (IntKind.wrap IntKind.i64 (x2+(1:Int))) x3 x4 x5 x6 x7 x8 x9 A (B++[IntKind.wrap IntKind.i64 (Int.tdiv (IntKind.wrap IntKind.i64 (IntKind.wrap IntKind.i64 (IntKind.wrap IntKind.i64 (List.getD x8 x2.toNat 0*(1000000000000:Int))+x0) - (1:Int))) x0)]) C D) none) none) none) none) none) (some B))
theorem qLau:type_of% @Lau.eq_2:=@Lau.eq_2
noncomputable def xLau (x0 x1 x2 x3 x4:Int) (x5:LI) (x6:LL) (x7:LI) (x8:LI) (x9:LI) (A:LL) (B:LI) (C:LL) (D:LI):LI→Ex×CS:=fun r=>((.exit 2),{ sl:=[(1,.v (.sc (.ptr 3 0))),(2,.l 2 0),(4,.l 4 0)],lo:=[(2,[.g 6,.g 7,I4 (x3)]),(4,[.g 4,.g 5,I4 (x4)])],h:=[.box 73 [.d 3 iT (x5),.d 22 lT (x6),.d 3 iT (x7),.g 1,.g 2],.row 3 iT (x8),.row 3 iT (x9),.box 54 [.ptr 0 0],.row 22 lT (A),.row 3 iT (r:LI),.row 22 lT (C),.row 3 iT (D)],n0:=3,w:=false })
abbrev cLau (x0 x1 x2 x3 x4:Int) (x5:LI) (x6:LL) (x7:LI) (x8:LI) (x9:LI) (A:LL) (B:LI) (C:LL) (D:LI):CS:={ sl:=[(1,.v (.sc (.ptr 3 0))),(2,.l 2 0),(4,.l 4 0),(8,.v (.sc (I4 x0))),(48,.v (.sc (.g 1))),(49,.v (.sc (I4 x1))),(50,.v (.sc (I4 x2)))],lo:=[(2,[.g 6,.g 7,I4 (x3)]),(4,[.g 4,.g 5,I4 (x4)])],h:=[.box 73 [.d 3 iT (x5),.d 22 lT (x6),.d 3 iT (x7),.g 1,.g 2],.row 3 iT (x8),.row 3 iT (x9),.box 54 [.ptr 0 0],.row 22 lT (A),.row 3 iT (B),.row 22 lT (C),.row 3 iT (D)],n0:=3,w:=false }
theorem bLau (k:Nat) (cN:KN) (cX:KX) (x0 x1 x2 x3 x4:Int) (x5:LI) (x6:LL) (x7:LI) (x8:LI) (x9:LI) (A:LL) (B:LI) (C:LL) (D:LI):zi zP (tn76 28) (TM.evF zP (tn76) dOk (k+40)) dOk (k+40) (za zP (tn0 28) 28 16) 2 16 (cLau x0 x1 x2 x3 x4 x5 x6 x7 x8 x9 A B C D) cN cX=(cond (decide (x2 < x1)) (cond (decide (0≤x2)) (cond (decide (x2 < (x8.length:Int))) (cond (decide (x2.toNat < List.length x8)) (cond (decide (x0≠0)) (cond (decide (List.length B+List.length [IntKind.wrap IntKind.i64 (Int.tdiv (IntKind.wrap IntKind.i64 (IntKind.wrap IntKind.i64 (IntKind.wrap IntKind.i64 (List.getD x8 x2.toNat 0*(1000000000000:Int))+x0) - (1:Int))) x0)]≤nat_lit 2147483648)) (cN (cLau x0 x1 (IntKind.wrap IntKind.i64 (x2+(1:Int))) x3 x4 x5 x6 x7 x8 x9 A (B++[IntKind.wrap IntKind.i64 (Int.tdiv (IntKind.wrap IntKind.i64 (IntKind.wrap IntKind.i64 (IntKind.wrap IntKind.i64 (List.getD x8 x2.toNat 0*(1000000000000:Int))+x0) - (1:Int))) x0)]:LI) C D)) none) none) none) none) none) (cP cX (xLau x0 x1 x2 x3 x4 x5 x6 x7 x8 x9 A B C D B))):=by kernel_rfl
theorem lLau (k m:Nat):∀ (n:Nat) (x0 x1 x2 x3 x4:Int) (x5:LI) (x6:LL) (x7:LI) (x8:LI) (x9:LI) (A:LL) (B:LI) (C:LL) (D:LI) (r:LI),Lau n x0 x1 x2 x3 x4 x5 x6 x7 x8 x9 A B C D=some r→zw zP (tn76 28) (TM.evF zP (tn76) dOk (k+40)) dOk (k+40) (za zP (tn0 28) 28 16) 2 16 (n+m) (cLau x0 x1 x2 x3 x4 x5 x6 x7 x8 x9 A B C D)=some (xLau x0 x1 x2 x3 x4 x5 x6 x7 x8 x9 A B C D r):=by
 intro n
 induction n with
 | zero=>intro _ _ _ _ _ _ _ _ _ _ _ _ _ _ r h;cases h
 | succ n ih=>
  intro x0 x1 x2 x3 x4 x5 x6 x7 x8 x9 A B C D r
  rw [show n+1+m=n+m+1 by omega,zf,bLau,qLau]
  with_reducible repeat' refine zS ?_ ?_
  all_goals first | exact ih _ _ _ _ _ _ _ _ _ _ _ _ _ _ r | (intro h;cases h;done) | (intro h;cases h;rfl)
noncomputable def sLau:TellS:=fun S=>dCS 3 S fun y1 y2 y3=>dSs 1 y1 fun y5 l4=>zp 3 0 y5<|dSt 2 l4 fun y7 l6=>dL 2 0 y7<|dSt 4 l6 fun y9 l8=>dL 4 0 y9<|dSI 8 .i64 l8 fun x0 l10=>dSs 48 l10 fun y12 l11=>dG 1 y12<|dSI 49 .i64 l11 fun x1 l13=>dSI 50 .i64 l13 fun x2 l14=>dE l14<|dLo 2 y2 fun y15 l16=>dC y15 fun y17 l18=>dG 6 y17<|dC l18 fun y19 l20=>dG 7 y19<|dK l20 fun x3 l21=>dE l21<|dLo 4 l16 fun y22 l23=>dC y22 fun y24 l25=>dG 4 y24<|dC l25 fun y26 l27=>dG 5 y26<|dK l27 fun x4 l28=>dE l28<|dE l23<|dHB 73 y3 fun y30 l29=>dC y30 fun y31 l32=>dD 3 iT y31 fun x5=>dC l32 fun y33 l34=>dD 22 lT y33 fun x6=>dC l34 fun y35 l36=>dD 3 iT y35 fun x7=>dC l36 fun y37 l38=>dG 1 y37<|dC l38 fun y39 l40=>dG 2 y39<|dE l40<|dHR 3 iT l29 fun x8 l41=>dHR 3 iT l41 fun x9 l42=>dHB 54 l42 fun y44 l43=>dC y44 fun y45 l46=>zp 0 0 y45<|dE l46<|dHR 22 lT l43 fun A l47=>dHR 3 iT l47 fun B l48=>dHR 22 lT l48 fun C l49=>dHR 3 iT l49 fun D l50=>dE l50 <|  some [te (Lau FU x0 x1 x2 x3 x4 x5 x6 x7 x8 x9 A B C D) (xLau x0 x1 x2 x3 x4 x5 x6 x7 x8 x9 A B C D)]
theorem wLau:zo zP dOk base o76 t76 ((28,16),sLau):=by
 refine ⟨.loop (za zP (tn0 28) 28 16),2,by kernel_rfl,?_⟩
 intro S alts e S' h1 h2
 change sLau S=_ at h1
 unfold sLau at h1
 repeat with_reducible first|replace h1:=zE h1;obtain ⟨_,_,_,rfl,h1⟩:=h1|(first|replace h1:=zJ h1|replace h1:=ye h1|replace h1:=zF h1|replace h1:=yg h1|replace h1:=dCq h1|replace h1:=zQ h1|replace h1:=zM h1|replace h1:=zV h1);obtain ⟨_,_,rfl,h1⟩:=h1|(first|replace h1:=zx h1|replace h1:=dLq h1|replace h1:=dGq h1|replace h1:=dEq h1);obtain ⟨rfl,h1⟩:=h1|replace h1:=dDq h1;obtain ⟨_,rfl,h1⟩:=h1
 cases h1
 obtain ⟨hc0,rfl,rfl⟩:=zk h2
 exact ⟨FU+40,(zb rfl).trans (lLau FU 40 FU _ _ _ _ _ _ _ _ _ _ _ _ _ _ _ (zc hc0))⟩
noncomputable def o77:OrcT:=o76
noncomputable def t77:TellT:=((28,16),sLau)::t76
abbrev tn77:=ze base o77 t77
theorem ok77:OKT tn77:=zq ok76 ok76 (p:=((28,16),sLau)) wLau
noncomputable def tv28 {β:Type} (x0:LI) (x1:LL) (x2:LI) (x3:LI) (x4:LI) (K:((LL)×(LI)×Int×Bool)→Option β):Option β:=(cond (ok (Laf FU x1 (x1.length:Int) 0 0 0 x0 x1 x2 x3 x4 [] [] [] [])) (cond (ok (v50 x1 x0 x1 x2 x3 x4)) (cond (val (v50 x1 x0 x1 x2 x3 x4)==0) (K ([],[],0,false)) (cond (ok (Lau FU (val (v50 x1 x0 x1 x2 x3 x4)) (x3.length:Int) 0 0 0 x0 x1 x2 x3 x4 (val (Laf FU x1 (x1.length:Int) 0 0 0 x0 x1 x2 x3 x4 [] [] [] [])) [] [] [])) (cond (ok (v26 x0 x1 x2)) (cond (ok (v21 x0 (val (v26 x0 x1 x2)) (val (Laf FU x1 (x1.length:Int) 0 0 0 x0 x1 x2 x3 x4 [] [] [] [])) (val (Lau FU (val (v50 x1 x0 x1 x2 x3 x4)) (x3.length:Int) 0 0 0 x0 x1 x2 x3 x4 (val (Laf FU x1 (x1.length:Int) 0 0 0 x0 x1 x2 x3 x4 [] [] [] [])) [] [] [])))) (K (val (Laf FU x1 (x1.length:Int) 0 0 0 x0 x1 x2 x3 x4 [] [] [] []),val (Lau FU (val (v50 x1 x0 x1 x2 x3 x4)) (x3.length:Int) 0 0 0 x0 x1 x2 x3 x4 (val (Laf FU x1 (x1.length:Int) 0 0 0 x0 x1 x2 x3 x4 [] [] [] [])) [] [] []),(val (v21 x0 (val (v26 x0 x1 x2)) (val (Laf FU x1 (x1.length:Int) 0 0 0 x0 x1 x2 x3 x4 [] [] [] [])) (val (Lau FU (val (v50 x1 x0 x1 x2 x3 x4)) (x3.length:Int) 0 0 0 x0 x1 x2 x3 x4 (val (Laf FU x1 (x1.length:Int) 0 0 0 x0 x1 x2 x3 x4 [] [] [] [])) [] [] [])))).1,(val (v21 x0 (val (v26 x0 x1 x2)) (val (Laf FU x1 (x1.length:Int) 0 0 0 x0 x1 x2 x3 x4 [] [] [] [])) (val (Lau FU (val (v50 x1 x0 x1 x2 x3 x4)) (x3.length:Int) 0 0 0 x0 x1 x2 x3 x4 (val (Laf FU x1 (x1.length:Int) 0 0 0 x0 x1 x2 x3 x4 [] [] [] [])) [] [] [])))).2==0)) none) none) none)) none) none)
noncomputable def v28 (x0:LI) (x1:LL) (x2:LI) (x3:LI) (x4:LI):Option ((LL)×(LI)×Int×Bool):=tv28 x0 x1 x2 x3 x4 some
theorem ev28 (x0:LI) (x1:LL) (x2:LI) (x3:LI) (x4:LI):zn zP (tn77 28) (TM.evF zP (tn77) dOk 40) dOk 40 28 [.sc (.ptr 0 0)] [.box 73 [.d 3 iT (x0),.d 22 lT (x1),.d 3 iT (x2),.g 1,.g 2],.row 3 iT (x3),.row 3 iT (x4)]=(v28 x0 x1 x2 x3 x4).bind fun r=>some ([.agg [.d 22 lT (r.1:LL),.d 3 iT (r.2.1:LI),I4 (r.2.2.1)],.sc (.bool (r.2.2.2))],[.box 73 [.d 3 iT (x0),.d 22 lT (x1),.d 3 iT (x2),.g 1,.g 2],.row 3 iT (x3),.row 3 iT (x4)]):=by
 refine Eq.trans (b:=tv28 x0 x1 x2 x3 x4 fun r=>some ([.agg [.d 22 lT (r.1:LL),.d 3 iT (r.2.1:LI),I4 (r.2.2.1)],.sc (.bool (r.2.2.2))],[.box 73 [.d 3 iT (x0),.d 22 lT (x1),.d 3 iT (x2),.g 1,.g 2],.row 3 iT (x3),.row 3 iT (x4)])) (by kernel_rfl) ?_
 unfold v28 tv28
 with_reducible repeat' refine zj ?_ ?_
 all_goals rfl
noncomputable def sv28:OrcS:=fun al H=>dC al fun y1 l2=>dS y1 fun y3=>zp 0 0 y3<|dE l2<|dHB 73 H fun y5 l4=>dC y5 fun y6 l7=>dD 3 iT y6 fun x0=>dC l7 fun y8 l9=>dD 22 lT y8 fun x1=>dC l9 fun y10 l11=>dD 3 iT y10 fun x2=>dC l11 fun y12 l13=>dG 1 y12<|dC l13 fun y14 l15=>dG 2 y14<|dE l15<|dHR 3 iT l4 fun x3 l16=>dHR 3 iT l16 fun x4 l17=>dE l17 <|  some [(ok (v28 x0 x1 x2 x3 x4),[.agg [.d 22 lT ((val (v28 x0 x1 x2 x3 x4)).1:LL),.d 3 iT ((val (v28 x0 x1 x2 x3 x4)).2.1:LI),I4 ((val (v28 x0 x1 x2 x3 x4)).2.2.1)],.sc (.bool ((val (v28 x0 x1 x2 x3 x4)).2.2.2))],[.box 73 [.d 3 iT (x0),.d 22 lT (x1),.d 3 iT (x2),.g 1,.g 2],.row 3 iT (x3),.row 3 iT (x4)])]
theorem wv28:zl zP dOk base o77 t77 (28,sv28):=by
 intro al H q hq rs H2 h2
 change sv28 al H=_ at hq
 unfold sv28 at hq
 repeat with_reducible first|(first|replace hq:=dCq hq|replace hq:=zM hq|replace hq:=zV hq);obtain ⟨_,_,rfl,hq⟩:=hq|(first|replace hq:=dSq hq|replace hq:=dDq hq);obtain ⟨_,rfl,hq⟩:=hq|(first|replace hq:=zx hq|replace hq:=dEq hq|replace hq:=dGq hq);obtain ⟨rfl,hq⟩:=hq
 cases hq
 obtain ⟨hc0,rfl,rfl⟩:=zd h2
 exact ⟨41,(zu (by kernel_rfl)).trans ((ev28 _ _ _ _ _).trans (zh (zc hc0)))⟩
noncomputable def o78:OrcT:=(28,sv28)::o77
noncomputable def t78:TellT:=t77
abbrev tn78:=ze base o78 t78
theorem ok78:OKT tn78:=zm ok77 ok77 (p:=(28,sv28)) wv28
noncomputable def Laa:Nat→Int→Int→Int→LI→LL→LI→LI→LI→Option Int
 | 0,_,_,_,_,_,_,_,_=>none
 | n+1,x0,x1,x2,x3,x4,x5,x6,x7=>(cond (decide (x2 < x1)) (cond (decide (0≤x2)) (cond (decide (x2 < (x6.length:Int))) (cond (decide (x2.toNat < List.length x6)) (cond (decide (List.getD x6 x2.toNat 0 > 0)) (cond (decide (x0 < 0)) (Laa n x2 x1 (IntKind.wrap IntKind.i64 (x2+(1:Int))) x3 x4 x5 x6 x7) (cond (decide (x2 < (x7.length:Int))) (cond (decide (x2.toNat < List.length x7)) (cond (decide (0≤x0)) (cond (decide (x0 < (x3.length:Int))) (cond (decide (x0 < (x7.length:Int))) (cond (decide (x0.toNat < List.length x7)) (cond (decide (x2 < (x3.length:Int))) (cond (decide (IntKind.wrap IntKind.i64 (List.getD x7 x2.toNat 0*List.getD x3 x0.toNat 0) > IntKind.wrap IntKind.i64 (List.getD x7 x0.toNat 0*List.getD x3 x2.toNat 0))) (Laa n x2 x1 (IntKind.wrap IntKind.i64 (x2+(1:Int))) x3 x4 x5 x6 x7) (Laa n x0 x1 (IntKind.wrap IntKind.i64 (x2+(1:Int))) x3 x4 x5 x6 x7)) none) none) none) none) none) none) none)) (Laa n x0 x1 (IntKind.wrap IntKind.i64 (x2+(1:Int))) x3 x4 x5 x6 x7)) none) none) none) (some x0))
theorem qLaa:type_of% @Laa.eq_2:=@Laa.eq_2
noncomputable def xLaa (x0 x1 x2:Int) (x3:LI) (x4:LL) (x5:LI) (x6:LI) (x7:LI):Int→Ex×CS:=fun r=>((.exit 0),{ sl:=[(0,.v (.sc (.ptr 0 0))),(2,.v (.sc (I4 (r))))],lo:=[],h:=[.box 73 [.d 3 iT (x3),.d 22 lT (x4),.d 3 iT (x5),.g 1,.g 2],.row 3 iT (x6),.row 3 iT (x7)],n0:=3,w:=false })
abbrev cLaa (x0 x1 x2:Int) (x3:LI) (x4:LL) (x5:LI) (x6:LI) (x7:LI):CS:={ sl:=[(0,.v (.sc (.ptr 0 0))),(2,.v (.sc (I4 x0))),(15,.v (.sc (.g 1))),(16,.v (.sc (I4 x1))),(17,.v (.sc (I4 x2)))],lo:=[],h:=[.box 73 [.d 3 iT (x3),.d 22 lT (x4),.d 3 iT (x5),.g 1,.g 2],.row 3 iT (x6),.row 3 iT (x7)],n0:=3,w:=false }
theorem bLaa (k:Nat) (cN:KN) (cX:KX) (x0 x1 x2:Int) (x3:LI) (x4:LL) (x5:LI) (x6:LI) (x7:LI):zi zP (tn78 29) (TM.evF zP (tn78) dOk (k+40)) dOk (k+40) (za zP (tn0 29) 29 0) 0 0 (cLaa x0 x1 x2 x3 x4 x5 x6 x7) cN cX=(cond (decide (x2 < x1)) (cond (decide (0≤x2)) (cond (decide (x2 < (x6.length:Int))) (cond (decide (x2.toNat < List.length x6)) (cond (decide (List.getD x6 x2.toNat 0 > 0)) (cond (decide (x0 < 0)) (cN (cLaa x2 x1 (IntKind.wrap IntKind.i64 (x2+(1:Int))) x3 x4 x5 x6 x7)) (cond (decide (0≤x2)) (cond (decide (x2 < (x7.length:Int))) (cond (decide (x2.toNat < List.length x7)) (cond (decide (0≤x0)) (cond (decide (x0 < (x3.length:Int))) (cond (decide (0≤x0)) (cond (decide (x0 < (x7.length:Int))) (cond (decide (x0.toNat < List.length x7)) (cond (decide (0≤x2)) (cond (decide (x2 < (x3.length:Int))) (cond (decide (IntKind.wrap IntKind.i64 (List.getD x7 x2.toNat 0*List.getD x3 x0.toNat 0) > IntKind.wrap IntKind.i64 (List.getD x7 x0.toNat 0*List.getD x3 x2.toNat 0))) (cN (cLaa x2 x1 (IntKind.wrap IntKind.i64 (x2+(1:Int))) x3 x4 x5 x6 x7)) (cN (cLaa x0 x1 (IntKind.wrap IntKind.i64 (x2+(1:Int))) x3 x4 x5 x6 x7))) none) none) none) none) none) none) none) none) none) none)) (cN (cLaa x0 x1 (IntKind.wrap IntKind.i64 (x2+(1:Int))) x3 x4 x5 x6 x7))) none) none) none) (cP cX (xLaa x0 x1 x2 x3 x4 x5 x6 x7 x0))):=by kernel_rfl
theorem lLaa (k m:Nat):∀ (n:Nat) (x0 x1 x2:Int) (x3:LI) (x4:LL) (x5:LI) (x6:LI) (x7:LI) (r:Int),Laa n x0 x1 x2 x3 x4 x5 x6 x7=some r→zw zP (tn78 29) (TM.evF zP (tn78) dOk (k+40)) dOk (k+40) (za zP (tn0 29) 29 0) 0 0 (n+m) (cLaa x0 x1 x2 x3 x4 x5 x6 x7)=some (xLaa x0 x1 x2 x3 x4 x5 x6 x7 r):=by
 intro n
 induction n with
 | zero=>intro _ _ _ _ _ _ _ _ r h;cases h
 | succ n ih=>
  intro x0 x1 x2 x3 x4 x5 x6 x7 r
  rw [show n+1+m=n+m+1 by omega,zf,bLaa,qLaa]
  cases (decide (x2 < x1)) with
  | true=>
   cases (decide (0≤x2)) with
   | true=>
    cases (decide (x2 < (x6.length:Int))) with
    | true=>
     cases (decide (x2.toNat < List.length x6)) with
     | true=>
      cases (decide (List.getD x6 x2.toNat 0 > 0)) with
      | true=>
       cases (decide (x0 < 0)) with
       | true=>
        exact ih _ _ _ _ _ _ _ _ r
       | false=>
        cases (decide (x2 < (x7.length:Int))) with
        | true=>
         cases (decide (x2.toNat < List.length x7)) with
         | true=>
          cases (decide (0≤x0)) with
          | true=>
           cases (decide (x0 < (x3.length:Int))) with
           | true=>
            cases (decide (x0 < (x7.length:Int))) with
            | true=>
             cases (decide (x0.toNat < List.length x7)) with
             | true=>
              cases (decide (x2 < (x3.length:Int))) with
              | true=>
               cases (decide (IntKind.wrap IntKind.i64 (List.getD x7 x2.toNat 0*List.getD x3 x0.toNat 0) > IntKind.wrap IntKind.i64 (List.getD x7 x0.toNat 0*List.getD x3 x2.toNat 0))) with
               | true=>
                exact ih _ _ _ _ _ _ _ _ r
               | false=>
                exact ih _ _ _ _ _ _ _ _ r
              | false=>
               intro h;cases h
             | false=>
              intro h;cases h
            | false=>
             intro h;cases h
           | false=>
            intro h;cases h
          | false=>
           intro h;cases h
         | false=>
          intro h;cases h
        | false=>
         intro h;cases h
      | false=>
       exact ih _ _ _ _ _ _ _ _ r
     | false=>
      intro h;cases h
    | false=>
     intro h;cases h
   | false=>
    intro h;cases h
  | false=>
   intro h;cases h;rfl
noncomputable def sLaa:TellS:=fun S=>dCS 3 S fun y1 y2 y3=>dSs 0 y1 fun y5 l4=>zp 0 0 y5<|dSI 2 .i64 l4 fun x0 l6=>dSs 15 l6 fun y8 l7=>dG 1 y8<|dSI 16 .i64 l7 fun x1 l9=>dSI 17 .i64 l9 fun x2 l10=>dE l10<|dE y2<|dHB 73 y3 fun y12 l11=>dC y12 fun y13 l14=>dD 3 iT y13 fun x3=>dC l14 fun y15 l16=>dD 22 lT y15 fun x4=>dC l16 fun y17 l18=>dD 3 iT y17 fun x5=>dC l18 fun y19 l20=>dG 1 y19<|dC l20 fun y21 l22=>dG 2 y21<|dE l22<|dHR 3 iT l11 fun x6 l23=>dHR 3 iT l23 fun x7 l24=>dE l24 <|  some [te (Laa FU x0 x1 x2 x3 x4 x5 x6 x7) (xLaa x0 x1 x2 x3 x4 x5 x6 x7)]
theorem wLaa:zo zP dOk base o78 t78 ((29,0),sLaa):=by
 refine ⟨.loop (za zP (tn0 29) 29 0),0,by kernel_rfl,?_⟩
 intro S alts e S' h1 h2
 change sLaa S=_ at h1
 unfold sLaa at h1
 repeat with_reducible first|replace h1:=zE h1;obtain ⟨_,_,_,rfl,h1⟩:=h1|(first|replace h1:=zJ h1|replace h1:=zF h1|replace h1:=zM h1|replace h1:=dCq h1|replace h1:=zV h1);obtain ⟨_,_,rfl,h1⟩:=h1|(first|replace h1:=zx h1|replace h1:=dGq h1|replace h1:=dEq h1);obtain ⟨rfl,h1⟩:=h1|replace h1:=dDq h1;obtain ⟨_,rfl,h1⟩:=h1
 cases h1
 obtain ⟨hc0,rfl,rfl⟩:=zk h2
 exact ⟨FU+40,(zb rfl).trans (lLaa FU 40 FU _ _ _ _ _ _ _ _ _ (zc hc0))⟩
noncomputable def o79:OrcT:=o78
noncomputable def t79:TellT:=((29,0),sLaa)::t78
abbrev tn79:=ze base o79 t79
theorem ok79:OKT tn79:=zq ok78 ok78 (p:=((29,0),sLaa)) wLaa
noncomputable def Lab:Nat→Int→Int→Int→Int→LI→LL→LI→LI→LI→LI→Option LI
 | 0,_,_,_,_,_,_,_,_,_,_=>none
 | n+1,x0,x1,x2,x3,x4,x5,x6,x7,x8,x9=>(cond (decide (x3 < x2)) (cond (decide (0≤x3)) (cond (decide (x3 < (x7.length:Int))) (cond (decide (x3.toNat < List.length x7)) (cond (List.getD x7 x3.toNat 0==0) (Lab n x0 x1 x2 (IntKind.wrap IntKind.i64 (x3+(1:Int))) x4 x5 x6 x7 x8 x9) (cond (decide (x3 < (x4.length:Int))) (cond (decide (x3 < (x8.length:Int))) (cond (decide (x3.toNat < List.length x8)) (cond (decide (IntKind.wrap IntKind.i64 (IntKind.wrap IntKind.i64 ((2:Int)*List.getD x4 x3.toNat 0)*x1)≠0)) (cond (decide (x3 < (x9.length:Int))) (cond (decide (x3.toNat < List.length x9)) (Lab n x0 x1 x2 (IntKind.wrap IntKind.i64 (x3+(1:Int))) x4 x5 x6 x7 x8 (List.set x9 x3.toNat (max (1:Int) (IntKind.wrap IntKind.i64 (Int.tdiv (IntKind.wrap IntKind.i64 (List.getD x7 x3.toNat 0*IntKind.wrap IntKind.i64 (IntKind.wrap IntKind.i64 (List.getD x8 x3.toNat 0*x0)+IntKind.wrap IntKind.i64 (List.getD x4 x3.toNat 0*x1)))) (IntKind.wrap IntKind.i64 (IntKind.wrap IntKind.i64 ((2:Int)*List.getD x4 x3.toNat 0)*x1))))))) none) none) none) none) none) none)) none) none) none) (some x9))
theorem qLab:type_of% @Lab.eq_2:=@Lab.eq_2
noncomputable def xLab (x0 x1 x2 x3:Int) (x4:LI) (x5:LL) (x6:LI) (x7:LI) (x8:LI) (x9:LI):LI→Ex×CS:=fun r=>((.exit 2),{ sl:=[(0,.v (.sc (.ptr 0 0))),(7,.v (.sc (.g 3)))],lo:=[],h:=[.box 73 [.d 3 iT (x4),.d 22 lT (x5),.d 3 iT (x6),.g 1,.g 2],.row 3 iT (x7),.row 3 iT (x8),.row 3 iT (r:LI)],n0:=3,w:=false })
abbrev cLab (x0 x1 x2 x3:Int) (x4:LI) (x5:LL) (x6:LI) (x7:LI) (x8:LI) (x9:LI):CS:={ sl:=[(0,.v (.sc (.ptr 0 0))),(5,.v (.sc (I4 x0))),(6,.v (.sc (I4 x1))),(7,.v (.sc (.g 3))),(89,.v (.sc (.g 1))),(90,.v (.sc (I4 x2))),(91,.v (.sc (I4 x3)))],lo:=[],h:=[.box 73 [.d 3 iT (x4),.d 22 lT (x5),.d 3 iT (x6),.g 1,.g 2],.row 3 iT (x7),.row 3 iT (x8),.row 3 iT (x9)],n0:=3,w:=false }
theorem bLab (k:Nat) (cN:KN) (cX:KX) (x0 x1 x2 x3:Int) (x4:LI) (x5:LL) (x6:LI) (x7:LI) (x8:LI) (x9:LI):zi zP (tn79 29) (TM.evF zP (tn79) dOk (k+40)) dOk (k+40) (za zP (tn0 29) 29 16) 2 16 (cLab x0 x1 x2 x3 x4 x5 x6 x7 x8 x9) cN cX=(cond (decide (x3 < x2)) (cond (decide (0≤x3)) (cond (decide (x3 < (x7.length:Int))) (cond (decide (x3.toNat < List.length x7)) (cond (List.getD x7 x3.toNat 0==0) (cN (cLab x0 x1 x2 (IntKind.wrap IntKind.i64 (x3+(1:Int))) x4 x5 x6 x7 x8 x9)) (cond (decide (0≤x3)) (cond (decide (x3 < (x4.length:Int))) (cond (decide (0≤x3)) (cond (decide (x3 < (x8.length:Int))) (cond (decide (x3.toNat < List.length x8)) (cond (decide (IntKind.wrap IntKind.i64 (IntKind.wrap IntKind.i64 ((2:Int)*List.getD x4 x3.toNat 0)*x1)≠0)) (cond (decide (0≤x3)) (cond (decide (x3 < (x9.length:Int))) (cond (decide (x3.toNat < List.length x9)) (cN (cLab x0 x1 x2 (IntKind.wrap IntKind.i64 (x3+(1:Int))) x4 x5 x6 x7 x8 (List.set x9 x3.toNat (max (1:Int) (IntKind.wrap IntKind.i64 (Int.tdiv (IntKind.wrap IntKind.i64 (List.getD x7 x3.toNat 0*IntKind.wrap IntKind.i64 (IntKind.wrap IntKind.i64 (List.getD x8 x3.toNat 0*x0)+IntKind.wrap IntKind.i64 (List.getD x4 x3.toNat 0*x1)))) (IntKind.wrap IntKind.i64 (IntKind.wrap IntKind.i64 ((2:Int)*List.getD x4 x3.toNat 0)*x1))))):LI))) none) none) none) none) none) none) none) none) none)) none) none) none) (cP cX (xLab x0 x1 x2 x3 x4 x5 x6 x7 x8 x9 x9))):=by kernel_rfl
theorem lLab (k m:Nat):∀ (n:Nat) (x0 x1 x2 x3:Int) (x4:LI) (x5:LL) (x6:LI) (x7:LI) (x8:LI) (x9:LI) (r:LI),Lab n x0 x1 x2 x3 x4 x5 x6 x7 x8 x9=some r→zw zP (tn79 29) (TM.evF zP (tn79) dOk (k+40)) dOk (k+40) (za zP (tn0 29) 29 16) 2 16 (n+m) (cLab x0 x1 x2 x3 x4 x5 x6 x7 x8 x9)=some (xLab x0 x1 x2 x3 x4 x5 x6 x7 x8 x9 r):=by
 intro n
 induction n with
 | zero=>intro _ _ _ _ _ _ _ _ _ _ r h;cases h
 | succ n ih=>
  intro x0 x1 x2 x3 x4 x5 x6 x7 x8 x9 r
  rw [show n+1+m=n+m+1 by omega,zf,bLab,qLab]
  cases (decide (x3 < x2)) with
  | true=>
   cases (decide (0≤x3)) with
   | true=>
    cases (decide (x3 < (x7.length:Int))) with
    | true=>
     cases (decide (x3.toNat < List.length x7)) with
     | true=>
      cases (List.getD x7 x3.toNat 0==0) with
      | true=>
       exact ih _ _ _ _ _ _ _ _ _ _ r
      | false=>
       cases (decide (x3 < (x4.length:Int))) with
       | true=>
        cases (decide (x3 < (x8.length:Int))) with
        | true=>
         cases (decide (x3.toNat < List.length x8)) with
         | true=>
          cases (decide (IntKind.wrap IntKind.i64 (IntKind.wrap IntKind.i64 ((2:Int)*List.getD x4 x3.toNat 0)*x1)≠0)) with
          | true=>
           cases (decide (x3 < (x9.length:Int))) with
           | true=>
            cases (decide (x3.toNat < List.length x9)) with
            | true=>
             exact ih _ _ _ _ _ _ _ _ _ _ r
            | false=>
             intro h;cases h
           | false=>
            intro h;cases h
          | false=>
           intro h;cases h
         | false=>
          intro h;cases h
        | false=>
         intro h;cases h
       | false=>
        intro h;cases h
     | false=>
      intro h;cases h
    | false=>
     intro h;cases h
   | false=>
    intro h;cases h
  | false=>
   intro h;cases h;rfl
noncomputable def sLab:TellS:=fun S=>dCS 3 S fun y1 y2 y3=>dSs 0 y1 fun y5 l4=>zp 0 0 y5<|dSI 5 .i64 l4 fun x0 l6=>dSI 6 .i64 l6 fun x1 l7=>dSs 7 l7 fun y9 l8=>dG 3 y9<|dSs 89 l8 fun y11 l10=>dG 1 y11<|dSI 90 .i64 l10 fun x2 l12=>dSI 91 .i64 l12 fun x3 l13=>dE l13<|dE y2<|dHB 73 y3 fun y15 l14=>dC y15 fun y16 l17=>dD 3 iT y16 fun x4=>dC l17 fun y18 l19=>dD 22 lT y18 fun x5=>dC l19 fun y20 l21=>dD 3 iT y20 fun x6=>dC l21 fun y22 l23=>dG 1 y22<|dC l23 fun y24 l25=>dG 2 y24<|dE l25<|dHR 3 iT l14 fun x7 l26=>dHR 3 iT l26 fun x8 l27=>dHR 3 iT l27 fun x9 l28=>dE l28 <|  some [te (Lab FU x0 x1 x2 x3 x4 x5 x6 x7 x8 x9) (xLab x0 x1 x2 x3 x4 x5 x6 x7 x8 x9)]
theorem wLab:zo zP dOk base o79 t79 ((29,16),sLab):=by
 refine ⟨.loop (za zP (tn0 29) 29 16),2,by kernel_rfl,?_⟩
 intro S alts e S' h1 h2
 change sLab S=_ at h1
 unfold sLab at h1
 repeat with_reducible first|replace h1:=zE h1;obtain ⟨_,_,_,rfl,h1⟩:=h1|(first|replace h1:=zJ h1|replace h1:=zF h1|replace h1:=zM h1|replace h1:=dCq h1|replace h1:=zV h1);obtain ⟨_,_,rfl,h1⟩:=h1|(first|replace h1:=zx h1|replace h1:=dGq h1|replace h1:=dEq h1);obtain ⟨rfl,h1⟩:=h1|replace h1:=dDq h1;obtain ⟨_,rfl,h1⟩:=h1
 cases h1
 obtain ⟨hc0,rfl,rfl⟩:=zk h2
 exact ⟨FU+40,(zb rfl).trans (lLab FU 40 FU _ _ _ _ _ _ _ _ _ _ _ (zc hc0))⟩
noncomputable def o80:OrcT:=o79
noncomputable def t80:TellT:=((29,16),sLab)::t79
abbrev tn80:=ze base o80 t80
theorem ok80:OKT tn80:=zq ok79 ok79 (p:=((29,16),sLab)) wLab
noncomputable def Lbo:Nat→LI→Int→Int→Option Int
 | 0,_,_,_=>none
 | n+1,x0,x1,x2=>(cond (decide (x2 < (x0.length:Int))) (cond (decide (0≤x2)) (Lbo n x0 (max x1 (List.getD x0 x2.toNat 0)) (IntKind.wrap IntKind.i64 (x2+(1:Int)))) none) (some x1))
theorem qLbo:type_of% @Lbo.eq_2:=@Lbo.eq_2
noncomputable def xLbo (x0:LI) (x1 x2:Int):Int→Ex×CS:=fun r=>((.exit 0),{ sl:=[(3,.v (.sc (I4 (r))))],lo:=[],h:=[],n0:=0,w:=false })
abbrev cLbo (x0:LI) (x1 x2:Int):CS:={ sl:=[(0,.v (.sc (.d 3 iT x0))),(3,.v (.sc (I4 x1))),(4,.v (.sc (I4 x2)))],lo:=[],h:=[],n0:=0,w:=false }
theorem bLbo (k:Nat) (cN:KN) (cX:KX) (x0:LI) (x1 x2:Int):zi zP (tn80 53) (TM.evF zP (tn80) dOk (k+40)) dOk (k+40) (za zP (tn0 53) 53 0) 0 0 (cLbo x0 x1 x2) cN cX=(cond (decide (x2 < (x0.length:Int))) (cond (decide (0≤x2)) (cond (decide (x2 < (x0.length:Int))) (cN (cLbo x0 (max x1 (List.getD x0 x2.toNat 0)) (IntKind.wrap IntKind.i64 (x2+(1:Int))))) none) none) (cP cX (xLbo x0 x1 x2 x1))):=by kernel_rfl
theorem lLbo (k m:Nat):∀ (n:Nat) (x0:LI) (x1 x2:Int) (r:Int),Lbo n x0 x1 x2=some r→zw zP (tn80 53) (TM.evF zP (tn80) dOk (k+40)) dOk (k+40) (za zP (tn0 53) 53 0) 0 0 (n+m) (cLbo x0 x1 x2)=some (xLbo x0 x1 x2 r):=by
 intro n
 induction n with
 | zero=>intro _ _ _ r h;cases h
 | succ n ih=>
  intro x0 x1 x2 r
  rw [show n+1+m=n+m+1 by omega,zf,bLbo,qLbo]
  cases (decide (x2 < (x0.length:Int))) with
  | true=>
   cases (decide (0≤x2)) with
   | true=>
    exact ih _ _ _ r
   | false=>
    intro h;cases h
  | false=>
   intro h;cases h;rfl
noncomputable def sLbo:TellS:=fun S=>dCS 0 S fun y1 y2 y3=>dSs 0 y1 fun y5 l4=>dD 3 iT y5 fun x0=>dSI 3 .i64 l4 fun x1 l6=>dSI 4 .i64 l6 fun x2 l7=>dE l7<|dE y2<|dE y3 <|  some [te (Lbo FU x0 x1 x2) (xLbo x0 x1 x2)]
theorem wLbo:zo zP dOk base o80 t80 ((53,0),sLbo):=by
 refine ⟨.loop (za zP (tn0 53) 53 0),0,by kernel_rfl,?_⟩
 intro S alts e S' h1 h2
 change sLbo S=_ at h1
 unfold sLbo at h1
 repeat with_reducible first|replace h1:=zE h1;obtain ⟨_,_,_,rfl,h1⟩:=h1|(first|replace h1:=zJ h1|replace h1:=zF h1);obtain ⟨_,_,rfl,h1⟩:=h1|replace h1:=dDq h1;obtain ⟨_,rfl,h1⟩:=h1|replace h1:=dEq h1;obtain ⟨rfl,h1⟩:=h1
 cases h1
 obtain ⟨hc0,rfl,rfl⟩:=zk h2
 exact ⟨FU+40,(zb rfl).trans (lLbo FU 40 FU _ _ _ _ (zc hc0))⟩
noncomputable def o81:OrcT:=o80
noncomputable def t81:TellT:=((53,0),sLbo)::t80
abbrev tn81:=ze base o81 t81
theorem ok81:OKT tn81:=zq ok80 ok80 (p:=((53,0),sLbo)) wLbo
noncomputable def tv53 {β:Type} (x0:LI) (K:Int→Option β):Option β:=(cond (decide ((x0.length:Int) < (1:Int))) none (cond (decide (0 < (x0.length:Int))) (cond (ok (Lbo FU x0 (List.getD x0 (Int.toNat 0) 0) (1:Int))) (K (val (Lbo FU x0 (List.getD x0 (Int.toNat 0) 0) (1:Int)))) none) none))
noncomputable def v53 (x0:LI):Option Int:=tv53 x0 some
theorem ev53 (x0:LI):zn zP (tn81 53) (TM.evF zP (tn81) dOk 40) dOk 40 53 [.sc (.d 3 iT x0)] []=(v53 x0).bind fun r=>some ([.sc (I4 (r))],[]):=by
 refine Eq.trans (b:=tv53 x0 fun r=>some ([.sc (I4 (r))],[])) (by kernel_rfl) ?_
 unfold v53 tv53
 with_reducible repeat' refine zj ?_ ?_
 all_goals rfl
noncomputable def sv53:OrcS:=fun al H=>dC al fun y1 l2=>dS y1 fun y3=>dD 3 iT y3 fun x0=>dE l2<|dE H <|  some [(ok (v53 x0),[.sc (I4 ((val (v53 x0))))],[])]
theorem wv53:zl zP dOk base o81 t81 (53,sv53):=by
 intro al H q hq rs H2 h2
 change sv53 al H=_ at hq
 unfold sv53 at hq
 obtain ⟨_,_,rfl,g1⟩:=dCq hq
 obtain ⟨_,rfl,g2⟩:=dSq g1
 obtain ⟨_,rfl,g3⟩:=dDq g2
 obtain ⟨rfl,g4⟩:=dEq g3
 obtain ⟨rfl,g5⟩:=dEq g4
 cases g5
 obtain ⟨hc0,rfl,rfl⟩:=zd h2
 exact ⟨41,(zu (by kernel_rfl)).trans ((ev53 _).trans (zh (zc hc0)))⟩
noncomputable def o82:OrcT:=(53,sv53)::o81
noncomputable def t82:TellT:=t81
abbrev tn82:=ze base o82 t82
theorem ok82:OKT tn82:=zm ok81 ok81 (p:=(53,sv53)) wv53
noncomputable def Lai:Nat→Int→Int→LI→LL→LI→LI→LI→LI→Option LI
 | 0,_,_,_,_,_,_,_,_=>none
 | n+1,x0,x1,x2,x3,x4,x5,x6,x7=>(cond (decide (x1 < x0)) (cond (decide (0≤x1)) (cond (decide (x1 < (x7.length:Int))) (cond (decide (x1.toNat < List.length x7)) (Lai n x0 (IntKind.wrap IntKind.i64 (x1+(1:Int))) x2 x3 x4 x5 x6 (List.set x7 x1.toNat (IntKind.wrap IntKind.i64 (List.getD x7 x1.toNat 0*(2:Int))))) none) none) none) (some x7))
theorem qLai:type_of% @Lai.eq_2:=@Lai.eq_2
noncomputable def xLai (x0 x1:Int) (x2:LI) (x3:LL) (x4:LI) (x5:LI) (x6:LI) (x7:LI):LI→Ex×CS:=fun r=>((.exit 4),{ sl:=[(0,.v (.sc (.ptr 0 0))),(7,.v (.sc (.g 3)))],lo:=[],h:=[.box 73 [.d 3 iT (x2),.d 22 lT (x3),.d 3 iT (x4),.g 1,.g 2],.row 3 iT (x5),.row 3 iT (x6),.row 3 iT (r:LI)],n0:=3,w:=false })
abbrev cLai (x0 x1:Int) (x2:LI) (x3:LL) (x4:LI) (x5:LI) (x6:LI) (x7:LI):CS:={ sl:=[(0,.v (.sc (.ptr 0 0))),(7,.v (.sc (.g 3))),(135,.v (.sc (I4 x0))),(136,.v (.sc (I4 x1)))],lo:=[],h:=[.box 73 [.d 3 iT (x2),.d 22 lT (x3),.d 3 iT (x4),.g 1,.g 2],.row 3 iT (x5),.row 3 iT (x6),.row 3 iT (x7)],n0:=3,w:=false }
theorem bLai (k:Nat) (cN:KN) (cX:KX) (x0 x1:Int) (x2:LI) (x3:LL) (x4:LI) (x5:LI) (x6:LI) (x7:LI):zi zP (tn82 29) (TM.evF zP (tn82) dOk (k+40)) dOk (k+40) (za zP (tn0 29) 29 32) 4 32 (cLai x0 x1 x2 x3 x4 x5 x6 x7) cN cX=(cond (decide (x1 < x0)) (cond (decide (0≤x1)) (cond (decide (x1 < (x7.length:Int))) (cond (decide (x1.toNat < List.length x7)) (cond (decide (0≤x1)) (cond (decide (x1 < (x7.length:Int))) (cond (decide (x1.toNat < List.length x7)) (cN (cLai x0 (IntKind.wrap IntKind.i64 (x1+(1:Int))) x2 x3 x4 x5 x6 (List.set x7 x1.toNat (IntKind.wrap IntKind.i64 (List.getD x7 x1.toNat 0*(2:Int))):LI))) none) none) none) none) none) none) (cP cX (xLai x0 x1 x2 x3 x4 x5 x6 x7 x7))):=by kernel_rfl
theorem lLai (k m:Nat):∀ (n:Nat) (x0 x1:Int) (x2:LI) (x3:LL) (x4:LI) (x5:LI) (x6:LI) (x7:LI) (r:LI),Lai n x0 x1 x2 x3 x4 x5 x6 x7=some r→zw zP (tn82 29) (TM.evF zP (tn82) dOk (k+40)) dOk (k+40) (za zP (tn0 29) 29 32) 4 32 (n+m) (cLai x0 x1 x2 x3 x4 x5 x6 x7)=some (xLai x0 x1 x2 x3 x4 x5 x6 x7 r):=by
 intro n
 induction n with
 | zero=>intro _ _ _ _ _ _ _ _ r h;cases h
 | succ n ih=>
  intro x0 x1 x2 x3 x4 x5 x6 x7 r
  rw [show n+1+m=n+m+1 by omega,zf,bLai,qLai]
  cases (decide (x1 < x0)) with
  | true=>
   cases (decide (0≤x1)) with
   | true=>
    cases (decide (x1 < (x7.length:Int))) with
    | true=>
     cases (decide (x1.toNat < List.length x7)) with
     | true=>
      exact ih _ _ _ _ _ _ _ _ r
     | false=>
      intro h;cases h
    | false=>
     intro h;cases h
   | false=>
    intro h;cases h
  | false=>
   intro h;cases h;rfl
noncomputable def sLai:TellS:=fun S=>dCS 3 S fun y1 y2 y3=>dSs 0 y1 fun y5 l4=>zp 0 0 y5<|dSs 7 l4 fun y7 l6=>dG 3 y7<|dSI 135 .i64 l6 fun x0 l8=>dSI 136 .i64 l8 fun x1 l9=>dE l9<|dE y2<|dHB 73 y3 fun y11 l10=>dC y11 fun y12 l13=>dD 3 iT y12 fun x2=>dC l13 fun y14 l15=>dD 22 lT y14 fun x3=>dC l15 fun y16 l17=>dD 3 iT y16 fun x4=>dC l17 fun y18 l19=>dG 1 y18<|dC l19 fun y20 l21=>dG 2 y20<|dE l21<|dHR 3 iT l10 fun x5 l22=>dHR 3 iT l22 fun x6 l23=>dHR 3 iT l23 fun x7 l24=>dE l24 <|  some [te (Lai FU x0 x1 x2 x3 x4 x5 x6 x7) (xLai x0 x1 x2 x3 x4 x5 x6 x7)]
theorem wLai:zo zP dOk base o82 t82 ((29,32),sLai):=by
 refine ⟨.loop (za zP (tn0 29) 29 32),4,by kernel_rfl,?_⟩
 intro S alts e S' h1 h2
 change sLai S=_ at h1
 unfold sLai at h1
 repeat with_reducible first|replace h1:=zE h1;obtain ⟨_,_,_,rfl,h1⟩:=h1|(first|replace h1:=zJ h1|replace h1:=zF h1|replace h1:=zM h1|replace h1:=dCq h1|replace h1:=zV h1);obtain ⟨_,_,rfl,h1⟩:=h1|(first|replace h1:=zx h1|replace h1:=dGq h1|replace h1:=dEq h1);obtain ⟨rfl,h1⟩:=h1|replace h1:=dDq h1;obtain ⟨_,rfl,h1⟩:=h1
 cases h1
 obtain ⟨hc0,rfl,rfl⟩:=zk h2
 exact ⟨FU+40,(zb rfl).trans (lLai FU 40 FU _ _ _ _ _ _ _ _ _ (zc hc0))⟩
noncomputable def o83:OrcT:=o82
noncomputable def t83:TellT:=((29,32),sLai)::t82
abbrev tn83:=ze base o83 t83
theorem ok83:OKT tn83:=zq ok82 ok82 (p:=((29,32),sLai)) wLai
noncomputable def Lbn:Nat→Int→LL→Int→Int→LI→Int→Int→LI→LL→LI→LI→LI→LI→Option LI
 | 0,_,_,_,_,_,_,_,_,_,_,_,_,_=>none
 | n+1,x0,x1,x2,x3,x4,x5,x6,x7,x8,x9,A,B,C=>(cond (decide (x6 < x5)) (cond (decide (0≤x6)) (cond (decide (x6 < (x4.length:Int))) (cond (decide (0≤List.getD x4 x6.toNat 0)) (cond (decide (List.getD x4 x6.toNat 0 < (C.length:Int))) (cond (decide ((List.getD x4 x6.toNat 0).toNat < List.length C)) (Lbn n x0 x1 x2 x3 x4 x5 (IntKind.wrap IntKind.i64 (x6+(1:Int))) x7 x8 x9 A B (List.set C (List.getD x4 x6.toNat 0).toNat (IntKind.wrap IntKind.i64 (List.getD C (List.getD x4 x6.toNat 0).toNat 0+x0)))) none) none) none) none) none) (some C))
theorem qLbn:type_of% @Lbn.eq_2:=@Lbn.eq_2
noncomputable def xLbn (x0:Int) (x1:LL) (x2 x3:Int) (x4:LI) (x5 x6:Int) (x7:LI) (x8:LL) (x9:LI) (A:LI) (B:LI) (C:LI):LI→Ex×CS:=fun r=>((.exit 2),{ sl:=[(0,.v (.sc (.ptr 0 0))),(20,.v (.sc (.d 22 lT x1))),(21,.v (.sc (I4 x2))),(22,.v (.sc (I4 x3)))],lo:=[],h:=[.box 73 [.d 3 iT (x7),.d 22 lT (x8),.d 3 iT (x9),.g 1,.g 3],.row 3 iT (A),.row 3 iT (B),.row 3 iT (r:LI)],n0:=3,w:=false })
abbrev cLbn (x0:Int) (x1:LL) (x2 x3:Int) (x4:LI) (x5 x6:Int) (x7:LI) (x8:LL) (x9:LI) (A:LI) (B:LI) (C:LI):CS:={ sl:=[(0,.v (.sc (.ptr 0 0))),(4,.v (.sc (I4 x0))),(20,.v (.sc (.d 22 lT x1))),(21,.v (.sc (I4 x2))),(22,.v (.sc (I4 x3))),(30,.v (.sc (.d 3 iT x4))),(31,.v (.sc (I4 x5))),(32,.v (.sc (I4 x6)))],lo:=[],h:=[.box 73 [.d 3 iT (x7),.d 22 lT (x8),.d 3 iT (x9),.g 1,.g 3],.row 3 iT (A),.row 3 iT (B),.row 3 iT (C)],n0:=3,w:=false }
theorem bLbn (k:Nat) (cN:KN) (cX:KX) (x0:Int) (x1:LL) (x2 x3:Int) (x4:LI) (x5 x6:Int) (x7:LI) (x8:LL) (x9:LI) (A:LI) (B:LI) (C:LI):zi zP (tn83 48) (TM.evF zP (tn83) dOk (k+40)) dOk (k+40) (za zP (tn0 48) 48 16) 2 16 (cLbn x0 x1 x2 x3 x4 x5 x6 x7 x8 x9 A B C) cN cX=(cond (decide (x6 < x5)) (cond (decide (0≤x6)) (cond (decide (x6 < (x4.length:Int))) (cond (decide (0≤List.getD x4 x6.toNat 0)) (cond (decide (List.getD x4 x6.toNat 0 < (C.length:Int))) (cond (decide ((List.getD x4 x6.toNat 0).toNat < List.length C)) (cond (decide (0≤List.getD x4 x6.toNat 0)) (cond (decide (List.getD x4 x6.toNat 0 < (C.length:Int))) (cond (decide ((List.getD x4 x6.toNat 0).toNat < List.length C)) (cN (cLbn x0 x1 x2 x3 x4 x5 (IntKind.wrap IntKind.i64 (x6+(1:Int))) x7 x8 x9 A B (List.set C (List.getD x4 x6.toNat 0).toNat (IntKind.wrap IntKind.i64 (List.getD C (List.getD x4 x6.toNat 0).toNat 0+x0)):LI))) none) none) none) none) none) none) none) none) (cP cX (xLbn x0 x1 x2 x3 x4 x5 x6 x7 x8 x9 A B C C))):=by kernel_rfl
theorem lLbn (k m:Nat):∀ (n:Nat) (x0:Int) (x1:LL) (x2 x3:Int) (x4:LI) (x5 x6:Int) (x7:LI) (x8:LL) (x9:LI) (A:LI) (B:LI) (C:LI) (r:LI),Lbn n x0 x1 x2 x3 x4 x5 x6 x7 x8 x9 A B C=some r→zw zP (tn83 48) (TM.evF zP (tn83) dOk (k+40)) dOk (k+40) (za zP (tn0 48) 48 16) 2 16 (n+m) (cLbn x0 x1 x2 x3 x4 x5 x6 x7 x8 x9 A B C)=some (xLbn x0 x1 x2 x3 x4 x5 x6 x7 x8 x9 A B C r):=by
 intro n
 induction n with
 | zero=>intro _ _ _ _ _ _ _ _ _ _ _ _ _ r h;cases h
 | succ n ih=>
  intro x0 x1 x2 x3 x4 x5 x6 x7 x8 x9 A B C r
  rw [show n+1+m=n+m+1 by omega,zf,bLbn,qLbn]
  cases (decide (x6 < x5)) with
  | true=>
   cases (decide (0≤x6)) with
   | true=>
    cases (decide (x6 < (x4.length:Int))) with
    | true=>
     cases (decide (0≤List.getD x4 x6.toNat 0)) with
     | true=>
      cases (decide (List.getD x4 x6.toNat 0 < (C.length:Int))) with
      | true=>
       cases (decide ((List.getD x4 x6.toNat 0).toNat < List.length C)) with
       | true=>
        exact ih _ _ _ _ _ _ _ _ _ _ _ _ _ r
       | false=>
        intro h;cases h
      | false=>
       intro h;cases h
     | false=>
      intro h;cases h
    | false=>
     intro h;cases h
   | false=>
    intro h;cases h
  | false=>
   intro h;cases h;rfl
noncomputable def sLbn:TellS:=fun S=>dCS 3 S fun y1 y2 y3=>dSs 0 y1 fun y5 l4=>zp 0 0 y5<|dSI 4 .i64 l4 fun x0 l6=>dSs 20 l6 fun y8 l7=>dD 22 lT y8 fun x1=>dSI 21 .i64 l7 fun x2 l9=>dSI 22 .i64 l9 fun x3 l10=>dSs 30 l10 fun y12 l11=>dD 3 iT y12 fun x4=>dSI 31 .i64 l11 fun x5 l13=>dSI 32 .i64 l13 fun x6 l14=>dE l14<|dE y2<|dHB 73 y3 fun y16 l15=>dC y16 fun y17 l18=>dD 3 iT y17 fun x7=>dC l18 fun y19 l20=>dD 22 lT y19 fun x8=>dC l20 fun y21 l22=>dD 3 iT y21 fun x9=>dC l22 fun y23 l24=>dG 1 y23<|dC l24 fun y25 l26=>dG 3 y25<|dE l26<|dHR 3 iT l15 fun A l27=>dHR 3 iT l27 fun B l28=>dHR 3 iT l28 fun C l29=>dE l29 <|  some [te (Lbn FU x0 x1 x2 x3 x4 x5 x6 x7 x8 x9 A B C) (xLbn x0 x1 x2 x3 x4 x5 x6 x7 x8 x9 A B C)]
theorem wLbn:zo zP dOk base o83 t83 ((48,16),sLbn):=by
 refine ⟨.loop (za zP (tn0 48) 48 16),2,by kernel_rfl,?_⟩
 intro S alts e S' h1 h2
 change sLbn S=_ at h1
 unfold sLbn at h1
 repeat with_reducible first|replace h1:=zE h1;obtain ⟨_,_,_,rfl,h1⟩:=h1|(first|replace h1:=zJ h1|replace h1:=zF h1|replace h1:=zM h1|replace h1:=dCq h1|replace h1:=zV h1);obtain ⟨_,_,rfl,h1⟩:=h1|(first|replace h1:=zx h1|replace h1:=dEq h1|replace h1:=dGq h1);obtain ⟨rfl,h1⟩:=h1|replace h1:=dDq h1;obtain ⟨_,rfl,h1⟩:=h1
 cases h1
 obtain ⟨hc0,rfl,rfl⟩:=zk h2
 exact ⟨FU+40,(zb rfl).trans (lLbn FU 40 FU _ _ _ _ _ _ _ _ _ _ _ _ _ _ (zc hc0))⟩
noncomputable def o84:OrcT:=o83
noncomputable def t84:TellT:=((48,16),sLbn)::t83
abbrev tn84:=ze base o84 t84
theorem ok84:OKT tn84:=zq ok83 ok83 (p:=((48,16),sLbn)) wLbn
noncomputable def Lbp:Nat→LL→Int→Int→LI→LL→LI→LI→LI→LI→Option LI
 | 0,_,_,_,_,_,_,_,_,_=>none
 | n+1,x0,x1,x2,x3,x4,x5,x6,x7,x8=>(cond (decide (x2 < x1)) (cond (decide (0≤x2)) (cond (decide (x2 < (x0.length:Int))) (cond (ok (v52 (List.getD x0 x2.toNat []) x3 x4 x5 x6 x8)) (cond (decide (val (v52 (List.getD x0 x2.toNat []) x3 x4 x5 x6 x8)≠0)) (cond (ok (Lbn FU (IntKind.wrap IntKind.i64 (Int.tdiv (1000000000:Int) (val (v52 (List.getD x0 x2.toNat []) x3 x4 x5 x6 x8)))) x0 x1 x2 (List.getD x0 x2.toNat []) (↑(List.length (List.getD x0 x2.toNat [])):Int) 0 x3 x4 x5 x6 x7 x8)) (Lbp n x0 x1 (IntKind.wrap IntKind.i64 (x2+(1:Int))) x3 x4 x5 x6 x7 (val (Lbn FU (IntKind.wrap IntKind.i64 (Int.tdiv (1000000000:Int) (val (v52 (List.getD x0 x2.toNat []) x3 x4 x5 x6 x8)))) x0 x1 x2 (List.getD x0 x2.toNat []) (↑(List.length (List.getD x0 x2.toNat [])):Int) 0 x3 x4 x5 x6 x7 x8))) none) none) none) none) none) (some x8))
theorem qLbp:type_of% @Lbp.eq_2:=@Lbp.eq_2
noncomputable def xLbp (x0:LL) (x1 x2:Int) (x3:LI) (x4:LL) (x5:LI) (x6:LI) (x7:LI) (x8:LI):LI→Ex×CS:=fun r=>((.exit 0),{ sl:=[],lo:=[],h:=[.box 73 [.d 3 iT (x3),.d 22 lT (x4),.d 3 iT (x5),.g 1,.g 3],.row 3 iT (x6),.row 3 iT (x7),.row 3 iT (r:LI)],n0:=3,w:=false })
abbrev cLbp (x0:LL) (x1 x2:Int) (x3:LI) (x4:LL) (x5:LI) (x6:LI) (x7:LI) (x8:LI):CS:={ sl:=[(0,.v (.sc (.ptr 0 0))),(20,.v (.sc (.d 22 lT x0))),(21,.v (.sc (I4 x1))),(22,.v (.sc (I4 x2)))],lo:=[],h:=[.box 73 [.d 3 iT (x3),.d 22 lT (x4),.d 3 iT (x5),.g 1,.g 3],.row 3 iT (x6),.row 3 iT (x7),.row 3 iT (x8)],n0:=3,w:=false }
theorem bLbp (k:Nat) (cN:KN) (cX:KX) (x0:LL) (x1 x2:Int) (x3:LI) (x4:LL) (x5:LI) (x6:LI) (x7:LI) (x8:LI):zi zP (tn84 48) (TM.evF zP (tn84) dOk (k+40)) dOk (k+40) (za zP (tn0 48) 48 0) 0 0 (cLbp x0 x1 x2 x3 x4 x5 x6 x7 x8) cN cX=(cond (decide (x2 < x1)) (cond (decide (0≤x2)) (cond (decide (x2 < (x0.length:Int))) (cond (ok (v52 (List.getD x0 x2.toNat []) x3 x4 x5 x6 x8)) (cond (decide (val (v52 (List.getD x0 x2.toNat []) x3 x4 x5 x6 x8)≠0)) (cond (ok (Lbn FU (IntKind.wrap IntKind.i64 (Int.tdiv (1000000000:Int) (val (v52 (List.getD x0 x2.toNat []) x3 x4 x5 x6 x8)))) x0 x1 x2 (List.getD x0 x2.toNat []) (↑(List.length (List.getD x0 x2.toNat [])):Int) 0 x3 x4 x5 x6 x7 x8)) (cN (cLbp x0 x1 (IntKind.wrap IntKind.i64 (x2+(1:Int))) x3 x4 x5 x6 x7 (val (Lbn FU (IntKind.wrap IntKind.i64 (Int.tdiv (1000000000:Int) (val (v52 (List.getD x0 x2.toNat []) x3 x4 x5 x6 x8)))) x0 x1 x2 (List.getD x0 x2.toNat []) (↑(List.length (List.getD x0 x2.toNat [])):Int) 0 x3 x4 x5 x6 x7 x8):LI))) none) none) none) none) none) (cP cX (xLbp x0 x1 x2 x3 x4 x5 x6 x7 x8 x8))):=by kernel_rfl
theorem lLbp (k m:Nat):∀ (n:Nat) (x0:LL) (x1 x2:Int) (x3:LI) (x4:LL) (x5:LI) (x6:LI) (x7:LI) (x8:LI) (r:LI),Lbp n x0 x1 x2 x3 x4 x5 x6 x7 x8=some r→zw zP (tn84 48) (TM.evF zP (tn84) dOk (k+40)) dOk (k+40) (za zP (tn0 48) 48 0) 0 0 (n+m) (cLbp x0 x1 x2 x3 x4 x5 x6 x7 x8)=some (xLbp x0 x1 x2 x3 x4 x5 x6 x7 x8 r):=by
 intro n
 induction n with
 | zero=>intro _ _ _ _ _ _ _ _ _ r h;cases h
 | succ n ih=>
  intro x0 x1 x2 x3 x4 x5 x6 x7 x8 r
  rw [show n+1+m=n+m+1 by omega,zf,bLbp,qLbp]
  with_reducible repeat' refine zS ?_ ?_
  all_goals first | exact ih _ _ _ _ _ _ _ _ _ r | (intro h;cases h;done) | (intro h;cases h;rfl)
noncomputable def sLbp:TellS:=fun S=>dCS 3 S fun y1 y2 y3=>dSs 0 y1 fun y5 l4=>zp 0 0 y5<|dSs 20 l4 fun y7 l6=>dD 22 lT y7 fun x0=>dSI 21 .i64 l6 fun x1 l8=>dSI 22 .i64 l8 fun x2 l9=>dE l9<|dE y2<|dHB 73 y3 fun y11 l10=>dC y11 fun y12 l13=>dD 3 iT y12 fun x3=>dC l13 fun y14 l15=>dD 22 lT y14 fun x4=>dC l15 fun y16 l17=>dD 3 iT y16 fun x5=>dC l17 fun y18 l19=>dG 1 y18<|dC l19 fun y20 l21=>dG 3 y20<|dE l21<|dHR 3 iT l10 fun x6 l22=>dHR 3 iT l22 fun x7 l23=>dHR 3 iT l23 fun x8 l24=>dE l24 <|  some [te (Lbp FU x0 x1 x2 x3 x4 x5 x6 x7 x8) (xLbp x0 x1 x2 x3 x4 x5 x6 x7 x8)]
theorem wLbp:zo zP dOk base o84 t84 ((48,0),sLbp):=by
 refine ⟨.loop (za zP (tn0 48) 48 0),0,by kernel_rfl,?_⟩
 intro S alts e S' h1 h2
 change sLbp S=_ at h1
 unfold sLbp at h1
 repeat with_reducible first|replace h1:=zE h1;obtain ⟨_,_,_,rfl,h1⟩:=h1|(first|replace h1:=zJ h1|replace h1:=zF h1|replace h1:=zM h1|replace h1:=dCq h1|replace h1:=zV h1);obtain ⟨_,_,rfl,h1⟩:=h1|(first|replace h1:=zx h1|replace h1:=dEq h1|replace h1:=dGq h1);obtain ⟨rfl,h1⟩:=h1|replace h1:=dDq h1;obtain ⟨_,rfl,h1⟩:=h1
 cases h1
 obtain ⟨hc0,rfl,rfl⟩:=zk h2
 exact ⟨FU+40,(zb rfl).trans (lLbp FU 40 FU _ _ _ _ _ _ _ _ _ _ (zc hc0))⟩
noncomputable def o85:OrcT:=o84
noncomputable def t85:TellT:=((48,0),sLbp)::t84
abbrev tn85:=ze base o85 t85
theorem ok85:OKT tn85:=zq ok84 ok84 (p:=((48,0),sLbp)) wLbp
noncomputable def tv48_1 {β:Type} (x0:LI) (x1:LL) (x2:LI) (x3:LI) (x4:LI) (K:LI→Option β):Option β:=(cond (decide ((x3.length:Int)≤(x3.length:Int))) (cond (decide ((x3.length:Int)≤(↑(nat_lit 2147483648):Int))) (cond (ok (Lbp FU x1 (x1.length:Int) 0 x0 x1 x2 x3 x4 (List.replicate (x3.length:Int).toNat 0))) (K (val (Lbp FU x1 (x1.length:Int) 0 x0 x1 x2 x3 x4 (List.replicate (x3.length:Int).toNat 0)))) none) none) none)
noncomputable def v48_1 (x0:LI) (x1:LL) (x2:LI) (x3:LI) (x4:LI):Option LI:=tv48_1 x0 x1 x2 x3 x4 some
theorem ev48_1 (x0:LI) (x1:LL) (x2:LI) (x3:LI) (x4:LI):zn zP (tn85 48) (TM.evF zP (tn85) dOk 40) dOk 40 48 [.sc (.ptr 0 0)] [.box 73 [.d 3 iT (x0),.d 22 lT (x1),.d 3 iT (x2),.g 1,.g 2],.row 3 iT (x3),.row 3 iT (x4)]=(v48_1 x0 x1 x2 x3 x4).bind fun r=>some ([],[.box 73 [.d 3 iT (x0),.d 22 lT (x1),.d 3 iT (x2),.g 1,.g 3],.row 3 iT (x3),.row 3 iT (x4),.row 3 iT (r:LI)]):=by
 refine Eq.trans (b:=tv48_1 x0 x1 x2 x3 x4 fun r=>some ([],[.box 73 [.d 3 iT (x0),.d 22 lT (x1),.d 3 iT (x2),.g 1,.g 3],.row 3 iT (x3),.row 3 iT (x4),.row 3 iT (r:LI)])) (by kernel_rfl) ?_
 unfold v48_1 tv48_1
 with_reducible repeat' refine zj ?_ ?_
 all_goals rfl
noncomputable def sv48_1:OrcS:=fun al H=>dC al fun y1 l2=>dS y1 fun y3=>zp 0 0 y3<|dE l2<|dHB 73 H fun y5 l4=>dC y5 fun y6 l7=>dD 3 iT y6 fun x0=>dC l7 fun y8 l9=>dD 22 lT y8 fun x1=>dC l9 fun y10 l11=>dD 3 iT y10 fun x2=>dC l11 fun y12 l13=>dG 1 y12<|dC l13 fun y14 l15=>dG 2 y14<|dE l15<|dHR 3 iT l4 fun x3 l16=>dHR 3 iT l16 fun x4 l17=>dE l17 <|  some [(ok (v48_1 x0 x1 x2 x3 x4),[],[.box 73 [.d 3 iT (x0),.d 22 lT (x1),.d 3 iT (x2),.g 1,.g 3],.row 3 iT (x3),.row 3 iT (x4),.row 3 iT ((val (v48_1 x0 x1 x2 x3 x4)):LI)])]
theorem wv48_1:zl zP dOk base o85 t85 (48,sv48_1):=by
 intro al H q hq rs H2 h2
 change sv48_1 al H=_ at hq
 unfold sv48_1 at hq
 repeat with_reducible first|(first|replace hq:=dCq hq|replace hq:=zM hq|replace hq:=zV hq);obtain ⟨_,_,rfl,hq⟩:=hq|(first|replace hq:=dSq hq|replace hq:=dDq hq);obtain ⟨_,rfl,hq⟩:=hq|(first|replace hq:=zx hq|replace hq:=dEq hq|replace hq:=dGq hq);obtain ⟨rfl,hq⟩:=hq
 cases hq
 obtain ⟨hc0,rfl,rfl⟩:=zd h2
 exact ⟨41,(zu (by kernel_rfl)).trans ((ev48_1 _ _ _ _ _).trans (zh (zc hc0)))⟩
noncomputable def o86:OrcT:=(48,sv48_1)::o85
noncomputable def t86:TellT:=t85
abbrev tn86:=ze base o86 t86
theorem ok86:OKT tn86:=zm ok85 ok85 (p:=(48,sv48_1)) wv48_1
noncomputable def v29 (x0:LI) (x1:LL) (x2:LI) (x3:LI) (x4:LI):Option ((LI)×(LI)):=(cond (ok (Laa FU (-1:Int) (x3.length:Int) 0 x0 x1 x2 x3 x4)) (cond (decide (0≤val (Laa FU (-1:Int) (x3.length:Int) 0 x0 x1 x2 x3 x4))) (cond (decide (val (Laa FU (-1:Int) (x3.length:Int) 0 x0 x1 x2 x3 x4) < (x0.length:Int))) (cond (decide (val (Laa FU (-1:Int) (x3.length:Int) 0 x0 x1 x2 x3 x4) < (x4.length:Int))) (cond (decide ((val (Laa FU (-1:Int) (x3.length:Int) 0 x0 x1 x2 x3 x4)).toNat < List.length x4)) (cond (decide ((x3.length:Int)≤(x3.length:Int))) (cond (decide ((x3.length:Int)≤(↑(nat_lit 2147483648):Int))) (cond (ok (Lab FU (List.getD x0 (val (Laa FU (-1:Int) (x3.length:Int) 0 x0 x1 x2 x3 x4)).toNat 0) (List.getD x4 (val (Laa FU (-1:Int) (x3.length:Int) 0 x0 x1 x2 x3 x4)).toNat 0) (x3.length:Int) 0 x0 x1 x2 x3 x4 (List.replicate (x3.length:Int).toNat 0))) (cond (ok (v53 (val (Lab FU (List.getD x0 (val (Laa FU (-1:Int) (x3.length:Int) 0 x0 x1 x2 x3 x4)).toNat 0) (List.getD x4 (val (Laa FU (-1:Int) (x3.length:Int) 0 x0 x1 x2 x3 x4)).toNat 0) (x3.length:Int) 0 x0 x1 x2 x3 x4 (List.replicate (x3.length:Int).toNat 0))))) (cond (decide (val (v53 (val (Lab FU (List.getD x0 (val (Laa FU (-1:Int) (x3.length:Int) 0 x0 x1 x2 x3 x4)).toNat 0) (List.getD x4 (val (Laa FU (-1:Int) (x3.length:Int) 0 x0 x1 x2 x3 x4)).toNat 0) (x3.length:Int) 0 x0 x1 x2 x3 x4 (List.replicate (x3.length:Int).toNat 0)))) < (50000:Int))) (cond (ok (Lai FU (↑(List.length (val (Lab FU (List.getD x0 (val (Laa FU (-1:Int) (x3.length:Int) 0 x0 x1 x2 x3 x4)).toNat 0) (List.getD x4 (val (Laa FU (-1:Int) (x3.length:Int) 0 x0 x1 x2 x3 x4)).toNat 0) (x3.length:Int) 0 x0 x1 x2 x3 x4 (List.replicate (x3.length:Int).toNat 0)))):Int) 0 x0 x1 x2 x3 x4 (val (Lab FU (List.getD x0 (val (Laa FU (-1:Int) (x3.length:Int) 0 x0 x1 x2 x3 x4)).toNat 0) (List.getD x4 (val (Laa FU (-1:Int) (x3.length:Int) 0 x0 x1 x2 x3 x4)).toNat 0) (x3.length:Int) 0 x0 x1 x2 x3 x4 (List.replicate (x3.length:Int).toNat 0))))) (cond (ok (v48_1 x0 x1 x2 (val (Lai FU (↑(List.length (val (Lab FU (List.getD x0 (val (Laa FU (-1:Int) (x3.length:Int) 0 x0 x1 x2 x3 x4)).toNat 0) (List.getD x4 (val (Laa FU (-1:Int) (x3.length:Int) 0 x0 x1 x2 x3 x4)).toNat 0) (x3.length:Int) 0 x0 x1 x2 x3 x4 (List.replicate (x3.length:Int).toNat 0)))):Int) 0 x0 x1 x2 x3 x4 (val (Lab FU (List.getD x0 (val (Laa FU (-1:Int) (x3.length:Int) 0 x0 x1 x2 x3 x4)).toNat 0) (List.getD x4 (val (Laa FU (-1:Int) (x3.length:Int) 0 x0 x1 x2 x3 x4)).toNat 0) (x3.length:Int) 0 x0 x1 x2 x3 x4 (List.replicate (x3.length:Int).toNat 0))))) x4)) (some (val (Lai FU (↑(List.length (val (Lab FU (List.getD x0 (val (Laa FU (-1:Int) (x3.length:Int) 0 x0 x1 x2 x3 x4)).toNat 0) (List.getD x4 (val (Laa FU (-1:Int) (x3.length:Int) 0 x0 x1 x2 x3 x4)).toNat 0) (x3.length:Int) 0 x0 x1 x2 x3 x4 (List.replicate (x3.length:Int).toNat 0)))):Int) 0 x0 x1 x2 x3 x4 (val (Lab FU (List.getD x0 (val (Laa FU (-1:Int) (x3.length:Int) 0 x0 x1 x2 x3 x4)).toNat 0) (List.getD x4 (val (Laa FU (-1:Int) (x3.length:Int) 0 x0 x1 x2 x3 x4)).toNat 0) (x3.length:Int) 0 x0 x1 x2 x3 x4 (List.replicate (x3.length:Int).toNat 0)))),val (v48_1 x0 x1 x2 (val (Lai FU (↑(List.length (val (Lab FU (List.getD x0 (val (Laa FU (-1:Int) (x3.length:Int) 0 x0 x1 x2 x3 x4)).toNat 0) (List.getD x4 (val (Laa FU (-1:Int) (x3.length:Int) 0 x0 x1 x2 x3 x4)).toNat 0) (x3.length:Int) 0 x0 x1 x2 x3 x4 (List.replicate (x3.length:Int).toNat 0)))):Int) 0 x0 x1 x2 x3 x4 (val (Lab FU (List.getD x0 (val (Laa FU (-1:Int) (x3.length:Int) 0 x0 x1 x2 x3 x4)).toNat 0) (List.getD x4 (val (Laa FU (-1:Int) (x3.length:Int) 0 x0 x1 x2 x3 x4)).toNat 0) (x3.length:Int) 0 x0 x1 x2 x3 x4 (List.replicate (x3.length:Int).toNat 0))))) x4))) none) none) (cond (ok (v48_1 x0 x1 x2 (val (Lab FU (List.getD x0 (val (Laa FU (-1:Int) (x3.length:Int) 0 x0 x1 x2 x3 x4)).toNat 0) (List.getD x4 (val (Laa FU (-1:Int) (x3.length:Int) 0 x0 x1 x2 x3 x4)).toNat 0) (x3.length:Int) 0 x0 x1 x2 x3 x4 (List.replicate (x3.length:Int).toNat 0))) x4)) (some (val (Lab FU (List.getD x0 (val (Laa FU (-1:Int) (x3.length:Int) 0 x0 x1 x2 x3 x4)).toNat 0) (List.getD x4 (val (Laa FU (-1:Int) (x3.length:Int) 0 x0 x1 x2 x3 x4)).toNat 0) (x3.length:Int) 0 x0 x1 x2 x3 x4 (List.replicate (x3.length:Int).toNat 0)),val (v48_1 x0 x1 x2 (val (Lab FU (List.getD x0 (val (Laa FU (-1:Int) (x3.length:Int) 0 x0 x1 x2 x3 x4)).toNat 0) (List.getD x4 (val (Laa FU (-1:Int) (x3.length:Int) 0 x0 x1 x2 x3 x4)).toNat 0) (x3.length:Int) 0 x0 x1 x2 x3 x4 (List.replicate (x3.length:Int).toNat 0))) x4))) none)) none) none) none) none) none) none) none) none) none)
theorem ev29 (x0:LI) (x1:LL) (x2:LI) (x3:LI) (x4:LI):zn zP (tn86 29) (TM.evF zP (tn86) dOk 40) dOk 40 29 [.sc (.ptr 0 0)] [.box 73 [.d 3 iT (x0),.d 22 lT (x1),.d 3 iT (x2),.g 1,.g 2],.row 3 iT (x3),.row 3 iT (x4)]=(v29 x0 x1 x2 x3 x4).bind fun r=>some ([],[.box 73 [.d 3 iT (x0),.d 22 lT (x1),.d 3 iT (x2),.g 3,.g 4],.row 3 iT (x3),.row 3 iT (x4),.row 3 iT (r.1:LI),.row 3 iT (r.2:LI)]):=by
 refine Eq.trans (b:=(cond (ok (Laa FU (-1:Int) (x3.length:Int) 0 x0 x1 x2 x3 x4)) (cond (decide (0≤val (Laa FU (-1:Int) (x3.length:Int) 0 x0 x1 x2 x3 x4))) (cond (decide (val (Laa FU (-1:Int) (x3.length:Int) 0 x0 x1 x2 x3 x4) < (x0.length:Int))) (cond (decide (0≤val (Laa FU (-1:Int) (x3.length:Int) 0 x0 x1 x2 x3 x4))) (cond (decide (val (Laa FU (-1:Int) (x3.length:Int) 0 x0 x1 x2 x3 x4) < (x4.length:Int))) (cond (decide ((val (Laa FU (-1:Int) (x3.length:Int) 0 x0 x1 x2 x3 x4)).toNat < List.length x4)) (cond (decide ((x3.length:Int)≤(x3.length:Int))) (cond (decide ((x3.length:Int)≤(↑(nat_lit 2147483648):Int))) (cond (ok (Lab FU (List.getD x0 (val (Laa FU (-1:Int) (x3.length:Int) 0 x0 x1 x2 x3 x4)).toNat 0) (List.getD x4 (val (Laa FU (-1:Int) (x3.length:Int) 0 x0 x1 x2 x3 x4)).toNat 0) (x3.length:Int) 0 x0 x1 x2 x3 x4 (List.replicate (x3.length:Int).toNat 0))) (cond (ok (v53 (val (Lab FU (List.getD x0 (val (Laa FU (-1:Int) (x3.length:Int) 0 x0 x1 x2 x3 x4)).toNat 0) (List.getD x4 (val (Laa FU (-1:Int) (x3.length:Int) 0 x0 x1 x2 x3 x4)).toNat 0) (x3.length:Int) 0 x0 x1 x2 x3 x4 (List.replicate (x3.length:Int).toNat 0))))) (cond (decide (val (v53 (val (Lab FU (List.getD x0 (val (Laa FU (-1:Int) (x3.length:Int) 0 x0 x1 x2 x3 x4)).toNat 0) (List.getD x4 (val (Laa FU (-1:Int) (x3.length:Int) 0 x0 x1 x2 x3 x4)).toNat 0) (x3.length:Int) 0 x0 x1 x2 x3 x4 (List.replicate (x3.length:Int).toNat 0)))) < (50000:Int))) (cond (ok (Lai FU (↑(List.length (val (Lab FU (List.getD x0 (val (Laa FU (-1:Int) (x3.length:Int) 0 x0 x1 x2 x3 x4)).toNat 0) (List.getD x4 (val (Laa FU (-1:Int) (x3.length:Int) 0 x0 x1 x2 x3 x4)).toNat 0) (x3.length:Int) 0 x0 x1 x2 x3 x4 (List.replicate (x3.length:Int).toNat 0)))):Int) 0 x0 x1 x2 x3 x4 (val (Lab FU (List.getD x0 (val (Laa FU (-1:Int) (x3.length:Int) 0 x0 x1 x2 x3 x4)).toNat 0) (List.getD x4 (val (Laa FU (-1:Int) (x3.length:Int) 0 x0 x1 x2 x3 x4)).toNat 0) (x3.length:Int) 0 x0 x1 x2 x3 x4 (List.replicate (x3.length:Int).toNat 0))))) (cond (ok (v48_1 x0 x1 x2 (val (Lai FU (↑(List.length (val (Lab FU (List.getD x0 (val (Laa FU (-1:Int) (x3.length:Int) 0 x0 x1 x2 x3 x4)).toNat 0) (List.getD x4 (val (Laa FU (-1:Int) (x3.length:Int) 0 x0 x1 x2 x3 x4)).toNat 0) (x3.length:Int) 0 x0 x1 x2 x3 x4 (List.replicate (x3.length:Int).toNat 0)))):Int) 0 x0 x1 x2 x3 x4 (val (Lab FU (List.getD x0 (val (Laa FU (-1:Int) (x3.length:Int) 0 x0 x1 x2 x3 x4)).toNat 0) (List.getD x4 (val (Laa FU (-1:Int) (x3.length:Int) 0 x0 x1 x2 x3 x4)).toNat 0) (x3.length:Int) 0 x0 x1 x2 x3 x4 (List.replicate (x3.length:Int).toNat 0))))) x4)) (some ([],[.box 73 [.d 3 iT (x0),.d 22 lT (x1),.d 3 iT (x2),.g 3,.g 4],.row 3 iT (x3),.row 3 iT (x4),.row 3 iT (val (Lai FU (↑(List.length (val (Lab FU (List.getD x0 (val (Laa FU (-1:Int) (x3.length:Int) 0 x0 x1 x2 x3 x4)).toNat 0) (List.getD x4 (val (Laa FU (-1:Int) (x3.length:Int) 0 x0 x1 x2 x3 x4)).toNat 0) (x3.length:Int) 0 x0 x1 x2 x3 x4 (List.replicate (x3.length:Int).toNat 0)))):Int) 0 x0 x1 x2 x3 x4 (val (Lab FU (List.getD x0 (val (Laa FU (-1:Int) (x3.length:Int) 0 x0 x1 x2 x3 x4)).toNat 0) (List.getD x4 (val (Laa FU (-1:Int) (x3.length:Int) 0 x0 x1 x2 x3 x4)).toNat 0) (x3.length:Int) 0 x0 x1 x2 x3 x4 (List.replicate (x3.length:Int).toNat 0)))):LI),.row 3 iT (val (v48_1 x0 x1 x2 (val (Lai FU (↑(List.length (val (Lab FU (List.getD x0 (val (Laa FU (-1:Int) (x3.length:Int) 0 x0 x1 x2 x3 x4)).toNat 0) (List.getD x4 (val (Laa FU (-1:Int) (x3.length:Int) 0 x0 x1 x2 x3 x4)).toNat 0) (x3.length:Int) 0 x0 x1 x2 x3 x4 (List.replicate (x3.length:Int).toNat 0)))):Int) 0 x0 x1 x2 x3 x4 (val (Lab FU (List.getD x0 (val (Laa FU (-1:Int) (x3.length:Int) 0 x0 x1 x2 x3 x4)).toNat 0) (List.getD x4 (val (Laa FU (-1:Int) (x3.length:Int) 0 x0 x1 x2 x3 x4)).toNat 0) (x3.length:Int) 0 x0 x1 x2 x3 x4 (List.replicate (x3.length:Int).toNat 0))))) x4):LI)])) none) none) (cond (ok (v48_1 x0 x1 x2 (val (Lab FU (List.getD x0 (val (Laa FU (-1:Int) (x3.length:Int) 0 x0 x1 x2 x3 x4)).toNat 0) (List.getD x4 (val (Laa FU (-1:Int) (x3.length:Int) 0 x0 x1 x2 x3 x4)).toNat 0) (x3.length:Int) 0 x0 x1 x2 x3 x4 (List.replicate (x3.length:Int).toNat 0))) x4)) (some ([],[.box 73 [.d 3 iT (x0),.d 22 lT (x1),.d 3 iT (x2),.g 3,.g 4],.row 3 iT (x3),.row 3 iT (x4),.row 3 iT (val (Lab FU (List.getD x0 (val (Laa FU (-1:Int) (x3.length:Int) 0 x0 x1 x2 x3 x4)).toNat 0) (List.getD x4 (val (Laa FU (-1:Int) (x3.length:Int) 0 x0 x1 x2 x3 x4)).toNat 0) (x3.length:Int) 0 x0 x1 x2 x3 x4 (List.replicate (x3.length:Int).toNat 0)):LI),.row 3 iT (val (v48_1 x0 x1 x2 (val (Lab FU (List.getD x0 (val (Laa FU (-1:Int) (x3.length:Int) 0 x0 x1 x2 x3 x4)).toNat 0) (List.getD x4 (val (Laa FU (-1:Int) (x3.length:Int) 0 x0 x1 x2 x3 x4)).toNat 0) (x3.length:Int) 0 x0 x1 x2 x3 x4 (List.replicate (x3.length:Int).toNat 0))) x4):LI)])) none)) none) none) none) none) none) none) none) none) none) none)) (by kernel_rfl) ?_
 unfold v29
 cases (ok (Laa FU (-1:Int) (x3.length:Int) 0 x0 x1 x2 x3 x4)) with
 | true=>
  cases (decide (0≤val (Laa FU (-1:Int) (x3.length:Int) 0 x0 x1 x2 x3 x4))) with
  | true=>
   cases (decide (val (Laa FU (-1:Int) (x3.length:Int) 0 x0 x1 x2 x3 x4) < (x0.length:Int))) with
   | true=>
    cases (decide (val (Laa FU (-1:Int) (x3.length:Int) 0 x0 x1 x2 x3 x4) < (x4.length:Int))) with
    | true=>
     cases (decide ((val (Laa FU (-1:Int) (x3.length:Int) 0 x0 x1 x2 x3 x4)).toNat < List.length x4)) with
     | true=>
      cases (decide ((x3.length:Int)≤(x3.length:Int))) with
      | true=>
       cases (decide ((x3.length:Int)≤(↑(nat_lit 2147483648):Int))) with
       | true=>
        cases (ok (Lab FU (List.getD x0 (val (Laa FU (-1:Int) (x3.length:Int) 0 x0 x1 x2 x3 x4)).toNat 0) (List.getD x4 (val (Laa FU (-1:Int) (x3.length:Int) 0 x0 x1 x2 x3 x4)).toNat 0) (x3.length:Int) 0 x0 x1 x2 x3 x4 (List.replicate (x3.length:Int).toNat 0))) with
        | true=>
         cases (ok (v53 (val (Lab FU (List.getD x0 (val (Laa FU (-1:Int) (x3.length:Int) 0 x0 x1 x2 x3 x4)).toNat 0) (List.getD x4 (val (Laa FU (-1:Int) (x3.length:Int) 0 x0 x1 x2 x3 x4)).toNat 0) (x3.length:Int) 0 x0 x1 x2 x3 x4 (List.replicate (x3.length:Int).toNat 0))))) with
         | true=>
          cases (decide (val (v53 (val (Lab FU (List.getD x0 (val (Laa FU (-1:Int) (x3.length:Int) 0 x0 x1 x2 x3 x4)).toNat 0) (List.getD x4 (val (Laa FU (-1:Int) (x3.length:Int) 0 x0 x1 x2 x3 x4)).toNat 0) (x3.length:Int) 0 x0 x1 x2 x3 x4 (List.replicate (x3.length:Int).toNat 0)))) < (50000:Int))) with
          | true=>
           cases (ok (Lai FU (↑(List.length (val (Lab FU (List.getD x0 (val (Laa FU (-1:Int) (x3.length:Int) 0 x0 x1 x2 x3 x4)).toNat 0) (List.getD x4 (val (Laa FU (-1:Int) (x3.length:Int) 0 x0 x1 x2 x3 x4)).toNat 0) (x3.length:Int) 0 x0 x1 x2 x3 x4 (List.replicate (x3.length:Int).toNat 0)))):Int) 0 x0 x1 x2 x3 x4 (val (Lab FU (List.getD x0 (val (Laa FU (-1:Int) (x3.length:Int) 0 x0 x1 x2 x3 x4)).toNat 0) (List.getD x4 (val (Laa FU (-1:Int) (x3.length:Int) 0 x0 x1 x2 x3 x4)).toNat 0) (x3.length:Int) 0 x0 x1 x2 x3 x4 (List.replicate (x3.length:Int).toNat 0))))) with
           | true=>
            cases (ok (v48_1 x0 x1 x2 (val (Lai FU (↑(List.length (val (Lab FU (List.getD x0 (val (Laa FU (-1:Int) (x3.length:Int) 0 x0 x1 x2 x3 x4)).toNat 0) (List.getD x4 (val (Laa FU (-1:Int) (x3.length:Int) 0 x0 x1 x2 x3 x4)).toNat 0) (x3.length:Int) 0 x0 x1 x2 x3 x4 (List.replicate (x3.length:Int).toNat 0)))):Int) 0 x0 x1 x2 x3 x4 (val (Lab FU (List.getD x0 (val (Laa FU (-1:Int) (x3.length:Int) 0 x0 x1 x2 x3 x4)).toNat 0) (List.getD x4 (val (Laa FU (-1:Int) (x3.length:Int) 0 x0 x1 x2 x3 x4)).toNat 0) (x3.length:Int) 0 x0 x1 x2 x3 x4 (List.replicate (x3.length:Int).toNat 0))))) x4)) with
            | true=>
             rfl
            | false=>
             rfl
           | false=>
            rfl
          | false=>
           cases (ok (v48_1 x0 x1 x2 (val (Lab FU (List.getD x0 (val (Laa FU (-1:Int) (x3.length:Int) 0 x0 x1 x2 x3 x4)).toNat 0) (List.getD x4 (val (Laa FU (-1:Int) (x3.length:Int) 0 x0 x1 x2 x3 x4)).toNat 0) (x3.length:Int) 0 x0 x1 x2 x3 x4 (List.replicate (x3.length:Int).toNat 0))) x4)) with
           | true=>
            rfl
           | false=>
            rfl
         | false=>
          rfl
        | false=>
         rfl
       | false=>
        rfl
      | false=>
       rfl
     | false=>
      rfl
    | false=>
     rfl
   | false=>
    rfl
  | false=>
   rfl
 | false=>
  rfl
noncomputable def sv29:OrcS:=fun al H=>dC al fun y1 l2=>dS y1 fun y3=>zp 0 0 y3<|dE l2<|dHB 73 H fun y5 l4=>dC y5 fun y6 l7=>dD 3 iT y6 fun x0=>dC l7 fun y8 l9=>dD 22 lT y8 fun x1=>dC l9 fun y10 l11=>dD 3 iT y10 fun x2=>dC l11 fun y12 l13=>dG 1 y12<|dC l13 fun y14 l15=>dG 2 y14<|dE l15<|dHR 3 iT l4 fun x3 l16=>dHR 3 iT l16 fun x4 l17=>dE l17 <|  some [(ok (v29 x0 x1 x2 x3 x4),[],[.box 73 [.d 3 iT (x0),.d 22 lT (x1),.d 3 iT (x2),.g 3,.g 4],.row 3 iT (x3),.row 3 iT (x4),.row 3 iT ((val (v29 x0 x1 x2 x3 x4)).1:LI),.row 3 iT ((val (v29 x0 x1 x2 x3 x4)).2:LI)])]
theorem wv29:zl zP dOk base o86 t86 (29,sv29):=by
 intro al H q hq rs H2 h2
 change sv29 al H=_ at hq
 unfold sv29 at hq
 repeat with_reducible first|(first|replace hq:=dCq hq|replace hq:=zM hq|replace hq:=zV hq);obtain ⟨_,_,rfl,hq⟩:=hq|(first|replace hq:=dSq hq|replace hq:=dDq hq);obtain ⟨_,rfl,hq⟩:=hq|(first|replace hq:=zx hq|replace hq:=dEq hq|replace hq:=dGq hq);obtain ⟨rfl,hq⟩:=hq
 cases hq
 obtain ⟨hc0,rfl,rfl⟩:=zd h2
 exact ⟨41,(zu (by kernel_rfl)).trans ((ev29 _ _ _ _ _).trans (zh (zc hc0)))⟩
noncomputable def o87:OrcT:=(29,sv29)::o86
noncomputable def t87:TellT:=t86
abbrev tn87:=ze base o87 t87
theorem ok87:OKT tn87:=zm ok86 ok86 (p:=(29,sv29)) wv29
end
end Go.Proofs.Ytgmebdomopdgmaa
