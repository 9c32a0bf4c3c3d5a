/- What some functions and loops come to: printed and checked. Written by a program of ours. -/
import Derived.Test.YtgmebdomopdgmaaG0
set_option linter.all false
set_option maxRecDepth 1000000
set_option maxHeartbeats 4000000
namespace Go.Proofs.Ytgmebdomopdgmaa
open Go Go.AM Go.TM Go.Proofs
noncomputable section
noncomputable def Laq:Nat→Int→L3→Int→Int→LL→Int→Int→LI→LI→LI→L3→LL→Option ((LI)×(LI))
 | 0,_,_,_,_,_,_,_,_,_,_,_,_=>none
 | n+1,x0,x1,x2,x3,x4,x5,x6,x7,x8,x9,A,B=>(cond (decide (x6 < x5)) (cond (decide (0≤x6)) (cond (decide (x6 < (x4.length:Int))) (cond (decide (0≤x0)) (cond (decide (x0 < (B.length:Int))) (cond (decide (x6 < (↑(List.length (List.getD B x0.toNat [])):Int))) (cond (ok (vR x0 (List.getD x4 x6.toNat []) (List.getD (List.getD B x0.toNat []) x6.toNat 0) x7 x8)) (Laq n x0 x1 x2 x3 x4 x5 (IntKind.wrap IntKind.i64 (x6+(1:Int))) (val (vR x0 (List.getD x4 x6.toNat []) (List.getD (List.getD B x0.toNat []) x6.toNat 0) x7 x8)).1 (val (vR x0 (List.getD x4 x6.toNat []) (List.getD (List.getD B x0.toNat []) x6.toNat 0) x7 x8)).2 x9 A B) none) none) none) none) none) none) (some (x7,x8)))
theorem qLaq:type_of% @Laq.eq_2:=@Laq.eq_2
noncomputable def xLaq (x0:Int) (x1:L3) (x2 x3:Int) (x4:LL) (x5 x6:Int) (x7:LI) (x8:LI) (x9:LI) (A:L3) (B:LL):((LI)×(LI))→Ex×CS:=fun r=>((.exit 2),{ sl:=[(0,.v (.sc (.yl 0))),(2,.v (.sc (.ptr 6 0))),(9,.v (.sc (.d 23 mT x1))),(10,.v (.sc (I4 x2))),(11,.v (.sc (I4 x3)))],lo:=[],h:=[.loop 0 none 37 41 106 [(7,.v (.sc (.ptr 1 0))),(8,.v (.sc (.ptr 3 0)))],.box 22 [.g 2],.row 3 iT (r.1:LI),.box 22 [.g 4],.row 3 iT (r.2:LI),.box 38 [.d 3 iT (x9),.d 23 mT (A)],.box 23 [.d 22 lT (B)]],n0:=7,w:=false })
abbrev cLaq (x0:Int) (x1:L3) (x2 x3:Int) (x4:LL) (x5 x6:Int) (x7:LI) (x8:LI) (x9:LI) (A:L3) (B:LL):CS:={ sl:=[(0,.v (.sc (.yl 0))),(2,.v (.sc (.ptr 6 0))),(4,.v (.sc (I4 x0))),(9,.v (.sc (.d 23 mT x1))),(10,.v (.sc (I4 x2))),(11,.v (.sc (I4 x3))),(16,.v (.sc (.d 22 lT x4))),(17,.v (.sc (I4 x5))),(18,.v (.sc (I4 x6)))],lo:=[],h:=[.loop 0 none 37 41 106 [(7,.v (.sc (.ptr 1 0))),(8,.v (.sc (.ptr 3 0)))],.box 22 [.g 2],.row 3 iT (x7),.box 22 [.g 4],.row 3 iT (x8),.box 38 [.d 3 iT (x9),.d 23 mT (A)],.box 23 [.d 22 lT (B)]],n0:=7,w:=false }
theorem bLaq (k:Nat) (cN:KN) (cX:KX) (x0:Int) (x1:L3) (x2 x3:Int) (x4:LL) (x5 x6:Int) (x7:LI) (x8:LI) (x9:LI) (A:L3) (B:LL):zi zP (tn39 76) (TM.evF zP (tn39) dOk (k+40)) dOk (k+40) (za zP (tn0 76) 76 16) 2 16 (cLaq x0 x1 x2 x3 x4 x5 x6 x7 x8 x9 A B) cN cX=(cond (decide (x6 < x5)) (cond (decide (0≤x6)) (cond (decide (x6 < (x4.length:Int))) (cond (decide (0≤x0)) (cond (decide (x0 < (B.length:Int))) (cond (decide (0≤x6)) (cond (decide (x6 < (↑(List.length (List.getD B x0.toNat [])):Int))) (cond (ok (vR x0 (List.getD x4 x6.toNat []) (List.getD (List.getD B x0.toNat []) x6.toNat 0) x7 x8)) (cN (cLaq x0 x1 x2 x3 x4 x5 (IntKind.wrap IntKind.i64 (x6+(1:Int))) ((val (vR x0 (List.getD x4 x6.toNat []) (List.getD (List.getD B x0.toNat []) x6.toNat 0) x7 x8)).1:LI) ((val (vR x0 (List.getD x4 x6.toNat []) (List.getD (List.getD B x0.toNat []) x6.toNat 0) x7 x8)).2:LI) x9 A B)) none) none) none) none) none) none) none) (cX (.exit 2) { sl:=[(0,.v (.sc (.yl 0))),(2,.v (.sc (.ptr 6 0))),(9,.v (.sc (.d 23 mT x1))),(10,.v (.sc (I4 x2))),(11,.v (.sc (I4 x3)))],lo:=[],h:=[.loop 0 none 37 41 106 [(7,.v (.sc (.ptr 1 0))),(8,.v (.sc (.ptr 3 0)))],.box 22 [.g 2],.row 3 iT (x7),.box 22 [.g 4],.row 3 iT (x8),.box 38 [.d 3 iT (x9),.d 23 mT (A)],.box 23 [.d 22 lT (B)]],n0:=7,w:=false })):=by kernel_rfl
theorem lLaq (k m:Nat):∀ (n:Nat) (x0:Int) (x1:L3) (x2 x3:Int) (x4:LL) (x5 x6:Int) (x7:LI) (x8:LI) (x9:LI) (A:L3) (B:LL) (r:((LI)×(LI))),Laq n x0 x1 x2 x3 x4 x5 x6 x7 x8 x9 A B=some r→zw zP (tn39 76) (TM.evF zP (tn39) dOk (k+40)) dOk (k+40) (za zP (tn0 76) 76 16) 2 16 (n+m) (cLaq x0 x1 x2 x3 x4 x5 x6 x7 x8 x9 A B)=some (xLaq x0 x1 x2 x3 x4 x5 x6 x7 x8 x9 A B r):=by
 intro n
 induction n with
 | zero=>intro _ _ _ _ _ _ _ _ _ _ _ _ r h;cases h
 | succ n ih=>
  intro x0 x1 x2 x3 x4 x5 x6 x7 x8 x9 A B r
  rw [show n+1+m=n+m+1 by omega,zf,bLaq,qLaq]
  cases (decide (x6 < x5)) with
  | true=>
   cases (decide (0≤x6)) with
   | true=>
    cases (decide (x6 < (x4.length:Int))) with
    | true=>
     cases (decide (0≤x0)) with
     | true=>
      cases (decide (x0 < (B.length:Int))) with
      | true=>
       cases (decide (x6 < (↑(List.length (List.getD B x0.toNat [])):Int))) with
       | true=>
        cases (ok (vR x0 (List.getD x4 x6.toNat []) (List.getD (List.getD B x0.toNat []) x6.toNat 0) x7 x8)) with
        | true=>
         exact ih _ _ _ _ _ _ _ _ _ _ _ _ r
        | false=>
         intro h;cases h
       | false=>
        intro h;cases h
      | false=>
       intro h;cases h
     | false=>
      intro h;cases h
    | false=>
     intro h;cases h
   | false=>
    intro h;cases h
  | false=>
   intro h;cases h;rfl
noncomputable def sLaq:TellS:=fun S=>dCS 7 S fun y1 y2 y3=>dSs 0 y1 fun y5 l4=>dYl 0 y5<|dSs 2 l4 fun y7 l6=>zp 6 0 y7<|dSI 4 .i64 l6 fun x0 l8=>dSs 9 l8 fun y10 l9=>dD 23 mT y10 fun x1=>dSI 10 .i64 l9 fun x2 l11=>dSI 11 .i64 l11 fun x3 l12=>dSs 16 l12 fun y14 l13=>dD 22 lT y14 fun x4=>dSI 17 .i64 l13 fun x5 l15=>dSI 18 .i64 l15 fun x6 l16=>dE l16<|dE y2<|dC y3 fun y18 l17=>wE 0 none 37 41 106 y18 fun y19=>dSs 7 y19 fun y21 l20=>zp 1 0 y21<|dSs 8 l20 fun y23 l22=>zp 3 0 y23<|dE l22<|dHB 22 l17 fun y25 l24=>dC y25 fun y26 l27=>dG 2 y26<|dE l27<|dHR 3 iT l24 fun x7 l28=>dHB 22 l28 fun y30 l29=>dC y30 fun y31 l32=>dG 4 y31<|dE l32<|dHR 3 iT l29 fun x8 l33=>dHB 38 l33 fun y35 l34=>dC y35 fun y36 l37=>dD 3 iT y36 fun x9=>dC l37 fun y38 l39=>dD 23 mT y38 fun A=>dE l39<|dHB 23 l34 fun y41 l40=>dC y41 fun y42 l43=>dD 22 lT y42 fun B=>dE l43<|dE l40 <|  some [(ok (Laq FU x0 x1 x2 x3 x4 x5 x6 x7 x8 x9 A B),(.exit 2),{ sl:=[(0,.v (.sc (.yl 0))),(2,.v (.sc (.ptr 6 0))),(9,.v (.sc (.d 23 mT x1))),(10,.v (.sc (I4 x2))),(11,.v (.sc (I4 x3)))],lo:=[],h:=[.loop 0 none 37 41 106 [(7,.v (.sc (.ptr 1 0))),(8,.v (.sc (.ptr 3 0)))],.box 22 [.g 2],.row 3 iT ((val (Laq FU x0 x1 x2 x3 x4 x5 x6 x7 x8 x9 A B)).1:LI),.box 22 [.g 4],.row 3 iT ((val (Laq FU x0 x1 x2 x3 x4 x5 x6 x7 x8 x9 A B)).2:LI),.box 38 [.d 3 iT (x9),.d 23 mT (A)],.box 23 [.d 22 lT (B)]],n0:=7,w:=false })]
theorem wLaq:zo zP dOk base o39 t39 ((76,16),sLaq):=by
 refine ⟨.loop (za zP (tn0 76) 76 16),2,by kernel_rfl,?_⟩
 intro S alts e S' h1 h2
 change sLaq S=_ at h1
 unfold sLaq at h1
 repeat with_reducible first|replace h1:=zE h1;obtain ⟨_,_,_,rfl,h1⟩:=h1|(first|replace h1:=zJ h1|replace h1:=zF h1|replace h1:=dCq h1|replace h1:=zM h1|replace h1:=zV h1);obtain ⟨_,_,rfl,h1⟩:=h1|(first|replace h1:=WX h1|replace h1:=zx h1|replace h1:=dEq h1|replace h1:=dGq h1);obtain ⟨rfl,h1⟩:=h1|(first|replace h1:=dDq h1|replace h1:=wi h1);obtain ⟨_,rfl,h1⟩:=h1
 cases h1
 obtain ⟨hc0,rfl,rfl⟩:=zk h2
 exact ⟨FU+40,(zb rfl).trans (lLaq FU 40 FU _ _ _ _ _ _ _ _ _ _ _ _ _ (zc hc0))⟩
noncomputable def o40:OrcT:=o39
noncomputable def t40:TellT:=((76,16),sLaq)::t39
abbrev tn40:=ze base o40 t40
theorem ok40:OKT tn40:=zq ok39 ok39 (p:=((76,16),sLaq)) wLaq
noncomputable def LaZ:Nat→L3→Int→Int→LI→LI→LI→L3→LL→Option ((LI)×(LI))
 | 0,_,_,_,_,_,_,_,_=>none
 | n+1,x0,x1,x2,x3,x4,x5,x6,x7=>(cond (decide (x2 < x1)) (cond (decide (0≤x2)) (cond (decide (x2 < (x0.length:Int))) (cond (ok (Laq FU x2 x0 x1 x2 (List.getD x0 x2.toNat []) (↑(List.length (List.getD x0 x2.toNat [])):Int) 0 x3 x4 x5 x6 x7)) (LaZ n x0 x1 (IntKind.wrap IntKind.i64 (x2+(1:Int))) (val (Laq FU x2 x0 x1 x2 (List.getD x0 x2.toNat []) (↑(List.length (List.getD x0 x2.toNat [])):Int) 0 x3 x4 x5 x6 x7)).1 (val (Laq FU x2 x0 x1 x2 (List.getD x0 x2.toNat []) (↑(List.length (List.getD x0 x2.toNat [])):Int) 0 x3 x4 x5 x6 x7)).2 x5 x6 x7) none) none) none) (some (x3,x4)))
theorem qLaZ:type_of% @LaZ.eq_2:=@LaZ.eq_2
noncomputable def xLaZ (x0:L3) (x1 x2:Int) (x3:LI) (x4:LI) (x5:LI) (x6:L3) (x7:LL):((LI)×(LI))→Ex×CS:=fun r=>((.exit 0),{ sl:=[],lo:=[],h:=[.loop 0 none 37 41 106 [(7,.v (.sc (.ptr 1 0))),(8,.v (.sc (.ptr 3 0)))],.box 22 [.g 2],.row 3 iT (r.1:LI),.box 22 [.g 4],.row 3 iT (r.2:LI),.box 38 [.d 3 iT (x5),.d 23 mT (x6)],.box 23 [.d 22 lT (x7)]],n0:=7,w:=false })
abbrev cLaZ (x0:L3) (x1 x2:Int) (x3:LI) (x4:LI) (x5:LI) (x6:L3) (x7:LL):CS:={ sl:=[(0,.v (.sc (.yl 0))),(2,.v (.sc (.ptr 6 0))),(9,.v (.sc (.d 23 mT x0))),(10,.v (.sc (I4 x1))),(11,.v (.sc (I4 x2)))],lo:=[],h:=[.loop 0 none 37 41 106 [(7,.v (.sc (.ptr 1 0))),(8,.v (.sc (.ptr 3 0)))],.box 22 [.g 2],.row 3 iT (x3),.box 22 [.g 4],.row 3 iT (x4),.box 38 [.d 3 iT (x5),.d 23 mT (x6)],.box 23 [.d 22 lT (x7)]],n0:=7,w:=false }
theorem bLaZ (k:Nat) (cN:KN) (cX:KX) (x0:L3) (x1 x2:Int) (x3:LI) (x4:LI) (x5:LI) (x6:L3) (x7:LL):zi zP (tn40 76) (TM.evF zP (tn40) dOk (k+40)) dOk (k+40) (za zP (tn0 76) 76 0) 0 0 (cLaZ x0 x1 x2 x3 x4 x5 x6 x7) cN cX=(cond (decide (x2 < x1)) (cond (decide (0≤x2)) (cond (decide (x2 < (x0.length:Int))) (cond (ok (Laq FU x2 x0 x1 x2 (List.getD x0 x2.toNat []) (↑(List.length (List.getD x0 x2.toNat [])):Int) 0 x3 x4 x5 x6 x7)) (cN (cLaZ x0 x1 (IntKind.wrap IntKind.i64 (x2+(1:Int))) ((val (Laq FU x2 x0 x1 x2 (List.getD x0 x2.toNat []) (↑(List.length (List.getD x0 x2.toNat [])):Int) 0 x3 x4 x5 x6 x7)).1:LI) ((val (Laq FU x2 x0 x1 x2 (List.getD x0 x2.toNat []) (↑(List.length (List.getD x0 x2.toNat [])):Int) 0 x3 x4 x5 x6 x7)).2:LI) x5 x6 x7)) none) none) none) (cX (.exit 0) { sl:=[],lo:=[],h:=[.loop 0 none 37 41 106 [(7,.v (.sc (.ptr 1 0))),(8,.v (.sc (.ptr 3 0)))],.box 22 [.g 2],.row 3 iT (x3),.box 22 [.g 4],.row 3 iT (x4),.box 38 [.d 3 iT (x5),.d 23 mT (x6)],.box 23 [.d 22 lT (x7)]],n0:=7,w:=false })):=by kernel_rfl
theorem lLaZ (k m:Nat):∀ (n:Nat) (x0:L3) (x1 x2:Int) (x3:LI) (x4:LI) (x5:LI) (x6:L3) (x7:LL) (r:((LI)×(LI))),LaZ n x0 x1 x2 x3 x4 x5 x6 x7=some r→zw zP (tn40 76) (TM.evF zP (tn40) dOk (k+40)) dOk (k+40) (za zP (tn0 76) 76 0) 0 0 (n+m) (cLaZ x0 x1 x2 x3 x4 x5 x6 x7)=some (xLaZ x0 x1 x2 x3 x4 x5 x6 x7 r):=by
 intro n
 induction n with
 | zero=>intro _ _ _ _ _ _ _ _ r h;cases h
 | succ n ih=>
  intro x0 x1 x2 x3 x4 x5 x6 x7 r
  rw [show n+1+m=n+m+1 by omega,zf,bLaZ,qLaZ]
  with_reducible repeat' refine zS ?_ ?_
  all_goals first | exact ih _ _ _ _ _ _ _ _ r | (intro h;cases h;done) | (intro h;cases h;rfl)
noncomputable def sLaZ:TellS:=fun S=>dCS 7 S fun y1 y2 y3=>dSs 0 y1 fun y5 l4=>dYl 0 y5<|dSs 2 l4 fun y7 l6=>zp 6 0 y7<|dSs 9 l6 fun y9 l8=>dD 23 mT y9 fun x0=>dSI 10 .i64 l8 fun x1 l10=>dSI 11 .i64 l10 fun x2 l11=>dE l11<|dE y2<|dC y3 fun y13 l12=>wE 0 none 37 41 106 y13 fun y14=>dSs 7 y14 fun y16 l15=>zp 1 0 y16<|dSs 8 l15 fun y18 l17=>zp 3 0 y18<|dE l17<|dHB 22 l12 fun y20 l19=>dC y20 fun y21 l22=>dG 2 y21<|dE l22<|dHR 3 iT l19 fun x3 l23=>dHB 22 l23 fun y25 l24=>dC y25 fun y26 l27=>dG 4 y26<|dE l27<|dHR 3 iT l24 fun x4 l28=>dHB 38 l28 fun y30 l29=>dC y30 fun y31 l32=>dD 3 iT y31 fun x5=>dC l32 fun y33 l34=>dD 23 mT y33 fun x6=>dE l34<|dHB 23 l29 fun y36 l35=>dC y36 fun y37 l38=>dD 22 lT y37 fun x7=>dE l38<|dE l35 <|  some [(ok (LaZ FU x0 x1 x2 x3 x4 x5 x6 x7),(.exit 0),{ sl:=[],lo:=[],h:=[.loop 0 none 37 41 106 [(7,.v (.sc (.ptr 1 0))),(8,.v (.sc (.ptr 3 0)))],.box 22 [.g 2],.row 3 iT ((val (LaZ FU x0 x1 x2 x3 x4 x5 x6 x7)).1:LI),.box 22 [.g 4],.row 3 iT ((val (LaZ FU x0 x1 x2 x3 x4 x5 x6 x7)).2:LI),.box 38 [.d 3 iT (x5),.d 23 mT (x6)],.box 23 [.d 22 lT (x7)]],n0:=7,w:=false })]
theorem wLaZ:zo zP dOk base o40 t40 ((76,0),sLaZ):=by
 refine ⟨.loop (za zP (tn0 76) 76 0),0,by kernel_rfl,?_⟩
 intro S alts e S' h1 h2
 change sLaZ S=_ at h1
 unfold sLaZ at h1
 repeat with_reducible first|replace h1:=zE h1;obtain ⟨_,_,_,rfl,h1⟩:=h1|(first|replace h1:=zJ h1|replace h1:=zF h1|replace h1:=dCq h1|replace h1:=zM h1|replace h1:=zV h1);obtain ⟨_,_,rfl,h1⟩:=h1|(first|replace h1:=WX h1|replace h1:=zx h1|replace h1:=dEq h1|replace h1:=dGq h1);obtain ⟨rfl,h1⟩:=h1|(first|replace h1:=dDq h1|replace h1:=wi h1);obtain ⟨_,rfl,h1⟩:=h1
 cases h1
 obtain ⟨hc0,rfl,rfl⟩:=zk h2
 exact ⟨FU+40,(zb rfl).trans (lLaZ FU 40 FU _ _ _ _ _ _ _ _ _ (zc hc0))⟩
noncomputable def o41:OrcT:=o40
noncomputable def t41:TellT:=((76,0),sLaZ)::t40
abbrev tn41:=ze base o41 t41
theorem ok41:OKT tn41:=zq ok40 ok40 (p:=((76,0),sLaZ)) wLaZ
noncomputable def tv76 {β:Type} (x0:LI) (x1:LI) (x2:LI) (x3:L3) (x4:LL) (K:((LI)×(LI))→Option β):Option β:=(cond (ok (LaZ FU x3 (x3.length:Int) 0 x0 x1 x2 x3 x4)) (K ((val (LaZ FU x3 (x3.length:Int) 0 x0 x1 x2 x3 x4)).1,(val (LaZ FU x3 (x3.length:Int) 0 x0 x1 x2 x3 x4)).2)) none)
noncomputable def v76 (x0:LI) (x1:LI) (x2:LI) (x3:L3) (x4:LL):Option ((LI)×(LI)):=tv76 x0 x1 x2 x3 x4 some
theorem ev76 (x0:LI) (x1:LI) (x2:LI) (x3:L3) (x4:LL):zn zP (tn41 76) (TM.evF zP (tn41) dOk 40) dOk 40 76 [.sc (.yl 0),.sc (.ptr 5 0),.sc (.ptr 6 0)] [.loop 0 none 37 41 106 [(7,.v (.sc (.ptr 1 0))),(8,.v (.sc (.ptr 3 0)))],.box 22 [.g 2],.row 3 iT (x0),.box 22 [.g 4],.row 3 iT (x1),.box 38 [.d 3 iT (x2),.d 23 mT (x3)],.box 23 [.d 22 lT (x4)]]=(v76 x0 x1 x2 x3 x4).bind fun r=>some ([],[.loop 0 none 37 41 106 [(7,.v (.sc (.ptr 1 0))),(8,.v (.sc (.ptr 3 0)))],.box 22 [.g 2],.row 3 iT (r.1:LI),.box 22 [.g 4],.row 3 iT (r.2:LI),.box 38 [.d 3 iT (x2),.d 23 mT (x3)],.box 23 [.d 22 lT (x4)]]):=by
 refine Eq.trans (b:=tv76 x0 x1 x2 x3 x4 fun r=>some ([],[.loop 0 none 37 41 106 [(7,.v (.sc (.ptr 1 0))),(8,.v (.sc (.ptr 3 0)))],.box 22 [.g 2],.row 3 iT (r.1:LI),.box 22 [.g 4],.row 3 iT (r.2:LI),.box 38 [.d 3 iT (x2),.d 23 mT (x3)],.box 23 [.d 22 lT (x4)]])) (by kernel_rfl) ?_
 unfold v76 tv76
 with_reducible repeat' refine zj ?_ ?_
 all_goals rfl
noncomputable def sv76:OrcS:=fun al H=>dC al fun y1 l2=>dS y1 fun y3=>dYl 0 y3<|dC l2 fun y4 l5=>dS y4 fun y6=>zp 5 0 y6<|dC l5 fun y7 l8=>dS y7 fun y9=>zp 6 0 y9<|dE l8<|dC H fun y11 l10=>wE 0 none 37 41 106 y11 fun y12=>dSs 7 y12 fun y14 l13=>zp 1 0 y14<|dSs 8 l13 fun y16 l15=>zp 3 0 y16<|dE l15<|dHB 22 l10 fun y18 l17=>dC y18 fun y19 l20=>dG 2 y19<|dE l20<|dHR 3 iT l17 fun x0 l21=>dHB 22 l21 fun y23 l22=>dC y23 fun y24 l25=>dG 4 y24<|dE l25<|dHR 3 iT l22 fun x1 l26=>dHB 38 l26 fun y28 l27=>dC y28 fun y29 l30=>dD 3 iT y29 fun x2=>dC l30 fun y31 l32=>dD 23 mT y31 fun x3=>dE l32<|dHB 23 l27 fun y34 l33=>dC y34 fun y35 l36=>dD 22 lT y35 fun x4=>dE l36<|dE l33 <|  some [(ok (v76 x0 x1 x2 x3 x4),[],[.loop 0 none 37 41 106 [(7,.v (.sc (.ptr 1 0))),(8,.v (.sc (.ptr 3 0)))],.box 22 [.g 2],.row 3 iT ((val (v76 x0 x1 x2 x3 x4)).1:LI),.box 22 [.g 4],.row 3 iT ((val (v76 x0 x1 x2 x3 x4)).2:LI),.box 38 [.d 3 iT (x2),.d 23 mT (x3)],.box 23 [.d 22 lT (x4)]])]
theorem wv76:zl zP dOk base o41 t41 (76,sv76):=by
 intro al H q hq rs H2 h2
 change sv76 al H=_ at hq
 unfold sv76 at hq
 repeat with_reducible first|(first|replace hq:=dCq hq|replace hq:=zJ hq|replace hq:=zM hq|replace hq:=zV hq);obtain ⟨_,_,rfl,hq⟩:=hq|(first|replace hq:=dSq hq|replace hq:=wi hq|replace hq:=dDq hq);obtain ⟨_,rfl,hq⟩:=hq|(first|replace hq:=WX hq|replace hq:=zx hq|replace hq:=dEq hq|replace hq:=dGq hq);obtain ⟨rfl,hq⟩:=hq
 cases hq
 obtain ⟨hc0,rfl,rfl⟩:=zd h2
 exact ⟨41,(zu (by kernel_rfl)).trans ((ev76 _ _ _ _ _).trans (zh (zc hc0)))⟩
noncomputable def o42:OrcT:=(76,sv76)::o41
noncomputable def t42:TellT:=t41
abbrev tn42:=ze base o42 t42
theorem ok42:OKT tn42:=zm ok41 ok41 (p:=(76,sv76)) wv76
noncomputable def LaR:Nat→LL→Int→Int→LI→L3→LI→Bool→LI→LI→Option (Bool ⊕ Unit)
 | 0,_,_,_,_,_,_,_,_,_=>none
 | n+1,x0,x1,x2,x3,x4,x5,x6,x7,x8=>(cond (decide (x2 < x1)) (cond (decide (0≤x2)) (cond (decide (x2 < (x7.length:Int))) (cond (decide (x2.toNat < List.length x7)) (cond (decide (x2 < (x3.length:Int))) (cond (decide (List.getD x7 x2.toNat 0 > IntKind.wrap IntKind.i64 ((1000000:Int)*List.getD x3 x2.toNat 0))) (some (.inl (false))) (LaR n x0 x1 (IntKind.wrap IntKind.i64 (x2+(1:Int))) x3 x4 x5 x6 x7 x8)) none) none) none) none) (some (.inr ())))
theorem qLaR:type_of% @LaR.eq_2:=@LaR.eq_2
noncomputable def xLaR (x0:LL) (x1 x2:Int) (x3:LI) (x4:L3) (x5:LI) (x6:Bool) (x7:LI) (x8:LI):(Bool ⊕ Unit)→Ex×CS:=fun r=>match r with | .inl a0=>(.ret,{ sl:=[(6,.v (.sc (.ptr 0 0)))],lo:=[],h:=[.box 4 [.bool (a0)]],n0:=0,w:=true }) | .inr b0=>((.exit 4),{ sl:=[(1,.v (.sc (.d 22 lT x0))),(3,.l 3 0),(5,.v (.sc (.ptr 3 0))),(6,.v (.sc (.ptr 2 0))),(8,.v (.sc (.ptr 0 0)))],lo:=[(3,[.d 3 iT (x3),.d 23 mT (x4)])],h:=[.box 22 [.g 1],.row 3 iT (x5),.box 4 [.bool (x6)],.box 22 [.d 3 iT (x8)]],n0:=0,w:=false })
abbrev cLaR (x0:LL) (x1 x2:Int) (x3:LI) (x4:L3) (x5:LI) (x6:Bool) (x7:LI) (x8:LI):CS:={ sl:=[(1,.v (.sc (.d 22 lT x0))),(3,.l 3 0),(5,.v (.sc (.ptr 4 0))),(6,.v (.sc (.ptr 2 0))),(8,.v (.sc (.ptr 0 0))),(57,.v (.sc (.g 3))),(58,.v (.sc (I4 x1))),(59,.v (.sc (I4 x2)))],lo:=[(3,[.d 3 iT (x3),.d 23 mT (x4)])],h:=[.box 22 [.g 1],.row 3 iT (x5),.box 4 [.bool (x6)],.row 3 iT (x7),.box 22 [.d 3 iT (x8)]],n0:=0,w:=false }
theorem bLaR (k:Nat) (cN:KN) (cX:KX) (x0:LL) (x1 x2:Int) (x3:LI) (x4:L3) (x5:LI) (x6:Bool) (x7:LI) (x8:LI):zi zP (tn42 37) (TM.evF zP (tn42) dOk (k+40)) dOk (k+40) (za zP (tn0 37) 37 32) 4 32 (cLaR x0 x1 x2 x3 x4 x5 x6 x7 x8) cN cX=(cond (decide (x2 < x1)) (cond (decide (0≤x2)) (cond (decide (x2 < (x7.length:Int))) (cond (decide (x2.toNat < List.length x7)) (cond (decide (0≤x2)) (cond (decide (x2 < (x3.length:Int))) (cond (decide (List.getD x7 x2.toNat 0 > IntKind.wrap IntKind.i64 ((1000000:Int)*List.getD x3 x2.toNat 0))) (cX .ret { sl:=[(6,.v (.sc (.ptr 0 0)))],lo:=[],h:=[.box 4 [.bool (false)]],n0:=0,w:=true }) (cN (cLaR x0 x1 (IntKind.wrap IntKind.i64 (x2+(1:Int))) x3 x4 x5 x6 x7 x8))) none) none) none) none) none) (cX (.exit 4) { sl:=[(1,.v (.sc (.d 22 lT x0))),(3,.l 3 0),(5,.v (.sc (.ptr 3 0))),(6,.v (.sc (.ptr 2 0))),(8,.v (.sc (.ptr 0 0)))],lo:=[(3,[.d 3 iT (x3),.d 23 mT (x4)])],h:=[.box 22 [.g 1],.row 3 iT (x5),.box 4 [.bool (x6)],.box 22 [.d 3 iT (x8)]],n0:=0,w:=false })):=by kernel_rfl
theorem lLaR (k m:Nat):∀ (n:Nat) (x0:LL) (x1 x2:Int) (x3:LI) (x4:L3) (x5:LI) (x6:Bool) (x7:LI) (x8:LI) (r:(Bool ⊕ Unit)),LaR n x0 x1 x2 x3 x4 x5 x6 x7 x8=some r→zw zP (tn42 37) (TM.evF zP (tn42) dOk (k+40)) dOk (k+40) (za zP (tn0 37) 37 32) 4 32 (n+m) (cLaR x0 x1 x2 x3 x4 x5 x6 x7 x8)=some (xLaR x0 x1 x2 x3 x4 x5 x6 x7 x8 r):=by
 intro n
 induction n with
 | zero=>intro _ _ _ _ _ _ _ _ _ r h;cases h
 | succ n ih=>
  intro x0 x1 x2 x3 x4 x5 x6 x7 x8 r
  rw [show n+1+m=n+m+1 by omega,zf,bLaR,qLaR]
  cases (decide (x2 < x1)) with
  | true=>
   cases (decide (0≤x2)) with
   | true=>
    cases (decide (x2 < (x7.length:Int))) with
    | true=>
     cases (decide (x2.toNat < List.length x7)) with
     | true=>
      cases (decide (x2 < (x3.length:Int))) with
      | true=>
       cases (decide (List.getD x7 x2.toNat 0 > IntKind.wrap IntKind.i64 ((1000000:Int)*List.getD x3 x2.toNat 0))) with
       | true=>
        intro h;cases h;rfl
       | false=>
        exact ih _ _ _ _ _ _ _ _ _ r
      | false=>
       intro h;cases h
     | false=>
      intro h;cases h
    | false=>
     intro h;cases h
   | false=>
    intro h;cases h
  | false=>
   intro h;cases h;rfl
noncomputable def sLaR:TellS:=fun S=>dCS 0 S fun y1 y2 y3=>dSs 1 y1 fun y5 l4=>dD 22 lT y5 fun x0=>dSt 3 l4 fun y7 l6=>dL 3 0 y7<|dSs 5 l6 fun y9 l8=>zp 4 0 y9<|dSs 6 l8 fun y11 l10=>zp 2 0 y11<|dSs 8 l10 fun y13 l12=>zp 0 0 y13<|dSs 57 l12 fun y15 l14=>dG 3 y15<|dSI 58 .i64 l14 fun x1 l16=>dSI 59 .i64 l16 fun x2 l17=>dE l17<|dLo 3 y2 fun y18 l19=>dC y18 fun y20 l21=>dD 3 iT y20 fun x3=>dC l21 fun y22 l23=>dD 23 mT y22 fun x4=>dE l23<|dE l19<|dHB 22 y3 fun y25 l24=>dC y25 fun y26 l27=>dG 1 y26<|dE l27<|dHR 3 iT l24 fun x5 l28=>dHB 4 l28 fun y30 l29=>dC y30 fun y31 l32=>wp y31 fun x6=>dE l32<|dHR 3 iT l29 fun x7 l33=>dHB 22 l33 fun y35 l34=>dC y35 fun y36 l37=>dD 3 iT y36 fun x8=>dE l37<|dE l34 <|  some [(isL (LaR FU x0 x1 x2 x3 x4 x5 x6 x7 x8),.ret,{ sl:=[(6,.v (.sc (.ptr 0 0)))],lo:=[],h:=[.box 4 [.bool ((zH (LaR FU x0 x1 x2 x3 x4 x5 x6 x7 x8)))]],n0:=0,w:=true }),(ok (zA (LaR FU x0 x1 x2 x3 x4 x5 x6 x7 x8)),(.exit 4),{ sl:=[(1,.v (.sc (.d 22 lT x0))),(3,.l 3 0),(5,.v (.sc (.ptr 3 0))),(6,.v (.sc (.ptr 2 0))),(8,.v (.sc (.ptr 0 0)))],lo:=[(3,[.d 3 iT (x3),.d 23 mT (x4)])],h:=[.box 22 [.g 1],.row 3 iT (x5),.box 4 [.bool (x6)],.box 22 [.d 3 iT (x8)]],n0:=0,w:=false })]
theorem wLaR:zo zP dOk base o42 t42 ((37,32),sLaR):=by
 refine ⟨.loop (za zP (tn0 37) 37 32),4,by kernel_rfl,?_⟩
 intro S alts e S' h1 h2
 change sLaR S=_ at h1
 unfold sLaR at h1
 repeat with_reducible first|replace h1:=zE h1;obtain ⟨_,_,_,rfl,h1⟩:=h1|(first|replace h1:=zJ h1|replace h1:=ye h1|replace h1:=zF h1|replace h1:=yg h1|replace h1:=dCq h1|replace h1:=zM h1|replace h1:=zV h1);obtain ⟨_,_,rfl,h1⟩:=h1|(first|replace h1:=dDq h1|replace h1:=xO h1);obtain ⟨_,rfl,h1⟩:=h1|(first|replace h1:=dLq h1|replace h1:=zx h1|replace h1:=dGq h1|replace h1:=dEq h1);obtain ⟨rfl,h1⟩:=h1
 cases h1
 rcases zK h2 with ⟨hc0,rfl,rfl⟩ | h2
 · exact ⟨FU+40,(zb rfl).trans (lLaR FU 40 FU _ _ _ _ _ _ _ _ _ _ (zT hc0))⟩
 obtain ⟨hc1,rfl,rfl⟩:=zk h2
 exact ⟨FU+40,(zb rfl).trans (lLaR FU 40 FU _ _ _ _ _ _ _ _ _ _ (zN (zc hc1)))⟩
noncomputable def o43:OrcT:=o42
noncomputable def t43:TellT:=((37,32),sLaR)::t42
abbrev tn43:=ze base o43 t43
theorem ok43:OKT tn43:=zq ok42 ok42 (p:=((37,32),sLaR)) wLaR
noncomputable def Laj:Nat→Int→Int→LI→Int→Int→LI→Bool→LI→Option Int
 | 0,_,_,_,_,_,_,_,_=>none
 | n+1,x0,x1,x2,x3,x4,x5,x6,x7=>(cond (decide (x4 < x3)) (cond (decide (0≤x4)) (cond (decide (x4 < (x2.length:Int))) (cond (decide (0≤List.getD x2 x4.toNat 0)) (cond (decide (List.getD x2 x4.toNat 0 < (x5.length:Int))) (Laj n x0 (IntKind.wrap IntKind.i64 (x1+List.getD x5 (List.getD x2 x4.toNat 0).toNat 0)) x2 x3 (IntKind.wrap IntKind.i64 (x4+(1:Int))) x5 x6 x7) none) none) none) none) (some x1))
theorem qLaj:type_of% @Laj.eq_2:=@Laj.eq_2
noncomputable def xLaj (x0 x1:Int) (x2:LI) (x3 x4:Int) (x5:LI) (x6:Bool) (x7:LI):Int→Ex×CS:=fun r=>((.exit 8),{ sl:=[(6,.v (.sc (.ptr 2 0))),(8,.v (.sc (.ptr 3 0))),(15,.v (.sc (I4 x0))),(17,.v (.sc (I4 (r))))],lo:=[],h:=[.loop 1 none 37 161 106 [(5,.v (.sc (.ptr 1 0))),(6,.v (.sc (.ptr 2 0))),(8,.v (.sc (.ptr 3 0)))],.box 22 [.d 3 iT (x5)],.box 4 [.bool (x6)],.box 22 [.g 4],.row 3 iT (x7)],n0:=5,w:=false })
abbrev cLaj (x0 x1:Int) (x2:LI) (x3 x4:Int) (x5:LI) (x6:Bool) (x7:LI):CS:={ sl:=[(5,.v (.sc (.ptr 1 0))),(6,.v (.sc (.ptr 2 0))),(8,.v (.sc (.ptr 3 0))),(15,.v (.sc (I4 x0))),(17,.v (.sc (I4 x1))),(79,.v (.sc (.d 3 iT x2))),(80,.v (.sc (I4 x3))),(81,.v (.sc (I4 x4)))],lo:=[],h:=[.loop 1 none 37 161 106 [(5,.v (.sc (.ptr 1 0))),(6,.v (.sc (.ptr 2 0))),(8,.v (.sc (.ptr 3 0)))],.box 22 [.d 3 iT (x5)],.box 4 [.bool (x6)],.box 22 [.g 4],.row 3 iT (x7)],n0:=5,w:=false }
theorem bLaj (k:Nat) (cN:KN) (cX:KX) (x0 x1:Int) (x2:LI) (x3 x4:Int) (x5:LI) (x6:Bool) (x7:LI):zi zP (tn43 37) (TM.evF zP (tn43) dOk (k+40)) dOk (k+40) (za zP (tn0 37) 37 64) 8 64 (cLaj x0 x1 x2 x3 x4 x5 x6 x7) cN cX=(cond (decide (x4 < x3)) (cond (decide (0≤x4)) (cond (decide (x4 < (x2.length:Int))) (cond (decide (0≤List.getD x2 x4.toNat 0)) (cond (decide (List.getD x2 x4.toNat 0 < (x5.length:Int))) (cN (cLaj x0 (IntKind.wrap IntKind.i64 (x1+List.getD x5 (List.getD x2 x4.toNat 0).toNat 0)) x2 x3 (IntKind.wrap IntKind.i64 (x4+(1:Int))) x5 x6 x7)) none) none) none) none) (cP cX (xLaj x0 x1 x2 x3 x4 x5 x6 x7 x1))):=by kernel_rfl
theorem lLaj (k m:Nat):∀ (n:Nat) (x0 x1:Int) (x2:LI) (x3 x4:Int) (x5:LI) (x6:Bool) (x7:LI) (r:Int),Laj n x0 x1 x2 x3 x4 x5 x6 x7=some r→zw zP (tn43 37) (TM.evF zP (tn43) dOk (k+40)) dOk (k+40) (za zP (tn0 37) 37 64) 8 64 (n+m) (cLaj x0 x1 x2 x3 x4 x5 x6 x7)=some (xLaj x0 x1 x2 x3 x4 x5 x6 x7 r):=by
 intro n
 induction n with
 | zero=>intro _ _ _ _ _ _ _ _ r h;cases h
 | succ n ih=>
  intro x0 x1 x2 x3 x4 x5 x6 x7 r
  rw [show n+1+m=n+m+1 by omega,zf,bLaj,qLaj]
  with_reducible repeat' refine zS ?_ ?_
  all_goals first | exact ih _ _ _ _ _ _ _ _ r | (intro h;cases h;done) | (intro h;cases h;rfl)
noncomputable def sLaj:TellS:=fun S=>dCS 5 S fun y1 y2 y3=>dSs 5 y1 fun y5 l4=>zp 1 0 y5<|dSs 6 l4 fun y7 l6=>zp 2 0 y7<|dSs 8 l6 fun y9 l8=>zp 3 0 y9<|dSI 15 .i64 l8 fun x0 l10=>dSI 17 .i64 l10 fun x1 l11=>dSs 79 l11 fun y13 l12=>dD 3 iT y13 fun x2=>dSI 80 .i64 l12 fun x3 l14=>dSI 81 .i64 l14 fun x4 l15=>dE l15<|dE y2<|dC y3 fun y17 l16=>wE 1 none 37 161 106 y17 fun y18=>dSs 5 y18 fun y20 l19=>zp 1 0 y20<|dSs 6 l19 fun y22 l21=>zp 2 0 y22<|dSs 8 l21 fun y24 l23=>zp 3 0 y24<|dE l23<|dHB 22 l16 fun y26 l25=>dC y26 fun y27 l28=>dD 3 iT y27 fun x5=>dE l28<|dHB 4 l25 fun y30 l29=>dC y30 fun y31 l32=>wp y31 fun x6=>dE l32<|dHB 22 l29 fun y34 l33=>dC y34 fun y35 l36=>dG 4 y35<|dE l36<|dHR 3 iT l33 fun x7 l37=>dE l37 <|  some [te (Laj FU x0 x1 x2 x3 x4 x5 x6 x7) (xLaj x0 x1 x2 x3 x4 x5 x6 x7)]
theorem wLaj:zo zP dOk base o43 t43 ((37,64),sLaj):=by
 refine ⟨.loop (za zP (tn0 37) 37 64),8,by kernel_rfl,?_⟩
 intro S alts e S' h1 h2
 change sLaj S=_ at h1
 unfold sLaj at h1
 repeat with_reducible first|replace h1:=zE h1;obtain ⟨_,_,_,rfl,h1⟩:=h1|(first|replace h1:=zJ h1|replace h1:=zF h1|replace h1:=dCq h1|replace h1:=zM h1|replace h1:=zV h1);obtain ⟨_,_,rfl,h1⟩:=h1|(first|replace h1:=zx h1|replace h1:=dEq h1|replace h1:=dGq h1);obtain ⟨rfl,h1⟩:=h1|(first|replace h1:=dDq h1|replace h1:=wi h1|replace h1:=xO h1);obtain ⟨_,rfl,h1⟩:=h1
 cases h1
 obtain ⟨hc0,rfl,rfl⟩:=zk h2
 exact ⟨FU+40,(zb rfl).trans (lLaj FU 40 FU _ _ _ _ _ _ _ _ _ (zc hc0))⟩
noncomputable def o44:OrcT:=o43
noncomputable def t44:TellT:=((37,64),sLaj)::t43
abbrev tn44:=ze base o44 t44
theorem ok44:OKT tn44:=zq ok43 ok43 (p:=((37,64),sLaj)) wLaj
noncomputable def vR_1 (x0:Int) (x1:LI) (x2:Int) (x3:LI) (x4:Bool) (x5:LI):Option (Unit ⊕ Unit):=(cond (ok (Laj FU x0 0 x1 (x1.length:Int) 0 x3 x4 x5)) (cond (val (Laj FU x0 0 x1 (x1.length:Int) 0 x3 x4 x5)==0) (some (.inl ())) (cond (decide (0≤x0)) (cond (decide (x0 < (x5.length:Int))) (cond (decide (x0.toNat < List.length x5)) (cond (decide (val (Laj FU x0 0 x1 (x1.length:Int) 0 x3 x4 x5)≠0)) (cond (decide (List.getD x5 x0.toNat 0 < IntKind.wrap IntKind.i64 (Int.tdiv (IntKind.wrap IntKind.i64 (IntKind.wrap IntKind.i64 ((1000000000000:Int)+val (Laj FU x0 0 x1 (x1.length:Int) 0 x3 x4 x5)) - (1:Int))) (val (Laj FU x0 0 x1 (x1.length:Int) 0 x3 x4 x5))))) (some (.inl ())) (some (.inr ()))) none) none) none) none)) none)
noncomputable def xvR_1 (x0:Int) (x1:LI) (x2:Int) (x3:LI) (x4:Bool) (x5:LI):(Unit ⊕ Unit)→List TA×TH:=fun r=>match r with | .inl a0=>([.sc (.bool (false))],[.loop 2 (some .ret) 37 161 106 [(5,.v (.sc (.ptr 1 0))),(6,.v (.sc (.ptr 2 0))),(8,.v (.sc (.ptr 3 0)))],.box 22 [.d 3 iT (x3)],.box 4 [.bool (false)],.box 22 [.g 4],.row 3 iT (x5)]) | .inr b0=>([.sc (.bool (true))],[.loop 0 none 37 161 106 [(5,.v (.sc (.ptr 1 0))),(6,.v (.sc (.ptr 2 0))),(8,.v (.sc (.ptr 3 0)))],.box 22 [.d 3 iT (x3)],.box 4 [.bool (x4)],.box 22 [.g 4],.row 3 iT (x5)])
theorem evR_1 (x0:Int) (x1:LI) (x2:Int) (x3:LI) (x4:Bool) (x5:LI):evY zP (tn44) (TM.evF zP (tn44) dOk 40) dOk 40 [.sc (.yl 0),.sc (I4 x0),.agg [.d 3 iT (x1),I4 (x2)]] [.loop 0 none 37 161 106 [(5,.v (.sc (.ptr 1 0))),(6,.v (.sc (.ptr 2 0))),(8,.v (.sc (.ptr 3 0)))],.box 22 [.d 3 iT (x3)],.box 4 [.bool (x4)],.box 22 [.g 4],.row 3 iT (x5)]=(vR_1 x0 x1 x2 x3 x4 x5).bind fun r=>some (xvR_1 x0 x1 x2 x3 x4 x5 r):=by
 refine Eq.trans (b:=(cond (ok (Laj FU x0 0 x1 (x1.length:Int) 0 x3 x4 x5)) (cond (val (Laj FU x0 0 x1 (x1.length:Int) 0 x3 x4 x5)==0) (some ([.sc (.bool (false))],[.loop 2 (some .ret) 37 161 106 [(5,.v (.sc (.ptr 1 0))),(6,.v (.sc (.ptr 2 0))),(8,.v (.sc (.ptr 3 0)))],.box 22 [.d 3 iT (x3)],.box 4 [.bool (false)],.box 22 [.g 4],.row 3 iT (x5)])) (cond (decide (0≤x0)) (cond (decide (x0 < (x5.length:Int))) (cond (decide (x0.toNat < List.length x5)) (cond (decide (val (Laj FU x0 0 x1 (x1.length:Int) 0 x3 x4 x5)≠0)) (cond (decide (List.getD x5 x0.toNat 0 < IntKind.wrap IntKind.i64 (Int.tdiv (IntKind.wrap IntKind.i64 (IntKind.wrap IntKind.i64 ((1000000000000:Int)+val (Laj FU x0 0 x1 (x1.length:Int) 0 x3 x4 x5)) - (1:Int))) (val (Laj FU x0 0 x1 (x1.length:Int) 0 x3 x4 x5))))) (some ([.sc (.bool (false))],[.loop 2 (some .ret) 37 161 106 [(5,.v (.sc (.ptr 1 0))),(6,.v (.sc (.ptr 2 0))),(8,.v (.sc (.ptr 3 0)))],.box 22 [.d 3 iT (x3)],.box 4 [.bool (false)],.box 22 [.g 4],.row 3 iT (x5)])) (some ([.sc (.bool (true))],[.loop 0 none 37 161 106 [(5,.v (.sc (.ptr 1 0))),(6,.v (.sc (.ptr 2 0))),(8,.v (.sc (.ptr 3 0)))],.box 22 [.d 3 iT (x3)],.box 4 [.bool (x4)],.box 22 [.g 4],.row 3 iT (x5)]))) none) none) none) none)) none)) (by kernel_rfl) ?_
 unfold vR_1
 with_reducible repeat' refine zj ?_ ?_
 all_goals rfl
noncomputable def svR_1:OrcS:=fun al H=>dC al fun y1 l2=>dS y1 fun y3=>dYl 0 y3<|dC l2 fun y4 l5=>dS y4 fun y6=>yO .i64 y6 fun x0=>dC l5 fun y7 l8=>dA y7 fun y9=>dC y9 fun y10 l11=>dD 3 iT y10 fun x1=>dK l11 fun x2 l12=>dE l12<|dE l8<|dC H fun y14 l13=>wE 0 none 37 161 106 y14 fun y15=>dSs 5 y15 fun y17 l16=>zp 1 0 y17<|dSs 6 l16 fun y19 l18=>zp 2 0 y19<|dSs 8 l18 fun y21 l20=>zp 3 0 y21<|dE l20<|dHB 22 l13 fun y23 l22=>dC y23 fun y24 l25=>dD 3 iT y24 fun x3=>dE l25<|dHB 4 l22 fun y27 l26=>dC y27 fun y28 l29=>wp y28 fun x4=>dE l29<|dHB 22 l26 fun y31 l30=>dC y31 fun y32 l33=>dG 4 y32<|dE l33<|dHR 3 iT l30 fun x5 l34=>dE l34 <|  some [(isL (vR_1 x0 x1 x2 x3 x4 x5),[.sc (.bool (false))],[.loop 2 (some .ret) 37 161 106 [(5,.v (.sc (.ptr 1 0))),(6,.v (.sc (.ptr 2 0))),(8,.v (.sc (.ptr 3 0)))],.box 22 [.d 3 iT (x3)],.box 4 [.bool (false)],.box 22 [.g 4],.row 3 iT (x5)]),(ok (zA (vR_1 x0 x1 x2 x3 x4 x5)),[.sc (.bool (true))],[.loop 0 none 37 161 106 [(5,.v (.sc (.ptr 1 0))),(6,.v (.sc (.ptr 2 0))),(8,.v (.sc (.ptr 3 0)))],.box 22 [.d 3 iT (x3)],.box 4 [.bool (x4)],.box 22 [.g 4],.row 3 iT (x5)])]
theorem wvR_1:zl zP dOk base o44 t44 (4294967295,svR_1):=by
 intro al H q hq rs H2 h2
 change svR_1 al H=_ at hq
 unfold svR_1 at hq
 repeat with_reducible first|(first|replace hq:=dCq hq|replace hq:=zQ hq|replace hq:=zJ hq|replace hq:=zM hq|replace hq:=zV hq);obtain ⟨_,_,rfl,hq⟩:=hq|(first|replace hq:=dSq hq|replace hq:=yV hq|replace hq:=dAq hq|replace hq:=dDq hq|replace hq:=wi hq|replace hq:=xO hq);obtain ⟨_,rfl,hq⟩:=hq|(first|replace hq:=WX hq|replace hq:=dEq hq|replace hq:=zx hq|replace hq:=dGq hq);obtain ⟨rfl,hq⟩:=hq
 cases hq
 rcases Uj h2 with ⟨hc0,rfl,rfl⟩ | h2
 · exact ⟨41,fnY_eq.trans ((evR_1 _ _ _ _ _ _).trans (zh (zT hc0)))⟩
 obtain ⟨hc1,rfl,rfl⟩:=zd h2
 exact ⟨41,fnY_eq.trans ((evR_1 _ _ _ _ _ _).trans (zh (zN (zc hc1))))⟩
noncomputable def o45:OrcT:=(4294967295,svR_1)::o44
noncomputable def t45:TellT:=t44
abbrev tn45:=ze base o45 t45
theorem ok45:OKT tn45:=zm ok44 ok44 (p:=(4294967295,svR_1)) wvR_1
noncomputable def Laz:Nat→Int→L3→Int→Int→LL→Int→Int→LI→Bool→LI→LI→L3→LL→Option (Bool ⊕ Unit)
 | 0,_,_,_,_,_,_,_,_,_,_,_,_,_=>none
 | n+1,x0,x1,x2,x3,x4,x5,x6,x7,x8,x9,A,B,C=>(cond (decide (x6 < x5)) (cond (decide (0≤x6)) (cond (decide (x6 < (x4.length:Int))) (cond (decide (0≤x0)) (cond (decide (x0 < (C.length:Int))) (cond (decide (x6 < (↑(List.length (List.getD C x0.toNat [])):Int))) (cond (isL (vR_1 x0 (List.getD x4 x6.toNat []) (List.getD (List.getD C x0.toNat []) x6.toNat 0) x7 x8 x9)) (some (.inl (false))) (cond (ok (zA (vR_1 x0 (List.getD x4 x6.toNat []) (List.getD (List.getD C x0.toNat []) x6.toNat 0) x7 x8 x9))) (Laz n x0 x1 x2 x3 x4 x5 (IntKind.wrap IntKind.i64 (x6+(1:Int))) x7 x8 x9 A B C) none)) none) none) none) none) none) (some (.inr ())))
theorem qLaz:type_of% @Laz.eq_2:=@Laz.eq_2
noncomputable def xLaz (x0:Int) (x1:L3) (x2 x3:Int) (x4:LL) (x5 x6:Int) (x7:LI) (x8:Bool) (x9:LI) (A:LI) (B:L3) (C:LL):(Bool ⊕ Unit)→Ex×CS:=fun r=>match r with | .inl a0=>(.ret,{ sl:=[],lo:=[],h:=[.loop 2 (some .ret) 37 161 106 [(5,.v (.sc (.ptr 1 0))),(6,.v (.sc (.ptr 2 0))),(8,.v (.sc (.ptr 3 0)))],.box 22 [.d 3 iT (x7)],.box 4 [.bool (a0)],.box 22 [.g 4],.row 3 iT (x9),.box 38 [.d 3 iT (A),.d 23 mT (B)],.box 23 [.d 22 lT (C)]],n0:=7,w:=true }) | .inr b0=>((.exit 2),{ sl:=[(0,.v (.sc (.yl 0))),(2,.v (.sc (.ptr 6 0))),(9,.v (.sc (.d 23 mT x1))),(10,.v (.sc (I4 x2))),(11,.v (.sc (I4 x3)))],lo:=[],h:=[.loop 0 none 37 161 106 [(5,.v (.sc (.ptr 1 0))),(6,.v (.sc (.ptr 2 0))),(8,.v (.sc (.ptr 3 0)))],.box 22 [.d 3 iT (x7)],.box 4 [.bool (x8)],.box 22 [.g 4],.row 3 iT (x9),.box 38 [.d 3 iT (A),.d 23 mT (B)],.box 23 [.d 22 lT (C)]],n0:=7,w:=false })
abbrev cLaz (x0:Int) (x1:L3) (x2 x3:Int) (x4:LL) (x5 x6:Int) (x7:LI) (x8:Bool) (x9:LI) (A:LI) (B:L3) (C:LL):CS:={ sl:=[(0,.v (.sc (.yl 0))),(2,.v (.sc (.ptr 6 0))),(4,.v (.sc (I4 x0))),(9,.v (.sc (.d 23 mT x1))),(10,.v (.sc (I4 x2))),(11,.v (.sc (I4 x3))),(16,.v (.sc (.d 22 lT x4))),(17,.v (.sc (I4 x5))),(18,.v (.sc (I4 x6)))],lo:=[],h:=[.loop 0 none 37 161 106 [(5,.v (.sc (.ptr 1 0))),(6,.v (.sc (.ptr 2 0))),(8,.v (.sc (.ptr 3 0)))],.box 22 [.d 3 iT (x7)],.box 4 [.bool (x8)],.box 22 [.g 4],.row 3 iT (x9),.box 38 [.d 3 iT (A),.d 23 mT (B)],.box 23 [.d 22 lT (C)]],n0:=7,w:=false }
theorem bLaz (k:Nat) (cN:KN) (cX:KX) (x0:Int) (x1:L3) (x2 x3:Int) (x4:LL) (x5 x6:Int) (x7:LI) (x8:Bool) (x9:LI) (A:LI) (B:L3) (C:LL):zi zP (tn45 76) (TM.evF zP (tn45) dOk (k+40)) dOk (k+40) (za zP (tn0 76) 76 16) 2 16 (cLaz x0 x1 x2 x3 x4 x5 x6 x7 x8 x9 A B C) cN cX=(cond (decide (x6 < x5)) (cond (decide (0≤x6)) (cond (decide (x6 < (x4.length:Int))) (cond (decide (0≤x0)) (cond (decide (x0 < (C.length:Int))) (cond (decide (0≤x6)) (cond (decide (x6 < (↑(List.length (List.getD C x0.toNat [])):Int))) (cond (isL (vR_1 x0 (List.getD x4 x6.toNat []) (List.getD (List.getD C x0.toNat []) x6.toNat 0) x7 x8 x9)) (cX .ret { sl:=[],lo:=[],h:=[.loop 2 (some .ret) 37 161 106 [(5,.v (.sc (.ptr 1 0))),(6,.v (.sc (.ptr 2 0))),(8,.v (.sc (.ptr 3 0)))],.box 22 [.d 3 iT (x7)],.box 4 [.bool (false)],.box 22 [.g 4],.row 3 iT (x9),.box 38 [.d 3 iT (A),.d 23 mT (B)],.box 23 [.d 22 lT (C)]],n0:=7,w:=true }) (cond (ok (zA (vR_1 x0 (List.getD x4 x6.toNat []) (List.getD (List.getD C x0.toNat []) x6.toNat 0) x7 x8 x9))) (cN (cLaz x0 x1 x2 x3 x4 x5 (IntKind.wrap IntKind.i64 (x6+(1:Int))) x7 x8 x9 A B C)) none)) none) none) none) none) none) none) (cX (.exit 2) { sl:=[(0,.v (.sc (.yl 0))),(2,.v (.sc (.ptr 6 0))),(9,.v (.sc (.d 23 mT x1))),(10,.v (.sc (I4 x2))),(11,.v (.sc (I4 x3)))],lo:=[],h:=[.loop 0 none 37 161 106 [(5,.v (.sc (.ptr 1 0))),(6,.v (.sc (.ptr 2 0))),(8,.v (.sc (.ptr 3 0)))],.box 22 [.d 3 iT (x7)],.box 4 [.bool (x8)],.box 22 [.g 4],.row 3 iT (x9),.box 38 [.d 3 iT (A),.d 23 mT (B)],.box 23 [.d 22 lT (C)]],n0:=7,w:=false })):=by kernel_rfl
theorem lLaz (k m:Nat):∀ (n:Nat) (x0:Int) (x1:L3) (x2 x3:Int) (x4:LL) (x5 x6:Int) (x7:LI) (x8:Bool) (x9:LI) (A:LI) (B:L3) (C:LL) (r:(Bool ⊕ Unit)),Laz n x0 x1 x2 x3 x4 x5 x6 x7 x8 x9 A B C=some r→zw zP (tn45 76) (TM.evF zP (tn45) dOk (k+40)) dOk (k+40) (za zP (tn0 76) 76 16) 2 16 (n+m) (cLaz x0 x1 x2 x3 x4 x5 x6 x7 x8 x9 A B C)=some (xLaz x0 x1 x2 x3 x4 x5 x6 x7 x8 x9 A B C r):=by
 intro n
 induction n with
 | zero=>intro _ _ _ _ _ _ _ _ _ _ _ _ _ r h;cases h
 | succ n ih=>
  intro x0 x1 x2 x3 x4 x5 x6 x7 x8 x9 A B C r
  rw [show n+1+m=n+m+1 by omega,zf,bLaz,qLaz]
  cases (decide (x6 < x5)) with
  | true=>
   cases (decide (0≤x6)) with
   | true=>
    cases (decide (x6 < (x4.length:Int))) with
    | true=>
     cases (decide (0≤x0)) with
     | true=>
      cases (decide (x0 < (C.length:Int))) with
      | true=>
       cases (decide (x6 < (↑(List.length (List.getD C x0.toNat [])):Int))) with
       | true=>
        cases (isL (vR_1 x0 (List.getD x4 x6.toNat []) (List.getD (List.getD C x0.toNat []) x6.toNat 0) x7 x8 x9)) with
        | true=>
         intro h;cases h;rfl
        | false=>
         cases (ok (zA (vR_1 x0 (List.getD x4 x6.toNat []) (List.getD (List.getD C x0.toNat []) x6.toNat 0) x7 x8 x9))) with
         | true=>
          exact ih _ _ _ _ _ _ _ _ _ _ _ _ _ r
         | false=>
          intro h;cases h
       | false=>
        intro h;cases h
      | false=>
       intro h;cases h
     | false=>
      intro h;cases h
    | false=>
     intro h;cases h
   | false=>
    intro h;cases h
  | false=>
   intro h;cases h;rfl
noncomputable def sLaz:TellS:=fun S=>dCS 7 S fun y1 y2 y3=>dSs 0 y1 fun y5 l4=>dYl 0 y5<|dSs 2 l4 fun y7 l6=>zp 6 0 y7<|dSI 4 .i64 l6 fun x0 l8=>dSs 9 l8 fun y10 l9=>dD 23 mT y10 fun x1=>dSI 10 .i64 l9 fun x2 l11=>dSI 11 .i64 l11 fun x3 l12=>dSs 16 l12 fun y14 l13=>dD 22 lT y14 fun x4=>dSI 17 .i64 l13 fun x5 l15=>dSI 18 .i64 l15 fun x6 l16=>dE l16<|dE y2<|dC y3 fun y18 l17=>wE 0 none 37 161 106 y18 fun y19=>dSs 5 y19 fun y21 l20=>zp 1 0 y21<|dSs 6 l20 fun y23 l22=>zp 2 0 y23<|dSs 8 l22 fun y25 l24=>zp 3 0 y25<|dE l24<|dHB 22 l17 fun y27 l26=>dC y27 fun y28 l29=>dD 3 iT y28 fun x7=>dE l29<|dHB 4 l26 fun y31 l30=>dC y31 fun y32 l33=>wp y32 fun x8=>dE l33<|dHB 22 l30 fun y35 l34=>dC y35 fun y36 l37=>dG 4 y36<|dE l37<|dHR 3 iT l34 fun x9 l38=>dHB 38 l38 fun y40 l39=>dC y40 fun y41 l42=>dD 3 iT y41 fun A=>dC l42 fun y43 l44=>dD 23 mT y43 fun B=>dE l44<|dHB 23 l39 fun y46 l45=>dC y46 fun y47 l48=>dD 22 lT y47 fun C=>dE l48<|dE l45 <|  some [(isL (Laz FU x0 x1 x2 x3 x4 x5 x6 x7 x8 x9 A B C),.ret,{ sl:=[],lo:=[],h:=[.loop 2 (some .ret) 37 161 106 [(5,.v (.sc (.ptr 1 0))),(6,.v (.sc (.ptr 2 0))),(8,.v (.sc (.ptr 3 0)))],.box 22 [.d 3 iT (x7)],.box 4 [.bool ((zH (Laz FU x0 x1 x2 x3 x4 x5 x6 x7 x8 x9 A B C)))],.box 22 [.g 4],.row 3 iT (x9),.box 38 [.d 3 iT (A),.d 23 mT (B)],.box 23 [.d 22 lT (C)]],n0:=7,w:=true }),(ok (zA (Laz FU x0 x1 x2 x3 x4 x5 x6 x7 x8 x9 A B C)),(.exit 2),{ sl:=[(0,.v (.sc (.yl 0))),(2,.v (.sc (.ptr 6 0))),(9,.v (.sc (.d 23 mT x1))),(10,.v (.sc (I4 x2))),(11,.v (.sc (I4 x3)))],lo:=[],h:=[.loop 0 none 37 161 106 [(5,.v (.sc (.ptr 1 0))),(6,.v (.sc (.ptr 2 0))),(8,.v (.sc (.ptr 3 0)))],.box 22 [.d 3 iT (x7)],.box 4 [.bool (x8)],.box 22 [.g 4],.row 3 iT (x9),.box 38 [.d 3 iT (A),.d 23 mT (B)],.box 23 [.d 22 lT (C)]],n0:=7,w:=false })]
theorem wLaz:zo zP dOk base o45 t45 ((76,16),sLaz):=by
 refine ⟨.loop (za zP (tn0 76) 76 16),2,by kernel_rfl,?_⟩
 intro S alts e S' h1 h2
 change sLaz S=_ at h1
 unfold sLaz at h1
 repeat with_reducible first|replace h1:=zE h1;obtain ⟨_,_,_,rfl,h1⟩:=h1|(first|replace h1:=zJ h1|replace h1:=zF h1|replace h1:=dCq h1|replace h1:=zM h1|replace h1:=zV h1);obtain ⟨_,_,rfl,h1⟩:=h1|(first|replace h1:=WX h1|replace h1:=zx h1|replace h1:=dEq h1|replace h1:=dGq h1);obtain ⟨rfl,h1⟩:=h1|(first|replace h1:=dDq h1|replace h1:=wi h1|replace h1:=xO h1);obtain ⟨_,rfl,h1⟩:=h1
 cases h1
 rcases zK h2 with ⟨hc0,rfl,rfl⟩ | h2
 · exact ⟨FU+40,(zb rfl).trans (lLaz FU 40 FU _ _ _ _ _ _ _ _ _ _ _ _ _ _ (zT hc0))⟩
 obtain ⟨hc1,rfl,rfl⟩:=zk h2
 exact ⟨FU+40,(zb rfl).trans (lLaz FU 40 FU _ _ _ _ _ _ _ _ _ _ _ _ _ _ (zN (zc hc1)))⟩
noncomputable def o46:OrcT:=o45
noncomputable def t46:TellT:=((76,16),sLaz)::t45
abbrev tn46:=ze base o46 t46
theorem ok46:OKT tn46:=zq ok45 ok45 (p:=((76,16),sLaz)) wLaz
noncomputable def LaX:Nat→L3→Int→Int→LI→Bool→LI→LI→L3→LL→Option (Bool ⊕ Unit)
 | 0,_,_,_,_,_,_,_,_,_=>none
 | n+1,x0,x1,x2,x3,x4,x5,x6,x7,x8=>(cond (decide (x2 < x1)) (cond (decide (0≤x2)) (cond (decide (x2 < (x0.length:Int))) (cond (isL (Laz FU x2 x0 x1 x2 (List.getD x0 x2.toNat []) (↑(List.length (List.getD x0 x2.toNat [])):Int) 0 x3 x4 x5 x6 x7 x8)) (some (.inl (zH (Laz FU x2 x0 x1 x2 (List.getD x0 x2.toNat []) (↑(List.length (List.getD x0 x2.toNat [])):Int) 0 x3 x4 x5 x6 x7 x8)))) (cond (ok (zA (Laz FU x2 x0 x1 x2 (List.getD x0 x2.toNat []) (↑(List.length (List.getD x0 x2.toNat [])):Int) 0 x3 x4 x5 x6 x7 x8))) (LaX n x0 x1 (IntKind.wrap IntKind.i64 (x2+(1:Int))) x3 x4 x5 x6 x7 x8) none)) none) none) (some (.inr ())))
theorem qLaX:type_of% @LaX.eq_2:=@LaX.eq_2
noncomputable def xLaX (x0:L3) (x1 x2:Int) (x3:LI) (x4:Bool) (x5:LI) (x6:LI) (x7:L3) (x8:LL):(Bool ⊕ Unit)→Ex×CS:=fun r=>match r with | .inl a0=>(.ret,{ sl:=[],lo:=[],h:=[.loop 2 (some .ret) 37 161 106 [(5,.v (.sc (.ptr 1 0))),(6,.v (.sc (.ptr 2 0))),(8,.v (.sc (.ptr 3 0)))],.box 22 [.d 3 iT (x3)],.box 4 [.bool (a0)],.box 22 [.g 4],.row 3 iT (x5),.box 38 [.d 3 iT (x6),.d 23 mT (x7)],.box 23 [.d 22 lT (x8)]],n0:=7,w:=true }) | .inr b0=>((.exit 0),{ sl:=[],lo:=[],h:=[.loop 0 none 37 161 106 [(5,.v (.sc (.ptr 1 0))),(6,.v (.sc (.ptr 2 0))),(8,.v (.sc (.ptr 3 0)))],.box 22 [.d 3 iT (x3)],.box 4 [.bool (x4)],.box 22 [.g 4],.row 3 iT (x5),.box 38 [.d 3 iT (x6),.d 23 mT (x7)],.box 23 [.d 22 lT (x8)]],n0:=7,w:=false })
abbrev cLaX (x0:L3) (x1 x2:Int) (x3:LI) (x4:Bool) (x5:LI) (x6:LI) (x7:L3) (x8:LL):CS:={ sl:=[(0,.v (.sc (.yl 0))),(2,.v (.sc (.ptr 6 0))),(9,.v (.sc (.d 23 mT x0))),(10,.v (.sc (I4 x1))),(11,.v (.sc (I4 x2)))],lo:=[],h:=[.loop 0 none 37 161 106 [(5,.v (.sc (.ptr 1 0))),(6,.v (.sc (.ptr 2 0))),(8,.v (.sc (.ptr 3 0)))],.box 22 [.d 3 iT (x3)],.box 4 [.bool (x4)],.box 22 [.g 4],.row 3 iT (x5),.box 38 [.d 3 iT (x6),.d 23 mT (x7)],.box 23 [.d 22 lT (x8)]],n0:=7,w:=false }
theorem bLaX (k:Nat) (cN:KN) (cX:KX) (x0:L3) (x1 x2:Int) (x3:LI) (x4:Bool) (x5:LI) (x6:LI) (x7:L3) (x8:LL):zi zP (tn46 76) (TM.evF zP (tn46) dOk (k+40)) dOk (k+40) (za zP (tn0 76) 76 0) 0 0 (cLaX x0 x1 x2 x3 x4 x5 x6 x7 x8) cN cX=(cond (decide (x2 < x1)) (cond (decide (0≤x2)) (cond (decide (x2 < (x0.length:Int))) (cond (isL (Laz FU x2 x0 x1 x2 (List.getD x0 x2.toNat []) (↑(List.length (List.getD x0 x2.toNat [])):Int) 0 x3 x4 x5 x6 x7 x8)) (cX .ret { sl:=[],lo:=[],h:=[.loop 2 (some .ret) 37 161 106 [(5,.v (.sc (.ptr 1 0))),(6,.v (.sc (.ptr 2 0))),(8,.v (.sc (.ptr 3 0)))],.box 22 [.d 3 iT (x3)],.box 4 [.bool (zH (Laz FU x2 x0 x1 x2 (List.getD x0 x2.toNat []) (↑(List.length (List.getD x0 x2.toNat [])):Int) 0 x3 x4 x5 x6 x7 x8))],.box 22 [.g 4],.row 3 iT (x5),.box 38 [.d 3 iT (x6),.d 23 mT (x7)],.box 23 [.d 22 lT (x8)]],n0:=7,w:=true }) (cond (ok (zA (Laz FU x2 x0 x1 x2 (List.getD x0 x2.toNat []) (↑(List.length (List.getD x0 x2.toNat [])):Int) 0 x3 x4 x5 x6 x7 x8))) (cN (cLaX x0 x1 (IntKind.wrap IntKind.i64 (x2+(1:Int))) x3 x4 x5 x6 x7 x8)) none)) none) none) (cX (.exit 0) { sl:=[],lo:=[],h:=[.loop 0 none 37 161 106 [(5,.v (.sc (.ptr 1 0))),(6,.v (.sc (.ptr 2 0))),(8,.v (.sc (.ptr 3 0)))],.box 22 [.d 3 iT (x3)],.box 4 [.bool (x4)],.box 22 [.g 4],.row 3 iT (x5),.box 38 [.d 3 iT (x6),.d 23 mT (x7)],.box 23 [.d 22 lT (x8)]],n0:=7,w:=false })):=by kernel_rfl
theorem lLaX (k m:Nat):∀ (n:Nat) (x0:L3) (x1 x2:Int) (x3:LI) (x4:Bool) (x5:LI) (x6:LI) (x7:L3) (x8:LL) (r:(Bool ⊕ Unit)),LaX n x0 x1 x2 x3 x4 x5 x6 x7 x8=some r→zw zP (tn46 76) (TM.evF zP (tn46) dOk (k+40)) dOk (k+40) (za zP (tn0 76) 76 0) 0 0 (n+m) (cLaX x0 x1 x2 x3 x4 x5 x6 x7 x8)=some (xLaX x0 x1 x2 x3 x4 x5 x6 x7 x8 r):=by
 intro n
 induction n with
 | zero=>intro _ _ _ _ _ _ _ _ _ r h;cases h
 | succ n ih=>
  intro x0 x1 x2 x3 x4 x5 x6 x7 x8 r
  rw [show n+1+m=n+m+1 by omega,zf,bLaX,qLaX]
  with_reducible repeat' refine zS ?_ ?_
  all_goals first | exact ih _ _ _ _ _ _ _ _ _ r | (intro h;cases h;done) | (intro h;cases h;rfl)
noncomputable def sLaX:TellS:=fun S=>dCS 7 S fun y1 y2 y3=>dSs 0 y1 fun y5 l4=>dYl 0 y5<|dSs 2 l4 fun y7 l6=>zp 6 0 y7<|dSs 9 l6 fun y9 l8=>dD 23 mT y9 fun x0=>dSI 10 .i64 l8 fun x1 l10=>dSI 11 .i64 l10 fun x2 l11=>dE l11<|dE y2<|dC y3 fun y13 l12=>wE 0 none 37 161 106 y13 fun y14=>dSs 5 y14 fun y16 l15=>zp 1 0 y16<|dSs 6 l15 fun y18 l17=>zp 2 0 y18<|dSs 8 l17 fun y20 l19=>zp 3 0 y20<|dE l19<|dHB 22 l12 fun y22 l21=>dC y22 fun y23 l24=>dD 3 iT y23 fun x3=>dE l24<|dHB 4 l21 fun y26 l25=>dC y26 fun y27 l28=>wp y27 fun x4=>dE l28<|dHB 22 l25 fun y30 l29=>dC y30 fun y31 l32=>dG 4 y31<|dE l32<|dHR 3 iT l29 fun x5 l33=>dHB 38 l33 fun y35 l34=>dC y35 fun y36 l37=>dD 3 iT y36 fun x6=>dC l37 fun y38 l39=>dD 23 mT y38 fun x7=>dE l39<|dHB 23 l34 fun y41 l40=>dC y41 fun y42 l43=>dD 22 lT y42 fun x8=>dE l43<|dE l40 <|  some [(isL (LaX FU x0 x1 x2 x3 x4 x5 x6 x7 x8),.ret,{ sl:=[],lo:=[],h:=[.loop 2 (some .ret) 37 161 106 [(5,.v (.sc (.ptr 1 0))),(6,.v (.sc (.ptr 2 0))),(8,.v (.sc (.ptr 3 0)))],.box 22 [.d 3 iT (x3)],.box 4 [.bool ((zH (LaX FU x0 x1 x2 x3 x4 x5 x6 x7 x8)))],.box 22 [.g 4],.row 3 iT (x5),.box 38 [.d 3 iT (x6),.d 23 mT (x7)],.box 23 [.d 22 lT (x8)]],n0:=7,w:=true }),(ok (zA (LaX FU x0 x1 x2 x3 x4 x5 x6 x7 x8)),(.exit 0),{ sl:=[],lo:=[],h:=[.loop 0 none 37 161 106 [(5,.v (.sc (.ptr 1 0))),(6,.v (.sc (.ptr 2 0))),(8,.v (.sc (.ptr 3 0)))],.box 22 [.d 3 iT (x3)],.box 4 [.bool (x4)],.box 22 [.g 4],.row 3 iT (x5),.box 38 [.d 3 iT (x6),.d 23 mT (x7)],.box 23 [.d 22 lT (x8)]],n0:=7,w:=false })]
theorem wLaX:zo zP dOk base o46 t46 ((76,0),sLaX):=by
 refine ⟨.loop (za zP (tn0 76) 76 0),0,by kernel_rfl,?_⟩
 intro S alts e S' h1 h2
 change sLaX S=_ at h1
 unfold sLaX at h1
 repeat with_reducible first|replace h1:=zE h1;obtain ⟨_,_,_,rfl,h1⟩:=h1|(first|replace h1:=zJ h1|replace h1:=zF h1|replace h1:=dCq h1|replace h1:=zM h1|replace h1:=zV h1);obtain ⟨_,_,rfl,h1⟩:=h1|(first|replace h1:=WX h1|replace h1:=zx h1|replace h1:=dEq h1|replace h1:=dGq h1);obtain ⟨rfl,h1⟩:=h1|(first|replace h1:=dDq h1|replace h1:=wi h1|replace h1:=xO h1);obtain ⟨_,rfl,h1⟩:=h1
 cases h1
 rcases zK h2 with ⟨hc0,rfl,rfl⟩ | h2
 · exact ⟨FU+40,(zb rfl).trans (lLaX FU 40 FU _ _ _ _ _ _ _ _ _ _ (zT hc0))⟩
 obtain ⟨hc1,rfl,rfl⟩:=zk h2
 exact ⟨FU+40,(zb rfl).trans (lLaX FU 40 FU _ _ _ _ _ _ _ _ _ _ (zN (zc hc1)))⟩
noncomputable def o47:OrcT:=o46
noncomputable def t47:TellT:=((76,0),sLaX)::t46
abbrev tn47:=ze base o47 t47
theorem ok47:OKT tn47:=zq ok46 ok46 (p:=((76,0),sLaX)) wLaX
noncomputable def tv76_1 {β:Type} (x0:LI) (x1:Bool) (x2:LI) (x3:LI) (x4:L3) (x5:LL) (K:(Bool ⊕ Unit)→Option β):Option β:=(cond (isL (LaX FU x4 (x4.length:Int) 0 x0 x1 x2 x3 x4 x5)) (K (.inl (zH (LaX FU x4 (x4.length:Int) 0 x0 x1 x2 x3 x4 x5)))) (cond (ok (zA (LaX FU x4 (x4.length:Int) 0 x0 x1 x2 x3 x4 x5))) (K (.inr ())) none))
noncomputable def v76_1 (x0:LI) (x1:Bool) (x2:LI) (x3:LI) (x4:L3) (x5:LL):Option (Bool ⊕ Unit):=tv76_1 x0 x1 x2 x3 x4 x5 some
noncomputable def xv76_1 (x0:LI) (x1:Bool) (x2:LI) (x3:LI) (x4:L3) (x5:LL):(Bool ⊕ Unit)→List TA×TH:=fun r=>match r with | .inl a0=>([],[.loop 2 (some .ret) 37 161 106 [(5,.v (.sc (.ptr 1 0))),(6,.v (.sc (.ptr 2 0))),(8,.v (.sc (.ptr 3 0)))],.box 22 [.d 3 iT (x0)],.box 4 [.bool (a0)],.box 22 [.g 4],.row 3 iT (x2),.box 38 [.d 3 iT (x3),.d 23 mT (x4)],.box 23 [.d 22 lT (x5)]]) | .inr b0=>([],[.loop 0 none 37 161 106 [(5,.v (.sc (.ptr 1 0))),(6,.v (.sc (.ptr 2 0))),(8,.v (.sc (.ptr 3 0)))],.box 22 [.d 3 iT (x0)],.box 4 [.bool (x1)],.box 22 [.g 4],.row 3 iT (x2),.box 38 [.d 3 iT (x3),.d 23 mT (x4)],.box 23 [.d 22 lT (x5)]])
theorem ev76_1 (x0:LI) (x1:Bool) (x2:LI) (x3:LI) (x4:L3) (x5:LL):zn zP (tn47 76) (TM.evF zP (tn47) dOk 40) dOk 40 76 [.sc (.yl 0),.sc (.ptr 5 0),.sc (.ptr 6 0)] [.loop 0 none 37 161 106 [(5,.v (.sc (.ptr 1 0))),(6,.v (.sc (.ptr 2 0))),(8,.v (.sc (.ptr 3 0)))],.box 22 [.d 3 iT (x0)],.box 4 [.bool (x1)],.box 22 [.g 4],.row 3 iT (x2),.box 38 [.d 3 iT (x3),.d 23 mT (x4)],.box 23 [.d 22 lT (x5)]]=(v76_1 x0 x1 x2 x3 x4 x5).bind fun r=>some (xv76_1 x0 x1 x2 x3 x4 x5 r):=by
 refine Eq.trans (b:=tv76_1 x0 x1 x2 x3 x4 x5 fun r=>some (xv76_1 x0 x1 x2 x3 x4 x5 r)) (by kernel_rfl) ?_
 unfold v76_1 tv76_1
 with_reducible repeat' refine zj ?_ ?_
 all_goals rfl
noncomputable def sv76_1:OrcS:=fun al H=>dC al fun y1 l2=>dS y1 fun y3=>dYl 0 y3<|dC l2 fun y4 l5=>dS y4 fun y6=>zp 5 0 y6<|dC l5 fun y7 l8=>dS y7 fun y9=>zp 6 0 y9<|dE l8<|dC H fun y11 l10=>wE 0 none 37 161 106 y11 fun y12=>dSs 5 y12 fun y14 l13=>zp 1 0 y14<|dSs 6 l13 fun y16 l15=>zp 2 0 y16<|dSs 8 l15 fun y18 l17=>zp 3 0 y18<|dE l17<|dHB 22 l10 fun y20 l19=>dC y20 fun y21 l22=>dD 3 iT y21 fun x0=>dE l22<|dHB 4 l19 fun y24 l23=>dC y24 fun y25 l26=>wp y25 fun x1=>dE l26<|dHB 22 l23 fun y28 l27=>dC y28 fun y29 l30=>dG 4 y29<|dE l30<|dHR 3 iT l27 fun x2 l31=>dHB 38 l31 fun y33 l32=>dC y33 fun y34 l35=>dD 3 iT y34 fun x3=>dC l35 fun y36 l37=>dD 23 mT y36 fun x4=>dE l37<|dHB 23 l32 fun y39 l38=>dC y39 fun y40 l41=>dD 22 lT y40 fun x5=>dE l41<|dE l38 <|  some [(isL (v76_1 x0 x1 x2 x3 x4 x5),[],[.loop 2 (some .ret) 37 161 106 [(5,.v (.sc (.ptr 1 0))),(6,.v (.sc (.ptr 2 0))),(8,.v (.sc (.ptr 3 0)))],.box 22 [.d 3 iT (x0)],.box 4 [.bool ((zH (v76_1 x0 x1 x2 x3 x4 x5)))],.box 22 [.g 4],.row 3 iT (x2),.box 38 [.d 3 iT (x3),.d 23 mT (x4)],.box 23 [.d 22 lT (x5)]]),(ok (zA (v76_1 x0 x1 x2 x3 x4 x5)),[],[.loop 0 none 37 161 106 [(5,.v (.sc (.ptr 1 0))),(6,.v (.sc (.ptr 2 0))),(8,.v (.sc (.ptr 3 0)))],.box 22 [.d 3 iT (x0)],.box 4 [.bool (x1)],.box 22 [.g 4],.row 3 iT (x2),.box 38 [.d 3 iT (x3),.d 23 mT (x4)],.box 23 [.d 22 lT (x5)]])]
theorem wv76_1:zl zP dOk base o47 t47 (76,sv76_1):=by
 intro al H q hq rs H2 h2
 change sv76_1 al H=_ at hq
 unfold sv76_1 at hq
 repeat with_reducible first|(first|replace hq:=dCq hq|replace hq:=zJ hq|replace hq:=zM hq|replace hq:=zV hq);obtain ⟨_,_,rfl,hq⟩:=hq|(first|replace hq:=dSq hq|replace hq:=wi hq|replace hq:=dDq hq|replace hq:=xO hq);obtain ⟨_,rfl,hq⟩:=hq|(first|replace hq:=WX hq|replace hq:=zx hq|replace hq:=dEq hq|replace hq:=dGq hq);obtain ⟨rfl,hq⟩:=hq
 cases hq
 rcases Uj h2 with ⟨hc0,rfl,rfl⟩ | h2
 · exact ⟨41,(zu (by kernel_rfl)).trans ((ev76_1 _ _ _ _ _ _).trans (zh (zT hc0)))⟩
 obtain ⟨hc1,rfl,rfl⟩:=zd h2
 exact ⟨41,(zu (by kernel_rfl)).trans ((ev76_1 _ _ _ _ _ _).trans (zh (zN (zc hc1))))⟩
noncomputable def o48:OrcT:=(76,sv76_1)::o47
noncomputable def t48:TellT:=t47
abbrev tn48:=ze base o48 t48
theorem ok48:OKT tn48:=zm ok47 ok47 (p:=(76,sv76_1)) wv76_1
noncomputable def tv37 {β:Type} (x0:LI) (x1:L3) (x2:LL) (x3:LI) (K:Bool→Option β):Option β:=(cond (decide ((x0.length:Int)≤(x0.length:Int))) (cond (decide ((x0.length:Int)≤(↑(nat_lit 2147483648):Int))) (cond (decide ((x1.length:Int)≤(x1.length:Int))) (cond (decide ((x1.length:Int)≤(↑(nat_lit 2147483648):Int))) (cond (ok (v76 (List.replicate (x0.length:Int).toNat 0) (List.replicate (x1.length:Int).toNat 0) x0 x1 x2)) (cond (isL (LaR FU x2 (↑(List.length (val (v76 (List.replicate (x0.length:Int).toNat 0) (List.replicate (x1.length:Int).toNat 0) x0 x1 x2)).1):Int) 0 x0 x1 (val (v76 (List.replicate (x0.length:Int).toNat 0) (List.replicate (x1.length:Int).toNat 0) x0 x1 x2)).2 false (val (v76 (List.replicate (x0.length:Int).toNat 0) (List.replicate (x1.length:Int).toNat 0) x0 x1 x2)).1 x3)) (K (zH (LaR FU x2 (↑(List.length (val (v76 (List.replicate (x0.length:Int).toNat 0) (List.replicate (x1.length:Int).toNat 0) x0 x1 x2)).1):Int) 0 x0 x1 (val (v76 (List.replicate (x0.length:Int).toNat 0) (List.replicate (x1.length:Int).toNat 0) x0 x1 x2)).2 false (val (v76 (List.replicate (x0.length:Int).toNat 0) (List.replicate (x1.length:Int).toNat 0) x0 x1 x2)).1 x3))) (cond (ok (zA (LaR FU x2 (↑(List.length (val (v76 (List.replicate (x0.length:Int).toNat 0) (List.replicate (x1.length:Int).toNat 0) x0 x1 x2)).1):Int) 0 x0 x1 (val (v76 (List.replicate (x0.length:Int).toNat 0) (List.replicate (x1.length:Int).toNat 0) x0 x1 x2)).2 false (val (v76 (List.replicate (x0.length:Int).toNat 0) (List.replicate (x1.length:Int).toNat 0) x0 x1 x2)).1 x3))) (cond (isL (v76_1 x3 false (val (v76 (List.replicate (x0.length:Int).toNat 0) (List.replicate (x1.length:Int).toNat 0) x0 x1 x2)).2 x0 x1 x2)) (K (zH (v76_1 x3 false (val (v76 (List.replicate (x0.length:Int).toNat 0) (List.replicate (x1.length:Int).toNat 0) x0 x1 x2)).2 x0 x1 x2))) (cond (ok (zA (v76_1 x3 false (val (v76 (List.replicate (x0.length:Int).toNat 0) (List.replicate (x1.length:Int).toNat 0) x0 x1 x2)).2 x0 x1 x2))) (K (true)) none)) none)) none) none) none) none) none)
noncomputable def v37 (x0:LI) (x1:L3) (x2:LL) (x3:LI):Option Bool:=tv37 x0 x1 x2 x3 some
theorem ev37 (x0:LI) (x1:L3) (x2:LL) (x3:LI):zn zP (tn48 37) (TM.evF zP (tn48) dOk 40) dOk 40 37 [.agg [.d 3 iT (x0),.d 23 mT (x1)],.sc (.d 22 lT x2),.sc (.d 3 iT x3)] []=(v37 x0 x1 x2 x3).bind fun r=>some ([.sc (.bool (r))],[]):=by
 refine Eq.trans (b:=tv37 x0 x1 x2 x3 fun r=>some ([.sc (.bool (r))],[])) (by kernel_rfl) ?_
 unfold v37 tv37
 with_reducible repeat' refine zj ?_ ?_
 all_goals rfl
noncomputable def sv37:OrcS:=fun al H=>dC al fun y1 l2=>dA y1 fun y3=>dC y3 fun y4 l5=>dD 3 iT y4 fun x0=>dC l5 fun y6 l7=>dD 23 mT y6 fun x1=>dE l7<|dC l2 fun y8 l9=>dS y8 fun y10=>dD 22 lT y10 fun x2=>dC l9 fun y11 l12=>dS y11 fun y13=>dD 3 iT y13 fun x3=>dE l12<|dE H <|  some [(ok (v37 x0 x1 x2 x3),[.sc (.bool ((val (v37 x0 x1 x2 x3))))],[])]
theorem wv37:zl zP dOk base o48 t48 (37,sv37):=by
 intro al H q hq rs H2 h2
 change sv37 al H=_ at hq
 unfold sv37 at hq
 repeat with_reducible first|replace hq:=dCq hq;obtain ⟨_,_,rfl,hq⟩:=hq|(first|replace hq:=dAq hq|replace hq:=dDq hq|replace hq:=dSq hq);obtain ⟨_,rfl,hq⟩:=hq|replace hq:=dEq hq;obtain ⟨rfl,hq⟩:=hq
 cases hq
 obtain ⟨hc0,rfl,rfl⟩:=zd h2
 exact ⟨41,(zu (by kernel_rfl)).trans ((ev37 _ _ _ _).trans (zh (zc hc0)))⟩
noncomputable def o49:OrcT:=(37,sv37)::o48
noncomputable def t49:TellT:=t48
abbrev tn49:=ze base o49 t49
theorem ok49:OKT tn49:=zm ok48 ok48 (p:=(37,sv37)) wv37
noncomputable def Lbh:Nat→Int→LI→Int→Int→LI→L3→Option Int
 | 0,_,_,_,_,_,_=>none
 | n+1,x0,x1,x2,x3,x4,x5=>(cond (decide (x3 < x2)) (cond (decide (0≤x3)) (cond (decide (x3 < (x1.length:Int))) (cond (decide (x3 < (x4.length:Int))) (Lbh n (IntKind.wrap IntKind.i64 (x0+IntKind.wrap IntKind.i64 (List.getD x1 x3.toNat 0*List.getD x4 x3.toNat 0))) x1 x2 (IntKind.wrap IntKind.i64 (x3+(1:Int))) x4 x5) none) none) none) (some x0))
theorem qLbh:type_of% @Lbh.eq_2:=@Lbh.eq_2
noncomputable def xLbh (x0:Int) (x1:LI) (x2 x3:Int) (x4:LI) (x5:L3):Int→Ex×CS:=fun r=>((.exit 0),{ sl:=[(2,.l 2 0),(5,.v (.sc (I4 (r))))],lo:=[],h:=[],n0:=0,w:=false })
abbrev cLbh (x0:Int) (x1:LI) (x2 x3:Int) (x4:LI) (x5:L3):CS:={ sl:=[(2,.l 2 0),(5,.v (.sc (I4 x0))),(8,.v (.sc (.d 3 iT x1))),(9,.v (.sc (I4 x2))),(10,.v (.sc (I4 x3)))],lo:=[(2,[.d 3 iT (x4),.d 23 mT (x5)])],h:=[],n0:=0,w:=false }
theorem bLbh (k:Nat) (cN:KN) (cX:KX) (x0:Int) (x1:LI) (x2 x3:Int) (x4:LI) (x5:L3):zi zP (tn49 38) (TM.evF zP (tn49) dOk (k+40)) dOk (k+40) (za zP (tn0 38) 38 0) 0 0 (cLbh x0 x1 x2 x3 x4 x5) cN cX=(cond (decide (x3 < x2)) (cond (decide (0≤x3)) (cond (decide (x3 < (x1.length:Int))) (cond (decide (0≤x3)) (cond (decide (x3 < (x4.length:Int))) (cN (cLbh (IntKind.wrap IntKind.i64 (x0+IntKind.wrap IntKind.i64 (List.getD x1 x3.toNat 0*List.getD x4 x3.toNat 0))) x1 x2 (IntKind.wrap IntKind.i64 (x3+(1:Int))) x4 x5)) none) none) none) none) (cP cX (xLbh x0 x1 x2 x3 x4 x5 x0))):=by kernel_rfl
theorem lLbh (k m:Nat):∀ (n:Nat) (x0:Int) (x1:LI) (x2 x3:Int) (x4:LI) (x5:L3) (r:Int),Lbh n x0 x1 x2 x3 x4 x5=some r→zw zP (tn49 38) (TM.evF zP (tn49) dOk (k+40)) dOk (k+40) (za zP (tn0 38) 38 0) 0 0 (n+m) (cLbh x0 x1 x2 x3 x4 x5)=some (xLbh x0 x1 x2 x3 x4 x5 r):=by
 intro n
 induction n with
 | zero=>intro _ _ _ _ _ _ r h;cases h
 | succ n ih=>
  intro x0 x1 x2 x3 x4 x5 r
  rw [show n+1+m=n+m+1 by omega,zf,bLbh,qLbh]
  cases (decide (x3 < x2)) with
  | true=>
   cases (decide (0≤x3)) with
   | true=>
    cases (decide (x3 < (x1.length:Int))) with
    | true=>
     cases (decide (x3 < (x4.length:Int))) with
     | true=>
      exact ih _ _ _ _ _ _ r
     | false=>
      intro h;cases h
    | false=>
     intro h;cases h
   | false=>
    intro h;cases h
  | false=>
   intro h;cases h;rfl
noncomputable def sLbh:TellS:=fun S=>dCS 0 S fun y1 y2 y3=>dSt 2 y1 fun y5 l4=>dL 2 0 y5<|dSI 5 .i64 l4 fun x0 l6=>dSs 8 l6 fun y8 l7=>dD 3 iT y8 fun x1=>dSI 9 .i64 l7 fun x2 l9=>dSI 10 .i64 l9 fun x3 l10=>dE l10<|dLo 2 y2 fun y11 l12=>dC y11 fun y13 l14=>dD 3 iT y13 fun x4=>dC l14 fun y15 l16=>dD 23 mT y15 fun x5=>dE l16<|dE l12<|dE y3 <|  some [te (Lbh FU x0 x1 x2 x3 x4 x5) (xLbh x0 x1 x2 x3 x4 x5)]
theorem wLbh:zo zP dOk base o49 t49 ((38,0),sLbh):=by
 refine ⟨.loop (za zP (tn0 38) 38 0),0,by kernel_rfl,?_⟩
 intro S alts e S' h1 h2
 change sLbh S=_ at h1
 unfold sLbh at h1
 repeat with_reducible first|replace h1:=zE h1;obtain ⟨_,_,_,rfl,h1⟩:=h1|(first|replace h1:=ye h1|replace h1:=zF h1|replace h1:=zJ h1|replace h1:=yg h1|replace h1:=dCq h1);obtain ⟨_,_,rfl,h1⟩:=h1|(first|replace h1:=dLq h1|replace h1:=dEq h1);obtain ⟨rfl,h1⟩:=h1|replace h1:=dDq h1;obtain ⟨_,rfl,h1⟩:=h1
 cases h1
 obtain ⟨hc0,rfl,rfl⟩:=zk h2
 exact ⟨FU+40,(zb rfl).trans (lLbh FU 40 FU _ _ _ _ _ _ _ (zc hc0))⟩
noncomputable def o50:OrcT:=o49
noncomputable def t50:TellT:=((38,0),sLbh)::t49
abbrev tn50:=ze base o50 t50
theorem ok50:OKT tn50:=zq ok49 ok49 (p:=((38,0),sLbh)) wLbh
noncomputable def tv38 {β:Type} (x0:LI) (x1:L3) (x2:LI) (K:Int→Option β):Option β:=(cond (ok (Lbh FU 0 x2 (x2.length:Int) 0 x0 x1)) (K (val (Lbh FU 0 x2 (x2.length:Int) 0 x0 x1))) none)
noncomputable def v38 (x0:LI) (x1:L3) (x2:LI):Option Int:=tv38 x0 x1 x2 some
theorem ev38 (x0:LI) (x1:L3) (x2:LI):zn zP (tn50 38) (TM.evF zP (tn50) dOk 40) dOk 40 38 [.agg [.d 3 iT (x0),.d 23 mT (x1)],.sc (.d 3 iT x2)] []=(v38 x0 x1 x2).bind fun r=>some ([.sc (I4 (r))],[]):=by
 refine Eq.trans (b:=tv38 x0 x1 x2 fun r=>some ([.sc (I4 (r))],[])) (by kernel_rfl) ?_
 unfold v38 tv38
 with_reducible repeat' refine zj ?_ ?_
 all_goals rfl
noncomputable def sv38:OrcS:=fun al H=>dC al fun y1 l2=>dA y1 fun y3=>dC y3 fun y4 l5=>dD 3 iT y4 fun x0=>dC l5 fun y6 l7=>dD 23 mT y6 fun x1=>dE l7<|dC l2 fun y8 l9=>dS y8 fun y10=>dD 3 iT y10 fun x2=>dE l9<|dE H <|  some [(ok (v38 x0 x1 x2),[.sc (I4 ((val (v38 x0 x1 x2))))],[])]
theorem wv38:zl zP dOk base o50 t50 (38,sv38):=by
 intro al H q hq rs H2 h2
 change sv38 al H=_ at hq
 unfold sv38 at hq
 repeat with_reducible first|replace hq:=dCq hq;obtain ⟨_,_,rfl,hq⟩:=hq|(first|replace hq:=dAq hq|replace hq:=dDq hq|replace hq:=dSq hq);obtain ⟨_,rfl,hq⟩:=hq|replace hq:=dEq hq;obtain ⟨rfl,hq⟩:=hq
 cases hq
 obtain ⟨hc0,rfl,rfl⟩:=zd h2
 exact ⟨41,(zu (by kernel_rfl)).trans ((ev38 _ _ _).trans (zh (zc hc0)))⟩
noncomputable def o51:OrcT:=(38,sv38)::o50
noncomputable def t51:TellT:=t50
abbrev tn51:=ze base o51 t51
theorem ok51:OKT tn51:=zm ok50 ok50 (p:=(38,sv38)) wv38
noncomputable def tv21 {β:Type} (x0:LI) (x1:L3) (x2:LL) (x3:LI) (K:(Int×Int)→Option β):Option β:=(cond (ok (v25 x0 x1)) (cond (!val (v25 x0 x1)) (K (0,(1:Int))) (cond (ok (v36 x0 x1 x2 x3)) (cond (!val (v36 x0 x1 x2 x3)) (K (0,(1:Int))) (cond (ok (v37 x0 x1 x2 x3)) (cond (!val (v37 x0 x1 x2 x3)) (K (0,(17:Int))) (cond (ok (v38 x0 x1 x3)) (cond (decide (max 0 (IntKind.wrap IntKind.i64 (val (v38 x0 x1 x3) - IntKind.wrap IntKind.i64 ((1000000:Int)*(x1.length:Int)))) > (1000000000000:Int))) (K (0,(3:Int))) (K (max 0 (IntKind.wrap IntKind.i64 (val (v38 x0 x1 x3) - IntKind.wrap IntKind.i64 ((1000000:Int)*(x1.length:Int)))),0))) none)) none)) none)) none)
noncomputable def v21 (x0:LI) (x1:L3) (x2:LL) (x3:LI):Option (Int×Int):=tv21 x0 x1 x2 x3 some
theorem ev21 (x0:LI) (x1:L3) (x2:LL) (x3:LI):zn zP (tn51 21) (TM.evF zP (tn51) dOk 40) dOk 40 21 [.agg [.d 3 iT (x0),.d 23 mT (x1)],.sc (.d 22 lT x2),.sc (.d 3 iT x3)] []=(v21 x0 x1 x2 x3).bind fun r=>some ([.sc (I4 (r.1)),.sc (I4 (r.2))],[]):=by
 refine Eq.trans (b:=tv21 x0 x1 x2 x3 fun r=>some ([.sc (I4 (r.1)),.sc (I4 (r.2))],[])) (by kernel_rfl) ?_
 unfold v21 tv21
 with_reducible repeat' refine zj ?_ ?_
 all_goals rfl
noncomputable def sv21:OrcS:=fun al H=>dC al fun y1 l2=>dA y1 fun y3=>dC y3 fun y4 l5=>dD 3 iT y4 fun x0=>dC l5 fun y6 l7=>dD 23 mT y6 fun x1=>dE l7<|dC l2 fun y8 l9=>dS y8 fun y10=>dD 22 lT y10 fun x2=>dC l9 fun y11 l12=>dS y11 fun y13=>dD 3 iT y13 fun x3=>dE l12<|dE H <|  some [(ok (v21 x0 x1 x2 x3),[.sc (I4 ((val (v21 x0 x1 x2 x3)).1)),.sc (I4 ((val (v21 x0 x1 x2 x3)).2))],[])]
theorem wv21:zl zP dOk base o51 t51 (21,sv21):=by
 intro al H q hq rs H2 h2
 change sv21 al H=_ at hq
 unfold sv21 at hq
 repeat with_reducible first|replace hq:=dCq hq;obtain ⟨_,_,rfl,hq⟩:=hq|(first|replace hq:=dAq hq|replace hq:=dDq hq|replace hq:=dSq hq);obtain ⟨_,rfl,hq⟩:=hq|replace hq:=dEq hq;obtain ⟨rfl,hq⟩:=hq
 cases hq
 obtain ⟨hc0,rfl,rfl⟩:=zd h2
 exact ⟨41,(zu (by kernel_rfl)).trans ((ev21 _ _ _ _).trans (zh (zc hc0)))⟩
noncomputable def o52:OrcT:=(21,sv21)::o51
noncomputable def t52:TellT:=t51
abbrev tn52:=ze base o52 t52
theorem ok52:OKT tn52:=zm ok51 ok51 (p:=(21,sv21)) wv21
noncomputable def Lbl:Nat→LL→Int→Int→LI→LI→L3→L3→Option L3
 | 0,_,_,_,_,_,_,_=>none
 | n+1,x0,x1,x2,x3,x4,x5,x6=>(cond (decide (x2 < x1)) (cond (decide (0≤x2)) (cond (decide (x2 < (x0.length:Int))) (cond (decide (List.length x6+List.length [[List.getD x0 x2.toNat []]]≤nat_lit 2147483648)) (Lbl n x0 x1 (IntKind.wrap IntKind.i64 (x2+(1:Int))) x3 x4 x5 (x6++[[List.getD x0 x2.toNat []]])) none) none) none) (some x6))
theorem qLbl:type_of% @Lbl.eq_2:=@Lbl.eq_2
noncomputable def xLbl (x0:LL) (x1 x2:Int) (x3:LI) (x4:LI) (x5:L3) (x6:L3):L3→Ex×CS:=fun r=>((.exit 0),{ sl:=[(2,.l 2 0),(3,.l 3 0)],lo:=[(2,[.g 0,.g 1]),(3,[.d 3 iT (x3),.g 2])],h:=[.row 3 iT (x4),.row 23 mT (x5),.row 23 mT (r:L3)],n0:=0,w:=false })
abbrev cLbl (x0:LL) (x1 x2:Int) (x3:LI) (x4:LI) (x5:L3) (x6:L3):CS:={ sl:=[(2,.l 2 0),(3,.l 3 0),(10,.v (.sc (.d 22 lT x0))),(11,.v (.sc (I4 x1))),(12,.v (.sc (I4 x2)))],lo:=[(2,[.g 0,.g 1]),(3,[.d 3 iT (x3),.g 2])],h:=[.row 3 iT (x4),.row 23 mT (x5),.row 23 mT (x6)],n0:=0,w:=false }
theorem bLbl (k:Nat) (cN:KN) (cX:KX) (x0:LL) (x1 x2:Int) (x3:LI) (x4:LI) (x5:L3) (x6:L3):zi zP (tn52 26) (TM.evF zP (tn52) dOk (k+40)) dOk (k+40) (za zP (tn0 26) 26 0) 0 0 (cLbl x0 x1 x2 x3 x4 x5 x6) cN cX=(cond (decide (x2 < x1)) (cond (decide (0≤x2)) (cond (decide (x2 < (x0.length:Int))) (cond (decide (List.length x6+List.length [[List.getD x0 x2.toNat []]]≤nat_lit 2147483648)) (cN (cLbl x0 x1 (IntKind.wrap IntKind.i64 (x2+(1:Int))) x3 x4 x5 (x6++[[List.getD x0 x2.toNat []]]:L3))) none) none) none) (cX (.exit 0) { sl:=[(2,.l 2 0),(3,.l 3 0)],lo:=[(2,[.g 0,.g 1]),(3,[.d 3 iT (x3),.g 2])],h:=[.row 3 iT (x4),.row 23 mT (x5),.row 23 mT (x6)],n0:=0,w:=false })):=by kernel_rfl
theorem lLbl (k m:Nat):∀ (n:Nat) (x0:LL) (x1 x2:Int) (x3:LI) (x4:LI) (x5:L3) (x6:L3) (r:L3),Lbl n x0 x1 x2 x3 x4 x5 x6=some r→zw zP (tn52 26) (TM.evF zP (tn52) dOk (k+40)) dOk (k+40) (za zP (tn0 26) 26 0) 0 0 (n+m) (cLbl x0 x1 x2 x3 x4 x5 x6)=some (xLbl x0 x1 x2 x3 x4 x5 x6 r):=by
 intro n
 induction n with
 | zero=>intro _ _ _ _ _ _ _ r h;cases h
 | succ n ih=>
  intro x0 x1 x2 x3 x4 x5 x6 r
  rw [show n+1+m=n+m+1 by omega,zf,bLbl,qLbl]
  with_reducible repeat' refine zS ?_ ?_
  all_goals first | exact ih _ _ _ _ _ _ _ r | (intro h;cases h;done) | (intro h;cases h;rfl)
noncomputable def sLbl:TellS:=fun S=>dCS 0 S fun y1 y2 y3=>dSt 2 y1 fun y5 l4=>dL 2 0 y5<|dSt 3 l4 fun y7 l6=>dL 3 0 y7<|dSs 10 l6 fun y9 l8=>dD 22 lT y9 fun x0=>dSI 11 .i64 l8 fun x1 l10=>dSI 12 .i64 l10 fun x2 l11=>dE l11<|dLo 2 y2 fun y12 l13=>dC y12 fun y14 l15=>dG 0 y14<|dC l15 fun y16 l17=>dG 1 y16<|dE l17<|dLo 3 l13 fun y18 l19=>dC y18 fun y20 l21=>dD 3 iT y20 fun x3=>dC l21 fun y22 l23=>dG 2 y22<|dE l23<|dE l19<|dHR 3 iT y3 fun x4 l24=>dHR 23 mT l24 fun x5 l25=>dHR 23 mT l25 fun x6 l26=>dE l26 <|  some [(ok (Lbl FU x0 x1 x2 x3 x4 x5 x6),(.exit 0),{ sl:=[(2,.l 2 0),(3,.l 3 0)],lo:=[(2,[.g 0,.g 1]),(3,[.d 3 iT (x3),.g 2])],h:=[.row 3 iT (x4),.row 23 mT (x5),.row 23 mT ((val (Lbl FU x0 x1 x2 x3 x4 x5 x6)):L3)],n0:=0,w:=false })]
theorem wLbl:zo zP dOk base o52 t52 ((26,0),sLbl):=by
 refine ⟨.loop (za zP (tn0 26) 26 0),0,by kernel_rfl,?_⟩
 intro S alts e S' h1 h2
 change sLbl S=_ at h1
 unfold sLbl at h1
 repeat with_reducible first|replace h1:=zE h1;obtain ⟨_,_,_,rfl,h1⟩:=h1|(first|replace h1:=ye h1|replace h1:=zJ h1|replace h1:=zF h1|replace h1:=yg h1|replace h1:=dCq h1|replace h1:=zV h1);obtain ⟨_,_,rfl,h1⟩:=h1|(first|replace h1:=dLq h1|replace h1:=dEq h1|replace h1:=dGq h1);obtain ⟨rfl,h1⟩:=h1|replace h1:=dDq h1;obtain ⟨_,rfl,h1⟩:=h1
 cases h1
 obtain ⟨hc0,rfl,rfl⟩:=zk h2
 exact ⟨FU+40,(zb rfl).trans (lLbl FU 40 FU _ _ _ _ _ _ _ _ (zc hc0))⟩
noncomputable def o53:OrcT:=o52
noncomputable def t53:TellT:=((26,0),sLbl)::t52
abbrev tn53:=ze base o53 t53
theorem ok53:OKT tn53:=zq ok52 ok52 (p:=((26,0),sLbl)) wLbl
noncomputable def tv26 {β:Type} (x0:LI) (x1:LL) (x2:LI) (K:L3→Option β):Option β:=(cond (ok (Lbl FU x1 (x1.length:Int) 0 x0 [] [] [])) (K (val (Lbl FU x1 (x1.length:Int) 0 x0 [] [] []))) none)
noncomputable def v26 (x0:LI) (x1:LL) (x2:LI):Option L3:=tv26 x0 x1 x2 some
theorem ev26 (x0:LI) (x1:LL) (x2:LI):zn zP (tn53 26) (TM.evF zP (tn53) dOk 40) dOk 40 26 [.agg [.d 3 iT (x0),.d 22 lT (x1),.d 3 iT (x2)]] []=(v26 x0 x1 x2).bind fun r=>some ([.agg [.d 3 iT (x0),.d 23 mT (r:L3)]],[]):=by
 refine Eq.trans (b:=tv26 x0 x1 x2 fun r=>some ([.agg [.d 3 iT (x0),.d 23 mT (r:L3)]],[])) (by kernel_rfl) ?_
 unfold v26 tv26
 with_reducible repeat' refine zj ?_ ?_
 all_goals rfl
noncomputable def sv26:OrcS:=fun al H=>dC al fun y1 l2=>dA y1 fun y3=>dC y3 fun y4 l5=>dD 3 iT y4 fun x0=>dC l5 fun y6 l7=>dD 22 lT y6 fun x1=>dC l7 fun y8 l9=>dD 3 iT y8 fun x2=>dE l9<|dE l2<|dE H <|  some [(ok (v26 x0 x1 x2),[.agg [.d 3 iT (x0),.d 23 mT ((val (v26 x0 x1 x2)):L3)]],[])]
theorem wv26:zl zP dOk base o53 t53 (26,sv26):=by
 intro al H q hq rs H2 h2
 change sv26 al H=_ at hq
 unfold sv26 at hq
 repeat with_reducible first|replace hq:=dCq hq;obtain ⟨_,_,rfl,hq⟩:=hq|(first|replace hq:=dAq hq|replace hq:=dDq hq);obtain ⟨_,rfl,hq⟩:=hq|replace hq:=dEq hq;obtain ⟨rfl,hq⟩:=hq
 cases hq
 obtain ⟨hc0,rfl,rfl⟩:=zd h2
 exact ⟨41,(zu (by kernel_rfl)).trans ((ev26 _ _ _).trans (zh (zc hc0)))⟩
noncomputable def o54:OrcT:=(26,sv26)::o53
noncomputable def t54:TellT:=t53
abbrev tn54:=ze base o54 t54
theorem ok54:OKT tn54:=zm ok53 ok53 (p:=(26,sv26)) wv26
noncomputable def Lak:Nat→Bool→LL→Int→Int→LI→Int→Int→LI→LL→LI→LI→LL→LI→LI→Option (Bool×(LI))
 | 0,_,_,_,_,_,_,_,_,_,_,_,_,_,_=>none
 | n+1,x0,x1,x2,x3,x4,x5,x6,x7,x8,x9,A,B,C,D=>(cond (decide (x6 < x5)) (cond (decide (0≤x6)) (cond (decide (x6 < (x4.length:Int))) (cond (decide (0≤List.getD x4 x6.toNat 0)) (cond (decide (List.getD x4 x6.toNat 0 < (D.length:Int))) (cond (decide ((List.getD x4 x6.toNat 0).toNat < List.length D)) (cond x0 (cond (decide (List.getD x4 x6.toNat 0 < (x7.length:Int))) (Lak n (decide (List.getD x7 (List.getD x4 x6.toNat 0).toNat 0 > 0)) x1 x2 x3 x4 x5 (IntKind.wrap IntKind.i64 (x6+(1:Int))) x7 x8 x9 A B C (List.set D (List.getD x4 x6.toNat 0).toNat (1000:Int))) none) (Lak n (false) x1 x2 x3 x4 x5 (IntKind.wrap IntKind.i64 (x6+(1:Int))) x7 x8 x9 A B C (List.set D (List.getD x4 x6.toNat 0).toNat (1000:Int)))) none) none) none) none) none) (some (x0,D)))
theorem qLak:type_of% @Lak.eq_2:=@Lak.eq_2
noncomputable def xLak (x0:Bool) (x1:LL) (x2 x3:Int) (x4:LI) (x5 x6:Int) (x7:LI) (x8:LL) (x9:LI) (A:LI) (B:LL) (C:LI) (D:LI):(Bool×(LI))→Ex×CS:=fun r=>((.exit 2),{ sl:=[(1,.l 1 0),(4,.v (.sc (.ptr 0 0))),(5,.v (.sc (.bool (r.1)))),(18,.v (.sc (.d 22 lT x1))),(19,.v (.sc (I4 x2))),(20,.v (.sc (I4 x3)))],lo:=[(1,[.d 3 iT (x7),.d 22 lT (x8),.d 3 iT (x9)])],h:=[.box 73 [.d 3 iT (A),.d 22 lT (B),.d 3 iT (C),.g 1,.nil],.row 3 iT (r.2:LI)],n0:=0,w:=false })
abbrev cLak (x0:Bool) (x1:LL) (x2 x3:Int) (x4:LI) (x5 x6:Int) (x7:LI) (x8:LL) (x9:LI) (A:LI) (B:LL) (C:LI) (D:LI):CS:={ sl:=[(1,.l 1 0),(4,.v (.sc (.ptr 0 0))),(5,.v (.sc (.bool x0))),(18,.v (.sc (.d 22 lT x1))),(19,.v (.sc (I4 x2))),(20,.v (.sc (I4 x3))),(24,.v (.sc (.d 3 iT x4))),(25,.v (.sc (I4 x5))),(26,.v (.sc (I4 x6)))],lo:=[(1,[.d 3 iT (x7),.d 22 lT (x8),.d 3 iT (x9)])],h:=[.box 73 [.d 3 iT (A),.d 22 lT (B),.d 3 iT (C),.g 1,.nil],.row 3 iT (D)],n0:=0,w:=false }
theorem bLak (k:Nat) (cN:KN) (cX:KX) (x0:Bool) (x1:LL) (x2 x3:Int) (x4:LI) (x5 x6:Int) (x7:LI) (x8:LL) (x9:LI) (A:LI) (B:LL) (C:LI) (D:LI):zi zP (tn54 27) (TM.evF zP (tn54) dOk (k+40)) dOk (k+40) (za zP (tn0 27) 27 16) 2 16 (cLak x0 x1 x2 x3 x4 x5 x6 x7 x8 x9 A B C D) cN cX=(cond (decide (x6 < x5)) (cond (decide (0≤x6)) (cond (decide (x6 < (x4.length:Int))) (cond (decide (0≤List.getD x4 x6.toNat 0)) (cond (decide (List.getD x4 x6.toNat 0 < (D.length:Int))) (cond (decide ((List.getD x4 x6.toNat 0).toNat < List.length D)) (cond x0 (cond (decide (0≤List.getD x4 x6.toNat 0)) (cond (decide (List.getD x4 x6.toNat 0 < (x7.length:Int))) (cN (cLak (decide (List.getD x7 (List.getD x4 x6.toNat 0).toNat 0 > 0)) x1 x2 x3 x4 x5 (IntKind.wrap IntKind.i64 (x6+(1:Int))) x7 x8 x9 A B C (List.set D (List.getD x4 x6.toNat 0).toNat (1000:Int):LI))) none) none) (cN (cLak (false) x1 x2 x3 x4 x5 (IntKind.wrap IntKind.i64 (x6+(1:Int))) x7 x8 x9 A B C (List.set D (List.getD x4 x6.toNat 0).toNat (1000:Int):LI)))) none) none) none) none) none) (cX (.exit 2) { sl:=[(1,.l 1 0),(4,.v (.sc (.ptr 0 0))),(5,.v (.sc (.bool x0))),(18,.v (.sc (.d 22 lT x1))),(19,.v (.sc (I4 x2))),(20,.v (.sc (I4 x3)))],lo:=[(1,[.d 3 iT (x7),.d 22 lT (x8),.d 3 iT (x9)])],h:=[.box 73 [.d 3 iT (A),.d 22 lT (B),.d 3 iT (C),.g 1,.nil],.row 3 iT (D)],n0:=0,w:=false })):=by kernel_rfl
theorem lLak (k m:Nat):∀ (n:Nat) (x0:Bool) (x1:LL) (x2 x3:Int) (x4:LI) (x5 x6:Int) (x7:LI) (x8:LL) (x9:LI) (A:LI) (B:LL) (C:LI) (D:LI) (r:(Bool×(LI))),Lak n x0 x1 x2 x3 x4 x5 x6 x7 x8 x9 A B C D=some r→zw zP (tn54 27) (TM.evF zP (tn54) dOk (k+40)) dOk (k+40) (za zP (tn0 27) 27 16) 2 16 (n+m) (cLak x0 x1 x2 x3 x4 x5 x6 x7 x8 x9 A B C D)=some (xLak x0 x1 x2 x3 x4 x5 x6 x7 x8 x9 A B C D r):=by
 intro n
 induction n with
 | zero=>intro _ _ _ _ _ _ _ _ _ _ _ _ _ _ r h;cases h
 | succ n ih=>
  intro x0 x1 x2 x3 x4 x5 x6 x7 x8 x9 A B C D r
  rw [show n+1+m=n+m+1 by omega,zf,bLak,qLak]
  cases (decide (x6 < x5)) with
  | true=>
   cases (decide (0≤x6)) with
   | true=>
    cases (decide (x6 < (x4.length:Int))) with
    | true=>
     cases (decide (0≤List.getD x4 x6.toNat 0)) with
     | true=>
      cases (decide (List.getD x4 x6.toNat 0 < (D.length:Int))) with
      | true=>
       cases (decide ((List.getD x4 x6.toNat 0).toNat < List.length D)) with
       | true=>
        cases x0 with
        | true=>
         cases (decide (List.getD x4 x6.toNat 0 < (x7.length:Int))) with
         | true=>
          exact ih _ _ _ _ _ _ _ _ _ _ _ _ _ _ r
         | false=>
          intro h;cases h
        | false=>
         exact ih _ _ _ _ _ _ _ _ _ _ _ _ _ _ r
       | false=>
        intro h;cases h
      | false=>
       intro h;cases h
     | false=>
      intro h;cases h
    | false=>
     intro h;cases h
   | false=>
    intro h;cases h
  | false=>
   intro h;cases h;rfl
noncomputable def sLak:TellS:=fun S=>dCS 0 S fun y1 y2 y3=>dSt 1 y1 fun y5 l4=>dL 1 0 y5<|dSs 4 l4 fun y7 l6=>zp 0 0 y7<|dSs 5 l6 fun y9 l8=>wp y9 fun x0=>dSs 18 l8 fun y11 l10=>dD 22 lT y11 fun x1=>dSI 19 .i64 l10 fun x2 l12=>dSI 20 .i64 l12 fun x3 l13=>dSs 24 l13 fun y15 l14=>dD 3 iT y15 fun x4=>dSI 25 .i64 l14 fun x5 l16=>dSI 26 .i64 l16 fun x6 l17=>dE l17<|dLo 1 y2 fun y18 l19=>dC y18 fun y20 l21=>dD 3 iT y20 fun x7=>dC l21 fun y22 l23=>dD 22 lT y22 fun x8=>dC l23 fun y24 l25=>dD 3 iT y24 fun x9=>dE l25<|dE l19<|dHB 73 y3 fun y27 l26=>dC y27 fun y28 l29=>dD 3 iT y28 fun A=>dC l29 fun y30 l31=>dD 22 lT y30 fun B=>dC l31 fun y32 l33=>dD 3 iT y32 fun C=>dC l33 fun y34 l35=>dG 1 y34<|dC l35 fun y36 l37=>dNil y36<|dE l37<|dHR 3 iT l26 fun D l38=>dE l38 <|  some [(ok (Lak FU x0 x1 x2 x3 x4 x5 x6 x7 x8 x9 A B C D),(.exit 2),{ sl:=[(1,.l 1 0),(4,.v (.sc (.ptr 0 0))),(5,.v (.sc (.bool ((val (Lak FU x0 x1 x2 x3 x4 x5 x6 x7 x8 x9 A B C D)).1)))),(18,.v (.sc (.d 22 lT x1))),(19,.v (.sc (I4 x2))),(20,.v (.sc (I4 x3)))],lo:=[(1,[.d 3 iT (x7),.d 22 lT (x8),.d 3 iT (x9)])],h:=[.box 73 [.d 3 iT (A),.d 22 lT (B),.d 3 iT (C),.g 1,.nil],.row 3 iT ((val (Lak FU x0 x1 x2 x3 x4 x5 x6 x7 x8 x9 A B C D)).2:LI)],n0:=0,w:=false })]
theorem wLak:zo zP dOk base o54 t54 ((27,16),sLak):=by
 refine ⟨.loop (za zP (tn0 27) 27 16),2,by kernel_rfl,?_⟩
 intro S alts e S' h1 h2
 change sLak S=_ at h1
 unfold sLak at h1
 repeat with_reducible first|replace h1:=zE h1;obtain ⟨_,_,_,rfl,h1⟩:=h1|(first|replace h1:=ye h1|replace h1:=zJ h1|replace h1:=zF h1|replace h1:=yg h1|replace h1:=dCq h1|replace h1:=zM h1|replace h1:=zV h1);obtain ⟨_,_,rfl,h1⟩:=h1|(first|replace h1:=dLq h1|replace h1:=zx h1|replace h1:=dEq h1|replace h1:=dGq h1|replace h1:=dNilq h1);obtain ⟨rfl,h1⟩:=h1|(first|replace h1:=xO h1|replace h1:=dDq h1);obtain ⟨_,rfl,h1⟩:=h1
 cases h1
 obtain ⟨hc0,rfl,rfl⟩:=zk h2
 exact ⟨FU+40,(zb rfl).trans (lLak FU 40 FU _ _ _ _ _ _ _ _ _ _ _ _ _ _ _ (zc hc0))⟩
noncomputable def o55:OrcT:=o54
noncomputable def t55:TellT:=((27,16),sLak)::t54
abbrev tn55:=ze base o55 t55
theorem ok55:OKT tn55:=zq ok54 ok54 (p:=((27,16),sLak)) wLak
noncomputable def LaA:Nat→Bool→LL→Int→Int→LI→LL→LI→LI→LL→LI→LI→Option (Bool×(LI))
 | 0,_,_,_,_,_,_,_,_,_,_,_=>none
 | n+1,x0,x1,x2,x3,x4,x5,x6,x7,x8,x9,A=>(cond (decide (x3 < x2)) (cond (decide (0≤x3)) (cond (decide (x3 < (x1.length:Int))) (cond (ok (Lak FU x0 x1 x2 x3 (List.getD x1 x3.toNat []) (↑(List.length (List.getD x1 x3.toNat [])):Int) 0 x4 x5 x6 x7 x8 x9 A)) (LaA n (val (Lak FU x0 x1 x2 x3 (List.getD x1 x3.toNat []) (↑(List.length (List.getD x1 x3.toNat [])):Int) 0 x4 x5 x6 x7 x8 x9 A)).1 x1 x2 (IntKind.wrap IntKind.i64 (x3+(1:Int))) x4 x5 x6 x7 x8 x9 (val (Lak FU x0 x1 x2 x3 (List.getD x1 x3.toNat []) (↑(List.length (List.getD x1 x3.toNat [])):Int) 0 x4 x5 x6 x7 x8 x9 A)).2) none) none) none) (some (x0,A)))
theorem qLaA:type_of% @LaA.eq_2:=@LaA.eq_2
noncomputable def xLaA (x0:Bool) (x1:LL) (x2 x3:Int) (x4:LI) (x5:LL) (x6:LI) (x7:LI) (x8:LL) (x9:LI) (A:LI):(Bool×(LI))→Ex×CS:=fun r=>((.exit 0),{ sl:=[(1,.l 1 0),(4,.v (.sc (.ptr 0 0))),(5,.v (.sc (.bool (r.1))))],lo:=[],h:=[.box 73 [.d 3 iT (x7),.d 22 lT (x8),.d 3 iT (x9),.g 1,.nil],.row 3 iT (r.2:LI)],n0:=0,w:=false })
abbrev cLaA (x0:Bool) (x1:LL) (x2 x3:Int) (x4:LI) (x5:LL) (x6:LI) (x7:LI) (x8:LL) (x9:LI) (A:LI):CS:={ sl:=[(1,.l 1 0),(4,.v (.sc (.ptr 0 0))),(5,.v (.sc (.bool x0))),(18,.v (.sc (.d 22 lT x1))),(19,.v (.sc (I4 x2))),(20,.v (.sc (I4 x3)))],lo:=[(1,[.d 3 iT (x4),.d 22 lT (x5),.d 3 iT (x6)])],h:=[.box 73 [.d 3 iT (x7),.d 22 lT (x8),.d 3 iT (x9),.g 1,.nil],.row 3 iT (A)],n0:=0,w:=false }
theorem bLaA (k:Nat) (cN:KN) (cX:KX) (x0:Bool) (x1:LL) (x2 x3:Int) (x4:LI) (x5:LL) (x6:LI) (x7:LI) (x8:LL) (x9:LI) (A:LI):zi zP (tn55 27) (TM.evF zP (tn55) dOk (k+40)) dOk (k+40) (za zP (tn0 27) 27 0) 0 0 (cLaA x0 x1 x2 x3 x4 x5 x6 x7 x8 x9 A) cN cX=(cond (decide (x3 < x2)) (cond (decide (0≤x3)) (cond (decide (x3 < (x1.length:Int))) (cond (ok (Lak FU x0 x1 x2 x3 (List.getD x1 x3.toNat []) (↑(List.length (List.getD x1 x3.toNat [])):Int) 0 x4 x5 x6 x7 x8 x9 A)) (cN (cLaA (val (Lak FU x0 x1 x2 x3 (List.getD x1 x3.toNat []) (↑(List.length (List.getD x1 x3.toNat [])):Int) 0 x4 x5 x6 x7 x8 x9 A)).1 x1 x2 (IntKind.wrap IntKind.i64 (x3+(1:Int))) x4 x5 x6 x7 x8 x9 ((val (Lak FU x0 x1 x2 x3 (List.getD x1 x3.toNat []) (↑(List.length (List.getD x1 x3.toNat [])):Int) 0 x4 x5 x6 x7 x8 x9 A)).2:LI))) none) none) none) (cX (.exit 0) { sl:=[(1,.l 1 0),(4,.v (.sc (.ptr 0 0))),(5,.v (.sc (.bool x0)))],lo:=[],h:=[.box 73 [.d 3 iT (x7),.d 22 lT (x8),.d 3 iT (x9),.g 1,.nil],.row 3 iT (A)],n0:=0,w:=false })):=by kernel_rfl
theorem lLaA (k m:Nat):∀ (n:Nat) (x0:Bool) (x1:LL) (x2 x3:Int) (x4:LI) (x5:LL) (x6:LI) (x7:LI) (x8:LL) (x9:LI) (A:LI) (r:(Bool×(LI))),LaA n x0 x1 x2 x3 x4 x5 x6 x7 x8 x9 A=some r→zw zP (tn55 27) (TM.evF zP (tn55) dOk (k+40)) dOk (k+40) (za zP (tn0 27) 27 0) 0 0 (n+m) (cLaA x0 x1 x2 x3 x4 x5 x6 x7 x8 x9 A)=some (xLaA x0 x1 x2 x3 x4 x5 x6 x7 x8 x9 A r):=by
 intro n
 induction n with
 | zero=>intro _ _ _ _ _ _ _ _ _ _ _ r h;cases h
 | succ n ih=>
  intro x0 x1 x2 x3 x4 x5 x6 x7 x8 x9 A r
  rw [show n+1+m=n+m+1 by omega,zf,bLaA,qLaA]
  with_reducible repeat' refine zS ?_ ?_
  all_goals first | exact ih _ _ _ _ _ _ _ _ _ _ _ r | (intro h;cases h;done) | (intro h;cases h;rfl)
noncomputable def sLaA:TellS:=fun S=>dCS 0 S fun y1 y2 y3=>dSt 1 y1 fun y5 l4=>dL 1 0 y5<|dSs 4 l4 fun y7 l6=>zp 0 0 y7<|dSs 5 l6 fun y9 l8=>wp y9 fun x0=>dSs 18 l8 fun y11 l10=>dD 22 lT y11 fun x1=>dSI 19 .i64 l10 fun x2 l12=>dSI 20 .i64 l12 fun x3 l13=>dE l13<|dLo 1 y2 fun y14 l15=>dC y14 fun y16 l17=>dD 3 iT y16 fun x4=>dC l17 fun y18 l19=>dD 22 lT y18 fun x5=>dC l19 fun y20 l21=>dD 3 iT y20 fun x6=>dE l21<|dE l15<|dHB 73 y3 fun y23 l22=>dC y23 fun y24 l25=>dD 3 iT y24 fun x7=>dC l25 fun y26 l27=>dD 22 lT y26 fun x8=>dC l27 fun y28 l29=>dD 3 iT y28 fun x9=>dC l29 fun y30 l31=>dG 1 y30<|dC l31 fun y32 l33=>dNil y32<|dE l33<|dHR 3 iT l22 fun A l34=>dE l34 <|  some [(ok (LaA FU x0 x1 x2 x3 x4 x5 x6 x7 x8 x9 A),(.exit 0),{ sl:=[(1,.l 1 0),(4,.v (.sc (.ptr 0 0))),(5,.v (.sc (.bool ((val (LaA FU x0 x1 x2 x3 x4 x5 x6 x7 x8 x9 A)).1))))],lo:=[],h:=[.box 73 [.d 3 iT (x7),.d 22 lT (x8),.d 3 iT (x9),.g 1,.nil],.row 3 iT ((val (LaA FU x0 x1 x2 x3 x4 x5 x6 x7 x8 x9 A)).2:LI)],n0:=0,w:=false })]
theorem wLaA:zo zP dOk base o55 t55 ((27,0),sLaA):=by
 refine ⟨.loop (za zP (tn0 27) 27 0),0,by kernel_rfl,?_⟩
 intro S alts e S' h1 h2
 change sLaA S=_ at h1
 unfold sLaA at h1
 repeat with_reducible first|replace h1:=zE h1;obtain ⟨_,_,_,rfl,h1⟩:=h1|(first|replace h1:=ye h1|replace h1:=zJ h1|replace h1:=zF h1|replace h1:=yg h1|replace h1:=dCq h1|replace h1:=zM h1|replace h1:=zV h1);obtain ⟨_,_,rfl,h1⟩:=h1|(first|replace h1:=dLq h1|replace h1:=zx h1|replace h1:=dEq h1|replace h1:=dGq h1|replace h1:=dNilq h1);obtain ⟨rfl,h1⟩:=h1|(first|replace h1:=xO h1|replace h1:=dDq h1);obtain ⟨_,rfl,h1⟩:=h1
 cases h1
 obtain ⟨hc0,rfl,rfl⟩:=zk h2
 exact ⟨FU+40,(zb rfl).trans (lLaA FU 40 FU _ _ _ _ _ _ _ _ _ _ _ _ (zc hc0))⟩
noncomputable def o56:OrcT:=o55
noncomputable def t56:TellT:=((27,0),sLaA)::t55
abbrev tn56:=ze base o56 t56
theorem ok56:OKT tn56:=zq ok55 ok55 (p:=((27,0),sLaA)) wLaA
noncomputable def tv71 {β:Type} (x0:Int) (x1:LI) (x2:LL) (x3:LI) (x4:LI) (x5:LI) (K:Int→Option β):Option β:=(cond (decide (0≤x0)) (cond (decide (x0 < (x4.length:Int))) (cond (decide (x0.toNat < List.length x4)) (K (List.getD x4 x0.toNat 0)) none) none) none)
noncomputable def v71 (x0:Int) (x1:LI) (x2:LL) (x3:LI) (x4:LI) (x5:LI):Option Int:=tv71 x0 x1 x2 x3 x4 x5 some
theorem ev71 (x0:Int) (x1:LI) (x2:LL) (x3:LI) (x4:LI) (x5:LI):zn zP (tn56 71) (TM.evF zP (tn56) dOk 40) dOk 40 71 [.sc (I4 x0),.sc (.ptr 0 0)] [.box 54 [.ptr 1 0],.box 73 [.d 3 iT (x1),.d 22 lT (x2),.d 3 iT (x3),.g 2,.g 3],.row 3 iT (x4),.row 3 iT (x5)]=(v71 x0 x1 x2 x3 x4 x5).bind fun r=>some ([.sc (I4 (r))],[.box 54 [.ptr 1 0],.box 73 [.d 3 iT (x1),.d 22 lT (x2),.d 3 iT (x3),.g 2,.g 3],.row 3 iT (x4),.row 3 iT (x5)]):=by
 refine Eq.trans (b:=tv71 x0 x1 x2 x3 x4 x5 fun r=>some ([.sc (I4 (r))],[.box 54 [.ptr 1 0],.box 73 [.d 3 iT (x1),.d 22 lT (x2),.d 3 iT (x3),.g 2,.g 3],.row 3 iT (x4),.row 3 iT (x5)])) (by kernel_rfl) ?_
 unfold v71 tv71
 with_reducible repeat' refine zj ?_ ?_
 all_goals rfl
noncomputable def sv71:OrcS:=fun al H=>dC al fun y1 l2=>dS y1 fun y3=>yO .i64 y3 fun x0=>dC l2 fun y4 l5=>dS y4 fun y6=>zp 0 0 y6<|dE l5<|dHB 54 H fun y8 l7=>dC y8 fun y9 l10=>zp 1 0 y9<|dE l10<|dHB 73 l7 fun y12 l11=>dC y12 fun y13 l14=>dD 3 iT y13 fun x1=>dC l14 fun y15 l16=>dD 22 lT y15 fun x2=>dC l16 fun y17 l18=>dD 3 iT y17 fun x3=>dC l18 fun y19 l20=>dG 2 y19<|dC l20 fun y21 l22=>dG 3 y21<|dE l22<|dHR 3 iT l11 fun x4 l23=>dHR 3 iT l23 fun x5 l24=>dE l24 <|  some [(ok (v71 x0 x1 x2 x3 x4 x5),[.sc (I4 ((val (v71 x0 x1 x2 x3 x4 x5))))],[.box 54 [.ptr 1 0],.box 73 [.d 3 iT (x1),.d 22 lT (x2),.d 3 iT (x3),.g 2,.g 3],.row 3 iT (x4),.row 3 iT (x5)])]
theorem wv71:zl zP dOk base o56 t56 (71,sv71):=by
 intro al H q hq rs H2 h2
 change sv71 al H=_ at hq
 unfold sv71 at hq
 repeat with_reducible first|(first|replace hq:=dCq hq|replace hq:=zM hq|replace hq:=zV hq);obtain ⟨_,_,rfl,hq⟩:=hq|(first|replace hq:=dSq hq|replace hq:=yV hq|replace hq:=dDq hq);obtain ⟨_,rfl,hq⟩:=hq|(first|replace hq:=zx hq|replace hq:=dEq hq|replace hq:=dGq hq);obtain ⟨rfl,hq⟩:=hq
 cases hq
 obtain ⟨hc0,rfl,rfl⟩:=zd h2
 exact ⟨41,(zu (by kernel_rfl)).trans ((ev71 _ _ _ _ _ _).trans (zh (zc hc0)))⟩
noncomputable def o57:OrcT:=(71,sv71)::o56
noncomputable def t57:TellT:=t56
abbrev tn57:=ze base o57 t57
theorem ok57:OKT tn57:=zm ok56 ok56 (p:=(71,sv71)) wv71
noncomputable def Lbd:Nat→Int→LI→Int→Int→LI→LL→LI→LI→LI→Option Int
 | 0,_,_,_,_,_,_,_,_,_=>none
 | n+1,x0,x1,x2,x3,x4,x5,x6,x7,x8=>(cond (decide (x3 < x2)) (cond (decide (0≤x3)) (cond (decide (x3 < (x1.length:Int))) (cond (ok (v71 (List.getD x1 x3.toNat 0) x4 x5 x6 x7 x8)) (Lbd n (IntKind.wrap IntKind.i64 (x0+val (v71 (List.getD x1 x3.toNat 0) x4 x5 x6 x7 x8))) x1 x2 (IntKind.wrap IntKind.i64 (x3+(1:Int))) x4 x5 x6 x7 x8) none) none) none) (some x0))
theorem qLbd:type_of% @Lbd.eq_2:=@Lbd.eq_2
noncomputable def xLbd (x0:Int) (x1:LI) (x2 x3:Int) (x4:LI) (x5:LL) (x6:LI) (x7:LI) (x8:LI):Int→Ex×CS:=fun r=>((.exit 0),{ sl:=[(5,.v (.sc (I4 (r))))],lo:=[],h:=[.box 54 [.ptr 1 0],.box 73 [.d 3 iT (x4),.d 22 lT (x5),.d 3 iT (x6),.g 2,.g 3],.row 3 iT (x7),.row 3 iT (x8)],n0:=4,w:=false })
abbrev cLbd (x0:Int) (x1:LI) (x2 x3:Int) (x4:LI) (x5:LL) (x6:LI) (x7:LI) (x8:LI):CS:={ sl:=[(1,.v (.sc (.fn 71 0 [none] [.ptr 0 0]))),(5,.v (.sc (I4 x0))),(8,.v (.sc (.d 3 iT x1))),(9,.v (.sc (I4 x2))),(10,.v (.sc (I4 x3)))],lo:=[],h:=[.box 54 [.ptr 1 0],.box 73 [.d 3 iT (x4),.d 22 lT (x5),.d 3 iT (x6),.g 2,.g 3],.row 3 iT (x7),.row 3 iT (x8)],n0:=4,w:=false }
theorem bLbd (k:Nat) (cN:KN) (cX:KX) (x0:Int) (x1:LI) (x2 x3:Int) (x4:LI) (x5:LL) (x6:LI) (x7:LI) (x8:LI):zi zP (tn57 70) (TM.evF zP (tn57) dOk (k+40)) dOk (k+40) (za zP (tn0 70) 70 0) 0 0 (cLbd x0 x1 x2 x3 x4 x5 x6 x7 x8) cN cX=(cond (decide (x3 < x2)) (cond (decide (0≤x3)) (cond (decide (x3 < (x1.length:Int))) (cond (ok (v71 (List.getD x1 x3.toNat 0) x4 x5 x6 x7 x8)) (cN (cLbd (IntKind.wrap IntKind.i64 (x0+val (v71 (List.getD x1 x3.toNat 0) x4 x5 x6 x7 x8))) x1 x2 (IntKind.wrap IntKind.i64 (x3+(1:Int))) x4 x5 x6 x7 x8)) none) none) none) (cP cX (xLbd x0 x1 x2 x3 x4 x5 x6 x7 x8 x0))):=by kernel_rfl
theorem lLbd (k m:Nat):∀ (n:Nat) (x0:Int) (x1:LI) (x2 x3:Int) (x4:LI) (x5:LL) (x6:LI) (x7:LI) (x8:LI) (r:Int),Lbd n x0 x1 x2 x3 x4 x5 x6 x7 x8=some r→zw zP (tn57 70) (TM.evF zP (tn57) dOk (k+40)) dOk (k+40) (za zP (tn0 70) 70 0) 0 0 (n+m) (cLbd x0 x1 x2 x3 x4 x5 x6 x7 x8)=some (xLbd x0 x1 x2 x3 x4 x5 x6 x7 x8 r):=by
 intro n
 induction n with
 | zero=>intro _ _ _ _ _ _ _ _ _ r h;cases h
 | succ n ih=>
  intro x0 x1 x2 x3 x4 x5 x6 x7 x8 r
  rw [show n+1+m=n+m+1 by omega,zf,bLbd,qLbd]
  with_reducible repeat' refine zS ?_ ?_
  all_goals first | exact ih _ _ _ _ _ _ _ _ _ r | (intro h;cases h;done) | (intro h;cases h;rfl)
noncomputable def sLbd:TellS:=fun S=>dCS 4 S fun y1 y2 y3=>dSs 1 y1 fun y5 l4=>dFn 71 0 [none] y5 fun y6=>dC y6 fun y7 l8=>zp 0 0 y7<|dE l8<|dSI 5 .i64 l4 fun x0 l9=>dSs 8 l9 fun y11 l10=>dD 3 iT y11 fun x1=>dSI 9 .i64 l10 fun x2 l12=>dSI 10 .i64 l12 fun x3 l13=>dE l13<|dE y2<|dHB 54 y3 fun y15 l14=>dC y15 fun y16 l17=>zp 1 0 y16<|dE l17<|dHB 73 l14 fun y19 l18=>dC y19 fun y20 l21=>dD 3 iT y20 fun x4=>dC l21 fun y22 l23=>dD 22 lT y22 fun x5=>dC l23 fun y24 l25=>dD 3 iT y24 fun x6=>dC l25 fun y26 l27=>dG 2 y26<|dC l27 fun y28 l29=>dG 3 y28<|dE l29<|dHR 3 iT l18 fun x7 l30=>dHR 3 iT l30 fun x8 l31=>dE l31 <|  some [te (Lbd FU x0 x1 x2 x3 x4 x5 x6 x7 x8) (xLbd x0 x1 x2 x3 x4 x5 x6 x7 x8)]
theorem wLbd:zo zP dOk base o57 t57 ((70,0),sLbd):=by
 refine ⟨.loop (za zP (tn0 70) 70 0),0,by kernel_rfl,?_⟩
 intro S alts e S' h1 h2
 change sLbd S=_ at h1
 unfold sLbd at h1
 repeat with_reducible first|replace h1:=zE h1;obtain ⟨_,_,_,rfl,h1⟩:=h1|(first|replace h1:=zJ h1|replace h1:=dCq h1|replace h1:=zF h1|replace h1:=zM h1|replace h1:=zV h1);obtain ⟨_,_,rfl,h1⟩:=h1|(first|replace h1:=yt h1|replace h1:=dDq h1);obtain ⟨_,rfl,h1⟩:=h1|(first|replace h1:=zx h1|replace h1:=dEq h1|replace h1:=dGq h1);obtain ⟨rfl,h1⟩:=h1
 cases h1
 obtain ⟨hc0,rfl,rfl⟩:=zk h2
 exact ⟨FU+40,(zb rfl).trans (lLbd FU 40 FU _ _ _ _ _ _ _ _ _ _ (zc hc0))⟩
noncomputable def o58:OrcT:=o57
noncomputable def t58:TellT:=((70,0),sLbd)::t57
abbrev tn58:=ze base o58 t58
theorem ok58:OKT tn58:=zq ok57 ok57 (p:=((70,0),sLbd)) wLbd
noncomputable def tv70 {β:Type} (x0:LI) (x1:LI) (x2:LL) (x3:LI) (x4:LI) (x5:LI) (K:Int→Option β):Option β:=(cond (ok (Lbd FU 0 x0 (x0.length:Int) 0 x1 x2 x3 x4 x5)) (K (val (Lbd FU 0 x0 (x0.length:Int) 0 x1 x2 x3 x4 x5))) none)
noncomputable def v70 (x0:LI) (x1:LI) (x2:LL) (x3:LI) (x4:LI) (x5:LI):Option Int:=tv70 x0 x1 x2 x3 x4 x5 some
theorem ev70 (x0:LI) (x1:LI) (x2:LL) (x3:LI) (x4:LI) (x5:LI):zn zP (tn58 70) (TM.evF zP (tn58) dOk 40) dOk 40 70 [.sc (.d 3 iT x0),.sc (.fn 71 0 [none] [.ptr 0 0])] [.box 54 [.ptr 1 0],.box 73 [.d 3 iT (x1),.d 22 lT (x2),.d 3 iT (x3),.g 2,.g 3],.row 3 iT (x4),.row 3 iT (x5)]=(v70 x0 x1 x2 x3 x4 x5).bind fun r=>some ([.sc (I4 (r))],[.box 54 [.ptr 1 0],.box 73 [.d 3 iT (x1),.d 22 lT (x2),.d 3 iT (x3),.g 2,.g 3],.row 3 iT (x4),.row 3 iT (x5)]):=by
 refine Eq.trans (b:=tv70 x0 x1 x2 x3 x4 x5 fun r=>some ([.sc (I4 (r))],[.box 54 [.ptr 1 0],.box 73 [.d 3 iT (x1),.d 22 lT (x2),.d 3 iT (x3),.g 2,.g 3],.row 3 iT (x4),.row 3 iT (x5)])) (by kernel_rfl) ?_
 unfold v70 tv70
 with_reducible repeat' refine zj ?_ ?_
 all_goals rfl
noncomputable def sv70:OrcS:=fun al H=>dC al fun y1 l2=>dS y1 fun y3=>dD 3 iT y3 fun x0=>dC l2 fun y4 l5=>dS y4 fun y6=>dFn 71 0 [none] y6 fun y7=>dC y7 fun y8 l9=>zp 0 0 y8<|dE l9<|dE l5<|dHB 54 H fun y11 l10=>dC y11 fun y12 l13=>zp 1 0 y12<|dE l13<|dHB 73 l10 fun y15 l14=>dC y15 fun y16 l17=>dD 3 iT y16 fun x1=>dC l17 fun y18 l19=>dD 22 lT y18 fun x2=>dC l19 fun y20 l21=>dD 3 iT y20 fun x3=>dC l21 fun y22 l23=>dG 2 y22<|dC l23 fun y24 l25=>dG 3 y24<|dE l25<|dHR 3 iT l14 fun x4 l26=>dHR 3 iT l26 fun x5 l27=>dE l27 <|  some [(ok (v70 x0 x1 x2 x3 x4 x5),[.sc (I4 ((val (v70 x0 x1 x2 x3 x4 x5))))],[.box 54 [.ptr 1 0],.box 73 [.d 3 iT (x1),.d 22 lT (x2),.d 3 iT (x3),.g 2,.g 3],.row 3 iT (x4),.row 3 iT (x5)])]
theorem wv70:zl zP dOk base o58 t58 (70,sv70):=by
 intro al H q hq rs H2 h2
 change sv70 al H=_ at hq
 unfold sv70 at hq
 repeat with_reducible first|(first|replace hq:=dCq hq|replace hq:=zM hq|replace hq:=zV hq);obtain ⟨_,_,rfl,hq⟩:=hq|(first|replace hq:=dSq hq|replace hq:=dDq hq|replace hq:=yt hq);obtain ⟨_,rfl,hq⟩:=hq|(first|replace hq:=zx hq|replace hq:=dEq hq|replace hq:=dGq hq);obtain ⟨rfl,hq⟩:=hq
 cases hq
 obtain ⟨hc0,rfl,rfl⟩:=zd h2
 exact ⟨41,(zu (by kernel_rfl)).trans ((ev70 _ _ _ _ _ _).trans (zh (zc hc0)))⟩
noncomputable def o59:OrcT:=(70,sv70)::o58
noncomputable def t59:TellT:=t58
abbrev tn59:=ze base o59 t59
theorem ok59:OKT tn59:=zm ok58 ok58 (p:=(70,sv70)) wv70
noncomputable def v52 (x0:LI) (x1:LI) (x2:LL) (x3:LI) (x4:LI) (x5:LI):Option Int:=(cond (ok (v70 x0 x1 x2 x3 x4 x5)) (some (val (v70 x0 x1 x2 x3 x4 x5))) none)
theorem ev52 (x0:LI) (x1:LI) (x2:LL) (x3:LI) (x4:LI) (x5:LI):zn zP (tn59 52) (TM.evF zP (tn59) dOk 40) dOk 40 52 [.sc (.ptr 0 0),.sc (.d 3 iT x0)] [.box 73 [.d 3 iT (x1),.d 22 lT (x2),.d 3 iT (x3),.g 1,.g 2],.row 3 iT (x4),.row 3 iT (x5)]=(v52 x0 x1 x2 x3 x4 x5).bind fun r=>some ([.sc (I4 (r))],[.box 73 [.d 3 iT (x1),.d 22 lT (x2),.d 3 iT (x3),.g 1,.g 2],.row 3 iT (x4),.row 3 iT (x5)]):=by
 refine Eq.trans (b:=(cond (ok (v70 x0 x1 x2 x3 x4 x5)) (some ([.sc (I4 (val (v70 x0 x1 x2 x3 x4 x5)))],[.box 73 [.d 3 iT (x1),.d 22 lT (x2),.d 3 iT (x3),.g 1,.g 2],.row 3 iT (x4),.row 3 iT (x5)])) none)) (by kernel_rfl) ?_
 unfold v52
 with_reducible repeat' refine zj ?_ ?_
 all_goals rfl
noncomputable def sv52:OrcS:=fun al H=>dC al fun y1 l2=>dS y1 fun y3=>zp 0 0 y3<|dC l2 fun y4 l5=>dS y4 fun y6=>dD 3 iT y6 fun x0=>dE l5<|dHB 73 H fun y8 l7=>dC y8 fun y9 l10=>dD 3 iT y9 fun x1=>dC l10 fun y11 l12=>dD 22 lT y11 fun x2=>dC l12 fun y13 l14=>dD 3 iT y13 fun x3=>dC l14 fun y15 l16=>dG 1 y15<|dC l16 fun y17 l18=>dG 2 y17<|dE l18<|dHR 3 iT l7 fun x4 l19=>dHR 3 iT l19 fun x5 l20=>dE l20 <|  some [(ok (v52 x0 x1 x2 x3 x4 x5),[.sc (I4 ((val (v52 x0 x1 x2 x3 x4 x5))))],[.box 73 [.d 3 iT (x1),.d 22 lT (x2),.d 3 iT (x3),.g 1,.g 2],.row 3 iT (x4),.row 3 iT (x5)])]
theorem wv52:zl zP dOk base o59 t59 (52,sv52):=by
 intro al H q hq rs H2 h2
 change sv52 al H=_ at hq
 unfold sv52 at hq
 repeat with_reducible first|(first|replace hq:=dCq hq|replace hq:=zM hq|replace hq:=zV hq);obtain ⟨_,_,rfl,hq⟩:=hq|(first|replace hq:=dSq hq|replace hq:=dDq hq);obtain ⟨_,rfl,hq⟩:=hq|(first|replace hq:=zx hq|replace hq:=dEq hq|replace hq:=dGq hq);obtain ⟨rfl,hq⟩:=hq
 cases hq
 obtain ⟨hc0,rfl,rfl⟩:=zd h2
 exact ⟨41,(zu (by kernel_rfl)).trans ((ev52 _ _ _ _ _ _).trans (zh (zc hc0)))⟩
noncomputable def o60:OrcT:=(52,sv52)::o59
noncomputable def t60:TellT:=t59
abbrev tn60:=ze base o60 t60
theorem ok60:OKT tn60:=zm ok59 ok59 (p:=(52,sv52)) wv52
noncomputable def Las:Nat→Int→LL→Int→Int→LI→Int→Int→LI→LL→LI→LI→LI→Option LI
 | 0,_,_,_,_,_,_,_,_,_,_,_,_=>none
 | n+1,x0,x1,x2,x3,x4,x5,x6,x7,x8,x9,A,B=>(cond (decide (x6 < x5)) (cond (decide (0≤x6)) (cond (decide (x6 < (x4.length:Int))) (cond (decide (0≤List.getD x4 x6.toNat 0)) (cond (decide (List.getD x4 x6.toNat 0 < (B.length:Int))) (cond (decide ((List.getD x4 x6.toNat 0).toNat < List.length B)) (Las n x0 x1 x2 x3 x4 x5 (IntKind.wrap IntKind.i64 (x6+(1:Int))) x7 x8 x9 A (List.set B (List.getD x4 x6.toNat 0).toNat (IntKind.wrap IntKind.i64 (List.getD B (List.getD x4 x6.toNat 0).toNat 0+x0)))) none) none) none) none) none) (some B))
theorem qLas:type_of% @Las.eq_2:=@Las.eq_2
noncomputable def xLas (x0:Int) (x1:LL) (x2 x3:Int) (x4:LI) (x5 x6:Int) (x7:LI) (x8:LL) (x9:LI) (A:LI) (B:LI):LI→Ex×CS:=fun r=>((.exit 2),{ sl:=[(0,.v (.sc (.ptr 0 0))),(20,.v (.sc (.d 22 lT x1))),(21,.v (.sc (I4 x2))),(22,.v (.sc (I4 x3)))],lo:=[],h:=[.box 73 [.d 3 iT (x7),.d 22 lT (x8),.d 3 iT (x9),.g 1,.g 2],.row 3 iT (A),.row 3 iT (r:LI)],n0:=2,w:=false })
abbrev cLas (x0:Int) (x1:LL) (x2 x3:Int) (x4:LI) (x5 x6:Int) (x7:LI) (x8:LL) (x9:LI) (A:LI) (B:LI):CS:={ sl:=[(0,.v (.sc (.ptr 0 0))),(4,.v (.sc (I4 x0))),(20,.v (.sc (.d 22 lT x1))),(21,.v (.sc (I4 x2))),(22,.v (.sc (I4 x3))),(30,.v (.sc (.d 3 iT x4))),(31,.v (.sc (I4 x5))),(32,.v (.sc (I4 x6)))],lo:=[],h:=[.box 73 [.d 3 iT (x7),.d 22 lT (x8),.d 3 iT (x9),.g 1,.g 2],.row 3 iT (A),.row 3 iT (B)],n0:=2,w:=false }
theorem bLas (k:Nat) (cN:KN) (cX:KX) (x0:Int) (x1:LL) (x2 x3:Int) (x4:LI) (x5 x6:Int) (x7:LI) (x8:LL) (x9:LI) (A:LI) (B:LI):zi zP (tn60 48) (TM.evF zP (tn60) dOk (k+40)) dOk (k+40) (za zP (tn0 48) 48 16) 2 16 (cLas x0 x1 x2 x3 x4 x5 x6 x7 x8 x9 A B) cN cX=(cond (decide (x6 < x5)) (cond (decide (0≤x6)) (cond (decide (x6 < (x4.length:Int))) (cond (decide (0≤List.getD x4 x6.toNat 0)) (cond (decide (List.getD x4 x6.toNat 0 < (B.length:Int))) (cond (decide ((List.getD x4 x6.toNat 0).toNat < List.length B)) (cond (decide (0≤List.getD x4 x6.toNat 0)) (cond (decide (List.getD x4 x6.toNat 0 < (B.length:Int))) (cond (decide ((List.getD x4 x6.toNat 0).toNat < List.length B)) (cN (cLas x0 x1 x2 x3 x4 x5 (IntKind.wrap IntKind.i64 (x6+(1:Int))) x7 x8 x9 A (List.set B (List.getD x4 x6.toNat 0).toNat (IntKind.wrap IntKind.i64 (List.getD B (List.getD x4 x6.toNat 0).toNat 0+x0)):LI))) none) none) none) none) none) none) none) none) (cP cX (xLas x0 x1 x2 x3 x4 x5 x6 x7 x8 x9 A B B))):=by kernel_rfl
theorem lLas (k m:Nat):∀ (n:Nat) (x0:Int) (x1:LL) (x2 x3:Int) (x4:LI) (x5 x6:Int) (x7:LI) (x8:LL) (x9:LI) (A:LI) (B:LI) (r:LI),Las n x0 x1 x2 x3 x4 x5 x6 x7 x8 x9 A B=some r→zw zP (tn60 48) (TM.evF zP (tn60) dOk (k+40)) dOk (k+40) (za zP (tn0 48) 48 16) 2 16 (n+m) (cLas x0 x1 x2 x3 x4 x5 x6 x7 x8 x9 A B)=some (xLas x0 x1 x2 x3 x4 x5 x6 x7 x8 x9 A B r):=by
 intro n
 induction n with
 | zero=>intro _ _ _ _ _ _ _ _ _ _ _ _ r h;cases h
 | succ n ih=>
  intro x0 x1 x2 x3 x4 x5 x6 x7 x8 x9 A B r
  rw [show n+1+m=n+m+1 by omega,zf,bLas,qLas]
  cases (decide (x6 < x5)) with
  | true=>
   cases (decide (0≤x6)) with
   | true=>
    cases (decide (x6 < (x4.length:Int))) with
    | true=>
     cases (decide (0≤List.getD x4 x6.toNat 0)) with
     | true=>
      cases (decide (List.getD x4 x6.toNat 0 < (B.length:Int))) with
      | true=>
       cases (decide ((List.getD x4 x6.toNat 0).toNat < List.length B)) with
       | true=>
        exact ih _ _ _ _ _ _ _ _ _ _ _ _ r
       | false=>
        intro h;cases h
      | false=>
       intro h;cases h
     | false=>
      intro h;cases h
    | false=>
     intro h;cases h
   | false=>
    intro h;cases h
  | false=>
   intro h;cases h;rfl
noncomputable def sLas:TellS:=fun S=>dCS 2 S fun y1 y2 y3=>dSs 0 y1 fun y5 l4=>zp 0 0 y5<|dSI 4 .i64 l4 fun x0 l6=>dSs 20 l6 fun y8 l7=>dD 22 lT y8 fun x1=>dSI 21 .i64 l7 fun x2 l9=>dSI 22 .i64 l9 fun x3 l10=>dSs 30 l10 fun y12 l11=>dD 3 iT y12 fun x4=>dSI 31 .i64 l11 fun x5 l13=>dSI 32 .i64 l13 fun x6 l14=>dE l14<|dE y2<|dHB 73 y3 fun y16 l15=>dC y16 fun y17 l18=>dD 3 iT y17 fun x7=>dC l18 fun y19 l20=>dD 22 lT y19 fun x8=>dC l20 fun y21 l22=>dD 3 iT y21 fun x9=>dC l22 fun y23 l24=>dG 1 y23<|dC l24 fun y25 l26=>dG 2 y25<|dE l26<|dHR 3 iT l15 fun A l27=>dHR 3 iT l27 fun B l28=>dE l28 <|  some [te (Las FU x0 x1 x2 x3 x4 x5 x6 x7 x8 x9 A B) (xLas x0 x1 x2 x3 x4 x5 x6 x7 x8 x9 A B)]
theorem wLas:zo zP dOk base o60 t60 ((48,16),sLas):=by
 refine ⟨.loop (za zP (tn0 48) 48 16),2,by kernel_rfl,?_⟩
 intro S alts e S' h1 h2
 change sLas S=_ at h1
 unfold sLas at h1
 repeat with_reducible first|replace h1:=zE h1;obtain ⟨_,_,_,rfl,h1⟩:=h1|(first|replace h1:=zJ h1|replace h1:=zF h1|replace h1:=zM h1|replace h1:=dCq h1|replace h1:=zV h1);obtain ⟨_,_,rfl,h1⟩:=h1|(first|replace h1:=zx h1|replace h1:=dEq h1|replace h1:=dGq h1);obtain ⟨rfl,h1⟩:=h1|replace h1:=dDq h1;obtain ⟨_,rfl,h1⟩:=h1
 cases h1
 obtain ⟨hc0,rfl,rfl⟩:=zk h2
 exact ⟨FU+40,(zb rfl).trans (lLas FU 40 FU _ _ _ _ _ _ _ _ _ _ _ _ _ (zc hc0))⟩
noncomputable def o61:OrcT:=o60
noncomputable def t61:TellT:=((48,16),sLas)::t60
abbrev tn61:=ze base o61 t61
theorem ok61:OKT tn61:=zq ok60 ok60 (p:=((48,16),sLas)) wLas
noncomputable def LaJ:Nat→LL→Int→Int→LI→LL→LI→LI→LI→Option LI
 | 0,_,_,_,_,_,_,_,_=>none
 | n+1,x0,x1,x2,x3,x4,x5,x6,x7=>(cond (decide (x2 < x1)) (cond (decide (0≤x2)) (cond (decide (x2 < (x0.length:Int))) (cond (ok (v52 (List.getD x0 x2.toNat []) x3 x4 x5 x6 x7)) (cond (decide (val (v52 (List.getD x0 x2.toNat []) x3 x4 x5 x6 x7)≠0)) (cond (ok (Las FU (IntKind.wrap IntKind.i64 (Int.tdiv (1000000000:Int) (val (v52 (List.getD x0 x2.toNat []) x3 x4 x5 x6 x7)))) x0 x1 x2 (List.getD x0 x2.toNat []) (↑(List.length (List.getD x0 x2.toNat [])):Int) 0 x3 x4 x5 x6 x7)) (LaJ n x0 x1 (IntKind.wrap IntKind.i64 (x2+(1:Int))) x3 x4 x5 x6 (val (Las FU (IntKind.wrap IntKind.i64 (Int.tdiv (1000000000:Int) (val (v52 (List.getD x0 x2.toNat []) x3 x4 x5 x6 x7)))) x0 x1 x2 (List.getD x0 x2.toNat []) (↑(List.length (List.getD x0 x2.toNat [])):Int) 0 x3 x4 x5 x6 x7))) none) none) none) none) none) (some x7))
theorem qLaJ:type_of% @LaJ.eq_2:=@LaJ.eq_2
noncomputable def xLaJ (x0:LL) (x1 x2:Int) (x3:LI) (x4:LL) (x5:LI) (x6:LI) (x7:LI):LI→Ex×CS:=fun r=>((.exit 0),{ sl:=[],lo:=[],h:=[.box 73 [.d 3 iT (x3),.d 22 lT (x4),.d 3 iT (x5),.g 1,.g 2],.row 3 iT (x6),.row 3 iT (r:LI)],n0:=2,w:=false })
abbrev cLaJ (x0:LL) (x1 x2:Int) (x3:LI) (x4:LL) (x5:LI) (x6:LI) (x7:LI):CS:={ sl:=[(0,.v (.sc (.ptr 0 0))),(20,.v (.sc (.d 22 lT x0))),(21,.v (.sc (I4 x1))),(22,.v (.sc (I4 x2)))],lo:=[],h:=[.box 73 [.d 3 iT (x3),.d 22 lT (x4),.d 3 iT (x5),.g 1,.g 2],.row 3 iT (x6),.row 3 iT (x7)],n0:=2,w:=false }
theorem bLaJ (k:Nat) (cN:KN) (cX:KX) (x0:LL) (x1 x2:Int) (x3:LI) (x4:LL) (x5:LI) (x6:LI) (x7:LI):zi zP (tn61 48) (TM.evF zP (tn61) dOk (k+40)) dOk (k+40) (za zP (tn0 48) 48 0) 0 0 (cLaJ x0 x1 x2 x3 x4 x5 x6 x7) cN cX=(cond (decide (x2 < x1)) (cond (decide (0≤x2)) (cond (decide (x2 < (x0.length:Int))) (cond (ok (v52 (List.getD x0 x2.toNat []) x3 x4 x5 x6 x7)) (cond (decide (val (v52 (List.getD x0 x2.toNat []) x3 x4 x5 x6 x7)≠0)) (cond (ok (Las FU (IntKind.wrap IntKind.i64 (Int.tdiv (1000000000:Int) (val (v52 (List.getD x0 x2.toNat []) x3 x4 x5 x6 x7)))) x0 x1 x2 (List.getD x0 x2.toNat []) (↑(List.length (List.getD x0 x2.toNat [])):Int) 0 x3 x4 x5 x6 x7)) (cN (cLaJ x0 x1 (IntKind.wrap IntKind.i64 (x2+(1:Int))) x3 x4 x5 x6 (val (Las FU (IntKind.wrap IntKind.i64 (Int.tdiv (1000000000:Int) (val (v52 (List.getD x0 x2.toNat []) x3 x4 x5 x6 x7)))) x0 x1 x2 (List.getD x0 x2.toNat []) (↑(List.length (List.getD x0 x2.toNat [])):Int) 0 x3 x4 x5 x6 x7):LI))) none) none) none) none) none) (cP cX (xLaJ x0 x1 x2 x3 x4 x5 x6 x7 x7))):=by kernel_rfl
theorem lLaJ (k m:Nat):∀ (n:Nat) (x0:LL) (x1 x2:Int) (x3:LI) (x4:LL) (x5:LI) (x6:LI) (x7:LI) (r:LI),LaJ n x0 x1 x2 x3 x4 x5 x6 x7=some r→zw zP (tn61 48) (TM.evF zP (tn61) dOk (k+40)) dOk (k+40) (za zP (tn0 48) 48 0) 0 0 (n+m) (cLaJ x0 x1 x2 x3 x4 x5 x6 x7)=some (xLaJ x0 x1 x2 x3 x4 x5 x6 x7 r):=by
 intro n
 induction n with
 | zero=>intro _ _ _ _ _ _ _ _ r h;cases h
 | succ n ih=>
  intro x0 x1 x2 x3 x4 x5 x6 x7 r
  rw [show n+1+m=n+m+1 by omega,zf,bLaJ,qLaJ]
  with_reducible repeat' refine zS ?_ ?_
  all_goals first | exact ih _ _ _ _ _ _ _ _ r | (intro h;cases h;done) | (intro h;cases h;rfl)
noncomputable def sLaJ:TellS:=fun S=>dCS 2 S fun y1 y2 y3=>dSs 0 y1 fun y5 l4=>zp 0 0 y5<|dSs 20 l4 fun y7 l6=>dD 22 lT y7 fun x0=>dSI 21 .i64 l6 fun x1 l8=>dSI 22 .i64 l8 fun x2 l9=>dE l9<|dE y2<|dHB 73 y3 fun y11 l10=>dC y11 fun y12 l13=>dD 3 iT y12 fun x3=>dC l13 fun y14 l15=>dD 22 lT y14 fun x4=>dC l15 fun y16 l17=>dD 3 iT y16 fun x5=>dC l17 fun y18 l19=>dG 1 y18<|dC l19 fun y20 l21=>dG 2 y20<|dE l21<|dHR 3 iT l10 fun x6 l22=>dHR 3 iT l22 fun x7 l23=>dE l23 <|  some [te (LaJ FU x0 x1 x2 x3 x4 x5 x6 x7) (xLaJ x0 x1 x2 x3 x4 x5 x6 x7)]
theorem wLaJ:zo zP dOk base o61 t61 ((48,0),sLaJ):=by
 refine ⟨.loop (za zP (tn0 48) 48 0),0,by kernel_rfl,?_⟩
 intro S alts e S' h1 h2
 change sLaJ S=_ at h1
 unfold sLaJ at h1
 repeat with_reducible first|replace h1:=zE h1;obtain ⟨_,_,_,rfl,h1⟩:=h1|(first|replace h1:=zJ h1|replace h1:=zF h1|replace h1:=zM h1|replace h1:=dCq h1|replace h1:=zV h1);obtain ⟨_,_,rfl,h1⟩:=h1|(first|replace h1:=zx h1|replace h1:=dEq h1|replace h1:=dGq h1);obtain ⟨rfl,h1⟩:=h1|replace h1:=dDq h1;obtain ⟨_,rfl,h1⟩:=h1
 cases h1
 obtain ⟨hc0,rfl,rfl⟩:=zk h2
 exact ⟨FU+40,(zb rfl).trans (lLaJ FU 40 FU _ _ _ _ _ _ _ _ _ (zc hc0))⟩
noncomputable def o62:OrcT:=o61
noncomputable def t62:TellT:=((48,0),sLaJ)::t61
abbrev tn62:=ze base o62 t62
theorem ok62:OKT tn62:=zq ok61 ok61 (p:=((48,0),sLaJ)) wLaJ
end
end Go.Proofs.Ytgmebdomopdgmaa
