/- What some functions and loops come to: printed and checked. Written by a program of ours. -/
import Derived.Test.YtgmebdomopdgmaaG0
set_option linter.all false
set_option maxRecDepth 1000000
set_option maxHeartbeats 4000000
namespace Go.Proofs.Ytgmebdomopdgmaa
open Go Go.AM Go.TM Go.Proofs
noncomputable def Lav:Nat→Int→(List (List (List Int)))→Int→Int→(List (List Int))→Int→Int→(List Int)→(List Int)→(List Int)→(List (List (List Int)))→(List (List Int))→Option ((List Int)×(List Int))
 | 0,_,_,_,_,_,_,_,_,_,_,_,_=>none
 | n+1,x0,x1,x2,x3,x4,x5,x6,x7,x8,x9,A,B=>(cond (decide (x6 < x5)) (cond (decide (0≤x6)) (cond (decide (x6 < (x4.length:Int))) (cond (decide (0≤x0)) (cond (decide (x0 < (B.length:Int))) (cond (decide (x6 < (↑(List.length (List.getD B x0.toNat [])):Int))) (cond (ok (vR x0 (List.getD x4 x6.toNat []) (List.getD (List.getD B x0.toNat []) x6.toNat 0) x7 x8)) (Lav n x0 x1 x2 x3 x4 x5 (IntKind.wrap IntKind.i64 (x6+(1:Int))) (val (vR x0 (List.getD x4 x6.toNat []) (List.getD (List.getD B x0.toNat []) x6.toNat 0) x7 x8)).1 (val (vR x0 (List.getD x4 x6.toNat []) (List.getD (List.getD B x0.toNat []) x6.toNat 0) x7 x8)).2 x9 A B) none) none) none) none) none) none) (some (x7,x8)))
theorem qLav:type_of% @Lav.eq_2:=@Lav.eq_2
noncomputable def xLav (x0:Int) (x1:(List (List (List Int)))) (x2 x3:Int) (x4:(List (List Int))) (x5 x6:Int) (x7:(List Int)) (x8:(List Int)) (x9:(List Int)) (A:(List (List (List Int)))) (B:(List (List Int))):((List Int)×(List Int))→Ex×CS:=fun r=>((.exit 2),{ sl:=[(0,.v (.sc (.yl 0))),(2,.v (.sc (.ptr 6 0))),(9,.v (.sc (.d 23 (.list 22 (.list 3 (.int .i64))) x1))),(10,.v (.sc (I4 x2))),(11,.v (.sc (I4 x3)))],lo:=[],h:=[.loop 0 none 37 41 106 [(7,.v (.sc (.ptr 1 0))),(8,.v (.sc (.ptr 3 0)))],.box 22 [.g 2],.row 3 (.int .i64) (r.1:List Int),.box 22 [.g 4],.row 3 (.int .i64) (r.2:List Int),.box 38 [.d 3 (.int .i64) (x9),.d 23 (.list 22 (.list 3 (.int .i64))) (A)],.box 23 [.d 22 (.list 3 (.int .i64)) (B)]],n0:=7,w:=false })
theorem bLav (k:Nat) (cN:CS→Option (Ex×CS)) (cX:Ex→CS→Option (Ex×CS)) (x0:Int) (x1:(List (List (List Int)))) (x2 x3:Int) (x4:(List (List Int))) (x5 x6:Int) (x7:(List Int)) (x8:(List Int)) (x9:(List Int)) (A:(List (List (List Int)))) (B:(List (List Int))):zq Try.prog (tn39 76) (TM.evF Try.prog (tn39) dOk (k+40)) dOk (k+40) (zc Try.prog (tn0 76) 76 16) 2 16 { sl:=[(0,.v (.sc (.yl 0))),(2,.v (.sc (.ptr 6 0))),(4,.v (.sc (I4 x0))),(9,.v (.sc (.d 23 (.list 22 (.list 3 (.int .i64))) x1))),(10,.v (.sc (I4 x2))),(11,.v (.sc (I4 x3))),(16,.v (.sc (.d 22 (.list 3 (.int .i64)) x4))),(17,.v (.sc (I4 x5))),(18,.v (.sc (I4 x6)))],lo:=[],h:=[.loop 0 none 37 41 106 [(7,.v (.sc (.ptr 1 0))),(8,.v (.sc (.ptr 3 0)))],.box 22 [.g 2],.row 3 (.int .i64) (x7),.box 22 [.g 4],.row 3 (.int .i64) (x8),.box 38 [.d 3 (.int .i64) (x9),.d 23 (.list 22 (.list 3 (.int .i64))) (A)],.box 23 [.d 22 (.list 3 (.int .i64)) (B)]],n0:=7,w:=false } cN cX=(cond (decide (x6 < x5)) (cond (decide (0≤x6)) (cond (decide (x6 < (x4.length:Int))) (cond (decide (0≤x0)) (cond (decide (x0 < (B.length:Int))) (cond (decide (0≤x6)) (cond (decide (x6 < (↑(List.length (List.getD B x0.toNat [])):Int))) (cond (ok (vR x0 (List.getD x4 x6.toNat []) (List.getD (List.getD B x0.toNat []) x6.toNat 0) x7 x8)) (cN { sl:=[(0,.v (.sc (.yl 0))),(2,.v (.sc (.ptr 6 0))),(4,.v (.sc (I4 x0))),(9,.v (.sc (.d 23 (.list 22 (.list 3 (.int .i64))) x1))),(10,.v (.sc (I4 x2))),(11,.v (.sc (I4 x3))),(16,.v (.sc (.d 22 (.list 3 (.int .i64)) x4))),(17,.v (.sc (I4 x5))),(18,.v (.sc (I4 (IntKind.wrap IntKind.i64 (x6+(1:Int))))))],lo:=[],h:=[.loop 0 none 37 41 106 [(7,.v (.sc (.ptr 1 0))),(8,.v (.sc (.ptr 3 0)))],.box 22 [.g 2],.row 3 (.int .i64) ((val (vR x0 (List.getD x4 x6.toNat []) (List.getD (List.getD B x0.toNat []) x6.toNat 0) x7 x8)).1:List Int),.box 22 [.g 4],.row 3 (.int .i64) ((val (vR x0 (List.getD x4 x6.toNat []) (List.getD (List.getD B x0.toNat []) x6.toNat 0) x7 x8)).2:List Int),.box 38 [.d 3 (.int .i64) (x9),.d 23 (.list 22 (.list 3 (.int .i64))) (A)],.box 23 [.d 22 (.list 3 (.int .i64)) (B)]],n0:=7,w:=false }) none) none) none) none) none) none) none) (cX (.exit 2) { sl:=[(0,.v (.sc (.yl 0))),(2,.v (.sc (.ptr 6 0))),(9,.v (.sc (.d 23 (.list 22 (.list 3 (.int .i64))) x1))),(10,.v (.sc (I4 x2))),(11,.v (.sc (I4 x3)))],lo:=[],h:=[.loop 0 none 37 41 106 [(7,.v (.sc (.ptr 1 0))),(8,.v (.sc (.ptr 3 0)))],.box 22 [.g 2],.row 3 (.int .i64) (x7),.box 22 [.g 4],.row 3 (.int .i64) (x8),.box 38 [.d 3 (.int .i64) (x9),.d 23 (.list 22 (.list 3 (.int .i64))) (A)],.box 23 [.d 22 (.list 3 (.int .i64)) (B)]],n0:=7,w:=false })):=by kernel_rfl
theorem lLav (k m:Nat):∀ (n:Nat) (x0:Int) (x1:(List (List (List Int)))) (x2 x3:Int) (x4:(List (List Int))) (x5 x6:Int) (x7:(List Int)) (x8:(List Int)) (x9:(List Int)) (A:(List (List (List Int)))) (B:(List (List Int))) (r:((List Int)×(List Int))),Lav n x0 x1 x2 x3 x4 x5 x6 x7 x8 x9 A B=some r→zM Try.prog (tn39 76) (TM.evF Try.prog (tn39) dOk (k+40)) dOk (k+40) (zc Try.prog (tn0 76) 76 16) 2 16 (n+m) { sl:=[(0,.v (.sc (.yl 0))),(2,.v (.sc (.ptr 6 0))),(4,.v (.sc (I4 x0))),(9,.v (.sc (.d 23 (.list 22 (.list 3 (.int .i64))) x1))),(10,.v (.sc (I4 x2))),(11,.v (.sc (I4 x3))),(16,.v (.sc (.d 22 (.list 3 (.int .i64)) x4))),(17,.v (.sc (I4 x5))),(18,.v (.sc (I4 x6)))],lo:=[],h:=[.loop 0 none 37 41 106 [(7,.v (.sc (.ptr 1 0))),(8,.v (.sc (.ptr 3 0)))],.box 22 [.g 2],.row 3 (.int .i64) (x7),.box 22 [.g 4],.row 3 (.int .i64) (x8),.box 38 [.d 3 (.int .i64) (x9),.d 23 (.list 22 (.list 3 (.int .i64))) (A)],.box 23 [.d 22 (.list 3 (.int .i64)) (B)]],n0:=7,w:=false }=some (xLav x0 x1 x2 x3 x4 x5 x6 x7 x8 x9 A B r):=by
 intro n
 induction n with
 | zero=>intro _ _ _ _ _ _ _ _ _ _ _ _ r h;cases h
 | succ n ih=>
  intro x0 x1 x2 x3 x4 x5 x6 x7 x8 x9 A B r
  rw [show n+1+m=n+m+1 by omega,zp,bLav,qLav]
  cases (decide (x6 < x5)) with
  | true=>
   cases (decide (0≤x6)) with
   | true=>
    cases (decide (x6 < (x4.length:Int))) with
    | true=>
     cases (decide (0≤x0)) with
     | true=>
      cases (decide (x0 < (B.length:Int))) with
      | true=>
       cases (decide (x6 < (↑(List.length (List.getD B x0.toNat [])):Int))) with
       | true=>
        cases (ok (vR x0 (List.getD x4 x6.toNat []) (List.getD (List.getD B x0.toNat []) x6.toNat 0) x7 x8)) with
        | true=>
         exact ih _ _ _ _ _ _ _ _ _ _ _ _ r
        | false=>
         intro h;cases h
       | false=>
        intro h;cases h
      | false=>
       intro h;cases h
     | false=>
      intro h;cases h
    | false=>
     intro h;cases h
   | false=>
    intro h;cases h
  | false=>
   intro h;cases h;rfl
noncomputable def sLav:TellS:=fun S=>dCS 7 S fun y1 y2 y3=>dSs 0 y1 fun y5 l4=>dYl 0 y5<|dSs 2 l4 fun y7 l6=>zi 6 0 y7<|dSI 4 .i64 l6 fun x0 l8=>dSs 9 l8 fun y10 l9=>dD 23 (.list 22 (.list 3 (.int .i64))) y10 fun x1=>dSI 10 .i64 l9 fun x2 l11=>dSI 11 .i64 l11 fun x3 l12=>dSs 16 l12 fun y14 l13=>dD 22 (.list 3 (.int .i64)) y14 fun x4=>dSI 17 .i64 l13 fun x5 l15=>dSI 18 .i64 l15 fun x6 l16=>dE l16<|dE y2<|dC y3 fun y18 l17=>wT 0 none 37 41 106 y18 fun y19=>dSs 7 y19 fun y21 l20=>zi 1 0 y21<|dSs 8 l20 fun y23 l22=>zi 3 0 y23<|dE l22<|dHB 22 l17 fun y25 l24=>dC y25 fun y26 l27=>dG 2 y26<|dE l27<|dHR 3 (.int .i64) l24 fun x7 l28=>dHB 22 l28 fun y30 l29=>dC y30 fun y31 l32=>dG 4 y31<|dE l32<|dHR 3 (.int .i64) l29 fun x8 l33=>dHB 38 l33 fun y35 l34=>dC y35 fun y36 l37=>dD 3 (.int .i64) y36 fun x9=>dC l37 fun y38 l39=>dD 23 (.list 22 (.list 3 (.int .i64))) y38 fun A=>dE l39<|dHB 23 l34 fun y41 l40=>dC y41 fun y42 l43=>dD 22 (.list 3 (.int .i64)) y42 fun B=>dE l43<|dE l40 <|  some [(ok (Lav FU x0 x1 x2 x3 x4 x5 x6 x7 x8 x9 A B),(.exit 2),{ sl:=[(0,.v (.sc (.yl 0))),(2,.v (.sc (.ptr 6 0))),(9,.v (.sc (.d 23 (.list 22 (.list 3 (.int .i64))) x1))),(10,.v (.sc (I4 x2))),(11,.v (.sc (I4 x3)))],lo:=[],h:=[.loop 0 none 37 41 106 [(7,.v (.sc (.ptr 1 0))),(8,.v (.sc (.ptr 3 0)))],.box 22 [.g 2],.row 3 (.int .i64) ((val (Lav FU x0 x1 x2 x3 x4 x5 x6 x7 x8 x9 A B)).1:List Int),.box 22 [.g 4],.row 3 (.int .i64) ((val (Lav FU x0 x1 x2 x3 x4 x5 x6 x7 x8 x9 A B)).2:List Int),.box 38 [.d 3 (.int .i64) (x9),.d 23 (.list 22 (.list 3 (.int .i64))) (A)],.box 23 [.d 22 (.list 3 (.int .i64)) (B)]],n0:=7,w:=false })]
theorem wLav:zB Try.prog dOk base o39 t39 ((76,16),sLav):=by
 refine ⟨.loop (zc Try.prog (tn0 76) 76 16),2,by kernel_rfl,?_⟩
 intro S alts e S' h10 h2
 have h1:sLav S=some alts:=h10
 clear h10
 unfold sLav at h1
 repeat with_reducible first|replace h1:=yc h1;obtain ⟨_,_,_,rfl,h1⟩:=h1|(first|replace h1:=zX h1|replace h1:=ye h1|replace h1:=dCq h1|replace h1:=zG h1|replace h1:=zY h1);obtain ⟨_,_,rfl,h1⟩:=h1|(first|replace h1:=WH h1|replace h1:=zr h1|replace h1:=dEq h1|replace h1:=dGq h1);obtain ⟨rfl,h1⟩:=h1|(first|replace h1:=dDq h1|replace h1:=wp h1);obtain ⟨_,rfl,h1⟩:=h1
 cases h1
 obtain ⟨hc0,rfl,rfl⟩:=zt h2
 exact ⟨FU+40,(ze rfl).trans (lLav FU 40 FU _ _ _ _ _ _ _ _ _ _ _ _ _ (zf hc0))⟩
noncomputable def o40:OrcT:=o39
noncomputable def t40:TellT:=((76,16),sLav)::t39
noncomputable abbrev tn40:FuncId→TAn:=zh base o40 t40
theorem ok40:TnOk Try.prog tn40 (mkA base) dOk:=by
 have h0:TnOk Try.prog (tn39) (mkA base) dOk:=ok39
 have h1:=zD h0 h0 (p:=((76,16),sLav)) wLav
 exact h1
noncomputable def Las:Nat→(List (List (List Int)))→Int→Int→(List Int)→(List Int)→(List Int)→(List (List (List Int)))→(List (List Int))→Option ((List Int)×(List Int))
 | 0,_,_,_,_,_,_,_,_=>none
 | n+1,x0,x1,x2,x3,x4,x5,x6,x7=>(cond (decide (x2 < x1)) (cond (decide (0≤x2)) (cond (decide (x2 < (x0.length:Int))) (cond (ok (Lav FU x2 x0 x1 x2 (List.getD x0 x2.toNat []) (↑(List.length (List.getD x0 x2.toNat [])):Int) 0 x3 x4 x5 x6 x7)) (Las n x0 x1 (IntKind.wrap IntKind.i64 (x2+(1:Int))) (val (Lav FU x2 x0 x1 x2 (List.getD x0 x2.toNat []) (↑(List.length (List.getD x0 x2.toNat [])):Int) 0 x3 x4 x5 x6 x7)).1 (val (Lav FU x2 x0 x1 x2 (List.getD x0 x2.toNat []) (↑(List.length (List.getD x0 x2.toNat [])):Int) 0 x3 x4 x5 x6 x7)).2 x5 x6 x7) none) none) none) (some (x3,x4)))
theorem qLas:type_of% @Las.eq_2:=@Las.eq_2
noncomputable def xLas (x0:(List (List (List Int)))) (x1 x2:Int) (x3:(List Int)) (x4:(List Int)) (x5:(List Int)) (x6:(List (List (List Int)))) (x7:(List (List Int))):((List Int)×(List Int))→Ex×CS:=fun r=>((.exit 0),{ sl:=[],lo:=[],h:=[.loop 0 none 37 41 106 [(7,.v (.sc (.ptr 1 0))),(8,.v (.sc (.ptr 3 0)))],.box 22 [.g 2],.row 3 (.int .i64) (r.1:List Int),.box 22 [.g 4],.row 3 (.int .i64) (r.2:List Int),.box 38 [.d 3 (.int .i64) (x5),.d 23 (.list 22 (.list 3 (.int .i64))) (x6)],.box 23 [.d 22 (.list 3 (.int .i64)) (x7)]],n0:=7,w:=false })
theorem bLas (k:Nat) (cN:CS→Option (Ex×CS)) (cX:Ex→CS→Option (Ex×CS)) (x0:(List (List (List Int)))) (x1 x2:Int) (x3:(List Int)) (x4:(List Int)) (x5:(List Int)) (x6:(List (List (List Int)))) (x7:(List (List Int))):zq Try.prog (tn40 76) (TM.evF Try.prog (tn40) dOk (k+40)) dOk (k+40) (zc Try.prog (tn0 76) 76 0) 0 0 { sl:=[(0,.v (.sc (.yl 0))),(2,.v (.sc (.ptr 6 0))),(9,.v (.sc (.d 23 (.list 22 (.list 3 (.int .i64))) x0))),(10,.v (.sc (I4 x1))),(11,.v (.sc (I4 x2)))],lo:=[],h:=[.loop 0 none 37 41 106 [(7,.v (.sc (.ptr 1 0))),(8,.v (.sc (.ptr 3 0)))],.box 22 [.g 2],.row 3 (.int .i64) (x3),.box 22 [.g 4],.row 3 (.int .i64) (x4),.box 38 [.d 3 (.int .i64) (x5),.d 23 (.list 22 (.list 3 (.int .i64))) (x6)],.box 23 [.d 22 (.list 3 (.int .i64)) (x7)]],n0:=7,w:=false } cN cX=(cond (decide (x2 < x1)) (cond (decide (0≤x2)) (cond (decide (x2 < (x0.length:Int))) (cond (ok (Lav FU x2 x0 x1 x2 (List.getD x0 x2.toNat []) (↑(List.length (List.getD x0 x2.toNat [])):Int) 0 x3 x4 x5 x6 x7)) (cN { sl:=[(0,.v (.sc (.yl 0))),(2,.v (.sc (.ptr 6 0))),(9,.v (.sc (.d 23 (.list 22 (.list 3 (.int .i64))) x0))),(10,.v (.sc (I4 x1))),(11,.v (.sc (I4 (IntKind.wrap IntKind.i64 (x2+(1:Int))))))],lo:=[],h:=[.loop 0 none 37 41 106 [(7,.v (.sc (.ptr 1 0))),(8,.v (.sc (.ptr 3 0)))],.box 22 [.g 2],.row 3 (.int .i64) ((val (Lav FU x2 x0 x1 x2 (List.getD x0 x2.toNat []) (↑(List.length (List.getD x0 x2.toNat [])):Int) 0 x3 x4 x5 x6 x7)).1:List Int),.box 22 [.g 4],.row 3 (.int .i64) ((val (Lav FU x2 x0 x1 x2 (List.getD x0 x2.toNat []) (↑(List.length (List.getD x0 x2.toNat [])):Int) 0 x3 x4 x5 x6 x7)).2:List Int),.box 38 [.d 3 (.int .i64) (x5),.d 23 (.list 22 (.list 3 (.int .i64))) (x6)],.box 23 [.d 22 (.list 3 (.int .i64)) (x7)]],n0:=7,w:=false }) none) none) none) (cX (.exit 0) { sl:=[],lo:=[],h:=[.loop 0 none 37 41 106 [(7,.v (.sc (.ptr 1 0))),(8,.v (.sc (.ptr 3 0)))],.box 22 [.g 2],.row 3 (.int .i64) (x3),.box 22 [.g 4],.row 3 (.int .i64) (x4),.box 38 [.d 3 (.int .i64) (x5),.d 23 (.list 22 (.list 3 (.int .i64))) (x6)],.box 23 [.d 22 (.list 3 (.int .i64)) (x7)]],n0:=7,w:=false })):=by kernel_rfl
theorem lLas (k m:Nat):∀ (n:Nat) (x0:(List (List (List Int)))) (x1 x2:Int) (x3:(List Int)) (x4:(List Int)) (x5:(List Int)) (x6:(List (List (List Int)))) (x7:(List (List Int))) (r:((List Int)×(List Int))),Las n x0 x1 x2 x3 x4 x5 x6 x7=some r→zM Try.prog (tn40 76) (TM.evF Try.prog (tn40) dOk (k+40)) dOk (k+40) (zc Try.prog (tn0 76) 76 0) 0 0 (n+m) { sl:=[(0,.v (.sc (.yl 0))),(2,.v (.sc (.ptr 6 0))),(9,.v (.sc (.d 23 (.list 22 (.list 3 (.int .i64))) x0))),(10,.v (.sc (I4 x1))),(11,.v (.sc (I4 x2)))],lo:=[],h:=[.loop 0 none 37 41 106 [(7,.v (.sc (.ptr 1 0))),(8,.v (.sc (.ptr 3 0)))],.box 22 [.g 2],.row 3 (.int .i64) (x3),.box 22 [.g 4],.row 3 (.int .i64) (x4),.box 38 [.d 3 (.int .i64) (x5),.d 23 (.list 22 (.list 3 (.int .i64))) (x6)],.box 23 [.d 22 (.list 3 (.int .i64)) (x7)]],n0:=7,w:=false }=some (xLas x0 x1 x2 x3 x4 x5 x6 x7 r):=by
 intro n
 induction n with
 | zero=>intro _ _ _ _ _ _ _ _ r h;cases h
 | succ n ih=>
  intro x0 x1 x2 x3 x4 x5 x6 x7 r
  rw [show n+1+m=n+m+1 by omega,zp,bLas,qLas]
  refine zb ?_ ?_
  refine zb ?_ ?_
  refine zb ?_ ?_
  refine zb ?_ ?_
  exact ih _ _ _ _ _ _ _ _ r
  intro h;cases h
  intro h;cases h
  intro h;cases h
  intro h;cases h;rfl
noncomputable def sLas:TellS:=fun S=>dCS 7 S fun y1 y2 y3=>dSs 0 y1 fun y5 l4=>dYl 0 y5<|dSs 2 l4 fun y7 l6=>zi 6 0 y7<|dSs 9 l6 fun y9 l8=>dD 23 (.list 22 (.list 3 (.int .i64))) y9 fun x0=>dSI 10 .i64 l8 fun x1 l10=>dSI 11 .i64 l10 fun x2 l11=>dE l11<|dE y2<|dC y3 fun y13 l12=>wT 0 none 37 41 106 y13 fun y14=>dSs 7 y14 fun y16 l15=>zi 1 0 y16<|dSs 8 l15 fun y18 l17=>zi 3 0 y18<|dE l17<|dHB 22 l12 fun y20 l19=>dC y20 fun y21 l22=>dG 2 y21<|dE l22<|dHR 3 (.int .i64) l19 fun x3 l23=>dHB 22 l23 fun y25 l24=>dC y25 fun y26 l27=>dG 4 y26<|dE l27<|dHR 3 (.int .i64) l24 fun x4 l28=>dHB 38 l28 fun y30 l29=>dC y30 fun y31 l32=>dD 3 (.int .i64) y31 fun x5=>dC l32 fun y33 l34=>dD 23 (.list 22 (.list 3 (.int .i64))) y33 fun x6=>dE l34<|dHB 23 l29 fun y36 l35=>dC y36 fun y37 l38=>dD 22 (.list 3 (.int .i64)) y37 fun x7=>dE l38<|dE l35 <|  some [(ok (Las FU x0 x1 x2 x3 x4 x5 x6 x7),(.exit 0),{ sl:=[],lo:=[],h:=[.loop 0 none 37 41 106 [(7,.v (.sc (.ptr 1 0))),(8,.v (.sc (.ptr 3 0)))],.box 22 [.g 2],.row 3 (.int .i64) ((val (Las FU x0 x1 x2 x3 x4 x5 x6 x7)).1:List Int),.box 22 [.g 4],.row 3 (.int .i64) ((val (Las FU x0 x1 x2 x3 x4 x5 x6 x7)).2:List Int),.box 38 [.d 3 (.int .i64) (x5),.d 23 (.list 22 (.list 3 (.int .i64))) (x6)],.box 23 [.d 22 (.list 3 (.int .i64)) (x7)]],n0:=7,w:=false })]
theorem wLas:zB Try.prog dOk base o40 t40 ((76,0),sLas):=by
 refine ⟨.loop (zc Try.prog (tn0 76) 76 0),0,by kernel_rfl,?_⟩
 intro S alts e S' h10 h2
 have h1:sLas S=some alts:=h10
 clear h10
 unfold sLas at h1
 repeat with_reducible first|replace h1:=yc h1;obtain ⟨_,_,_,rfl,h1⟩:=h1|(first|replace h1:=zX h1|replace h1:=ye h1|replace h1:=dCq h1|replace h1:=zG h1|replace h1:=zY h1);obtain ⟨_,_,rfl,h1⟩:=h1|(first|replace h1:=WH h1|replace h1:=zr h1|replace h1:=dEq h1|replace h1:=dGq h1);obtain ⟨rfl,h1⟩:=h1|(first|replace h1:=dDq h1|replace h1:=wp h1);obtain ⟨_,rfl,h1⟩:=h1
 cases h1
 obtain ⟨hc0,rfl,rfl⟩:=zt h2
 exact ⟨FU+40,(ze rfl).trans (lLas FU 40 FU _ _ _ _ _ _ _ _ _ (zf hc0))⟩
noncomputable def o41:OrcT:=o40
noncomputable def t41:TellT:=((76,0),sLas)::t40
noncomputable abbrev tn41:FuncId→TAn:=zh base o41 t41
theorem ok41:TnOk Try.prog tn41 (mkA base) dOk:=by
 have h0:TnOk Try.prog (tn40) (mkA base) dOk:=ok40
 have h1:=zD h0 h0 (p:=((76,0),sLas)) wLas
 exact h1
noncomputable def v76 (x0:(List Int)) (x1:(List Int)) (x2:(List Int)) (x3:(List (List (List Int)))) (x4:(List (List Int))):Option ((List Int)×(List Int)):=(cond (ok (Las FU x3 (x3.length:Int) 0 x0 x1 x2 x3 x4)) (some ((val (Las FU x3 (x3.length:Int) 0 x0 x1 x2 x3 x4)).1,(val (Las FU x3 (x3.length:Int) 0 x0 x1 x2 x3 x4)).2)) none)
theorem ev76 (x0:(List Int)) (x1:(List Int)) (x2:(List Int)) (x3:(List (List (List Int)))) (x4:(List (List Int))):zo Try.prog (tn41 76) (TM.evF Try.prog (tn41) dOk 40) dOk 40 76 [.sc (.yl 0),.sc (.ptr 5 0),.sc (.ptr 6 0)] [.loop 0 none 37 41 106 [(7,.v (.sc (.ptr 1 0))),(8,.v (.sc (.ptr 3 0)))],.box 22 [.g 2],.row 3 (.int .i64) (x0),.box 22 [.g 4],.row 3 (.int .i64) (x1),.box 38 [.d 3 (.int .i64) (x2),.d 23 (.list 22 (.list 3 (.int .i64))) (x3)],.box 23 [.d 22 (.list 3 (.int .i64)) (x4)]]=(v76 x0 x1 x2 x3 x4).bind fun r=>some ([],[.loop 0 none 37 41 106 [(7,.v (.sc (.ptr 1 0))),(8,.v (.sc (.ptr 3 0)))],.box 22 [.g 2],.row 3 (.int .i64) (r.1:List Int),.box 22 [.g 4],.row 3 (.int .i64) (r.2:List Int),.box 38 [.d 3 (.int .i64) (x2),.d 23 (.list 22 (.list 3 (.int .i64))) (x3)],.box 23 [.d 22 (.list 3 (.int .i64)) (x4)]]):=by
 refine Eq.trans (b:=(cond (ok (Las FU x3 (x3.length:Int) 0 x0 x1 x2 x3 x4)) (some ([],[.loop 0 none 37 41 106 [(7,.v (.sc (.ptr 1 0))),(8,.v (.sc (.ptr 3 0)))],.box 22 [.g 2],.row 3 (.int .i64) ((val (Las FU x3 (x3.length:Int) 0 x0 x1 x2 x3 x4)).1:List Int),.box 22 [.g 4],.row 3 (.int .i64) ((val (Las FU x3 (x3.length:Int) 0 x0 x1 x2 x3 x4)).2:List Int),.box 38 [.d 3 (.int .i64) (x2),.d 23 (.list 22 (.list 3 (.int .i64))) (x3)],.box 23 [.d 22 (.list 3 (.int .i64)) (x4)]])) none)) (by kernel_rfl) ?_
 unfold v76
 refine za ?_ ?_
 rfl
 rfl
noncomputable def sv76:OrcS:=fun al H=>dC al fun y1 l2=>dS y1 fun y3=>dYl 0 y3<|dC l2 fun y4 l5=>dS y4 fun y6=>zi 5 0 y6<|dC l5 fun y7 l8=>dS y7 fun y9=>zi 6 0 y9<|dE l8<|dC H fun y11 l10=>wT 0 none 37 41 106 y11 fun y12=>dSs 7 y12 fun y14 l13=>zi 1 0 y14<|dSs 8 l13 fun y16 l15=>zi 3 0 y16<|dE l15<|dHB 22 l10 fun y18 l17=>dC y18 fun y19 l20=>dG 2 y19<|dE l20<|dHR 3 (.int .i64) l17 fun x0 l21=>dHB 22 l21 fun y23 l22=>dC y23 fun y24 l25=>dG 4 y24<|dE l25<|dHR 3 (.int .i64) l22 fun x1 l26=>dHB 38 l26 fun y28 l27=>dC y28 fun y29 l30=>dD 3 (.int .i64) y29 fun x2=>dC l30 fun y31 l32=>dD 23 (.list 22 (.list 3 (.int .i64))) y31 fun x3=>dE l32<|dHB 23 l27 fun y34 l33=>dC y34 fun y35 l36=>dD 22 (.list 3 (.int .i64)) y35 fun x4=>dE l36<|dE l33 <|  some [(ok (v76 x0 x1 x2 x3 x4),[],[.loop 0 none 37 41 106 [(7,.v (.sc (.ptr 1 0))),(8,.v (.sc (.ptr 3 0)))],.box 22 [.g 2],.row 3 (.int .i64) ((val (v76 x0 x1 x2 x3 x4)).1:List Int),.box 22 [.g 4],.row 3 (.int .i64) ((val (v76 x0 x1 x2 x3 x4)).2:List Int),.box 38 [.d 3 (.int .i64) (x2),.d 23 (.list 22 (.list 3 (.int .i64))) (x3)],.box 23 [.d 22 (.list 3 (.int .i64)) (x4)]])]
theorem wv76:zm Try.prog dOk base o41 t41 (76,sv76):=by
 intro al H q hq0 rs H2 h2
 have hq:sv76 al H=some q:=hq0
 clear hq0
 unfold sv76 at hq
 repeat with_reducible first|(first|replace hq:=dCq hq|replace hq:=zX hq|replace hq:=zG hq|replace hq:=zY hq);obtain ⟨_,_,rfl,hq⟩:=hq|(first|replace hq:=dSq hq|replace hq:=wp hq|replace hq:=dDq hq);obtain ⟨_,rfl,hq⟩:=hq|(first|replace hq:=WH hq|replace hq:=zr hq|replace hq:=dEq hq|replace hq:=dGq hq);obtain ⟨rfl,hq⟩:=hq
 cases hq
 obtain ⟨hc0,rfl,rfl⟩:=zg h2
 exact ⟨41,(zu (by kernel_rfl)).trans ((ev76 _ _ _ _ _).trans (zl (zf hc0)))⟩
noncomputable def o42:OrcT:=(76,sv76)::o41
noncomputable def t42:TellT:=t41
noncomputable abbrev tn42:FuncId→TAn:=zh base o42 t42
theorem ok42:TnOk Try.prog tn42 (mkA base) dOk:=by
 have h0:TnOk Try.prog (tn41) (mkA base) dOk:=ok41
 have h1:=zn h0 h0 (p:=(76,sv76)) wv76
 exact h1
noncomputable def Lap:Nat→(List (List Int))→Int→Int→(List Int)→(List (List (List Int)))→(List Int)→Bool→(List Int)→(List Int)→Option (Bool ⊕ Unit)
 | 0,_,_,_,_,_,_,_,_,_=>none
 | n+1,x0,x1,x2,x3,x4,x5,x6,x7,x8=>(cond (decide (x2 < x1)) (cond (decide (0≤x2)) (cond (decide (x2 < (x7.length:Int))) (cond (decide (x2.toNat < List.length x7)) (cond (decide (x2 < (x3.length:Int))) (cond (decide (List.getD x7 x2.toNat 0 > IntKind.wrap IntKind.i64 ((1000000:Int)*List.getD x3 x2.toNat 0))) (some (.inl (false))) (Lap n x0 x1 (IntKind.wrap IntKind.i64 (x2+(1:Int))) x3 x4 x5 x6 x7 x8)) none) none) none) none) (some (.inr ())))
theorem qLap:type_of% @Lap.eq_2:=@Lap.eq_2
noncomputable def xLap (x0:(List (List Int))) (x1 x2:Int) (x3:(List Int)) (x4:(List (List (List Int)))) (x5:(List Int)) (x6:Bool) (x7:(List Int)) (x8:(List Int)):(Bool ⊕ Unit)→Ex×CS:=fun r=>match r with | .inl a0=>(.ret,{ sl:=[(6,.v (.sc (.ptr 0 0)))],lo:=[],h:=[.box 4 [.bool (a0)]],n0:=0,w:=true }) | .inr b0=>((.exit 4),{ sl:=[(1,.v (.sc (.d 22 (.list 3 (.int .i64)) x0))),(3,.l 3 0),(5,.v (.sc (.ptr 3 0))),(6,.v (.sc (.ptr 2 0))),(8,.v (.sc (.ptr 0 0)))],lo:=[(3,[.d 3 (.int .i64) (x3),.d 23 (.list 22 (.list 3 (.int .i64))) (x4)])],h:=[.box 22 [.g 1],.row 3 (.int .i64) (x5),.box 4 [.bool (x6)],.box 22 [.d 3 (.int .i64) (x8)]],n0:=0,w:=false })
theorem bLap (k:Nat) (cN:CS→Option (Ex×CS)) (cX:Ex→CS→Option (Ex×CS)) (x0:(List (List Int))) (x1 x2:Int) (x3:(List Int)) (x4:(List (List (List Int)))) (x5:(List Int)) (x6:Bool) (x7:(List Int)) (x8:(List Int)):zq Try.prog (tn42 37) (TM.evF Try.prog (tn42) dOk (k+40)) dOk (k+40) (zc Try.prog (tn0 37) 37 32) 4 32 { sl:=[(1,.v (.sc (.d 22 (.list 3 (.int .i64)) x0))),(3,.l 3 0),(5,.v (.sc (.ptr 4 0))),(6,.v (.sc (.ptr 2 0))),(8,.v (.sc (.ptr 0 0))),(57,.v (.sc (.g 3))),(58,.v (.sc (I4 x1))),(59,.v (.sc (I4 x2)))],lo:=[(3,[.d 3 (.int .i64) (x3),.d 23 (.list 22 (.list 3 (.int .i64))) (x4)])],h:=[.box 22 [.g 1],.row 3 (.int .i64) (x5),.box 4 [.bool (x6)],.row 3 (.int .i64) (x7),.box 22 [.d 3 (.int .i64) (x8)]],n0:=0,w:=false } cN cX=(cond (decide (x2 < x1)) (cond (decide (0≤x2)) (cond (decide (x2 < (x7.length:Int))) (cond (decide (x2.toNat < List.length x7)) (cond (decide (0≤x2)) (cond (decide (x2 < (x3.length:Int))) (cond (decide (List.getD x7 x2.toNat 0 > IntKind.wrap IntKind.i64 ((1000000:Int)*List.getD x3 x2.toNat 0))) (cX .ret { sl:=[(6,.v (.sc (.ptr 0 0)))],lo:=[],h:=[.box 4 [.bool (false)]],n0:=0,w:=true }) (cN { sl:=[(1,.v (.sc (.d 22 (.list 3 (.int .i64)) x0))),(3,.l 3 0),(5,.v (.sc (.ptr 4 0))),(6,.v (.sc (.ptr 2 0))),(8,.v (.sc (.ptr 0 0))),(57,.v (.sc (.g 3))),(58,.v (.sc (I4 x1))),(59,.v (.sc (I4 (IntKind.wrap IntKind.i64 (x2+(1:Int))))))],lo:=[(3,[.d 3 (.int .i64) (x3),.d 23 (.list 22 (.list 3 (.int .i64))) (x4)])],h:=[.box 22 [.g 1],.row 3 (.int .i64) (x5),.box 4 [.bool (x6)],.row 3 (.int .i64) (x7),.box 22 [.d 3 (.int .i64) (x8)]],n0:=0,w:=false })) none) none) none) none) none) (cX (.exit 4) { sl:=[(1,.v (.sc (.d 22 (.list 3 (.int .i64)) x0))),(3,.l 3 0),(5,.v (.sc (.ptr 3 0))),(6,.v (.sc (.ptr 2 0))),(8,.v (.sc (.ptr 0 0)))],lo:=[(3,[.d 3 (.int .i64) (x3),.d 23 (.list 22 (.list 3 (.int .i64))) (x4)])],h:=[.box 22 [.g 1],.row 3 (.int .i64) (x5),.box 4 [.bool (x6)],.box 22 [.d 3 (.int .i64) (x8)]],n0:=0,w:=false })):=by kernel_rfl
theorem lLap (k m:Nat):∀ (n:Nat) (x0:(List (List Int))) (x1 x2:Int) (x3:(List Int)) (x4:(List (List (List Int)))) (x5:(List Int)) (x6:Bool) (x7:(List Int)) (x8:(List Int)) (r:(Bool ⊕ Unit)),Lap n x0 x1 x2 x3 x4 x5 x6 x7 x8=some r→zM Try.prog (tn42 37) (TM.evF Try.prog (tn42) dOk (k+40)) dOk (k+40) (zc Try.prog (tn0 37) 37 32) 4 32 (n+m) { sl:=[(1,.v (.sc (.d 22 (.list 3 (.int .i64)) x0))),(3,.l 3 0),(5,.v (.sc (.ptr 4 0))),(6,.v (.sc (.ptr 2 0))),(8,.v (.sc (.ptr 0 0))),(57,.v (.sc (.g 3))),(58,.v (.sc (I4 x1))),(59,.v (.sc (I4 x2)))],lo:=[(3,[.d 3 (.int .i64) (x3),.d 23 (.list 22 (.list 3 (.int .i64))) (x4)])],h:=[.box 22 [.g 1],.row 3 (.int .i64) (x5),.box 4 [.bool (x6)],.row 3 (.int .i64) (x7),.box 22 [.d 3 (.int .i64) (x8)]],n0:=0,w:=false }=some (xLap x0 x1 x2 x3 x4 x5 x6 x7 x8 r):=by
 intro n
 induction n with
 | zero=>intro _ _ _ _ _ _ _ _ _ r h;cases h
 | succ n ih=>
  intro x0 x1 x2 x3 x4 x5 x6 x7 x8 r
  rw [show n+1+m=n+m+1 by omega,zp,bLap,qLap]
  cases (decide (x2 < x1)) with
  | true=>
   cases (decide (0≤x2)) with
   | true=>
    cases (decide (x2 < (x7.length:Int))) with
    | true=>
     cases (decide (x2.toNat < List.length x7)) with
     | true=>
      cases (decide (x2 < (x3.length:Int))) with
      | true=>
       cases (decide (List.getD x7 x2.toNat 0 > IntKind.wrap IntKind.i64 ((1000000:Int)*List.getD x3 x2.toNat 0))) with
       | true=>
        intro h;cases h;rfl
       | false=>
        exact ih _ _ _ _ _ _ _ _ _ r
      | false=>
       intro h;cases h
     | false=>
      intro h;cases h
    | false=>
     intro h;cases h
   | false=>
    intro h;cases h
  | false=>
   intro h;cases h;rfl
noncomputable def sLap:TellS:=fun S=>dCS 0 S fun y1 y2 y3=>dSs 1 y1 fun y5 l4=>dD 22 (.list 3 (.int .i64)) y5 fun x0=>dSt 3 l4 fun y7 l6=>dL 3 0 y7<|dSs 5 l6 fun y9 l8=>zi 4 0 y9<|dSs 6 l8 fun y11 l10=>zi 2 0 y11<|dSs 8 l10 fun y13 l12=>zi 0 0 y13<|dSs 57 l12 fun y15 l14=>dG 3 y15<|dSI 58 .i64 l14 fun x1 l16=>dSI 59 .i64 l16 fun x2 l17=>dE l17<|dLo 3 y2 fun y18 l19=>dC y18 fun y20 l21=>dD 3 (.int .i64) y20 fun x3=>dC l21 fun y22 l23=>dD 23 (.list 22 (.list 3 (.int .i64))) y22 fun x4=>dE l23<|dE l19<|dHB 22 y3 fun y25 l24=>dC y25 fun y26 l27=>dG 1 y26<|dE l27<|dHR 3 (.int .i64) l24 fun x5 l28=>dHB 4 l28 fun y30 l29=>dC y30 fun y31 l32=>Zm y31 fun x6=>dE l32<|dHR 3 (.int .i64) l29 fun x7 l33=>dHB 22 l33 fun y35 l34=>dC y35 fun y36 l37=>dD 3 (.int .i64) y36 fun x8=>dE l37<|dE l34 <|  some [(isL (Lap FU x0 x1 x2 x3 x4 x5 x6 x7 x8),.ret,{ sl:=[(6,.v (.sc (.ptr 0 0)))],lo:=[],h:=[.box 4 [.bool ((zN (Lap FU x0 x1 x2 x3 x4 x5 x6 x7 x8)))]],n0:=0,w:=true }),(ok (zL (Lap FU x0 x1 x2 x3 x4 x5 x6 x7 x8)),(.exit 4),{ sl:=[(1,.v (.sc (.d 22 (.list 3 (.int .i64)) x0))),(3,.l 3 0),(5,.v (.sc (.ptr 3 0))),(6,.v (.sc (.ptr 2 0))),(8,.v (.sc (.ptr 0 0)))],lo:=[(3,[.d 3 (.int .i64) (x3),.d 23 (.list 22 (.list 3 (.int .i64))) (x4)])],h:=[.box 22 [.g 1],.row 3 (.int .i64) (x5),.box 4 [.bool (x6)],.box 22 [.d 3 (.int .i64) (x8)]],n0:=0,w:=false })]
theorem wLap:zB Try.prog dOk base o42 t42 ((37,32),sLap):=by
 refine ⟨.loop (zc Try.prog (tn0 37) 37 32),4,by kernel_rfl,?_⟩
 intro S alts e S' h10 h2
 have h1:sLap S=some alts:=h10
 clear h10
 unfold sLap at h1
 repeat with_reducible first|replace h1:=yc h1;obtain ⟨_,_,_,rfl,h1⟩:=h1|(first|replace h1:=zX h1|replace h1:=wB h1|replace h1:=ye h1|replace h1:=wL h1|replace h1:=dCq h1|replace h1:=zG h1|replace h1:=zY h1);obtain ⟨_,_,rfl,h1⟩:=h1|(first|replace h1:=dDq h1|replace h1:=wV h1);obtain ⟨_,rfl,h1⟩:=h1|(first|replace h1:=dLq h1|replace h1:=zr h1|replace h1:=dGq h1|replace h1:=dEq h1);obtain ⟨rfl,h1⟩:=h1
 cases h1
 rcases yx h2 with ⟨hc0,rfl,rfl⟩ | h2
 · exact ⟨FU+40,(ze rfl).trans (lLap FU 40 FU _ _ _ _ _ _ _ _ _ _ (yS hc0))⟩
 obtain ⟨hc1,rfl,rfl⟩:=zt h2
 exact ⟨FU+40,(ze rfl).trans (lLap FU 40 FU _ _ _ _ _ _ _ _ _ _ (yw (zf hc1)))⟩
noncomputable def o43:OrcT:=o42
noncomputable def t43:TellT:=((37,32),sLap)::t42
noncomputable abbrev tn43:FuncId→TAn:=zh base o43 t43
theorem ok43:TnOk Try.prog tn43 (mkA base) dOk:=by
 have h0:TnOk Try.prog (tn42) (mkA base) dOk:=ok42
 have h1:=zD h0 h0 (p:=((37,32),sLap)) wLap
 exact h1
noncomputable def Lal:Nat→Int→Int→(List Int)→Int→Int→(List Int)→Bool→(List Int)→Option Int
 | 0,_,_,_,_,_,_,_,_=>none
 | n+1,x0,x1,x2,x3,x4,x5,x6,x7=>(cond (decide (x4 < x3)) (cond (decide (0≤x4)) (cond (decide (x4 < (x2.length:Int))) (cond (decide (0≤List.getD x2 x4.toNat 0)) (cond (decide (List.getD x2 x4.toNat 0 < (x5.length:Int))) (Lal n x0 (IntKind.wrap IntKind.i64 (x1+List.getD x5 (List.getD x2 x4.toNat 0).toNat 0)) x2 x3 (IntKind.wrap IntKind.i64 (x4+(1:Int))) x5 x6 x7) none) none) none) none) (some x1))
theorem qLal:type_of% @Lal.eq_2:=@Lal.eq_2
noncomputable def xLal (x0 x1:Int) (x2:(List Int)) (x3 x4:Int) (x5:(List Int)) (x6:Bool) (x7:(List Int)):Int→Ex×CS:=fun r=>((.exit 8),{ sl:=[(6,.v (.sc (.ptr 2 0))),(8,.v (.sc (.ptr 3 0))),(15,.v (.sc (I4 x0))),(17,.v (.sc (I4 (r))))],lo:=[],h:=[.loop 1 none 37 161 106 [(5,.v (.sc (.ptr 1 0))),(6,.v (.sc (.ptr 2 0))),(8,.v (.sc (.ptr 3 0)))],.box 22 [.d 3 (.int .i64) (x5)],.box 4 [.bool (x6)],.box 22 [.g 4],.row 3 (.int .i64) (x7)],n0:=5,w:=false })
theorem bLal (k:Nat) (cN:CS→Option (Ex×CS)) (cX:Ex→CS→Option (Ex×CS)) (x0 x1:Int) (x2:(List Int)) (x3 x4:Int) (x5:(List Int)) (x6:Bool) (x7:(List Int)):zq Try.prog (tn43 37) (TM.evF Try.prog (tn43) dOk (k+40)) dOk (k+40) (zc Try.prog (tn0 37) 37 64) 8 64 { sl:=[(5,.v (.sc (.ptr 1 0))),(6,.v (.sc (.ptr 2 0))),(8,.v (.sc (.ptr 3 0))),(15,.v (.sc (I4 x0))),(17,.v (.sc (I4 x1))),(79,.v (.sc (.d 3 (.int .i64) x2))),(80,.v (.sc (I4 x3))),(81,.v (.sc (I4 x4)))],lo:=[],h:=[.loop 1 none 37 161 106 [(5,.v (.sc (.ptr 1 0))),(6,.v (.sc (.ptr 2 0))),(8,.v (.sc (.ptr 3 0)))],.box 22 [.d 3 (.int .i64) (x5)],.box 4 [.bool (x6)],.box 22 [.g 4],.row 3 (.int .i64) (x7)],n0:=5,w:=false } cN cX=(cond (decide (x4 < x3)) (cond (decide (0≤x4)) (cond (decide (x4 < (x2.length:Int))) (cond (decide (0≤List.getD x2 x4.toNat 0)) (cond (decide (List.getD x2 x4.toNat 0 < (x5.length:Int))) (cN { sl:=[(5,.v (.sc (.ptr 1 0))),(6,.v (.sc (.ptr 2 0))),(8,.v (.sc (.ptr 3 0))),(15,.v (.sc (I4 x0))),(17,.v (.sc (I4 (IntKind.wrap IntKind.i64 (x1+List.getD x5 (List.getD x2 x4.toNat 0).toNat 0))))),(79,.v (.sc (.d 3 (.int .i64) x2))),(80,.v (.sc (I4 x3))),(81,.v (.sc (I4 (IntKind.wrap IntKind.i64 (x4+(1:Int))))))],lo:=[],h:=[.loop 1 none 37 161 106 [(5,.v (.sc (.ptr 1 0))),(6,.v (.sc (.ptr 2 0))),(8,.v (.sc (.ptr 3 0)))],.box 22 [.d 3 (.int .i64) (x5)],.box 4 [.bool (x6)],.box 22 [.g 4],.row 3 (.int .i64) (x7)],n0:=5,w:=false }) none) none) none) none) (cX (.exit 8) { sl:=[(6,.v (.sc (.ptr 2 0))),(8,.v (.sc (.ptr 3 0))),(15,.v (.sc (I4 x0))),(17,.v (.sc (I4 x1)))],lo:=[],h:=[.loop 1 none 37 161 106 [(5,.v (.sc (.ptr 1 0))),(6,.v (.sc (.ptr 2 0))),(8,.v (.sc (.ptr 3 0)))],.box 22 [.d 3 (.int .i64) (x5)],.box 4 [.bool (x6)],.box 22 [.g 4],.row 3 (.int .i64) (x7)],n0:=5,w:=false })):=by kernel_rfl
theorem lLal (k m:Nat):∀ (n:Nat) (x0 x1:Int) (x2:(List Int)) (x3 x4:Int) (x5:(List Int)) (x6:Bool) (x7:(List Int)) (r:Int),Lal n x0 x1 x2 x3 x4 x5 x6 x7=some r→zM Try.prog (tn43 37) (TM.evF Try.prog (tn43) dOk (k+40)) dOk (k+40) (zc Try.prog (tn0 37) 37 64) 8 64 (n+m) { sl:=[(5,.v (.sc (.ptr 1 0))),(6,.v (.sc (.ptr 2 0))),(8,.v (.sc (.ptr 3 0))),(15,.v (.sc (I4 x0))),(17,.v (.sc (I4 x1))),(79,.v (.sc (.d 3 (.int .i64) x2))),(80,.v (.sc (I4 x3))),(81,.v (.sc (I4 x4)))],lo:=[],h:=[.loop 1 none 37 161 106 [(5,.v (.sc (.ptr 1 0))),(6,.v (.sc (.ptr 2 0))),(8,.v (.sc (.ptr 3 0)))],.box 22 [.d 3 (.int .i64) (x5)],.box 4 [.bool (x6)],.box 22 [.g 4],.row 3 (.int .i64) (x7)],n0:=5,w:=false }=some (xLal x0 x1 x2 x3 x4 x5 x6 x7 r):=by
 intro n
 induction n with
 | zero=>intro _ _ _ _ _ _ _ _ r h;cases h
 | succ n ih=>
  intro x0 x1 x2 x3 x4 x5 x6 x7 r
  rw [show n+1+m=n+m+1 by omega,zp,bLal,qLal]
  refine zb ?_ ?_
  refine zb ?_ ?_
  refine zb ?_ ?_
  refine zb ?_ ?_
  refine zb ?_ ?_
  exact ih _ _ _ _ _ _ _ _ r
  intro h;cases h
  intro h;cases h
  intro h;cases h
  intro h;cases h
  intro h;cases h;rfl
noncomputable def sLal:TellS:=fun S=>dCS 5 S fun y1 y2 y3=>dSs 5 y1 fun y5 l4=>zi 1 0 y5<|dSs 6 l4 fun y7 l6=>zi 2 0 y7<|dSs 8 l6 fun y9 l8=>zi 3 0 y9<|dSI 15 .i64 l8 fun x0 l10=>dSI 17 .i64 l10 fun x1 l11=>dSs 79 l11 fun y13 l12=>dD 3 (.int .i64) y13 fun x2=>dSI 80 .i64 l12 fun x3 l14=>dSI 81 .i64 l14 fun x4 l15=>dE l15<|dE y2<|dC y3 fun y17 l16=>wT 1 none 37 161 106 y17 fun y18=>dSs 5 y18 fun y20 l19=>zi 1 0 y20<|dSs 6 l19 fun y22 l21=>zi 2 0 y22<|dSs 8 l21 fun y24 l23=>zi 3 0 y24<|dE l23<|dHB 22 l16 fun y26 l25=>dC y26 fun y27 l28=>dD 3 (.int .i64) y27 fun x5=>dE l28<|dHB 4 l25 fun y30 l29=>dC y30 fun y31 l32=>Zm y31 fun x6=>dE l32<|dHB 22 l29 fun y34 l33=>dC y34 fun y35 l36=>dG 4 y35<|dE l36<|dHR 3 (.int .i64) l33 fun x7 l37=>dE l37 <|  some [(ok (Lal FU x0 x1 x2 x3 x4 x5 x6 x7),(.exit 8),{ sl:=[(6,.v (.sc (.ptr 2 0))),(8,.v (.sc (.ptr 3 0))),(15,.v (.sc (I4 x0))),(17,.v (.sc (I4 ((val (Lal FU x0 x1 x2 x3 x4 x5 x6 x7))))))],lo:=[],h:=[.loop 1 none 37 161 106 [(5,.v (.sc (.ptr 1 0))),(6,.v (.sc (.ptr 2 0))),(8,.v (.sc (.ptr 3 0)))],.box 22 [.d 3 (.int .i64) (x5)],.box 4 [.bool (x6)],.box 22 [.g 4],.row 3 (.int .i64) (x7)],n0:=5,w:=false })]
theorem wLal:zB Try.prog dOk base o43 t43 ((37,64),sLal):=by
 refine ⟨.loop (zc Try.prog (tn0 37) 37 64),8,by kernel_rfl,?_⟩
 intro S alts e S' h10 h2
 have h1:sLal S=some alts:=h10
 clear h10
 unfold sLal at h1
 repeat with_reducible first|replace h1:=yc h1;obtain ⟨_,_,_,rfl,h1⟩:=h1|(first|replace h1:=zX h1|replace h1:=ye h1|replace h1:=dCq h1|replace h1:=zG h1|replace h1:=zY h1);obtain ⟨_,_,rfl,h1⟩:=h1|(first|replace h1:=zr h1|replace h1:=dEq h1|replace h1:=dGq h1);obtain ⟨rfl,h1⟩:=h1|(first|replace h1:=dDq h1|replace h1:=wp h1|replace h1:=wV h1);obtain ⟨_,rfl,h1⟩:=h1
 cases h1
 obtain ⟨hc0,rfl,rfl⟩:=zt h2
 exact ⟨FU+40,(ze rfl).trans (lLal FU 40 FU _ _ _ _ _ _ _ _ _ (zf hc0))⟩
noncomputable def o44:OrcT:=o43
noncomputable def t44:TellT:=((37,64),sLal)::t43
noncomputable abbrev tn44:FuncId→TAn:=zh base o44 t44
theorem ok44:TnOk Try.prog tn44 (mkA base) dOk:=by
 have h0:TnOk Try.prog (tn43) (mkA base) dOk:=ok43
 have h1:=zD h0 h0 (p:=((37,64),sLal)) wLal
 exact h1
noncomputable def vR_1 (x0:Int) (x1:(List Int)) (x2:Int) (x3:(List Int)) (x4:Bool) (x5:(List Int)):Option (Unit ⊕ Unit):=(cond (ok (Lal FU x0 0 x1 (x1.length:Int) 0 x3 x4 x5)) (cond (val (Lal FU x0 0 x1 (x1.length:Int) 0 x3 x4 x5)==0) (some (.inl ())) (cond (decide (0≤x0)) (cond (decide (x0 < (x5.length:Int))) (cond (decide (x0.toNat < List.length x5)) (cond (decide (val (Lal FU x0 0 x1 (x1.length:Int) 0 x3 x4 x5)≠0)) (cond (decide (List.getD x5 x0.toNat 0 < IntKind.wrap IntKind.i64 (Int.tdiv (IntKind.wrap IntKind.i64 (IntKind.wrap IntKind.i64 ((1000000000000:Int)+val (Lal FU x0 0 x1 (x1.length:Int) 0 x3 x4 x5)) - (1:Int))) (val (Lal FU x0 0 x1 (x1.length:Int) 0 x3 x4 x5))))) (some (.inl ())) (some (.inr ()))) none) none) none) none)) none)
noncomputable def xvR_1 (x0:Int) (x1:(List Int)) (x2:Int) (x3:(List Int)) (x4:Bool) (x5:(List Int)):(Unit ⊕ Unit)→List TA×TH:=fun r=>match r with | .inl a0=>([.sc (.bool (false))],[.loop 2 (some .ret) 37 161 106 [(5,.v (.sc (.ptr 1 0))),(6,.v (.sc (.ptr 2 0))),(8,.v (.sc (.ptr 3 0)))],.box 22 [.d 3 (.int .i64) (x3)],.box 4 [.bool (false)],.box 22 [.g 4],.row 3 (.int .i64) (x5)]) | .inr b0=>([.sc (.bool (true))],[.loop 0 none 37 161 106 [(5,.v (.sc (.ptr 1 0))),(6,.v (.sc (.ptr 2 0))),(8,.v (.sc (.ptr 3 0)))],.box 22 [.d 3 (.int .i64) (x3)],.box 4 [.bool (x4)],.box 22 [.g 4],.row 3 (.int .i64) (x5)])
theorem evR_1 (x0:Int) (x1:(List Int)) (x2:Int) (x3:(List Int)) (x4:Bool) (x5:(List Int)):evY Try.prog (tn44) (TM.evF Try.prog (tn44) dOk 40) dOk 40 [.sc (.yl 0),.sc (I4 x0),.agg [.d 3 (.int .i64) (x1),I4 (x2)]] [.loop 0 none 37 161 106 [(5,.v (.sc (.ptr 1 0))),(6,.v (.sc (.ptr 2 0))),(8,.v (.sc (.ptr 3 0)))],.box 22 [.d 3 (.int .i64) (x3)],.box 4 [.bool (x4)],.box 22 [.g 4],.row 3 (.int .i64) (x5)]=(vR_1 x0 x1 x2 x3 x4 x5).bind fun r=>some (xvR_1 x0 x1 x2 x3 x4 x5 r):=by
 refine Eq.trans (b:=(cond (ok (Lal FU x0 0 x1 (x1.length:Int) 0 x3 x4 x5)) (cond (val (Lal FU x0 0 x1 (x1.length:Int) 0 x3 x4 x5)==0) (some ([.sc (.bool (false))],[.loop 2 (some .ret) 37 161 106 [(5,.v (.sc (.ptr 1 0))),(6,.v (.sc (.ptr 2 0))),(8,.v (.sc (.ptr 3 0)))],.box 22 [.d 3 (.int .i64) (x3)],.box 4 [.bool (false)],.box 22 [.g 4],.row 3 (.int .i64) (x5)])) (cond (decide (0≤x0)) (cond (decide (x0 < (x5.length:Int))) (cond (decide (x0.toNat < List.length x5)) (cond (decide (val (Lal FU x0 0 x1 (x1.length:Int) 0 x3 x4 x5)≠0)) (cond (decide (List.getD x5 x0.toNat 0 < IntKind.wrap IntKind.i64 (Int.tdiv (IntKind.wrap IntKind.i64 (IntKind.wrap IntKind.i64 ((1000000000000:Int)+val (Lal FU x0 0 x1 (x1.length:Int) 0 x3 x4 x5)) - (1:Int))) (val (Lal FU x0 0 x1 (x1.length:Int) 0 x3 x4 x5))))) (some ([.sc (.bool (false))],[.loop 2 (some .ret) 37 161 106 [(5,.v (.sc (.ptr 1 0))),(6,.v (.sc (.ptr 2 0))),(8,.v (.sc (.ptr 3 0)))],.box 22 [.d 3 (.int .i64) (x3)],.box 4 [.bool (false)],.box 22 [.g 4],.row 3 (.int .i64) (x5)])) (some ([.sc (.bool (true))],[.loop 0 none 37 161 106 [(5,.v (.sc (.ptr 1 0))),(6,.v (.sc (.ptr 2 0))),(8,.v (.sc (.ptr 3 0)))],.box 22 [.d 3 (.int .i64) (x3)],.box 4 [.bool (x4)],.box 22 [.g 4],.row 3 (.int .i64) (x5)]))) none) none) none) none)) none)) (by kernel_rfl) ?_
 unfold vR_1
 refine za ?_ ?_
 refine za ?_ ?_
 rfl
 refine za ?_ ?_
 refine za ?_ ?_
 refine za ?_ ?_
 refine za ?_ ?_
 refine za ?_ ?_
 rfl
 rfl
 rfl
 rfl
 rfl
 rfl
 rfl
noncomputable def svR_1:OrcS:=fun al H=>dC al fun y1 l2=>dS y1 fun y3=>dYl 0 y3<|dC l2 fun y4 l5=>dS y4 fun y6=>xd .i64 y6 fun x0=>dC l5 fun y7 l8=>dA y7 fun y9=>dC y9 fun y10 l11=>dD 3 (.int .i64) y10 fun x1=>dK l11 fun x2 l12=>dE l12<|dE l8<|dC H fun y14 l13=>wT 0 none 37 161 106 y14 fun y15=>dSs 5 y15 fun y17 l16=>zi 1 0 y17<|dSs 6 l16 fun y19 l18=>zi 2 0 y19<|dSs 8 l18 fun y21 l20=>zi 3 0 y21<|dE l20<|dHB 22 l13 fun y23 l22=>dC y23 fun y24 l25=>dD 3 (.int .i64) y24 fun x3=>dE l25<|dHB 4 l22 fun y27 l26=>dC y27 fun y28 l29=>Zm y28 fun x4=>dE l29<|dHB 22 l26 fun y31 l30=>dC y31 fun y32 l33=>dG 4 y32<|dE l33<|dHR 3 (.int .i64) l30 fun x5 l34=>dE l34 <|  some [(isL (vR_1 x0 x1 x2 x3 x4 x5),[.sc (.bool (false))],[.loop 2 (some .ret) 37 161 106 [(5,.v (.sc (.ptr 1 0))),(6,.v (.sc (.ptr 2 0))),(8,.v (.sc (.ptr 3 0)))],.box 22 [.d 3 (.int .i64) (x3)],.box 4 [.bool (false)],.box 22 [.g 4],.row 3 (.int .i64) (x5)]),(ok (zL (vR_1 x0 x1 x2 x3 x4 x5)),[.sc (.bool (true))],[.loop 0 none 37 161 106 [(5,.v (.sc (.ptr 1 0))),(6,.v (.sc (.ptr 2 0))),(8,.v (.sc (.ptr 3 0)))],.box 22 [.d 3 (.int .i64) (x3)],.box 4 [.bool (x4)],.box 22 [.g 4],.row 3 (.int .i64) (x5)])]
theorem wvR_1:zm Try.prog dOk base o44 t44 (4294967295,svR_1):=by
 intro al H q hq0 rs H2 h2
 have hq:svR_1 al H=some q:=hq0
 clear hq0
 unfold svR_1 at hq
 repeat with_reducible first|(first|replace hq:=dCq hq|replace hq:=zJ hq|replace hq:=zX hq|replace hq:=zG hq|replace hq:=zY hq);obtain ⟨_,_,rfl,hq⟩:=hq|(first|replace hq:=dSq hq|replace hq:=xu hq|replace hq:=dAq hq|replace hq:=dDq hq|replace hq:=wp hq|replace hq:=wV hq);obtain ⟨_,rfl,hq⟩:=hq|(first|replace hq:=WH hq|replace hq:=dEq hq|replace hq:=zr hq|replace hq:=dGq hq);obtain ⟨rfl,hq⟩:=hq
 cases hq
 rcases Uq h2 with ⟨hc0,rfl,rfl⟩ | h2
 · exact ⟨41,fnY_eq.trans ((evR_1 _ _ _ _ _ _).trans (zl (yS hc0)))⟩
 obtain ⟨hc1,rfl,rfl⟩:=zg h2
 exact ⟨41,fnY_eq.trans ((evR_1 _ _ _ _ _ _).trans (zl (yw (zf hc1))))⟩
noncomputable def o45:OrcT:=(4294967295,svR_1)::o44
noncomputable def t45:TellT:=t44
noncomputable abbrev tn45:FuncId→TAn:=zh base o45 t45
theorem ok45:TnOk Try.prog tn45 (mkA base) dOk:=by
 have h0:TnOk Try.prog (tn44) (mkA base) dOk:=ok44
 have h1:=zn h0 h0 (p:=(4294967295,svR_1)) wvR_1
 exact h1
noncomputable def Lar:Nat→Int→(List (List (List Int)))→Int→Int→(List (List Int))→Int→Int→(List Int)→Bool→(List Int)→(List Int)→(List (List (List Int)))→(List (List Int))→Option (Bool ⊕ Unit)
 | 0,_,_,_,_,_,_,_,_,_,_,_,_,_=>none
 | n+1,x0,x1,x2,x3,x4,x5,x6,x7,x8,x9,A,B,C=>(cond (decide (x6 < x5)) (cond (decide (0≤x6)) (cond (decide (x6 < (x4.length:Int))) (cond (decide (0≤x0)) (cond (decide (x0 < (C.length:Int))) (cond (decide (x6 < (↑(List.length (List.getD C x0.toNat [])):Int))) (cond (isL (vR_1 x0 (List.getD x4 x6.toNat []) (List.getD (List.getD C x0.toNat []) x6.toNat 0) x7 x8 x9)) (some (.inl (false))) (cond (ok (zL (vR_1 x0 (List.getD x4 x6.toNat []) (List.getD (List.getD C x0.toNat []) x6.toNat 0) x7 x8 x9))) (Lar n x0 x1 x2 x3 x4 x5 (IntKind.wrap IntKind.i64 (x6+(1:Int))) x7 x8 x9 A B C) none)) none) none) none) none) none) (some (.inr ())))
theorem qLar:type_of% @Lar.eq_2:=@Lar.eq_2
noncomputable def xLar (x0:Int) (x1:(List (List (List Int)))) (x2 x3:Int) (x4:(List (List Int))) (x5 x6:Int) (x7:(List Int)) (x8:Bool) (x9:(List Int)) (A:(List Int)) (B:(List (List (List Int)))) (C:(List (List Int))):(Bool ⊕ Unit)→Ex×CS:=fun r=>match r with | .inl a0=>(.ret,{ sl:=[],lo:=[],h:=[.loop 2 (some .ret) 37 161 106 [(5,.v (.sc (.ptr 1 0))),(6,.v (.sc (.ptr 2 0))),(8,.v (.sc (.ptr 3 0)))],.box 22 [.d 3 (.int .i64) (x7)],.box 4 [.bool (a0)],.box 22 [.g 4],.row 3 (.int .i64) (x9),.box 38 [.d 3 (.int .i64) (A),.d 23 (.list 22 (.list 3 (.int .i64))) (B)],.box 23 [.d 22 (.list 3 (.int .i64)) (C)]],n0:=7,w:=true }) | .inr b0=>((.exit 2),{ sl:=[(0,.v (.sc (.yl 0))),(2,.v (.sc (.ptr 6 0))),(9,.v (.sc (.d 23 (.list 22 (.list 3 (.int .i64))) x1))),(10,.v (.sc (I4 x2))),(11,.v (.sc (I4 x3)))],lo:=[],h:=[.loop 0 none 37 161 106 [(5,.v (.sc (.ptr 1 0))),(6,.v (.sc (.ptr 2 0))),(8,.v (.sc (.ptr 3 0)))],.box 22 [.d 3 (.int .i64) (x7)],.box 4 [.bool (x8)],.box 22 [.g 4],.row 3 (.int .i64) (x9),.box 38 [.d 3 (.int .i64) (A),.d 23 (.list 22 (.list 3 (.int .i64))) (B)],.box 23 [.d 22 (.list 3 (.int .i64)) (C)]],n0:=7,w:=false })
theorem bLar (k:Nat) (cN:CS→Option (Ex×CS)) (cX:Ex→CS→Option (Ex×CS)) (x0:Int) (x1:(List (List (List Int)))) (x2 x3:Int) (x4:(List (List Int))) (x5 x6:Int) (x7:(List Int)) (x8:Bool) (x9:(List Int)) (A:(List Int)) (B:(List (List (List Int)))) (C:(List (List Int))):zq Try.prog (tn45 76) (TM.evF Try.prog (tn45) dOk (k+40)) dOk (k+40) (zc Try.prog (tn0 76) 76 16) 2 16 { sl:=[(0,.v (.sc (.yl 0))),(2,.v (.sc (.ptr 6 0))),(4,.v (.sc (I4 x0))),(9,.v (.sc (.d 23 (.list 22 (.list 3 (.int .i64))) x1))),(10,.v (.sc (I4 x2))),(11,.v (.sc (I4 x3))),(16,.v (.sc (.d 22 (.list 3 (.int .i64)) x4))),(17,.v (.sc (I4 x5))),(18,.v (.sc (I4 x6)))],lo:=[],h:=[.loop 0 none 37 161 106 [(5,.v (.sc (.ptr 1 0))),(6,.v (.sc (.ptr 2 0))),(8,.v (.sc (.ptr 3 0)))],.box 22 [.d 3 (.int .i64) (x7)],.box 4 [.bool (x8)],.box 22 [.g 4],.row 3 (.int .i64) (x9),.box 38 [.d 3 (.int .i64) (A),.d 23 (.list 22 (.list 3 (.int .i64))) (B)],.box 23 [.d 22 (.list 3 (.int .i64)) (C)]],n0:=7,w:=false } cN cX=(cond (decide (x6 < x5)) (cond (decide (0≤x6)) (cond (decide (x6 < (x4.length:Int))) (cond (decide (0≤x0)) (cond (decide (x0 < (C.length:Int))) (cond (decide (0≤x6)) (cond (decide (x6 < (↑(List.length (List.getD C x0.toNat [])):Int))) (cond (isL (vR_1 x0 (List.getD x4 x6.toNat []) (List.getD (List.getD C x0.toNat []) x6.toNat 0) x7 x8 x9)) (cX .ret { sl:=[],lo:=[],h:=[.loop 2 (some .ret) 37 161 106 [(5,.v (.sc (.ptr 1 0))),(6,.v (.sc (.ptr 2 0))),(8,.v (.sc (.ptr 3 0)))],.box 22 [.d 3 (.int .i64) (x7)],.box 4 [.bool (false)],.box 22 [.g 4],.row 3 (.int .i64) (x9),.box 38 [.d 3 (.int .i64) (A),.d 23 (.list 22 (.list 3 (.int .i64))) (B)],.box 23 [.d 22 (.list 3 (.int .i64)) (C)]],n0:=7,w:=true }) (cond (ok (zL (vR_1 x0 (List.getD x4 x6.toNat []) (List.getD (List.getD C x0.toNat []) x6.toNat 0) x7 x8 x9))) (cN { sl:=[(0,.v (.sc (.yl 0))),(2,.v (.sc (.ptr 6 0))),(4,.v (.sc (I4 x0))),(9,.v (.sc (.d 23 (.list 22 (.list 3 (.int .i64))) x1))),(10,.v (.sc (I4 x2))),(11,.v (.sc (I4 x3))),(16,.v (.sc (.d 22 (.list 3 (.int .i64)) x4))),(17,.v (.sc (I4 x5))),(18,.v (.sc (I4 (IntKind.wrap IntKind.i64 (x6+(1:Int))))))],lo:=[],h:=[.loop 0 none 37 161 106 [(5,.v (.sc (.ptr 1 0))),(6,.v (.sc (.ptr 2 0))),(8,.v (.sc (.ptr 3 0)))],.box 22 [.d 3 (.int .i64) (x7)],.box 4 [.bool (x8)],.box 22 [.g 4],.row 3 (.int .i64) (x9),.box 38 [.d 3 (.int .i64) (A),.d 23 (.list 22 (.list 3 (.int .i64))) (B)],.box 23 [.d 22 (.list 3 (.int .i64)) (C)]],n0:=7,w:=false }) none)) none) none) none) none) none) none) (cX (.exit 2) { sl:=[(0,.v (.sc (.yl 0))),(2,.v (.sc (.ptr 6 0))),(9,.v (.sc (.d 23 (.list 22 (.list 3 (.int .i64))) x1))),(10,.v (.sc (I4 x2))),(11,.v (.sc (I4 x3)))],lo:=[],h:=[.loop 0 none 37 161 106 [(5,.v (.sc (.ptr 1 0))),(6,.v (.sc (.ptr 2 0))),(8,.v (.sc (.ptr 3 0)))],.box 22 [.d 3 (.int .i64) (x7)],.box 4 [.bool (x8)],.box 22 [.g 4],.row 3 (.int .i64) (x9),.box 38 [.d 3 (.int .i64) (A),.d 23 (.list 22 (.list 3 (.int .i64))) (B)],.box 23 [.d 22 (.list 3 (.int .i64)) (C)]],n0:=7,w:=false })):=by kernel_rfl
theorem lLar (k m:Nat):∀ (n:Nat) (x0:Int) (x1:(List (List (List Int)))) (x2 x3:Int) (x4:(List (List Int))) (x5 x6:Int) (x7:(List Int)) (x8:Bool) (x9:(List Int)) (A:(List Int)) (B:(List (List (List Int)))) (C:(List (List Int))) (r:(Bool ⊕ Unit)),Lar n x0 x1 x2 x3 x4 x5 x6 x7 x8 x9 A B C=some r→zM Try.prog (tn45 76) (TM.evF Try.prog (tn45) dOk (k+40)) dOk (k+40) (zc Try.prog (tn0 76) 76 16) 2 16 (n+m) { sl:=[(0,.v (.sc (.yl 0))),(2,.v (.sc (.ptr 6 0))),(4,.v (.sc (I4 x0))),(9,.v (.sc (.d 23 (.list 22 (.list 3 (.int .i64))) x1))),(10,.v (.sc (I4 x2))),(11,.v (.sc (I4 x3))),(16,.v (.sc (.d 22 (.list 3 (.int .i64)) x4))),(17,.v (.sc (I4 x5))),(18,.v (.sc (I4 x6)))],lo:=[],h:=[.loop 0 none 37 161 106 [(5,.v (.sc (.ptr 1 0))),(6,.v (.sc (.ptr 2 0))),(8,.v (.sc (.ptr 3 0)))],.box 22 [.d 3 (.int .i64) (x7)],.box 4 [.bool (x8)],.box 22 [.g 4],.row 3 (.int .i64) (x9),.box 38 [.d 3 (.int .i64) (A),.d 23 (.list 22 (.list 3 (.int .i64))) (B)],.box 23 [.d 22 (.list 3 (.int .i64)) (C)]],n0:=7,w:=false }=some (xLar x0 x1 x2 x3 x4 x5 x6 x7 x8 x9 A B C r):=by
 intro n
 induction n with
 | zero=>intro _ _ _ _ _ _ _ _ _ _ _ _ _ r h;cases h
 | succ n ih=>
  intro x0 x1 x2 x3 x4 x5 x6 x7 x8 x9 A B C r
  rw [show n+1+m=n+m+1 by omega,zp,bLar,qLar]
  cases (decide (x6 < x5)) with
  | true=>
   cases (decide (0≤x6)) with
   | true=>
    cases (decide (x6 < (x4.length:Int))) with
    | true=>
     cases (decide (0≤x0)) with
     | true=>
      cases (decide (x0 < (C.length:Int))) with
      | true=>
       cases (decide (x6 < (↑(List.length (List.getD C x0.toNat [])):Int))) with
       | true=>
        cases (isL (vR_1 x0 (List.getD x4 x6.toNat []) (List.getD (List.getD C x0.toNat []) x6.toNat 0) x7 x8 x9)) with
        | true=>
         intro h;cases h;rfl
        | false=>
         cases (ok (zL (vR_1 x0 (List.getD x4 x6.toNat []) (List.getD (List.getD C x0.toNat []) x6.toNat 0) x7 x8 x9))) with
         | true=>
          exact ih _ _ _ _ _ _ _ _ _ _ _ _ _ r
         | false=>
          intro h;cases h
       | false=>
        intro h;cases h
      | false=>
       intro h;cases h
     | false=>
      intro h;cases h
    | false=>
     intro h;cases h
   | false=>
    intro h;cases h
  | false=>
   intro h;cases h;rfl
noncomputable def sLar:TellS:=fun S=>dCS 7 S fun y1 y2 y3=>dSs 0 y1 fun y5 l4=>dYl 0 y5<|dSs 2 l4 fun y7 l6=>zi 6 0 y7<|dSI 4 .i64 l6 fun x0 l8=>dSs 9 l8 fun y10 l9=>dD 23 (.list 22 (.list 3 (.int .i64))) y10 fun x1=>dSI 10 .i64 l9 fun x2 l11=>dSI 11 .i64 l11 fun x3 l12=>dSs 16 l12 fun y14 l13=>dD 22 (.list 3 (.int .i64)) y14 fun x4=>dSI 17 .i64 l13 fun x5 l15=>dSI 18 .i64 l15 fun x6 l16=>dE l16<|dE y2<|dC y3 fun y18 l17=>wT 0 none 37 161 106 y18 fun y19=>dSs 5 y19 fun y21 l20=>zi 1 0 y21<|dSs 6 l20 fun y23 l22=>zi 2 0 y23<|dSs 8 l22 fun y25 l24=>zi 3 0 y25<|dE l24<|dHB 22 l17 fun y27 l26=>dC y27 fun y28 l29=>dD 3 (.int .i64) y28 fun x7=>dE l29<|dHB 4 l26 fun y31 l30=>dC y31 fun y32 l33=>Zm y32 fun x8=>dE l33<|dHB 22 l30 fun y35 l34=>dC y35 fun y36 l37=>dG 4 y36<|dE l37<|dHR 3 (.int .i64) l34 fun x9 l38=>dHB 38 l38 fun y40 l39=>dC y40 fun y41 l42=>dD 3 (.int .i64) y41 fun A=>dC l42 fun y43 l44=>dD 23 (.list 22 (.list 3 (.int .i64))) y43 fun B=>dE l44<|dHB 23 l39 fun y46 l45=>dC y46 fun y47 l48=>dD 22 (.list 3 (.int .i64)) y47 fun C=>dE l48<|dE l45 <|  some [(isL (Lar FU x0 x1 x2 x3 x4 x5 x6 x7 x8 x9 A B C),.ret,{ sl:=[],lo:=[],h:=[.loop 2 (some .ret) 37 161 106 [(5,.v (.sc (.ptr 1 0))),(6,.v (.sc (.ptr 2 0))),(8,.v (.sc (.ptr 3 0)))],.box 22 [.d 3 (.int .i64) (x7)],.box 4 [.bool ((zN (Lar FU x0 x1 x2 x3 x4 x5 x6 x7 x8 x9 A B C)))],.box 22 [.g 4],.row 3 (.int .i64) (x9),.box 38 [.d 3 (.int .i64) (A),.d 23 (.list 22 (.list 3 (.int .i64))) (B)],.box 23 [.d 22 (.list 3 (.int .i64)) (C)]],n0:=7,w:=true }),(ok (zL (Lar FU x0 x1 x2 x3 x4 x5 x6 x7 x8 x9 A B C)),(.exit 2),{ sl:=[(0,.v (.sc (.yl 0))),(2,.v (.sc (.ptr 6 0))),(9,.v (.sc (.d 23 (.list 22 (.list 3 (.int .i64))) x1))),(10,.v (.sc (I4 x2))),(11,.v (.sc (I4 x3)))],lo:=[],h:=[.loop 0 none 37 161 106 [(5,.v (.sc (.ptr 1 0))),(6,.v (.sc (.ptr 2 0))),(8,.v (.sc (.ptr 3 0)))],.box 22 [.d 3 (.int .i64) (x7)],.box 4 [.bool (x8)],.box 22 [.g 4],.row 3 (.int .i64) (x9),.box 38 [.d 3 (.int .i64) (A),.d 23 (.list 22 (.list 3 (.int .i64))) (B)],.box 23 [.d 22 (.list 3 (.int .i64)) (C)]],n0:=7,w:=false })]
theorem wLar:zB Try.prog dOk base o45 t45 ((76,16),sLar):=by
 refine ⟨.loop (zc Try.prog (tn0 76) 76 16),2,by kernel_rfl,?_⟩
 intro S alts e S' h10 h2
 have h1:sLar S=some alts:=h10
 clear h10
 unfold sLar at h1
 repeat with_reducible first|replace h1:=yc h1;obtain ⟨_,_,_,rfl,h1⟩:=h1|(first|replace h1:=zX h1|replace h1:=ye h1|replace h1:=dCq h1|replace h1:=zG h1|replace h1:=zY h1);obtain ⟨_,_,rfl,h1⟩:=h1|(first|replace h1:=WH h1|replace h1:=zr h1|replace h1:=dEq h1|replace h1:=dGq h1);obtain ⟨rfl,h1⟩:=h1|(first|replace h1:=dDq h1|replace h1:=wp h1|replace h1:=wV h1);obtain ⟨_,rfl,h1⟩:=h1
 cases h1
 rcases yx h2 with ⟨hc0,rfl,rfl⟩ | h2
 · exact ⟨FU+40,(ze rfl).trans (lLar FU 40 FU _ _ _ _ _ _ _ _ _ _ _ _ _ _ (yS hc0))⟩
 obtain ⟨hc1,rfl,rfl⟩:=zt h2
 exact ⟨FU+40,(ze rfl).trans (lLar FU 40 FU _ _ _ _ _ _ _ _ _ _ _ _ _ _ (yw (zf hc1)))⟩
noncomputable def o46:OrcT:=o45
noncomputable def t46:TellT:=((76,16),sLar)::t45
noncomputable abbrev tn46:FuncId→TAn:=zh base o46 t46
theorem ok46:TnOk Try.prog tn46 (mkA base) dOk:=by
 have h0:TnOk Try.prog (tn45) (mkA base) dOk:=ok45
 have h1:=zD h0 h0 (p:=((76,16),sLar)) wLar
 exact h1
noncomputable def Lat:Nat→(List (List (List Int)))→Int→Int→(List Int)→Bool→(List Int)→(List Int)→(List (List (List Int)))→(List (List Int))→Option (Bool ⊕ Unit)
 | 0,_,_,_,_,_,_,_,_,_=>none
 | n+1,x0,x1,x2,x3,x4,x5,x6,x7,x8=>(cond (decide (x2 < x1)) (cond (decide (0≤x2)) (cond (decide (x2 < (x0.length:Int))) (cond (isL (Lar FU x2 x0 x1 x2 (List.getD x0 x2.toNat []) (↑(List.length (List.getD x0 x2.toNat [])):Int) 0 x3 x4 x5 x6 x7 x8)) (some (.inl (zN (Lar FU x2 x0 x1 x2 (List.getD x0 x2.toNat []) (↑(List.length (List.getD x0 x2.toNat [])):Int) 0 x3 x4 x5 x6 x7 x8)))) (cond (ok (zL (Lar FU x2 x0 x1 x2 (List.getD x0 x2.toNat []) (↑(List.length (List.getD x0 x2.toNat [])):Int) 0 x3 x4 x5 x6 x7 x8))) (Lat n x0 x1 (IntKind.wrap IntKind.i64 (x2+(1:Int))) x3 x4 x5 x6 x7 x8) none)) none) none) (some (.inr ())))
theorem qLat:type_of% @Lat.eq_2:=@Lat.eq_2
noncomputable def xLat (x0:(List (List (List Int)))) (x1 x2:Int) (x3:(List Int)) (x4:Bool) (x5:(List Int)) (x6:(List Int)) (x7:(List (List (List Int)))) (x8:(List (List Int))):(Bool ⊕ Unit)→Ex×CS:=fun r=>match r with | .inl a0=>(.ret,{ sl:=[],lo:=[],h:=[.loop 2 (some .ret) 37 161 106 [(5,.v (.sc (.ptr 1 0))),(6,.v (.sc (.ptr 2 0))),(8,.v (.sc (.ptr 3 0)))],.box 22 [.d 3 (.int .i64) (x3)],.box 4 [.bool (a0)],.box 22 [.g 4],.row 3 (.int .i64) (x5),.box 38 [.d 3 (.int .i64) (x6),.d 23 (.list 22 (.list 3 (.int .i64))) (x7)],.box 23 [.d 22 (.list 3 (.int .i64)) (x8)]],n0:=7,w:=true }) | .inr b0=>((.exit 0),{ sl:=[],lo:=[],h:=[.loop 0 none 37 161 106 [(5,.v (.sc (.ptr 1 0))),(6,.v (.sc (.ptr 2 0))),(8,.v (.sc (.ptr 3 0)))],.box 22 [.d 3 (.int .i64) (x3)],.box 4 [.bool (x4)],.box 22 [.g 4],.row 3 (.int .i64) (x5),.box 38 [.d 3 (.int .i64) (x6),.d 23 (.list 22 (.list 3 (.int .i64))) (x7)],.box 23 [.d 22 (.list 3 (.int .i64)) (x8)]],n0:=7,w:=false })
theorem bLat (k:Nat) (cN:CS→Option (Ex×CS)) (cX:Ex→CS→Option (Ex×CS)) (x0:(List (List (List Int)))) (x1 x2:Int) (x3:(List Int)) (x4:Bool) (x5:(List Int)) (x6:(List Int)) (x7:(List (List (List Int)))) (x8:(List (List Int))):zq Try.prog (tn46 76) (TM.evF Try.prog (tn46) dOk (k+40)) dOk (k+40) (zc Try.prog (tn0 76) 76 0) 0 0 { sl:=[(0,.v (.sc (.yl 0))),(2,.v (.sc (.ptr 6 0))),(9,.v (.sc (.d 23 (.list 22 (.list 3 (.int .i64))) x0))),(10,.v (.sc (I4 x1))),(11,.v (.sc (I4 x2)))],lo:=[],h:=[.loop 0 none 37 161 106 [(5,.v (.sc (.ptr 1 0))),(6,.v (.sc (.ptr 2 0))),(8,.v (.sc (.ptr 3 0)))],.box 22 [.d 3 (.int .i64) (x3)],.box 4 [.bool (x4)],.box 22 [.g 4],.row 3 (.int .i64) (x5),.box 38 [.d 3 (.int .i64) (x6),.d 23 (.list 22 (.list 3 (.int .i64))) (x7)],.box 23 [.d 22 (.list 3 (.int .i64)) (x8)]],n0:=7,w:=false } cN cX=(cond (decide (x2 < x1)) (cond (decide (0≤x2)) (cond (decide (x2 < (x0.length:Int))) (cond (isL (Lar FU x2 x0 x1 x2 (List.getD x0 x2.toNat []) (↑(List.length (List.getD x0 x2.toNat [])):Int) 0 x3 x4 x5 x6 x7 x8)) (cX .ret { sl:=[],lo:=[],h:=[.loop 2 (some .ret) 37 161 106 [(5,.v (.sc (.ptr 1 0))),(6,.v (.sc (.ptr 2 0))),(8,.v (.sc (.ptr 3 0)))],.box 22 [.d 3 (.int .i64) (x3)],.box 4 [.bool (zN (Lar FU x2 x0 x1 x2 (List.getD x0 x2.toNat []) (↑(List.length (List.getD x0 x2.toNat [])):Int) 0 x3 x4 x5 x6 x7 x8))],.box 22 [.g 4],.row 3 (.int .i64) (x5),.box 38 [.d 3 (.int .i64) (x6),.d 23 (.list 22 (.list 3 (.int .i64))) (x7)],.box 23 [.d 22 (.list 3 (.int .i64)) (x8)]],n0:=7,w:=true }) (cond (ok (zL (Lar FU x2 x0 x1 x2 (List.getD x0 x2.toNat []) (↑(List.length (List.getD x0 x2.toNat [])):Int) 0 x3 x4 x5 x6 x7 x8))) (cN { sl:=[(0,.v (.sc (.yl 0))),(2,.v (.sc (.ptr 6 0))),(9,.v (.sc (.d 23 (.list 22 (.list 3 (.int .i64))) x0))),(10,.v (.sc (I4 x1))),(11,.v (.sc (I4 (IntKind.wrap IntKind.i64 (x2+(1:Int))))))],lo:=[],h:=[.loop 0 none 37 161 106 [(5,.v (.sc (.ptr 1 0))),(6,.v (.sc (.ptr 2 0))),(8,.v (.sc (.ptr 3 0)))],.box 22 [.d 3 (.int .i64) (x3)],.box 4 [.bool (x4)],.box 22 [.g 4],.row 3 (.int .i64) (x5),.box 38 [.d 3 (.int .i64) (x6),.d 23 (.list 22 (.list 3 (.int .i64))) (x7)],.box 23 [.d 22 (.list 3 (.int .i64)) (x8)]],n0:=7,w:=false }) none)) none) none) (cX (.exit 0) { sl:=[],lo:=[],h:=[.loop 0 none 37 161 106 [(5,.v (.sc (.ptr 1 0))),(6,.v (.sc (.ptr 2 0))),(8,.v (.sc (.ptr 3 0)))],.box 22 [.d 3 (.int .i64) (x3)],.box 4 [.bool (x4)],.box 22 [.g 4],.row 3 (.int .i64) (x5),.box 38 [.d 3 (.int .i64) (x6),.d 23 (.list 22 (.list 3 (.int .i64))) (x7)],.box 23 [.d 22 (.list 3 (.int .i64)) (x8)]],n0:=7,w:=false })):=by kernel_rfl
theorem lLat (k m:Nat):∀ (n:Nat) (x0:(List (List (List Int)))) (x1 x2:Int) (x3:(List Int)) (x4:Bool) (x5:(List Int)) (x6:(List Int)) (x7:(List (List (List Int)))) (x8:(List (List Int))) (r:(Bool ⊕ Unit)),Lat n x0 x1 x2 x3 x4 x5 x6 x7 x8=some r→zM Try.prog (tn46 76) (TM.evF Try.prog (tn46) dOk (k+40)) dOk (k+40) (zc Try.prog (tn0 76) 76 0) 0 0 (n+m) { sl:=[(0,.v (.sc (.yl 0))),(2,.v (.sc (.ptr 6 0))),(9,.v (.sc (.d 23 (.list 22 (.list 3 (.int .i64))) x0))),(10,.v (.sc (I4 x1))),(11,.v (.sc (I4 x2)))],lo:=[],h:=[.loop 0 none 37 161 106 [(5,.v (.sc (.ptr 1 0))),(6,.v (.sc (.ptr 2 0))),(8,.v (.sc (.ptr 3 0)))],.box 22 [.d 3 (.int .i64) (x3)],.box 4 [.bool (x4)],.box 22 [.g 4],.row 3 (.int .i64) (x5),.box 38 [.d 3 (.int .i64) (x6),.d 23 (.list 22 (.list 3 (.int .i64))) (x7)],.box 23 [.d 22 (.list 3 (.int .i64)) (x8)]],n0:=7,w:=false }=some (xLat x0 x1 x2 x3 x4 x5 x6 x7 x8 r):=by
 intro n
 induction n with
 | zero=>intro _ _ _ _ _ _ _ _ _ r h;cases h
 | succ n ih=>
  intro x0 x1 x2 x3 x4 x5 x6 x7 x8 r
  rw [show n+1+m=n+m+1 by omega,zp,bLat,qLat]
  refine zb ?_ ?_
  refine zb ?_ ?_
  refine zb ?_ ?_
  refine zb ?_ ?_
  intro h;cases h;rfl
  refine zb ?_ ?_
  exact ih _ _ _ _ _ _ _ _ _ r
  intro h;cases h
  intro h;cases h
  intro h;cases h
  intro h;cases h;rfl
noncomputable def sLat:TellS:=fun S=>dCS 7 S fun y1 y2 y3=>dSs 0 y1 fun y5 l4=>dYl 0 y5<|dSs 2 l4 fun y7 l6=>zi 6 0 y7<|dSs 9 l6 fun y9 l8=>dD 23 (.list 22 (.list 3 (.int .i64))) y9 fun x0=>dSI 10 .i64 l8 fun x1 l10=>dSI 11 .i64 l10 fun x2 l11=>dE l11<|dE y2<|dC y3 fun y13 l12=>wT 0 none 37 161 106 y13 fun y14=>dSs 5 y14 fun y16 l15=>zi 1 0 y16<|dSs 6 l15 fun y18 l17=>zi 2 0 y18<|dSs 8 l17 fun y20 l19=>zi 3 0 y20<|dE l19<|dHB 22 l12 fun y22 l21=>dC y22 fun y23 l24=>dD 3 (.int .i64) y23 fun x3=>dE l24<|dHB 4 l21 fun y26 l25=>dC y26 fun y27 l28=>Zm y27 fun x4=>dE l28<|dHB 22 l25 fun y30 l29=>dC y30 fun y31 l32=>dG 4 y31<|dE l32<|dHR 3 (.int .i64) l29 fun x5 l33=>dHB 38 l33 fun y35 l34=>dC y35 fun y36 l37=>dD 3 (.int .i64) y36 fun x6=>dC l37 fun y38 l39=>dD 23 (.list 22 (.list 3 (.int .i64))) y38 fun x7=>dE l39<|dHB 23 l34 fun y41 l40=>dC y41 fun y42 l43=>dD 22 (.list 3 (.int .i64)) y42 fun x8=>dE l43<|dE l40 <|  some [(isL (Lat FU x0 x1 x2 x3 x4 x5 x6 x7 x8),.ret,{ sl:=[],lo:=[],h:=[.loop 2 (some .ret) 37 161 106 [(5,.v (.sc (.ptr 1 0))),(6,.v (.sc (.ptr 2 0))),(8,.v (.sc (.ptr 3 0)))],.box 22 [.d 3 (.int .i64) (x3)],.box 4 [.bool ((zN (Lat FU x0 x1 x2 x3 x4 x5 x6 x7 x8)))],.box 22 [.g 4],.row 3 (.int .i64) (x5),.box 38 [.d 3 (.int .i64) (x6),.d 23 (.list 22 (.list 3 (.int .i64))) (x7)],.box 23 [.d 22 (.list 3 (.int .i64)) (x8)]],n0:=7,w:=true }),(ok (zL (Lat FU x0 x1 x2 x3 x4 x5 x6 x7 x8)),(.exit 0),{ sl:=[],lo:=[],h:=[.loop 0 none 37 161 106 [(5,.v (.sc (.ptr 1 0))),(6,.v (.sc (.ptr 2 0))),(8,.v (.sc (.ptr 3 0)))],.box 22 [.d 3 (.int .i64) (x3)],.box 4 [.bool (x4)],.box 22 [.g 4],.row 3 (.int .i64) (x5),.box 38 [.d 3 (.int .i64) (x6),.d 23 (.list 22 (.list 3 (.int .i64))) (x7)],.box 23 [.d 22 (.list 3 (.int .i64)) (x8)]],n0:=7,w:=false })]
theorem wLat:zB Try.prog dOk base o46 t46 ((76,0),sLat):=by
 refine ⟨.loop (zc Try.prog (tn0 76) 76 0),0,by kernel_rfl,?_⟩
 intro S alts e S' h10 h2
 have h1:sLat S=some alts:=h10
 clear h10
 unfold sLat at h1
 repeat with_reducible first|replace h1:=yc h1;obtain ⟨_,_,_,rfl,h1⟩:=h1|(first|replace h1:=zX h1|replace h1:=ye h1|replace h1:=dCq h1|replace h1:=zG h1|replace h1:=zY h1);obtain ⟨_,_,rfl,h1⟩:=h1|(first|replace h1:=WH h1|replace h1:=zr h1|replace h1:=dEq h1|replace h1:=dGq h1);obtain ⟨rfl,h1⟩:=h1|(first|replace h1:=dDq h1|replace h1:=wp h1|replace h1:=wV h1);obtain ⟨_,rfl,h1⟩:=h1
 cases h1
 rcases yx h2 with ⟨hc0,rfl,rfl⟩ | h2
 · exact ⟨FU+40,(ze rfl).trans (lLat FU 40 FU _ _ _ _ _ _ _ _ _ _ (yS hc0))⟩
 obtain ⟨hc1,rfl,rfl⟩:=zt h2
 exact ⟨FU+40,(ze rfl).trans (lLat FU 40 FU _ _ _ _ _ _ _ _ _ _ (yw (zf hc1)))⟩
noncomputable def o47:OrcT:=o46
noncomputable def t47:TellT:=((76,0),sLat)::t46
noncomputable abbrev tn47:FuncId→TAn:=zh base o47 t47
theorem ok47:TnOk Try.prog tn47 (mkA base) dOk:=by
 have h0:TnOk Try.prog (tn46) (mkA base) dOk:=ok46
 have h1:=zD h0 h0 (p:=((76,0),sLat)) wLat
 exact h1
noncomputable def v76_1 (x0:(List Int)) (x1:Bool) (x2:(List Int)) (x3:(List Int)) (x4:(List (List (List Int)))) (x5:(List (List Int))):Option (Bool ⊕ Unit):=(cond (isL (Lat FU x4 (x4.length:Int) 0 x0 x1 x2 x3 x4 x5)) (some (.inl (zN (Lat FU x4 (x4.length:Int) 0 x0 x1 x2 x3 x4 x5)))) (cond (ok (zL (Lat FU x4 (x4.length:Int) 0 x0 x1 x2 x3 x4 x5))) (some (.inr ())) none))
noncomputable def xv76_1 (x0:(List Int)) (x1:Bool) (x2:(List Int)) (x3:(List Int)) (x4:(List (List (List Int)))) (x5:(List (List Int))):(Bool ⊕ Unit)→List TA×TH:=fun r=>match r with | .inl a0=>([],[.loop 2 (some .ret) 37 161 106 [(5,.v (.sc (.ptr 1 0))),(6,.v (.sc (.ptr 2 0))),(8,.v (.sc (.ptr 3 0)))],.box 22 [.d 3 (.int .i64) (x0)],.box 4 [.bool (a0)],.box 22 [.g 4],.row 3 (.int .i64) (x2),.box 38 [.d 3 (.int .i64) (x3),.d 23 (.list 22 (.list 3 (.int .i64))) (x4)],.box 23 [.d 22 (.list 3 (.int .i64)) (x5)]]) | .inr b0=>([],[.loop 0 none 37 161 106 [(5,.v (.sc (.ptr 1 0))),(6,.v (.sc (.ptr 2 0))),(8,.v (.sc (.ptr 3 0)))],.box 22 [.d 3 (.int .i64) (x0)],.box 4 [.bool (x1)],.box 22 [.g 4],.row 3 (.int .i64) (x2),.box 38 [.d 3 (.int .i64) (x3),.d 23 (.list 22 (.list 3 (.int .i64))) (x4)],.box 23 [.d 22 (.list 3 (.int .i64)) (x5)]])
theorem ev76_1 (x0:(List Int)) (x1:Bool) (x2:(List Int)) (x3:(List Int)) (x4:(List (List (List Int)))) (x5:(List (List Int))):zo Try.prog (tn47 76) (TM.evF Try.prog (tn47) dOk 40) dOk 40 76 [.sc (.yl 0),.sc (.ptr 5 0),.sc (.ptr 6 0)] [.loop 0 none 37 161 106 [(5,.v (.sc (.ptr 1 0))),(6,.v (.sc (.ptr 2 0))),(8,.v (.sc (.ptr 3 0)))],.box 22 [.d 3 (.int .i64) (x0)],.box 4 [.bool (x1)],.box 22 [.g 4],.row 3 (.int .i64) (x2),.box 38 [.d 3 (.int .i64) (x3),.d 23 (.list 22 (.list 3 (.int .i64))) (x4)],.box 23 [.d 22 (.list 3 (.int .i64)) (x5)]]=(v76_1 x0 x1 x2 x3 x4 x5).bind fun r=>some (xv76_1 x0 x1 x2 x3 x4 x5 r):=by
 refine Eq.trans (b:=(cond (isL (Lat FU x4 (x4.length:Int) 0 x0 x1 x2 x3 x4 x5)) (some ([],[.loop 2 (some .ret) 37 161 106 [(5,.v (.sc (.ptr 1 0))),(6,.v (.sc (.ptr 2 0))),(8,.v (.sc (.ptr 3 0)))],.box 22 [.d 3 (.int .i64) (x0)],.box 4 [.bool (zN (Lat FU x4 (x4.length:Int) 0 x0 x1 x2 x3 x4 x5))],.box 22 [.g 4],.row 3 (.int .i64) (x2),.box 38 [.d 3 (.int .i64) (x3),.d 23 (.list 22 (.list 3 (.int .i64))) (x4)],.box 23 [.d 22 (.list 3 (.int .i64)) (x5)]])) (cond (ok (zL (Lat FU x4 (x4.length:Int) 0 x0 x1 x2 x3 x4 x5))) (some ([],[.loop 0 none 37 161 106 [(5,.v (.sc (.ptr 1 0))),(6,.v (.sc (.ptr 2 0))),(8,.v (.sc (.ptr 3 0)))],.box 22 [.d 3 (.int .i64) (x0)],.box 4 [.bool (x1)],.box 22 [.g 4],.row 3 (.int .i64) (x2),.box 38 [.d 3 (.int .i64) (x3),.d 23 (.list 22 (.list 3 (.int .i64))) (x4)],.box 23 [.d 22 (.list 3 (.int .i64)) (x5)]])) none))) (by kernel_rfl) ?_
 unfold v76_1
 refine za ?_ ?_
 rfl
 refine za ?_ ?_
 rfl
 rfl
noncomputable def sv76_1:OrcS:=fun al H=>dC al fun y1 l2=>dS y1 fun y3=>dYl 0 y3<|dC l2 fun y4 l5=>dS y4 fun y6=>zi 5 0 y6<|dC l5 fun y7 l8=>dS y7 fun y9=>zi 6 0 y9<|dE l8<|dC H fun y11 l10=>wT 0 none 37 161 106 y11 fun y12=>dSs 5 y12 fun y14 l13=>zi 1 0 y14<|dSs 6 l13 fun y16 l15=>zi 2 0 y16<|dSs 8 l15 fun y18 l17=>zi 3 0 y18<|dE l17<|dHB 22 l10 fun y20 l19=>dC y20 fun y21 l22=>dD 3 (.int .i64) y21 fun x0=>dE l22<|dHB 4 l19 fun y24 l23=>dC y24 fun y25 l26=>Zm y25 fun x1=>dE l26<|dHB 22 l23 fun y28 l27=>dC y28 fun y29 l30=>dG 4 y29<|dE l30<|dHR 3 (.int .i64) l27 fun x2 l31=>dHB 38 l31 fun y33 l32=>dC y33 fun y34 l35=>dD 3 (.int .i64) y34 fun x3=>dC l35 fun y36 l37=>dD 23 (.list 22 (.list 3 (.int .i64))) y36 fun x4=>dE l37<|dHB 23 l32 fun y39 l38=>dC y39 fun y40 l41=>dD 22 (.list 3 (.int .i64)) y40 fun x5=>dE l41<|dE l38 <|  some [(isL (v76_1 x0 x1 x2 x3 x4 x5),[],[.loop 2 (some .ret) 37 161 106 [(5,.v (.sc (.ptr 1 0))),(6,.v (.sc (.ptr 2 0))),(8,.v (.sc (.ptr 3 0)))],.box 22 [.d 3 (.int .i64) (x0)],.box 4 [.bool ((zN (v76_1 x0 x1 x2 x3 x4 x5)))],.box 22 [.g 4],.row 3 (.int .i64) (x2),.box 38 [.d 3 (.int .i64) (x3),.d 23 (.list 22 (.list 3 (.int .i64))) (x4)],.box 23 [.d 22 (.list 3 (.int .i64)) (x5)]]),(ok (zL (v76_1 x0 x1 x2 x3 x4 x5)),[],[.loop 0 none 37 161 106 [(5,.v (.sc (.ptr 1 0))),(6,.v (.sc (.ptr 2 0))),(8,.v (.sc (.ptr 3 0)))],.box 22 [.d 3 (.int .i64) (x0)],.box 4 [.bool (x1)],.box 22 [.g 4],.row 3 (.int .i64) (x2),.box 38 [.d 3 (.int .i64) (x3),.d 23 (.list 22 (.list 3 (.int .i64))) (x4)],.box 23 [.d 22 (.list 3 (.int .i64)) (x5)]])]
theorem wv76_1:zm Try.prog dOk base o47 t47 (76,sv76_1):=by
 intro al H q hq0 rs H2 h2
 have hq:sv76_1 al H=some q:=hq0
 clear hq0
 unfold sv76_1 at hq
 repeat with_reducible first|(first|replace hq:=dCq hq|replace hq:=zX hq|replace hq:=zG hq|replace hq:=zY hq);obtain ⟨_,_,rfl,hq⟩:=hq|(first|replace hq:=dSq hq|replace hq:=wp hq|replace hq:=dDq hq|replace hq:=wV hq);obtain ⟨_,rfl,hq⟩:=hq|(first|replace hq:=WH hq|replace hq:=zr hq|replace hq:=dEq hq|replace hq:=dGq hq);obtain ⟨rfl,hq⟩:=hq
 cases hq
 rcases Uq h2 with ⟨hc0,rfl,rfl⟩ | h2
 · exact ⟨41,(zu (by kernel_rfl)).trans ((ev76_1 _ _ _ _ _ _).trans (zl (yS hc0)))⟩
 obtain ⟨hc1,rfl,rfl⟩:=zg h2
 exact ⟨41,(zu (by kernel_rfl)).trans ((ev76_1 _ _ _ _ _ _).trans (zl (yw (zf hc1))))⟩
noncomputable def o48:OrcT:=(76,sv76_1)::o47
noncomputable def t48:TellT:=t47
noncomputable abbrev tn48:FuncId→TAn:=zh base o48 t48
theorem ok48:TnOk Try.prog tn48 (mkA base) dOk:=by
 have h0:TnOk Try.prog (tn47) (mkA base) dOk:=ok47
 have h1:=zn h0 h0 (p:=(76,sv76_1)) wv76_1
 exact h1
noncomputable def v37 (x0:(List Int)) (x1:(List (List (List Int)))) (x2:(List (List Int))) (x3:(List Int)):Option Bool:=(cond (decide ((x0.length:Int)≤(x0.length:Int))) (cond (decide ((x0.length:Int)≤(↑(nat_lit 2147483648):Int))) (cond (decide ((x1.length:Int)≤(x1.length:Int))) (cond (decide ((x1.length:Int)≤(↑(nat_lit 2147483648):Int))) (cond (ok (v76 (List.replicate (x0.length:Int).toNat 0) (List.replicate (x1.length:Int).toNat 0) x0 x1 x2)) (cond (isL (Lap FU x2 (↑(List.length (val (v76 (List.replicate (x0.length:Int).toNat 0) (List.replicate (x1.length:Int).toNat 0) x0 x1 x2)).1):Int) 0 x0 x1 (val (v76 (List.replicate (x0.length:Int).toNat 0) (List.replicate (x1.length:Int).toNat 0) x0 x1 x2)).2 false (val (v76 (List.replicate (x0.length:Int).toNat 0) (List.replicate (x1.length:Int).toNat 0) x0 x1 x2)).1 x3)) (some (zN (Lap FU x2 (↑(List.length (val (v76 (List.replicate (x0.length:Int).toNat 0) (List.replicate (x1.length:Int).toNat 0) x0 x1 x2)).1):Int) 0 x0 x1 (val (v76 (List.replicate (x0.length:Int).toNat 0) (List.replicate (x1.length:Int).toNat 0) x0 x1 x2)).2 false (val (v76 (List.replicate (x0.length:Int).toNat 0) (List.replicate (x1.length:Int).toNat 0) x0 x1 x2)).1 x3))) (cond (ok (zL (Lap FU x2 (↑(List.length (val (v76 (List.replicate (x0.length:Int).toNat 0) (List.replicate (x1.length:Int).toNat 0) x0 x1 x2)).1):Int) 0 x0 x1 (val (v76 (List.replicate (x0.length:Int).toNat 0) (List.replicate (x1.length:Int).toNat 0) x0 x1 x2)).2 false (val (v76 (List.replicate (x0.length:Int).toNat 0) (List.replicate (x1.length:Int).toNat 0) x0 x1 x2)).1 x3))) (cond (isL (v76_1 x3 false (val (v76 (List.replicate (x0.length:Int).toNat 0) (List.replicate (x1.length:Int).toNat 0) x0 x1 x2)).2 x0 x1 x2)) (some (zN (v76_1 x3 false (val (v76 (List.replicate (x0.length:Int).toNat 0) (List.replicate (x1.length:Int).toNat 0) x0 x1 x2)).2 x0 x1 x2))) (cond (ok (zL (v76_1 x3 false (val (v76 (List.replicate (x0.length:Int).toNat 0) (List.replicate (x1.length:Int).toNat 0) x0 x1 x2)).2 x0 x1 x2))) (some (true)) none)) none)) none) none) none) none) none)
theorem ev37 (x0:(List Int)) (x1:(List (List (List Int)))) (x2:(List (List Int))) (x3:(List Int)):zo Try.prog (tn48 37) (TM.evF Try.prog (tn48) dOk 40) dOk 40 37 [.agg [.d 3 (.int .i64) (x0),.d 23 (.list 22 (.list 3 (.int .i64))) (x1)],.sc (.d 22 (.list 3 (.int .i64)) x2),.sc (.d 3 (.int .i64) x3)] []=(v37 x0 x1 x2 x3).bind fun r=>some ([.sc (.bool (r))],[]):=by
 refine Eq.trans (b:=(cond (decide ((x0.length:Int)≤(x0.length:Int))) (cond (decide ((x0.length:Int)≤(↑(nat_lit 2147483648):Int))) (cond (decide ((x1.length:Int)≤(x1.length:Int))) (cond (decide ((x1.length:Int)≤(↑(nat_lit 2147483648):Int))) (cond (ok (v76 (List.replicate (x0.length:Int).toNat 0) (List.replicate (x1.length:Int).toNat 0) x0 x1 x2)) (cond (isL (Lap FU x2 (↑(List.length (val (v76 (List.replicate (x0.length:Int).toNat 0) (List.replicate (x1.length:Int).toNat 0) x0 x1 x2)).1):Int) 0 x0 x1 (val (v76 (List.replicate (x0.length:Int).toNat 0) (List.replicate (x1.length:Int).toNat 0) x0 x1 x2)).2 false (val (v76 (List.replicate (x0.length:Int).toNat 0) (List.replicate (x1.length:Int).toNat 0) x0 x1 x2)).1 x3)) (some ([.sc (.bool (zN (Lap FU x2 (↑(List.length (val (v76 (List.replicate (x0.length:Int).toNat 0) (List.replicate (x1.length:Int).toNat 0) x0 x1 x2)).1):Int) 0 x0 x1 (val (v76 (List.replicate (x0.length:Int).toNat 0) (List.replicate (x1.length:Int).toNat 0) x0 x1 x2)).2 false (val (v76 (List.replicate (x0.length:Int).toNat 0) (List.replicate (x1.length:Int).toNat 0) x0 x1 x2)).1 x3)))],[])) (cond (ok (zL (Lap FU x2 (↑(List.length (val (v76 (List.replicate (x0.length:Int).toNat 0) (List.replicate (x1.length:Int).toNat 0) x0 x1 x2)).1):Int) 0 x0 x1 (val (v76 (List.replicate (x0.length:Int).toNat 0) (List.replicate (x1.length:Int).toNat 0) x0 x1 x2)).2 false (val (v76 (List.replicate (x0.length:Int).toNat 0) (List.replicate (x1.length:Int).toNat 0) x0 x1 x2)).1 x3))) (cond (isL (v76_1 x3 false (val (v76 (List.replicate (x0.length:Int).toNat 0) (List.replicate (x1.length:Int).toNat 0) x0 x1 x2)).2 x0 x1 x2)) (some ([.sc (.bool (zN (v76_1 x3 false (val (v76 (List.replicate (x0.length:Int).toNat 0) (List.replicate (x1.length:Int).toNat 0) x0 x1 x2)).2 x0 x1 x2)))],[])) (cond (ok (zL (v76_1 x3 false (val (v76 (List.replicate (x0.length:Int).toNat 0) (List.replicate (x1.length:Int).toNat 0) x0 x1 x2)).2 x0 x1 x2))) (some ([.sc (.bool (true))],[])) none)) none)) none) none) none) none) none)) (by kernel_rfl) ?_
 unfold v37
 refine za ?_ ?_
 refine za ?_ ?_
 refine za ?_ ?_
 refine za ?_ ?_
 refine za ?_ ?_
 refine za ?_ ?_
 rfl
 refine za ?_ ?_
 refine za ?_ ?_
 rfl
 refine za ?_ ?_
 rfl
 rfl
 rfl
 rfl
 rfl
 rfl
 rfl
 rfl
noncomputable def sv37:OrcS:=fun al H=>dC al fun y1 l2=>dA y1 fun y3=>dC y3 fun y4 l5=>dD 3 (.int .i64) y4 fun x0=>dC l5 fun y6 l7=>dD 23 (.list 22 (.list 3 (.int .i64))) y6 fun x1=>dE l7<|dC l2 fun y8 l9=>dS y8 fun y10=>dD 22 (.list 3 (.int .i64)) y10 fun x2=>dC l9 fun y11 l12=>dS y11 fun y13=>dD 3 (.int .i64) y13 fun x3=>dE l12<|dE H <|  some [(ok (v37 x0 x1 x2 x3),[.sc (.bool ((val (v37 x0 x1 x2 x3))))],[])]
theorem wv37:zm Try.prog dOk base o48 t48 (37,sv37):=by
 intro al H q hq0 rs H2 h2
 have hq:sv37 al H=some q:=hq0
 clear hq0
 unfold sv37 at hq
 repeat with_reducible first|replace hq:=dCq hq;obtain ⟨_,_,rfl,hq⟩:=hq|(first|replace hq:=dAq hq|replace hq:=dDq hq|replace hq:=dSq hq);obtain ⟨_,rfl,hq⟩:=hq|replace hq:=dEq hq;obtain ⟨rfl,hq⟩:=hq
 cases hq
 obtain ⟨hc0,rfl,rfl⟩:=zg h2
 exact ⟨41,(zu (by kernel_rfl)).trans ((ev37 _ _ _ _).trans (zl (zf hc0)))⟩
noncomputable def o49:OrcT:=(37,sv37)::o48
noncomputable def t49:TellT:=t48
noncomputable abbrev tn49:FuncId→TAn:=zh base o49 t49
theorem ok49:TnOk Try.prog tn49 (mkA base) dOk:=by
 have h0:TnOk Try.prog (tn48) (mkA base) dOk:=ok48
 have h1:=zn h0 h0 (p:=(37,sv37)) wv37
 exact h1
noncomputable def LaN:Nat→Int→(List Int)→Int→Int→(List Int)→(List (List (List Int)))→Option Int
 | 0,_,_,_,_,_,_=>none
 | n+1,x0,x1,x2,x3,x4,x5=>(cond (decide (x3 < x2)) (cond (decide (0≤x3)) (cond (decide (x3 < (x1.length:Int))) (cond (decide (x3 < (x4.length:Int))) (LaN n (IntKind.wrap IntKind.i64 (x0+IntKind.wrap IntKind.i64 (List.getD x1 x3.toNat 0*List.getD x4 x3.toNat 0))) x1 x2 (IntKind.wrap IntKind.i64 (x3+(1:Int))) x4 x5) none) none) none) (some x0))
theorem qLaN:type_of% @LaN.eq_2:=@LaN.eq_2
noncomputable def xLaN (x0:Int) (x1:(List Int)) (x2 x3:Int) (x4:(List Int)) (x5:(List (List (List Int)))):Int→Ex×CS:=fun r=>((.exit 0),{ sl:=[(2,.l 2 0),(5,.v (.sc (I4 (r))))],lo:=[],h:=[],n0:=0,w:=false })
theorem bLaN (k:Nat) (cN:CS→Option (Ex×CS)) (cX:Ex→CS→Option (Ex×CS)) (x0:Int) (x1:(List Int)) (x2 x3:Int) (x4:(List Int)) (x5:(List (List (List Int)))):zq Try.prog (tn49 38) (TM.evF Try.prog (tn49) dOk (k+40)) dOk (k+40) (zc Try.prog (tn0 38) 38 0) 0 0 { sl:=[(2,.l 2 0),(5,.v (.sc (I4 x0))),(8,.v (.sc (.d 3 (.int .i64) x1))),(9,.v (.sc (I4 x2))),(10,.v (.sc (I4 x3)))],lo:=[(2,[.d 3 (.int .i64) (x4),.d 23 (.list 22 (.list 3 (.int .i64))) (x5)])],h:=[],n0:=0,w:=false } cN cX=(cond (decide (x3 < x2)) (cond (decide (0≤x3)) (cond (decide (x3 < (x1.length:Int))) (cond (decide (0≤x3)) (cond (decide (x3 < (x4.length:Int))) (cN { sl:=[(2,.l 2 0),(5,.v (.sc (I4 (IntKind.wrap IntKind.i64 (x0+IntKind.wrap IntKind.i64 (List.getD x1 x3.toNat 0*List.getD x4 x3.toNat 0)))))),(8,.v (.sc (.d 3 (.int .i64) x1))),(9,.v (.sc (I4 x2))),(10,.v (.sc (I4 (IntKind.wrap IntKind.i64 (x3+(1:Int))))))],lo:=[(2,[.d 3 (.int .i64) (x4),.d 23 (.list 22 (.list 3 (.int .i64))) (x5)])],h:=[],n0:=0,w:=false }) none) none) none) none) (cX (.exit 0) { sl:=[(2,.l 2 0),(5,.v (.sc (I4 x0)))],lo:=[],h:=[],n0:=0,w:=false })):=by kernel_rfl
theorem lLaN (k m:Nat):∀ (n:Nat) (x0:Int) (x1:(List Int)) (x2 x3:Int) (x4:(List Int)) (x5:(List (List (List Int)))) (r:Int),LaN n x0 x1 x2 x3 x4 x5=some r→zM Try.prog (tn49 38) (TM.evF Try.prog (tn49) dOk (k+40)) dOk (k+40) (zc Try.prog (tn0 38) 38 0) 0 0 (n+m) { sl:=[(2,.l 2 0),(5,.v (.sc (I4 x0))),(8,.v (.sc (.d 3 (.int .i64) x1))),(9,.v (.sc (I4 x2))),(10,.v (.sc (I4 x3)))],lo:=[(2,[.d 3 (.int .i64) (x4),.d 23 (.list 22 (.list 3 (.int .i64))) (x5)])],h:=[],n0:=0,w:=false }=some (xLaN x0 x1 x2 x3 x4 x5 r):=by
 intro n
 induction n with
 | zero=>intro _ _ _ _ _ _ r h;cases h
 | succ n ih=>
  intro x0 x1 x2 x3 x4 x5 r
  rw [show n+1+m=n+m+1 by omega,zp,bLaN,qLaN]
  cases (decide (x3 < x2)) with
  | true=>
   cases (decide (0≤x3)) with
   | true=>
    cases (decide (x3 < (x1.length:Int))) with
    | true=>
     cases (decide (x3 < (x4.length:Int))) with
     | true=>
      exact ih _ _ _ _ _ _ r
     | false=>
      intro h;cases h
    | false=>
     intro h;cases h
   | false=>
    intro h;cases h
  | false=>
   intro h;cases h;rfl
noncomputable def sLaN:TellS:=fun S=>dCS 0 S fun y1 y2 y3=>dSt 2 y1 fun y5 l4=>dL 2 0 y5<|dSI 5 .i64 l4 fun x0 l6=>dSs 8 l6 fun y8 l7=>dD 3 (.int .i64) y8 fun x1=>dSI 9 .i64 l7 fun x2 l9=>dSI 10 .i64 l9 fun x3 l10=>dE l10<|dLo 2 y2 fun y11 l12=>dC y11 fun y13 l14=>dD 3 (.int .i64) y13 fun x4=>dC l14 fun y15 l16=>dD 23 (.list 22 (.list 3 (.int .i64))) y15 fun x5=>dE l16<|dE l12<|dE y3 <|  some [(ok (LaN FU x0 x1 x2 x3 x4 x5),(.exit 0),{ sl:=[(2,.l 2 0),(5,.v (.sc (I4 ((val (LaN FU x0 x1 x2 x3 x4 x5))))))],lo:=[],h:=[],n0:=0,w:=false })]
theorem wLaN:zB Try.prog dOk base o49 t49 ((38,0),sLaN):=by
 refine ⟨.loop (zc Try.prog (tn0 38) 38 0),0,by kernel_rfl,?_⟩
 intro S alts e S' h10 h2
 have h1:sLaN S=some alts:=h10
 clear h10
 unfold sLaN at h1
 repeat with_reducible first|replace h1:=yc h1;obtain ⟨_,_,_,rfl,h1⟩:=h1|(first|replace h1:=wB h1|replace h1:=ye h1|replace h1:=zX h1|replace h1:=wL h1|replace h1:=dCq h1);obtain ⟨_,_,rfl,h1⟩:=h1|(first|replace h1:=dLq h1|replace h1:=dEq h1);obtain ⟨rfl,h1⟩:=h1|replace h1:=dDq h1;obtain ⟨_,rfl,h1⟩:=h1
 cases h1
 obtain ⟨hc0,rfl,rfl⟩:=zt h2
 exact ⟨FU+40,(ze rfl).trans (lLaN FU 40 FU _ _ _ _ _ _ _ (zf hc0))⟩
noncomputable def o50:OrcT:=o49
noncomputable def t50:TellT:=((38,0),sLaN)::t49
noncomputable abbrev tn50:FuncId→TAn:=zh base o50 t50
theorem ok50:TnOk Try.prog tn50 (mkA base) dOk:=by
 have h0:TnOk Try.prog (tn49) (mkA base) dOk:=ok49
 have h1:=zD h0 h0 (p:=((38,0),sLaN)) wLaN
 exact h1
noncomputable def v38 (x0:(List Int)) (x1:(List (List (List Int)))) (x2:(List Int)):Option Int:=(cond (ok (LaN FU 0 x2 (x2.length:Int) 0 x0 x1)) (some (val (LaN FU 0 x2 (x2.length:Int) 0 x0 x1))) none)
theorem ev38 (x0:(List Int)) (x1:(List (List (List Int)))) (x2:(List Int)):zo Try.prog (tn50 38) (TM.evF Try.prog (tn50) dOk 40) dOk 40 38 [.agg [.d 3 (.int .i64) (x0),.d 23 (.list 22 (.list 3 (.int .i64))) (x1)],.sc (.d 3 (.int .i64) x2)] []=(v38 x0 x1 x2).bind fun r=>some ([.sc (I4 (r))],[]):=by
 refine Eq.trans (b:=(cond (ok (LaN FU 0 x2 (x2.length:Int) 0 x0 x1)) (some ([.sc (I4 (val (LaN FU 0 x2 (x2.length:Int) 0 x0 x1)))],[])) none)) (by kernel_rfl) ?_
 unfold v38
 refine za ?_ ?_
 rfl
 rfl
noncomputable def sv38:OrcS:=fun al H=>dC al fun y1 l2=>dA y1 fun y3=>dC y3 fun y4 l5=>dD 3 (.int .i64) y4 fun x0=>dC l5 fun y6 l7=>dD 23 (.list 22 (.list 3 (.int .i64))) y6 fun x1=>dE l7<|dC l2 fun y8 l9=>dS y8 fun y10=>dD 3 (.int .i64) y10 fun x2=>dE l9<|dE H <|  some [(ok (v38 x0 x1 x2),[.sc (I4 ((val (v38 x0 x1 x2))))],[])]
theorem wv38:zm Try.prog dOk base o50 t50 (38,sv38):=by
 intro al H q hq0 rs H2 h2
 have hq:sv38 al H=some q:=hq0
 clear hq0
 unfold sv38 at hq
 repeat with_reducible first|replace hq:=dCq hq;obtain ⟨_,_,rfl,hq⟩:=hq|(first|replace hq:=dAq hq|replace hq:=dDq hq|replace hq:=dSq hq);obtain ⟨_,rfl,hq⟩:=hq|replace hq:=dEq hq;obtain ⟨rfl,hq⟩:=hq
 cases hq
 obtain ⟨hc0,rfl,rfl⟩:=zg h2
 exact ⟨41,(zu (by kernel_rfl)).trans ((ev38 _ _ _).trans (zl (zf hc0)))⟩
noncomputable def o51:OrcT:=(38,sv38)::o50
noncomputable def t51:TellT:=t50
noncomputable abbrev tn51:FuncId→TAn:=zh base o51 t51
theorem ok51:TnOk Try.prog tn51 (mkA base) dOk:=by
 have h0:TnOk Try.prog (tn50) (mkA base) dOk:=ok50
 have h1:=zn h0 h0 (p:=(38,sv38)) wv38
 exact h1
noncomputable def v21 (x0:(List Int)) (x1:(List (List (List Int)))) (x2:(List (List Int))) (x3:(List Int)):Option (Int×Int):=(cond (ok (v25 x0 x1)) (cond (!val (v25 x0 x1)) (some (0,(1:Int))) (cond (ok (v36 x0 x1 x2 x3)) (cond (!val (v36 x0 x1 x2 x3)) (some (0,(1:Int))) (cond (ok (v37 x0 x1 x2 x3)) (cond (!val (v37 x0 x1 x2 x3)) (some (0,(17:Int))) (cond (ok (v38 x0 x1 x3)) (cond (decide (max 0 (IntKind.wrap IntKind.i64 (val (v38 x0 x1 x3) - IntKind.wrap IntKind.i64 ((1000000:Int)*(x1.length:Int)))) > (1000000000000:Int))) (some (0,(3:Int))) (some (max 0 (IntKind.wrap IntKind.i64 (val (v38 x0 x1 x3) - IntKind.wrap IntKind.i64 ((1000000:Int)*(x1.length:Int)))),0))) none)) none)) none)) none)
theorem ev21 (x0:(List Int)) (x1:(List (List (List Int)))) (x2:(List (List Int))) (x3:(List Int)):zo Try.prog (tn51 21) (TM.evF Try.prog (tn51) dOk 40) dOk 40 21 [.agg [.d 3 (.int .i64) (x0),.d 23 (.list 22 (.list 3 (.int .i64))) (x1)],.sc (.d 22 (.list 3 (.int .i64)) x2),.sc (.d 3 (.int .i64) x3)] []=(v21 x0 x1 x2 x3).bind fun r=>some ([.sc (I4 (r.1)),.sc (I4 (r.2))],[]):=by
 refine Eq.trans (b:=(cond (ok (v25 x0 x1)) (cond (!val (v25 x0 x1)) (some ([.sc (I4 (0)),.sc (I4 ((1:Int)))],[])) (cond (ok (v36 x0 x1 x2 x3)) (cond (!val (v36 x0 x1 x2 x3)) (some ([.sc (I4 (0)),.sc (I4 ((1:Int)))],[])) (cond (ok (v37 x0 x1 x2 x3)) (cond (!val (v37 x0 x1 x2 x3)) (some ([.sc (I4 (0)),.sc (I4 ((17:Int)))],[])) (cond (ok (v38 x0 x1 x3)) (cond (decide (max 0 (IntKind.wrap IntKind.i64 (val (v38 x0 x1 x3) - IntKind.wrap IntKind.i64 ((1000000:Int)*(x1.length:Int)))) > (1000000000000:Int))) (some ([.sc (I4 (0)),.sc (I4 ((3:Int)))],[])) (some ([.sc (I4 (max 0 (IntKind.wrap IntKind.i64 (val (v38 x0 x1 x3) - IntKind.wrap IntKind.i64 ((1000000:Int)*(x1.length:Int)))))),.sc (I4 (0))],[]))) none)) none)) none)) none)) (by kernel_rfl) ?_
 unfold v21
 refine za ?_ ?_
 refine za ?_ ?_
 rfl
 refine za ?_ ?_
 refine za ?_ ?_
 rfl
 refine za ?_ ?_
 refine za ?_ ?_
 rfl
 refine za ?_ ?_
 refine za ?_ ?_
 rfl
 rfl
 rfl
 rfl
 rfl
 rfl
noncomputable def sv21:OrcS:=fun al H=>dC al fun y1 l2=>dA y1 fun y3=>dC y3 fun y4 l5=>dD 3 (.int .i64) y4 fun x0=>dC l5 fun y6 l7=>dD 23 (.list 22 (.list 3 (.int .i64))) y6 fun x1=>dE l7<|dC l2 fun y8 l9=>dS y8 fun y10=>dD 22 (.list 3 (.int .i64)) y10 fun x2=>dC l9 fun y11 l12=>dS y11 fun y13=>dD 3 (.int .i64) y13 fun x3=>dE l12<|dE H <|  some [(ok (v21 x0 x1 x2 x3),[.sc (I4 ((val (v21 x0 x1 x2 x3)).1)),.sc (I4 ((val (v21 x0 x1 x2 x3)).2))],[])]
theorem wv21:zm Try.prog dOk base o51 t51 (21,sv21):=by
 intro al H q hq0 rs H2 h2
 have hq:sv21 al H=some q:=hq0
 clear hq0
 unfold sv21 at hq
 repeat with_reducible first|replace hq:=dCq hq;obtain ⟨_,_,rfl,hq⟩:=hq|(first|replace hq:=dAq hq|replace hq:=dDq hq|replace hq:=dSq hq);obtain ⟨_,rfl,hq⟩:=hq|replace hq:=dEq hq;obtain ⟨rfl,hq⟩:=hq
 cases hq
 obtain ⟨hc0,rfl,rfl⟩:=zg h2
 exact ⟨41,(zu (by kernel_rfl)).trans ((ev21 _ _ _ _).trans (zl (zf hc0)))⟩
noncomputable def o52:OrcT:=(21,sv21)::o51
noncomputable def t52:TellT:=t51
noncomputable abbrev tn52:FuncId→TAn:=zh base o52 t52
theorem ok52:TnOk Try.prog tn52 (mkA base) dOk:=by
 have h0:TnOk Try.prog (tn51) (mkA base) dOk:=ok51
 have h1:=zn h0 h0 (p:=(21,sv21)) wv21
 exact h1
noncomputable def LaJ:Nat→(List (List Int))→Int→Int→(List Int)→(List Int)→(List (List (List Int)))→(List (List (List Int)))→Option (List (List (List Int)))
 | 0,_,_,_,_,_,_,_=>none
 | n+1,x0,x1,x2,x3,x4,x5,x6=>(cond (decide (x2 < x1)) (cond (decide (0≤x2)) (cond (decide (x2 < (x0.length:Int))) (cond (decide (List.length x6+List.length [[List.getD x0 x2.toNat []]]≤nat_lit 2147483648)) (LaJ n x0 x1 (IntKind.wrap IntKind.i64 (x2+(1:Int))) x3 x4 x5 (x6++[[List.getD x0 x2.toNat []]])) none) none) none) (some x6))
theorem qLaJ:type_of% @LaJ.eq_2:=@LaJ.eq_2
noncomputable def xLaJ (x0:(List (List Int))) (x1 x2:Int) (x3:(List Int)) (x4:(List Int)) (x5:(List (List (List Int)))) (x6:(List (List (List Int)))):(List (List (List Int)))→Ex×CS:=fun r=>((.exit 0),{ sl:=[(2,.l 2 0),(3,.l 3 0)],lo:=[(2,[.g 0,.g 1]),(3,[.d 3 (.int .i64) (x3),.g 2])],h:=[.row 3 (.int .i64) (x4),.row 23 (.list 22 (.list 3 (.int .i64))) (x5),.row 23 (.list 22 (.list 3 (.int .i64))) (r:List (List (List Int)))],n0:=0,w:=false })
theorem bLaJ (k:Nat) (cN:CS→Option (Ex×CS)) (cX:Ex→CS→Option (Ex×CS)) (x0:(List (List Int))) (x1 x2:Int) (x3:(List Int)) (x4:(List Int)) (x5:(List (List (List Int)))) (x6:(List (List (List Int)))):zq Try.prog (tn52 26) (TM.evF Try.prog (tn52) dOk (k+40)) dOk (k+40) (zc Try.prog (tn0 26) 26 0) 0 0 { sl:=[(2,.l 2 0),(3,.l 3 0),(10,.v (.sc (.d 22 (.list 3 (.int .i64)) x0))),(11,.v (.sc (I4 x1))),(12,.v (.sc (I4 x2)))],lo:=[(2,[.g 0,.g 1]),(3,[.d 3 (.int .i64) (x3),.g 2])],h:=[.row 3 (.int .i64) (x4),.row 23 (.list 22 (.list 3 (.int .i64))) (x5),.row 23 (.list 22 (.list 3 (.int .i64))) (x6)],n0:=0,w:=false } cN cX=(cond (decide (x2 < x1)) (cond (decide (0≤x2)) (cond (decide (x2 < (x0.length:Int))) (cond (decide (List.length x6+List.length [[List.getD x0 x2.toNat []]]≤nat_lit 2147483648)) (cN { sl:=[(2,.l 2 0),(3,.l 3 0),(10,.v (.sc (.d 22 (.list 3 (.int .i64)) x0))),(11,.v (.sc (I4 x1))),(12,.v (.sc (I4 (IntKind.wrap IntKind.i64 (x2+(1:Int))))))],lo:=[(2,[.g 0,.g 1]),(3,[.d 3 (.int .i64) (x3),.g 2])],h:=[.row 3 (.int .i64) (x4),.row 23 (.list 22 (.list 3 (.int .i64))) (x5),.row 23 (.list 22 (.list 3 (.int .i64))) (x6++[[List.getD x0 x2.toNat []]]:List (List (List Int)))],n0:=0,w:=false }) none) none) none) (cX (.exit 0) { sl:=[(2,.l 2 0),(3,.l 3 0)],lo:=[(2,[.g 0,.g 1]),(3,[.d 3 (.int .i64) (x3),.g 2])],h:=[.row 3 (.int .i64) (x4),.row 23 (.list 22 (.list 3 (.int .i64))) (x5),.row 23 (.list 22 (.list 3 (.int .i64))) (x6)],n0:=0,w:=false })):=by kernel_rfl
theorem lLaJ (k m:Nat):∀ (n:Nat) (x0:(List (List Int))) (x1 x2:Int) (x3:(List Int)) (x4:(List Int)) (x5:(List (List (List Int)))) (x6:(List (List (List Int)))) (r:(List (List (List Int)))),LaJ n x0 x1 x2 x3 x4 x5 x6=some r→zM Try.prog (tn52 26) (TM.evF Try.prog (tn52) dOk (k+40)) dOk (k+40) (zc Try.prog (tn0 26) 26 0) 0 0 (n+m) { sl:=[(2,.l 2 0),(3,.l 3 0),(10,.v (.sc (.d 22 (.list 3 (.int .i64)) x0))),(11,.v (.sc (I4 x1))),(12,.v (.sc (I4 x2)))],lo:=[(2,[.g 0,.g 1]),(3,[.d 3 (.int .i64) (x3),.g 2])],h:=[.row 3 (.int .i64) (x4),.row 23 (.list 22 (.list 3 (.int .i64))) (x5),.row 23 (.list 22 (.list 3 (.int .i64))) (x6)],n0:=0,w:=false }=some (xLaJ x0 x1 x2 x3 x4 x5 x6 r):=by
 intro n
 induction n with
 | zero=>intro _ _ _ _ _ _ _ r h;cases h
 | succ n ih=>
  intro x0 x1 x2 x3 x4 x5 x6 r
  rw [show n+1+m=n+m+1 by omega,zp,bLaJ,qLaJ]
  refine zb ?_ ?_
  refine zb ?_ ?_
  refine zb ?_ ?_
  refine zb ?_ ?_
  exact ih _ _ _ _ _ _ _ r
  intro h;cases h
  intro h;cases h
  intro h;cases h
  intro h;cases h;rfl
noncomputable def sLaJ:TellS:=fun S=>dCS 0 S fun y1 y2 y3=>dSt 2 y1 fun y5 l4=>dL 2 0 y5<|dSt 3 l4 fun y7 l6=>dL 3 0 y7<|dSs 10 l6 fun y9 l8=>dD 22 (.list 3 (.int .i64)) y9 fun x0=>dSI 11 .i64 l8 fun x1 l10=>dSI 12 .i64 l10 fun x2 l11=>dE l11<|dLo 2 y2 fun y12 l13=>dC y12 fun y14 l15=>dG 0 y14<|dC l15 fun y16 l17=>dG 1 y16<|dE l17<|dLo 3 l13 fun y18 l19=>dC y18 fun y20 l21=>dD 3 (.int .i64) y20 fun x3=>dC l21 fun y22 l23=>dG 2 y22<|dE l23<|dE l19<|dHR 3 (.int .i64) y3 fun x4 l24=>dHR 23 (.list 22 (.list 3 (.int .i64))) l24 fun x5 l25=>dHR 23 (.list 22 (.list 3 (.int .i64))) l25 fun x6 l26=>dE l26 <|  some [(ok (LaJ FU x0 x1 x2 x3 x4 x5 x6),(.exit 0),{ sl:=[(2,.l 2 0),(3,.l 3 0)],lo:=[(2,[.g 0,.g 1]),(3,[.d 3 (.int .i64) (x3),.g 2])],h:=[.row 3 (.int .i64) (x4),.row 23 (.list 22 (.list 3 (.int .i64))) (x5),.row 23 (.list 22 (.list 3 (.int .i64))) ((val (LaJ FU x0 x1 x2 x3 x4 x5 x6)):List (List (List Int)))],n0:=0,w:=false })]
theorem wLaJ:zB Try.prog dOk base o52 t52 ((26,0),sLaJ):=by
 refine ⟨.loop (zc Try.prog (tn0 26) 26 0),0,by kernel_rfl,?_⟩
 intro S alts e S' h10 h2
 have h1:sLaJ S=some alts:=h10
 clear h10
 unfold sLaJ at h1
 repeat with_reducible first|replace h1:=yc h1;obtain ⟨_,_,_,rfl,h1⟩:=h1|(first|replace h1:=wB h1|replace h1:=zX h1|replace h1:=ye h1|replace h1:=wL h1|replace h1:=dCq h1|replace h1:=zY h1);obtain ⟨_,_,rfl,h1⟩:=h1|(first|replace h1:=dLq h1|replace h1:=dEq h1|replace h1:=dGq h1);obtain ⟨rfl,h1⟩:=h1|replace h1:=dDq h1;obtain ⟨_,rfl,h1⟩:=h1
 cases h1
 obtain ⟨hc0,rfl,rfl⟩:=zt h2
 exact ⟨FU+40,(ze rfl).trans (lLaJ FU 40 FU _ _ _ _ _ _ _ _ (zf hc0))⟩
noncomputable def o53:OrcT:=o52
noncomputable def t53:TellT:=((26,0),sLaJ)::t52
noncomputable abbrev tn53:FuncId→TAn:=zh base o53 t53
theorem ok53:TnOk Try.prog tn53 (mkA base) dOk:=by
 have h0:TnOk Try.prog (tn52) (mkA base) dOk:=ok52
 have h1:=zD h0 h0 (p:=((26,0),sLaJ)) wLaJ
 exact h1
noncomputable def v26 (x0:(List Int)) (x1:(List (List Int))) (x2:(List Int)):Option (List (List (List Int))):=(cond (ok (LaJ FU x1 (x1.length:Int) 0 x0 [] [] [])) (some (val (LaJ FU x1 (x1.length:Int) 0 x0 [] [] []))) none)
theorem ev26 (x0:(List Int)) (x1:(List (List Int))) (x2:(List Int)):zo Try.prog (tn53 26) (TM.evF Try.prog (tn53) dOk 40) dOk 40 26 [.agg [.d 3 (.int .i64) (x0),.d 22 (.list 3 (.int .i64)) (x1),.d 3 (.int .i64) (x2)]] []=(v26 x0 x1 x2).bind fun r=>some ([.agg [.d 3 (.int .i64) (x0),.d 23 (.list 22 (.list 3 (.int .i64))) (r:List (List (List Int)))]],[]):=by
 refine Eq.trans (b:=(cond (ok (LaJ FU x1 (x1.length:Int) 0 x0 [] [] [])) (some ([.agg [.d 3 (.int .i64) (x0),.d 23 (.list 22 (.list 3 (.int .i64))) (val (LaJ FU x1 (x1.length:Int) 0 x0 [] [] []):List (List (List Int)))]],[])) none)) (by kernel_rfl) ?_
 unfold v26
 refine za ?_ ?_
 rfl
 rfl
noncomputable def sv26:OrcS:=fun al H=>dC al fun y1 l2=>dA y1 fun y3=>dC y3 fun y4 l5=>dD 3 (.int .i64) y4 fun x0=>dC l5 fun y6 l7=>dD 22 (.list 3 (.int .i64)) y6 fun x1=>dC l7 fun y8 l9=>dD 3 (.int .i64) y8 fun x2=>dE l9<|dE l2<|dE H <|  some [(ok (v26 x0 x1 x2),[.agg [.d 3 (.int .i64) (x0),.d 23 (.list 22 (.list 3 (.int .i64))) ((val (v26 x0 x1 x2)):List (List (List Int)))]],[])]
theorem wv26:zm Try.prog dOk base o53 t53 (26,sv26):=by
 intro al H q hq0 rs H2 h2
 have hq:sv26 al H=some q:=hq0
 clear hq0
 unfold sv26 at hq
 repeat with_reducible first|replace hq:=dCq hq;obtain ⟨_,_,rfl,hq⟩:=hq|(first|replace hq:=dAq hq|replace hq:=dDq hq);obtain ⟨_,rfl,hq⟩:=hq|replace hq:=dEq hq;obtain ⟨rfl,hq⟩:=hq
 cases hq
 obtain ⟨hc0,rfl,rfl⟩:=zg h2
 exact ⟨41,(zu (by kernel_rfl)).trans ((ev26 _ _ _).trans (zl (zf hc0)))⟩
noncomputable def o54:OrcT:=(26,sv26)::o53
noncomputable def t54:TellT:=t53
noncomputable abbrev tn54:FuncId→TAn:=zh base o54 t54
theorem ok54:TnOk Try.prog tn54 (mkA base) dOk:=by
 have h0:TnOk Try.prog (tn53) (mkA base) dOk:=ok53
 have h1:=zn h0 h0 (p:=(26,sv26)) wv26
 exact h1
noncomputable def Lan:Nat→Bool→(List (List Int))→Int→Int→(List Int)→Int→Int→(List Int)→(List (List Int))→(List Int)→(List Int)→(List (List Int))→(List Int)→(List Int)→Option (Bool×(List Int))
 | 0,_,_,_,_,_,_,_,_,_,_,_,_,_,_=>none
 | n+1,x0,x1,x2,x3,x4,x5,x6,x7,x8,x9,A,B,C,D=>(cond (decide (x6 < x5)) (cond (decide (0≤x6)) (cond (decide (x6 < (x4.length:Int))) (cond (decide (0≤List.getD x4 x6.toNat 0)) (cond (decide (List.getD x4 x6.toNat 0 < (D.length:Int))) (cond (decide ((List.getD x4 x6.toNat 0).toNat < List.length D)) (cond x0 (cond (decide (List.getD x4 x6.toNat 0 < (x7.length:Int))) (Lan n (decide (List.getD x7 (List.getD x4 x6.toNat 0).toNat 0 > 0)) x1 x2 x3 x4 x5 (IntKind.wrap IntKind.i64 (x6+(1:Int))) x7 x8 x9 A B C (List.set D (List.getD x4 x6.toNat 0).toNat (1000:Int))) none) (Lan n (false) x1 x2 x3 x4 x5 (IntKind.wrap IntKind.i64 (x6+(1:Int))) x7 x8 x9 A B C (List.set D (List.getD x4 x6.toNat 0).toNat (1000:Int)))) none) none) none) none) none) (some (x0,D)))
theorem qLan:type_of% @Lan.eq_2:=@Lan.eq_2
noncomputable def xLan (x0:Bool) (x1:(List (List Int))) (x2 x3:Int) (x4:(List Int)) (x5 x6:Int) (x7:(List Int)) (x8:(List (List Int))) (x9:(List Int)) (A:(List Int)) (B:(List (List Int))) (C:(List Int)) (D:(List Int)):(Bool×(List Int))→Ex×CS:=fun r=>((.exit 2),{ sl:=[(1,.l 1 0),(4,.v (.sc (.ptr 0 0))),(5,.v (.sc (.bool (r.1)))),(18,.v (.sc (.d 22 (.list 3 (.int .i64)) x1))),(19,.v (.sc (I4 x2))),(20,.v (.sc (I4 x3)))],lo:=[(1,[.d 3 (.int .i64) (x7),.d 22 (.list 3 (.int .i64)) (x8),.d 3 (.int .i64) (x9)])],h:=[.box 73 [.d 3 (.int .i64) (A),.d 22 (.list 3 (.int .i64)) (B),.d 3 (.int .i64) (C),.g 1,.nil],.row 3 (.int .i64) (r.2:List Int)],n0:=0,w:=false })
theorem bLan (k:Nat) (cN:CS→Option (Ex×CS)) (cX:Ex→CS→Option (Ex×CS)) (x0:Bool) (x1:(List (List Int))) (x2 x3:Int) (x4:(List Int)) (x5 x6:Int) (x7:(List Int)) (x8:(List (List Int))) (x9:(List Int)) (A:(List Int)) (B:(List (List Int))) (C:(List Int)) (D:(List Int)):zq Try.prog (tn54 27) (TM.evF Try.prog (tn54) dOk (k+40)) dOk (k+40) (zc Try.prog (tn0 27) 27 16) 2 16 { sl:=[(1,.l 1 0),(4,.v (.sc (.ptr 0 0))),(5,.v (.sc (.bool x0))),(18,.v (.sc (.d 22 (.list 3 (.int .i64)) x1))),(19,.v (.sc (I4 x2))),(20,.v (.sc (I4 x3))),(24,.v (.sc (.d 3 (.int .i64) x4))),(25,.v (.sc (I4 x5))),(26,.v (.sc (I4 x6)))],lo:=[(1,[.d 3 (.int .i64) (x7),.d 22 (.list 3 (.int .i64)) (x8),.d 3 (.int .i64) (x9)])],h:=[.box 73 [.d 3 (.int .i64) (A),.d 22 (.list 3 (.int .i64)) (B),.d 3 (.int .i64) (C),.g 1,.nil],.row 3 (.int .i64) (D)],n0:=0,w:=false } cN cX=(cond (decide (x6 < x5)) (cond (decide (0≤x6)) (cond (decide (x6 < (x4.length:Int))) (cond (decide (0≤List.getD x4 x6.toNat 0)) (cond (decide (List.getD x4 x6.toNat 0 < (D.length:Int))) (cond (decide ((List.getD x4 x6.toNat 0).toNat < List.length D)) (cond x0 (cond (decide (0≤List.getD x4 x6.toNat 0)) (cond (decide (List.getD x4 x6.toNat 0 < (x7.length:Int))) (cN { sl:=[(1,.l 1 0),(4,.v (.sc (.ptr 0 0))),(5,.v (.sc (.bool (decide (List.getD x7 (List.getD x4 x6.toNat 0).toNat 0 > 0))))),(18,.v (.sc (.d 22 (.list 3 (.int .i64)) x1))),(19,.v (.sc (I4 x2))),(20,.v (.sc (I4 x3))),(24,.v (.sc (.d 3 (.int .i64) x4))),(25,.v (.sc (I4 x5))),(26,.v (.sc (I4 (IntKind.wrap IntKind.i64 (x6+(1:Int))))))],lo:=[(1,[.d 3 (.int .i64) (x7),.d 22 (.list 3 (.int .i64)) (x8),.d 3 (.int .i64) (x9)])],h:=[.box 73 [.d 3 (.int .i64) (A),.d 22 (.list 3 (.int .i64)) (B),.d 3 (.int .i64) (C),.g 1,.nil],.row 3 (.int .i64) (List.set D (List.getD x4 x6.toNat 0).toNat (1000:Int):List Int)],n0:=0,w:=false }) none) none) (cN { sl:=[(1,.l 1 0),(4,.v (.sc (.ptr 0 0))),(5,.v (.sc (.bool (false)))),(18,.v (.sc (.d 22 (.list 3 (.int .i64)) x1))),(19,.v (.sc (I4 x2))),(20,.v (.sc (I4 x3))),(24,.v (.sc (.d 3 (.int .i64) x4))),(25,.v (.sc (I4 x5))),(26,.v (.sc (I4 (IntKind.wrap IntKind.i64 (x6+(1:Int))))))],lo:=[(1,[.d 3 (.int .i64) (x7),.d 22 (.list 3 (.int .i64)) (x8),.d 3 (.int .i64) (x9)])],h:=[.box 73 [.d 3 (.int .i64) (A),.d 22 (.list 3 (.int .i64)) (B),.d 3 (.int .i64) (C),.g 1,.nil],.row 3 (.int .i64) (List.set D (List.getD x4 x6.toNat 0).toNat (1000:Int):List Int)],n0:=0,w:=false })) none) none) none) none) none) (cX (.exit 2) { sl:=[(1,.l 1 0),(4,.v (.sc (.ptr 0 0))),(5,.v (.sc (.bool x0))),(18,.v (.sc (.d 22 (.list 3 (.int .i64)) x1))),(19,.v (.sc (I4 x2))),(20,.v (.sc (I4 x3)))],lo:=[(1,[.d 3 (.int .i64) (x7),.d 22 (.list 3 (.int .i64)) (x8),.d 3 (.int .i64) (x9)])],h:=[.box 73 [.d 3 (.int .i64) (A),.d 22 (.list 3 (.int .i64)) (B),.d 3 (.int .i64) (C),.g 1,.nil],.row 3 (.int .i64) (D)],n0:=0,w:=false })):=by kernel_rfl
theorem lLan (k m:Nat):∀ (n:Nat) (x0:Bool) (x1:(List (List Int))) (x2 x3:Int) (x4:(List Int)) (x5 x6:Int) (x7:(List Int)) (x8:(List (List Int))) (x9:(List Int)) (A:(List Int)) (B:(List (List Int))) (C:(List Int)) (D:(List Int)) (r:(Bool×(List Int))),Lan n x0 x1 x2 x3 x4 x5 x6 x7 x8 x9 A B C D=some r→zM Try.prog (tn54 27) (TM.evF Try.prog (tn54) dOk (k+40)) dOk (k+40) (zc Try.prog (tn0 27) 27 16) 2 16 (n+m) { sl:=[(1,.l 1 0),(4,.v (.sc (.ptr 0 0))),(5,.v (.sc (.bool x0))),(18,.v (.sc (.d 22 (.list 3 (.int .i64)) x1))),(19,.v (.sc (I4 x2))),(20,.v (.sc (I4 x3))),(24,.v (.sc (.d 3 (.int .i64) x4))),(25,.v (.sc (I4 x5))),(26,.v (.sc (I4 x6)))],lo:=[(1,[.d 3 (.int .i64) (x7),.d 22 (.list 3 (.int .i64)) (x8),.d 3 (.int .i64) (x9)])],h:=[.box 73 [.d 3 (.int .i64) (A),.d 22 (.list 3 (.int .i64)) (B),.d 3 (.int .i64) (C),.g 1,.nil],.row 3 (.int .i64) (D)],n0:=0,w:=false }=some (xLan x0 x1 x2 x3 x4 x5 x6 x7 x8 x9 A B C D r):=by
 intro n
 induction n with
 | zero=>intro _ _ _ _ _ _ _ _ _ _ _ _ _ _ r h;cases h
 | succ n ih=>
  intro x0 x1 x2 x3 x4 x5 x6 x7 x8 x9 A B C D r
  rw [show n+1+m=n+m+1 by omega,zp,bLan,qLan]
  cases (decide (x6 < x5)) with
  | true=>
   cases (decide (0≤x6)) with
   | true=>
    cases (decide (x6 < (x4.length:Int))) with
    | true=>
     cases (decide (0≤List.getD x4 x6.toNat 0)) with
     | true=>
      cases (decide (List.getD x4 x6.toNat 0 < (D.length:Int))) with
      | true=>
       cases (decide ((List.getD x4 x6.toNat 0).toNat < List.length D)) with
       | true=>
        cases x0 with
        | true=>
         cases (decide (List.getD x4 x6.toNat 0 < (x7.length:Int))) with
         | true=>
          exact ih _ _ _ _ _ _ _ _ _ _ _ _ _ _ r
         | false=>
          intro h;cases h
        | false=>
         exact ih _ _ _ _ _ _ _ _ _ _ _ _ _ _ r
       | false=>
        intro h;cases h
      | false=>
       intro h;cases h
     | false=>
      intro h;cases h
    | false=>
     intro h;cases h
   | false=>
    intro h;cases h
  | false=>
   intro h;cases h;rfl
noncomputable def sLan:TellS:=fun S=>dCS 0 S fun y1 y2 y3=>dSt 1 y1 fun y5 l4=>dL 1 0 y5<|dSs 4 l4 fun y7 l6=>zi 0 0 y7<|dSs 5 l6 fun y9 l8=>Zm y9 fun x0=>dSs 18 l8 fun y11 l10=>dD 22 (.list 3 (.int .i64)) y11 fun x1=>dSI 19 .i64 l10 fun x2 l12=>dSI 20 .i64 l12 fun x3 l13=>dSs 24 l13 fun y15 l14=>dD 3 (.int .i64) y15 fun x4=>dSI 25 .i64 l14 fun x5 l16=>dSI 26 .i64 l16 fun x6 l17=>dE l17<|dLo 1 y2 fun y18 l19=>dC y18 fun y20 l21=>dD 3 (.int .i64) y20 fun x7=>dC l21 fun y22 l23=>dD 22 (.list 3 (.int .i64)) y22 fun x8=>dC l23 fun y24 l25=>dD 3 (.int .i64) y24 fun x9=>dE l25<|dE l19<|dHB 73 y3 fun y27 l26=>dC y27 fun y28 l29=>dD 3 (.int .i64) y28 fun A=>dC l29 fun y30 l31=>dD 22 (.list 3 (.int .i64)) y30 fun B=>dC l31 fun y32 l33=>dD 3 (.int .i64) y32 fun C=>dC l33 fun y34 l35=>dG 1 y34<|dC l35 fun y36 l37=>dNil y36<|dE l37<|dHR 3 (.int .i64) l26 fun D l38=>dE l38 <|  some [(ok (Lan FU x0 x1 x2 x3 x4 x5 x6 x7 x8 x9 A B C D),(.exit 2),{ sl:=[(1,.l 1 0),(4,.v (.sc (.ptr 0 0))),(5,.v (.sc (.bool ((val (Lan FU x0 x1 x2 x3 x4 x5 x6 x7 x8 x9 A B C D)).1)))),(18,.v (.sc (.d 22 (.list 3 (.int .i64)) x1))),(19,.v (.sc (I4 x2))),(20,.v (.sc (I4 x3)))],lo:=[(1,[.d 3 (.int .i64) (x7),.d 22 (.list 3 (.int .i64)) (x8),.d 3 (.int .i64) (x9)])],h:=[.box 73 [.d 3 (.int .i64) (A),.d 22 (.list 3 (.int .i64)) (B),.d 3 (.int .i64) (C),.g 1,.nil],.row 3 (.int .i64) ((val (Lan FU x0 x1 x2 x3 x4 x5 x6 x7 x8 x9 A B C D)).2:List Int)],n0:=0,w:=false })]
theorem wLan:zB Try.prog dOk base o54 t54 ((27,16),sLan):=by
 refine ⟨.loop (zc Try.prog (tn0 27) 27 16),2,by kernel_rfl,?_⟩
 intro S alts e S' h10 h2
 have h1:sLan S=some alts:=h10
 clear h10
 unfold sLan at h1
 repeat with_reducible first|replace h1:=yc h1;obtain ⟨_,_,_,rfl,h1⟩:=h1|(first|replace h1:=wB h1|replace h1:=zX h1|replace h1:=ye h1|replace h1:=wL h1|replace h1:=dCq h1|replace h1:=zG h1|replace h1:=zY h1);obtain ⟨_,_,rfl,h1⟩:=h1|(first|replace h1:=dLq h1|replace h1:=zr h1|replace h1:=dEq h1|replace h1:=dGq h1|replace h1:=dNilq h1);obtain ⟨rfl,h1⟩:=h1|(first|replace h1:=wV h1|replace h1:=dDq h1);obtain ⟨_,rfl,h1⟩:=h1
 cases h1
 obtain ⟨hc0,rfl,rfl⟩:=zt h2
 exact ⟨FU+40,(ze rfl).trans (lLan FU 40 FU _ _ _ _ _ _ _ _ _ _ _ _ _ _ _ (zf hc0))⟩
noncomputable def o55:OrcT:=o54
noncomputable def t55:TellT:=((27,16),sLan)::t54
noncomputable abbrev tn55:FuncId→TAn:=zh base o55 t55
theorem ok55:TnOk Try.prog tn55 (mkA base) dOk:=by
 have h0:TnOk Try.prog (tn54) (mkA base) dOk:=ok54
 have h1:=zD h0 h0 (p:=((27,16),sLan)) wLan
 exact h1
noncomputable def Lag:Nat→Bool→(List (List Int))→Int→Int→(List Int)→(List (List Int))→(List Int)→(List Int)→(List (List Int))→(List Int)→(List Int)→Option (Bool×(List Int))
 | 0,_,_,_,_,_,_,_,_,_,_,_=>none
 | n+1,x0,x1,x2,x3,x4,x5,x6,x7,x8,x9,A=>(cond (decide (x3 < x2)) (cond (decide (0≤x3)) (cond (decide (x3 < (x1.length:Int))) (cond (ok (Lan FU x0 x1 x2 x3 (List.getD x1 x3.toNat []) (↑(List.length (List.getD x1 x3.toNat [])):Int) 0 x4 x5 x6 x7 x8 x9 A)) (Lag n (val (Lan FU x0 x1 x2 x3 (List.getD x1 x3.toNat []) (↑(List.length (List.getD x1 x3.toNat [])):Int) 0 x4 x5 x6 x7 x8 x9 A)).1 x1 x2 (IntKind.wrap IntKind.i64 (x3+(1:Int))) x4 x5 x6 x7 x8 x9 (val (Lan FU x0 x1 x2 x3 (List.getD x1 x3.toNat []) (↑(List.length (List.getD x1 x3.toNat [])):Int) 0 x4 x5 x6 x7 x8 x9 A)).2) none) none) none) (some (x0,A)))
theorem qLag:type_of% @Lag.eq_2:=@Lag.eq_2
noncomputable def xLag (x0:Bool) (x1:(List (List Int))) (x2 x3:Int) (x4:(List Int)) (x5:(List (List Int))) (x6:(List Int)) (x7:(List Int)) (x8:(List (List Int))) (x9:(List Int)) (A:(List Int)):(Bool×(List Int))→Ex×CS:=fun r=>((.exit 0),{ sl:=[(1,.l 1 0),(4,.v (.sc (.ptr 0 0))),(5,.v (.sc (.bool (r.1))))],lo:=[],h:=[.box 73 [.d 3 (.int .i64) (x7),.d 22 (.list 3 (.int .i64)) (x8),.d 3 (.int .i64) (x9),.g 1,.nil],.row 3 (.int .i64) (r.2:List Int)],n0:=0,w:=false })
theorem bLag (k:Nat) (cN:CS→Option (Ex×CS)) (cX:Ex→CS→Option (Ex×CS)) (x0:Bool) (x1:(List (List Int))) (x2 x3:Int) (x4:(List Int)) (x5:(List (List Int))) (x6:(List Int)) (x7:(List Int)) (x8:(List (List Int))) (x9:(List Int)) (A:(List Int)):zq Try.prog (tn55 27) (TM.evF Try.prog (tn55) dOk (k+40)) dOk (k+40) (zc Try.prog (tn0 27) 27 0) 0 0 { sl:=[(1,.l 1 0),(4,.v (.sc (.ptr 0 0))),(5,.v (.sc (.bool x0))),(18,.v (.sc (.d 22 (.list 3 (.int .i64)) x1))),(19,.v (.sc (I4 x2))),(20,.v (.sc (I4 x3)))],lo:=[(1,[.d 3 (.int .i64) (x4),.d 22 (.list 3 (.int .i64)) (x5),.d 3 (.int .i64) (x6)])],h:=[.box 73 [.d 3 (.int .i64) (x7),.d 22 (.list 3 (.int .i64)) (x8),.d 3 (.int .i64) (x9),.g 1,.nil],.row 3 (.int .i64) (A)],n0:=0,w:=false } cN cX=(cond (decide (x3 < x2)) (cond (decide (0≤x3)) (cond (decide (x3 < (x1.length:Int))) (cond (ok (Lan FU x0 x1 x2 x3 (List.getD x1 x3.toNat []) (↑(List.length (List.getD x1 x3.toNat [])):Int) 0 x4 x5 x6 x7 x8 x9 A)) (cN { sl:=[(1,.l 1 0),(4,.v (.sc (.ptr 0 0))),(5,.v (.sc (.bool (val (Lan FU x0 x1 x2 x3 (List.getD x1 x3.toNat []) (↑(List.length (List.getD x1 x3.toNat [])):Int) 0 x4 x5 x6 x7 x8 x9 A)).1))),(18,.v (.sc (.d 22 (.list 3 (.int .i64)) x1))),(19,.v (.sc (I4 x2))),(20,.v (.sc (I4 (IntKind.wrap IntKind.i64 (x3+(1:Int))))))],lo:=[(1,[.d 3 (.int .i64) (x4),.d 22 (.list 3 (.int .i64)) (x5),.d 3 (.int .i64) (x6)])],h:=[.box 73 [.d 3 (.int .i64) (x7),.d 22 (.list 3 (.int .i64)) (x8),.d 3 (.int .i64) (x9),.g 1,.nil],.row 3 (.int .i64) ((val (Lan FU x0 x1 x2 x3 (List.getD x1 x3.toNat []) (↑(List.length (List.getD x1 x3.toNat [])):Int) 0 x4 x5 x6 x7 x8 x9 A)).2:List Int)],n0:=0,w:=false }) none) none) none) (cX (.exit 0) { sl:=[(1,.l 1 0),(4,.v (.sc (.ptr 0 0))),(5,.v (.sc (.bool x0)))],lo:=[],h:=[.box 73 [.d 3 (.int .i64) (x7),.d 22 (.list 3 (.int .i64)) (x8),.d 3 (.int .i64) (x9),.g 1,.nil],.row 3 (.int .i64) (A)],n0:=0,w:=false })):=by kernel_rfl
theorem lLag (k m:Nat):∀ (n:Nat) (x0:Bool) (x1:(List (List Int))) (x2 x3:Int) (x4:(List Int)) (x5:(List (List Int))) (x6:(List Int)) (x7:(List Int)) (x8:(List (List Int))) (x9:(List Int)) (A:(List Int)) (r:(Bool×(List Int))),Lag n x0 x1 x2 x3 x4 x5 x6 x7 x8 x9 A=some r→zM Try.prog (tn55 27) (TM.evF Try.prog (tn55) dOk (k+40)) dOk (k+40) (zc Try.prog (tn0 27) 27 0) 0 0 (n+m) { sl:=[(1,.l 1 0),(4,.v (.sc (.ptr 0 0))),(5,.v (.sc (.bool x0))),(18,.v (.sc (.d 22 (.list 3 (.int .i64)) x1))),(19,.v (.sc (I4 x2))),(20,.v (.sc (I4 x3)))],lo:=[(1,[.d 3 (.int .i64) (x4),.d 22 (.list 3 (.int .i64)) (x5),.d 3 (.int .i64) (x6)])],h:=[.box 73 [.d 3 (.int .i64) (x7),.d 22 (.list 3 (.int .i64)) (x8),.d 3 (.int .i64) (x9),.g 1,.nil],.row 3 (.int .i64) (A)],n0:=0,w:=false }=some (xLag x0 x1 x2 x3 x4 x5 x6 x7 x8 x9 A r):=by
 intro n
 induction n with
 | zero=>intro _ _ _ _ _ _ _ _ _ _ _ r h;cases h
 | succ n ih=>
  intro x0 x1 x2 x3 x4 x5 x6 x7 x8 x9 A r
  rw [show n+1+m=n+m+1 by omega,zp,bLag,qLag]
  refine zb ?_ ?_
  refine zb ?_ ?_
  refine zb ?_ ?_
  refine zb ?_ ?_
  exact ih _ _ _ _ _ _ _ _ _ _ _ r
  intro h;cases h
  intro h;cases h
  intro h;cases h
  intro h;cases h;rfl
noncomputable def sLag:TellS:=fun S=>dCS 0 S fun y1 y2 y3=>dSt 1 y1 fun y5 l4=>dL 1 0 y5<|dSs 4 l4 fun y7 l6=>zi 0 0 y7<|dSs 5 l6 fun y9 l8=>Zm y9 fun x0=>dSs 18 l8 fun y11 l10=>dD 22 (.list 3 (.int .i64)) y11 fun x1=>dSI 19 .i64 l10 fun x2 l12=>dSI 20 .i64 l12 fun x3 l13=>dE l13<|dLo 1 y2 fun y14 l15=>dC y14 fun y16 l17=>dD 3 (.int .i64) y16 fun x4=>dC l17 fun y18 l19=>dD 22 (.list 3 (.int .i64)) y18 fun x5=>dC l19 fun y20 l21=>dD 3 (.int .i64) y20 fun x6=>dE l21<|dE l15<|dHB 73 y3 fun y23 l22=>dC y23 fun y24 l25=>dD 3 (.int .i64) y24 fun x7=>dC l25 fun y26 l27=>dD 22 (.list 3 (.int .i64)) y26 fun x8=>dC l27 fun y28 l29=>dD 3 (.int .i64) y28 fun x9=>dC l29 fun y30 l31=>dG 1 y30<|dC l31 fun y32 l33=>dNil y32<|dE l33<|dHR 3 (.int .i64) l22 fun A l34=>dE l34 <|  some [(ok (Lag FU x0 x1 x2 x3 x4 x5 x6 x7 x8 x9 A),(.exit 0),{ sl:=[(1,.l 1 0),(4,.v (.sc (.ptr 0 0))),(5,.v (.sc (.bool ((val (Lag FU x0 x1 x2 x3 x4 x5 x6 x7 x8 x9 A)).1))))],lo:=[],h:=[.box 73 [.d 3 (.int .i64) (x7),.d 22 (.list 3 (.int .i64)) (x8),.d 3 (.int .i64) (x9),.g 1,.nil],.row 3 (.int .i64) ((val (Lag FU x0 x1 x2 x3 x4 x5 x6 x7 x8 x9 A)).2:List Int)],n0:=0,w:=false })]
theorem wLag:zB Try.prog dOk base o55 t55 ((27,0),sLag):=by
 refine ⟨.loop (zc Try.prog (tn0 27) 27 0),0,by kernel_rfl,?_⟩
 intro S alts e S' h10 h2
 have h1:sLag S=some alts:=h10
 clear h10
 unfold sLag at h1
 repeat with_reducible first|replace h1:=yc h1;obtain ⟨_,_,_,rfl,h1⟩:=h1|(first|replace h1:=wB h1|replace h1:=zX h1|replace h1:=ye h1|replace h1:=wL h1|replace h1:=dCq h1|replace h1:=zG h1|replace h1:=zY h1);obtain ⟨_,_,rfl,h1⟩:=h1|(first|replace h1:=dLq h1|replace h1:=zr h1|replace h1:=dEq h1|replace h1:=dGq h1|replace h1:=dNilq h1);obtain ⟨rfl,h1⟩:=h1|(first|replace h1:=wV h1|replace h1:=dDq h1);obtain ⟨_,rfl,h1⟩:=h1
 cases h1
 obtain ⟨hc0,rfl,rfl⟩:=zt h2
 exact ⟨FU+40,(ze rfl).trans (lLag FU 40 FU _ _ _ _ _ _ _ _ _ _ _ _ (zf hc0))⟩
noncomputable def o56:OrcT:=o55
noncomputable def t56:TellT:=((27,0),sLag)::t55
noncomputable abbrev tn56:FuncId→TAn:=zh base o56 t56
theorem ok56:TnOk Try.prog tn56 (mkA base) dOk:=by
 have h0:TnOk Try.prog (tn55) (mkA base) dOk:=ok55
 have h1:=zD h0 h0 (p:=((27,0),sLag)) wLag
 exact h1
noncomputable def v71 (x0:Int) (x1:(List Int)) (x2:(List (List Int))) (x3:(List Int)) (x4:(List Int)) (x5:(List Int)):Option Int:=(cond (decide (0≤x0)) (cond (decide (x0 < (x4.length:Int))) (cond (decide (x0.toNat < List.length x4)) (some (List.getD x4 x0.toNat 0)) none) none) none)
theorem ev71 (x0:Int) (x1:(List Int)) (x2:(List (List Int))) (x3:(List Int)) (x4:(List Int)) (x5:(List Int)):zo Try.prog (tn56 71) (TM.evF Try.prog (tn56) dOk 40) dOk 40 71 [.sc (I4 x0),.sc (.ptr 0 0)] [.box 54 [.ptr 1 0],.box 73 [.d 3 (.int .i64) (x1),.d 22 (.list 3 (.int .i64)) (x2),.d 3 (.int .i64) (x3),.g 2,.g 3],.row 3 (.int .i64) (x4),.row 3 (.int .i64) (x5)]=(v71 x0 x1 x2 x3 x4 x5).bind fun r=>some ([.sc (I4 (r))],[.box 54 [.ptr 1 0],.box 73 [.d 3 (.int .i64) (x1),.d 22 (.list 3 (.int .i64)) (x2),.d 3 (.int .i64) (x3),.g 2,.g 3],.row 3 (.int .i64) (x4),.row 3 (.int .i64) (x5)]):=by
 refine Eq.trans (b:=(cond (decide (0≤x0)) (cond (decide (x0 < (x4.length:Int))) (cond (decide (x0.toNat < List.length x4)) (some ([.sc (I4 (List.getD x4 x0.toNat 0))],[.box 54 [.ptr 1 0],.box 73 [.d 3 (.int .i64) (x1),.d 22 (.list 3 (.int .i64)) (x2),.d 3 (.int .i64) (x3),.g 2,.g 3],.row 3 (.int .i64) (x4),.row 3 (.int .i64) (x5)])) none) none) none)) (by kernel_rfl) ?_
 unfold v71
 refine za ?_ ?_
 refine za ?_ ?_
 refine za ?_ ?_
 rfl
 rfl
 rfl
 rfl
noncomputable def sv71:OrcS:=fun al H=>dC al fun y1 l2=>dS y1 fun y3=>xd .i64 y3 fun x0=>dC l2 fun y4 l5=>dS y4 fun y6=>zi 0 0 y6<|dE l5<|dHB 54 H fun y8 l7=>dC y8 fun y9 l10=>zi 1 0 y9<|dE l10<|dHB 73 l7 fun y12 l11=>dC y12 fun y13 l14=>dD 3 (.int .i64) y13 fun x1=>dC l14 fun y15 l16=>dD 22 (.list 3 (.int .i64)) y15 fun x2=>dC l16 fun y17 l18=>dD 3 (.int .i64) y17 fun x3=>dC l18 fun y19 l20=>dG 2 y19<|dC l20 fun y21 l22=>dG 3 y21<|dE l22<|dHR 3 (.int .i64) l11 fun x4 l23=>dHR 3 (.int .i64) l23 fun x5 l24=>dE l24 <|  some [(ok (v71 x0 x1 x2 x3 x4 x5),[.sc (I4 ((val (v71 x0 x1 x2 x3 x4 x5))))],[.box 54 [.ptr 1 0],.box 73 [.d 3 (.int .i64) (x1),.d 22 (.list 3 (.int .i64)) (x2),.d 3 (.int .i64) (x3),.g 2,.g 3],.row 3 (.int .i64) (x4),.row 3 (.int .i64) (x5)])]
theorem wv71:zm Try.prog dOk base o56 t56 (71,sv71):=by
 intro al H q hq0 rs H2 h2
 have hq:sv71 al H=some q:=hq0
 clear hq0
 unfold sv71 at hq
 repeat with_reducible first|(first|replace hq:=dCq hq|replace hq:=zG hq|replace hq:=zY hq);obtain ⟨_,_,rfl,hq⟩:=hq|(first|replace hq:=dSq hq|replace hq:=xu hq|replace hq:=dDq hq);obtain ⟨_,rfl,hq⟩:=hq|(first|replace hq:=zr hq|replace hq:=dEq hq|replace hq:=dGq hq);obtain ⟨rfl,hq⟩:=hq
 cases hq
 obtain ⟨hc0,rfl,rfl⟩:=zg h2
 exact ⟨41,(zu (by kernel_rfl)).trans ((ev71 _ _ _ _ _ _).trans (zl (zf hc0)))⟩
noncomputable def o57:OrcT:=(71,sv71)::o56
noncomputable def t57:TellT:=t56
noncomputable abbrev tn57:FuncId→TAn:=zh base o57 t57
theorem ok57:TnOk Try.prog tn57 (mkA base) dOk:=by
 have h0:TnOk Try.prog (tn56) (mkA base) dOk:=ok56
 have h1:=zn h0 h0 (p:=(71,sv71)) wv71
 exact h1
noncomputable def LaM:Nat→Int→(List Int)→Int→Int→(List Int)→(List (List Int))→(List Int)→(List Int)→(List Int)→Option Int
 | 0,_,_,_,_,_,_,_,_,_=>none
 | n+1,x0,x1,x2,x3,x4,x5,x6,x7,x8=>(cond (decide (x3 < x2)) (cond (decide (0≤x3)) (cond (decide (x3 < (x1.length:Int))) (cond (ok (v71 (List.getD x1 x3.toNat 0) x4 x5 x6 x7 x8)) (LaM n (IntKind.wrap IntKind.i64 (x0+val (v71 (List.getD x1 x3.toNat 0) x4 x5 x6 x7 x8))) x1 x2 (IntKind.wrap IntKind.i64 (x3+(1:Int))) x4 x5 x6 x7 x8) none) none) none) (some x0))
theorem qLaM:type_of% @LaM.eq_2:=@LaM.eq_2
noncomputable def xLaM (x0:Int) (x1:(List Int)) (x2 x3:Int) (x4:(List Int)) (x5:(List (List Int))) (x6:(List Int)) (x7:(List Int)) (x8:(List Int)):Int→Ex×CS:=fun r=>((.exit 0),{ sl:=[(5,.v (.sc (I4 (r))))],lo:=[],h:=[.box 54 [.ptr 1 0],.box 73 [.d 3 (.int .i64) (x4),.d 22 (.list 3 (.int .i64)) (x5),.d 3 (.int .i64) (x6),.g 2,.g 3],.row 3 (.int .i64) (x7),.row 3 (.int .i64) (x8)],n0:=4,w:=false })
theorem bLaM (k:Nat) (cN:CS→Option (Ex×CS)) (cX:Ex→CS→Option (Ex×CS)) (x0:Int) (x1:(List Int)) (x2 x3:Int) (x4:(List Int)) (x5:(List (List Int))) (x6:(List Int)) (x7:(List Int)) (x8:(List Int)):zq Try.prog (tn57 70) (TM.evF Try.prog (tn57) dOk (k+40)) dOk (k+40) (zc Try.prog (tn0 70) 70 0) 0 0 { sl:=[(1,.v (.sc (.fn 71 0 [none] [.ptr 0 0]))),(5,.v (.sc (I4 x0))),(8,.v (.sc (.d 3 (.int .i64) x1))),(9,.v (.sc (I4 x2))),(10,.v (.sc (I4 x3)))],lo:=[],h:=[.box 54 [.ptr 1 0],.box 73 [.d 3 (.int .i64) (x4),.d 22 (.list 3 (.int .i64)) (x5),.d 3 (.int .i64) (x6),.g 2,.g 3],.row 3 (.int .i64) (x7),.row 3 (.int .i64) (x8)],n0:=4,w:=false } cN cX=(cond (decide (x3 < x2)) (cond (decide (0≤x3)) (cond (decide (x3 < (x1.length:Int))) (cond (ok (v71 (List.getD x1 x3.toNat 0) x4 x5 x6 x7 x8)) (cN { sl:=[(1,.v (.sc (.fn 71 0 [none] [.ptr 0 0]))),(5,.v (.sc (I4 (IntKind.wrap IntKind.i64 (x0+val (v71 (List.getD x1 x3.toNat 0) x4 x5 x6 x7 x8)))))),(8,.v (.sc (.d 3 (.int .i64) x1))),(9,.v (.sc (I4 x2))),(10,.v (.sc (I4 (IntKind.wrap IntKind.i64 (x3+(1:Int))))))],lo:=[],h:=[.box 54 [.ptr 1 0],.box 73 [.d 3 (.int .i64) (x4),.d 22 (.list 3 (.int .i64)) (x5),.d 3 (.int .i64) (x6),.g 2,.g 3],.row 3 (.int .i64) (x7),.row 3 (.int .i64) (x8)],n0:=4,w:=false }) none) none) none) (cX (.exit 0) { sl:=[(5,.v (.sc (I4 x0)))],lo:=[],h:=[.box 54 [.ptr 1 0],.box 73 [.d 3 (.int .i64) (x4),.d 22 (.list 3 (.int .i64)) (x5),.d 3 (.int .i64) (x6),.g 2,.g 3],.row 3 (.int .i64) (x7),.row 3 (.int .i64) (x8)],n0:=4,w:=false })):=by kernel_rfl
theorem lLaM (k m:Nat):∀ (n:Nat) (x0:Int) (x1:(List Int)) (x2 x3:Int) (x4:(List Int)) (x5:(List (List Int))) (x6:(List Int)) (x7:(List Int)) (x8:(List Int)) (r:Int),LaM n x0 x1 x2 x3 x4 x5 x6 x7 x8=some r→zM Try.prog (tn57 70) (TM.evF Try.prog (tn57) dOk (k+40)) dOk (k+40) (zc Try.prog (tn0 70) 70 0) 0 0 (n+m) { sl:=[(1,.v (.sc (.fn 71 0 [none] [.ptr 0 0]))),(5,.v (.sc (I4 x0))),(8,.v (.sc (.d 3 (.int .i64) x1))),(9,.v (.sc (I4 x2))),(10,.v (.sc (I4 x3)))],lo:=[],h:=[.box 54 [.ptr 1 0],.box 73 [.d 3 (.int .i64) (x4),.d 22 (.list 3 (.int .i64)) (x5),.d 3 (.int .i64) (x6),.g 2,.g 3],.row 3 (.int .i64) (x7),.row 3 (.int .i64) (x8)],n0:=4,w:=false }=some (xLaM x0 x1 x2 x3 x4 x5 x6 x7 x8 r):=by
 intro n
 induction n with
 | zero=>intro _ _ _ _ _ _ _ _ _ r h;cases h
 | succ n ih=>
  intro x0 x1 x2 x3 x4 x5 x6 x7 x8 r
  rw [show n+1+m=n+m+1 by omega,zp,bLaM,qLaM]
  refine zb ?_ ?_
  refine zb ?_ ?_
  refine zb ?_ ?_
  refine zb ?_ ?_
  exact ih _ _ _ _ _ _ _ _ _ r
  intro h;cases h
  intro h;cases h
  intro h;cases h
  intro h;cases h;rfl
noncomputable def sLaM:TellS:=fun S=>dCS 4 S fun y1 y2 y3=>dSs 1 y1 fun y5 l4=>dFn 71 0 [none] y5 fun y6=>dC y6 fun y7 l8=>zi 0 0 y7<|dE l8<|dSI 5 .i64 l4 fun x0 l9=>dSs 8 l9 fun y11 l10=>dD 3 (.int .i64) y11 fun x1=>dSI 9 .i64 l10 fun x2 l12=>dSI 10 .i64 l12 fun x3 l13=>dE l13<|dE y2<|dHB 54 y3 fun y15 l14=>dC y15 fun y16 l17=>zi 1 0 y16<|dE l17<|dHB 73 l14 fun y19 l18=>dC y19 fun y20 l21=>dD 3 (.int .i64) y20 fun x4=>dC l21 fun y22 l23=>dD 22 (.list 3 (.int .i64)) y22 fun x5=>dC l23 fun y24 l25=>dD 3 (.int .i64) y24 fun x6=>dC l25 fun y26 l27=>dG 2 y26<|dC l27 fun y28 l29=>dG 3 y28<|dE l29<|dHR 3 (.int .i64) l18 fun x7 l30=>dHR 3 (.int .i64) l30 fun x8 l31=>dE l31 <|  some [(ok (LaM FU x0 x1 x2 x3 x4 x5 x6 x7 x8),(.exit 0),{ sl:=[(5,.v (.sc (I4 ((val (LaM FU x0 x1 x2 x3 x4 x5 x6 x7 x8))))))],lo:=[],h:=[.box 54 [.ptr 1 0],.box 73 [.d 3 (.int .i64) (x4),.d 22 (.list 3 (.int .i64)) (x5),.d 3 (.int .i64) (x6),.g 2,.g 3],.row 3 (.int .i64) (x7),.row 3 (.int .i64) (x8)],n0:=4,w:=false })]
theorem wLaM:zB Try.prog dOk base o57 t57 ((70,0),sLaM):=by
 refine ⟨.loop (zc Try.prog (tn0 70) 70 0),0,by kernel_rfl,?_⟩
 intro S alts e S' h10 h2
 have h1:sLaM S=some alts:=h10
 clear h10
 unfold sLaM at h1
 repeat with_reducible first|replace h1:=yc h1;obtain ⟨_,_,_,rfl,h1⟩:=h1|(first|replace h1:=zX h1|replace h1:=dCq h1|replace h1:=ye h1|replace h1:=zG h1|replace h1:=zY h1);obtain ⟨_,_,rfl,h1⟩:=h1|(first|replace h1:=yo h1|replace h1:=dDq h1);obtain ⟨_,rfl,h1⟩:=h1|(first|replace h1:=zr h1|replace h1:=dEq h1|replace h1:=dGq h1);obtain ⟨rfl,h1⟩:=h1
 cases h1
 obtain ⟨hc0,rfl,rfl⟩:=zt h2
 exact ⟨FU+40,(ze rfl).trans (lLaM FU 40 FU _ _ _ _ _ _ _ _ _ _ (zf hc0))⟩
noncomputable def o58:OrcT:=o57
noncomputable def t58:TellT:=((70,0),sLaM)::t57
noncomputable abbrev tn58:FuncId→TAn:=zh base o58 t58
theorem ok58:TnOk Try.prog tn58 (mkA base) dOk:=by
 have h0:TnOk Try.prog (tn57) (mkA base) dOk:=ok57
 have h1:=zD h0 h0 (p:=((70,0),sLaM)) wLaM
 exact h1
noncomputable def v70 (x0:(List Int)) (x1:(List Int)) (x2:(List (List Int))) (x3:(List Int)) (x4:(List Int)) (x5:(List Int)):Option Int:=(cond (ok (LaM FU 0 x0 (x0.length:Int) 0 x1 x2 x3 x4 x5)) (some (val (LaM FU 0 x0 (x0.length:Int) 0 x1 x2 x3 x4 x5))) none)
theorem ev70 (x0:(List Int)) (x1:(List Int)) (x2:(List (List Int))) (x3:(List Int)) (x4:(List Int)) (x5:(List Int)):zo Try.prog (tn58 70) (TM.evF Try.prog (tn58) dOk 40) dOk 40 70 [.sc (.d 3 (.int .i64) x0),.sc (.fn 71 0 [none] [.ptr 0 0])] [.box 54 [.ptr 1 0],.box 73 [.d 3 (.int .i64) (x1),.d 22 (.list 3 (.int .i64)) (x2),.d 3 (.int .i64) (x3),.g 2,.g 3],.row 3 (.int .i64) (x4),.row 3 (.int .i64) (x5)]=(v70 x0 x1 x2 x3 x4 x5).bind fun r=>some ([.sc (I4 (r))],[.box 54 [.ptr 1 0],.box 73 [.d 3 (.int .i64) (x1),.d 22 (.list 3 (.int .i64)) (x2),.d 3 (.int .i64) (x3),.g 2,.g 3],.row 3 (.int .i64) (x4),.row 3 (.int .i64) (x5)]):=by
 refine Eq.trans (b:=(cond (ok (LaM FU 0 x0 (x0.length:Int) 0 x1 x2 x3 x4 x5)) (some ([.sc (I4 (val (LaM FU 0 x0 (x0.length:Int) 0 x1 x2 x3 x4 x5)))],[.box 54 [.ptr 1 0],.box 73 [.d 3 (.int .i64) (x1),.d 22 (.list 3 (.int .i64)) (x2),.d 3 (.int .i64) (x3),.g 2,.g 3],.row 3 (.int .i64) (x4),.row 3 (.int .i64) (x5)])) none)) (by kernel_rfl) ?_
 unfold v70
 refine za ?_ ?_
 rfl
 rfl
noncomputable def sv70:OrcS:=fun al H=>dC al fun y1 l2=>dS y1 fun y3=>dD 3 (.int .i64) y3 fun x0=>dC l2 fun y4 l5=>dS y4 fun y6=>dFn 71 0 [none] y6 fun y7=>dC y7 fun y8 l9=>zi 0 0 y8<|dE l9<|dE l5<|dHB 54 H fun y11 l10=>dC y11 fun y12 l13=>zi 1 0 y12<|dE l13<|dHB 73 l10 fun y15 l14=>dC y15 fun y16 l17=>dD 3 (.int .i64) y16 fun x1=>dC l17 fun y18 l19=>dD 22 (.list 3 (.int .i64)) y18 fun x2=>dC l19 fun y20 l21=>dD 3 (.int .i64) y20 fun x3=>dC l21 fun y22 l23=>dG 2 y22<|dC l23 fun y24 l25=>dG 3 y24<|dE l25<|dHR 3 (.int .i64) l14 fun x4 l26=>dHR 3 (.int .i64) l26 fun x5 l27=>dE l27 <|  some [(ok (v70 x0 x1 x2 x3 x4 x5),[.sc (I4 ((val (v70 x0 x1 x2 x3 x4 x5))))],[.box 54 [.ptr 1 0],.box 73 [.d 3 (.int .i64) (x1),.d 22 (.list 3 (.int .i64)) (x2),.d 3 (.int .i64) (x3),.g 2,.g 3],.row 3 (.int .i64) (x4),.row 3 (.int .i64) (x5)])]
theorem wv70:zm Try.prog dOk base o58 t58 (70,sv70):=by
 intro al H q hq0 rs H2 h2
 have hq:sv70 al H=some q:=hq0
 clear hq0
 unfold sv70 at hq
 repeat with_reducible first|(first|replace hq:=dCq hq|replace hq:=zG hq|replace hq:=zY hq);obtain ⟨_,_,rfl,hq⟩:=hq|(first|replace hq:=dSq hq|replace hq:=dDq hq|replace hq:=yo hq);obtain ⟨_,rfl,hq⟩:=hq|(first|replace hq:=zr hq|replace hq:=dEq hq|replace hq:=dGq hq);obtain ⟨rfl,hq⟩:=hq
 cases hq
 obtain ⟨hc0,rfl,rfl⟩:=zg h2
 exact ⟨41,(zu (by kernel_rfl)).trans ((ev70 _ _ _ _ _ _).trans (zl (zf hc0)))⟩
noncomputable def o59:OrcT:=(70,sv70)::o58
noncomputable def t59:TellT:=t58
noncomputable abbrev tn59:FuncId→TAn:=zh base o59 t59
theorem ok59:TnOk Try.prog tn59 (mkA base) dOk:=by
 have h0:TnOk Try.prog (tn58) (mkA base) dOk:=ok58
 have h1:=zn h0 h0 (p:=(70,sv70)) wv70
 exact h1
noncomputable def v52 (x0:(List Int)) (x1:(List Int)) (x2:(List (List Int))) (x3:(List Int)) (x4:(List Int)) (x5:(List Int)):Option Int:=(cond (ok (v70 x0 x1 x2 x3 x4 x5)) (some (val (v70 x0 x1 x2 x3 x4 x5))) none)
theorem ev52 (x0:(List Int)) (x1:(List Int)) (x2:(List (List Int))) (x3:(List Int)) (x4:(List Int)) (x5:(List Int)):zo Try.prog (tn59 52) (TM.evF Try.prog (tn59) dOk 40) dOk 40 52 [.sc (.ptr 0 0),.sc (.d 3 (.int .i64) x0)] [.box 73 [.d 3 (.int .i64) (x1),.d 22 (.list 3 (.int .i64)) (x2),.d 3 (.int .i64) (x3),.g 1,.g 2],.row 3 (.int .i64) (x4),.row 3 (.int .i64) (x5)]=(v52 x0 x1 x2 x3 x4 x5).bind fun r=>some ([.sc (I4 (r))],[.box 73 [.d 3 (.int .i64) (x1),.d 22 (.list 3 (.int .i64)) (x2),.d 3 (.int .i64) (x3),.g 1,.g 2],.row 3 (.int .i64) (x4),.row 3 (.int .i64) (x5)]):=by
 refine Eq.trans (b:=(cond (ok (v70 x0 x1 x2 x3 x4 x5)) (some ([.sc (I4 (val (v70 x0 x1 x2 x3 x4 x5)))],[.box 73 [.d 3 (.int .i64) (x1),.d 22 (.list 3 (.int .i64)) (x2),.d 3 (.int .i64) (x3),.g 1,.g 2],.row 3 (.int .i64) (x4),.row 3 (.int .i64) (x5)])) none)) (by kernel_rfl) ?_
 unfold v52
 refine za ?_ ?_
 rfl
 rfl
noncomputable def sv52:OrcS:=fun al H=>dC al fun y1 l2=>dS y1 fun y3=>zi 0 0 y3<|dC l2 fun y4 l5=>dS y4 fun y6=>dD 3 (.int .i64) y6 fun x0=>dE l5<|dHB 73 H fun y8 l7=>dC y8 fun y9 l10=>dD 3 (.int .i64) y9 fun x1=>dC l10 fun y11 l12=>dD 22 (.list 3 (.int .i64)) y11 fun x2=>dC l12 fun y13 l14=>dD 3 (.int .i64) y13 fun x3=>dC l14 fun y15 l16=>dG 1 y15<|dC l16 fun y17 l18=>dG 2 y17<|dE l18<|dHR 3 (.int .i64) l7 fun x4 l19=>dHR 3 (.int .i64) l19 fun x5 l20=>dE l20 <|  some [(ok (v52 x0 x1 x2 x3 x4 x5),[.sc (I4 ((val (v52 x0 x1 x2 x3 x4 x5))))],[.box 73 [.d 3 (.int .i64) (x1),.d 22 (.list 3 (.int .i64)) (x2),.d 3 (.int .i64) (x3),.g 1,.g 2],.row 3 (.int .i64) (x4),.row 3 (.int .i64) (x5)])]
theorem wv52:zm Try.prog dOk base o59 t59 (52,sv52):=by
 intro al H q hq0 rs H2 h2
 have hq:sv52 al H=some q:=hq0
 clear hq0
 unfold sv52 at hq
 repeat with_reducible first|(first|replace hq:=dCq hq|replace hq:=zG hq|replace hq:=zY hq);obtain ⟨_,_,rfl,hq⟩:=hq|(first|replace hq:=dSq hq|replace hq:=dDq hq);obtain ⟨_,rfl,hq⟩:=hq|(first|replace hq:=zr hq|replace hq:=dEq hq|replace hq:=dGq hq);obtain ⟨rfl,hq⟩:=hq
 cases hq
 obtain ⟨hc0,rfl,rfl⟩:=zg h2
 exact ⟨41,(zu (by kernel_rfl)).trans ((ev52 _ _ _ _ _ _).trans (zl (zf hc0)))⟩
noncomputable def o60:OrcT:=(52,sv52)::o59
noncomputable def t60:TellT:=t59
noncomputable abbrev tn60:FuncId→TAn:=zh base o60 t60
theorem ok60:TnOk Try.prog tn60 (mkA base) dOk:=by
 have h0:TnOk Try.prog (tn59) (mkA base) dOk:=ok59
 have h1:=zn h0 h0 (p:=(52,sv52)) wv52
 exact h1
noncomputable def LaB:Nat→Int→(List (List Int))→Int→Int→(List Int)→Int→Int→(List Int)→(List (List Int))→(List Int)→(List Int)→(List Int)→Option (List Int)
 | 0,_,_,_,_,_,_,_,_,_,_,_,_=>none
 | n+1,x0,x1,x2,x3,x4,x5,x6,x7,x8,x9,A,B=>(cond (decide (x6 < x5)) (cond (decide (0≤x6)) (cond (decide (x6 < (x4.length:Int))) (cond (decide (0≤List.getD x4 x6.toNat 0)) (cond (decide (List.getD x4 x6.toNat 0 < (B.length:Int))) (cond (decide ((List.getD x4 x6.toNat 0).toNat < List.length B)) (LaB n x0 x1 x2 x3 x4 x5 (IntKind.wrap IntKind.i64 (x6+(1:Int))) x7 x8 x9 A (List.set B (List.getD x4 x6.toNat 0).toNat (IntKind.wrap IntKind.i64 (List.getD B (List.getD x4 x6.toNat 0).toNat 0+x0)))) none) none) none) none) none) (some B))
theorem qLaB:type_of% @LaB.eq_2:=@LaB.eq_2
noncomputable def xLaB (x0:Int) (x1:(List (List Int))) (x2 x3:Int) (x4:(List Int)) (x5 x6:Int) (x7:(List Int)) (x8:(List (List Int))) (x9:(List Int)) (A:(List Int)) (B:(List Int)):(List Int)→Ex×CS:=fun r=>((.exit 2),{ sl:=[(0,.v (.sc (.ptr 0 0))),(20,.v (.sc (.d 22 (.list 3 (.int .i64)) x1))),(21,.v (.sc (I4 x2))),(22,.v (.sc (I4 x3)))],lo:=[],h:=[.box 73 [.d 3 (.int .i64) (x7),.d 22 (.list 3 (.int .i64)) (x8),.d 3 (.int .i64) (x9),.g 1,.g 2],.row 3 (.int .i64) (A),.row 3 (.int .i64) (r:List Int)],n0:=2,w:=false })
theorem bLaB (k:Nat) (cN:CS→Option (Ex×CS)) (cX:Ex→CS→Option (Ex×CS)) (x0:Int) (x1:(List (List Int))) (x2 x3:Int) (x4:(List Int)) (x5 x6:Int) (x7:(List Int)) (x8:(List (List Int))) (x9:(List Int)) (A:(List Int)) (B:(List Int)):zq Try.prog (tn60 48) (TM.evF Try.prog (tn60) dOk (k+40)) dOk (k+40) (zc Try.prog (tn0 48) 48 16) 2 16 { sl:=[(0,.v (.sc (.ptr 0 0))),(4,.v (.sc (I4 x0))),(20,.v (.sc (.d 22 (.list 3 (.int .i64)) x1))),(21,.v (.sc (I4 x2))),(22,.v (.sc (I4 x3))),(30,.v (.sc (.d 3 (.int .i64) x4))),(31,.v (.sc (I4 x5))),(32,.v (.sc (I4 x6)))],lo:=[],h:=[.box 73 [.d 3 (.int .i64) (x7),.d 22 (.list 3 (.int .i64)) (x8),.d 3 (.int .i64) (x9),.g 1,.g 2],.row 3 (.int .i64) (A),.row 3 (.int .i64) (B)],n0:=2,w:=false } cN cX=(cond (decide (x6 < x5)) (cond (decide (0≤x6)) (cond (decide (x6 < (x4.length:Int))) (cond (decide (0≤List.getD x4 x6.toNat 0)) (cond (decide (List.getD x4 x6.toNat 0 < (B.length:Int))) (cond (decide ((List.getD x4 x6.toNat 0).toNat < List.length B)) (cond (decide (0≤List.getD x4 x6.toNat 0)) (cond (decide (List.getD x4 x6.toNat 0 < (B.length:Int))) (cond (decide ((List.getD x4 x6.toNat 0).toNat < List.length B)) (cN { sl:=[(0,.v (.sc (.ptr 0 0))),(4,.v (.sc (I4 x0))),(20,.v (.sc (.d 22 (.list 3 (.int .i64)) x1))),(21,.v (.sc (I4 x2))),(22,.v (.sc (I4 x3))),(30,.v (.sc (.d 3 (.int .i64) x4))),(31,.v (.sc (I4 x5))),(32,.v (.sc (I4 (IntKind.wrap IntKind.i64 (x6+(1:Int))))))],lo:=[],h:=[.box 73 [.d 3 (.int .i64) (x7),.d 22 (.list 3 (.int .i64)) (x8),.d 3 (.int .i64) (x9),.g 1,.g 2],.row 3 (.int .i64) (A),.row 3 (.int .i64) (List.set B (List.getD x4 x6.toNat 0).toNat (IntKind.wrap IntKind.i64 (List.getD B (List.getD x4 x6.toNat 0).toNat 0+x0)):List Int)],n0:=2,w:=false }) none) none) none) none) none) none) none) none) (cX (.exit 2) { sl:=[(0,.v (.sc (.ptr 0 0))),(20,.v (.sc (.d 22 (.list 3 (.int .i64)) x1))),(21,.v (.sc (I4 x2))),(22,.v (.sc (I4 x3)))],lo:=[],h:=[.box 73 [.d 3 (.int .i64) (x7),.d 22 (.list 3 (.int .i64)) (x8),.d 3 (.int .i64) (x9),.g 1,.g 2],.row 3 (.int .i64) (A),.row 3 (.int .i64) (B)],n0:=2,w:=false })):=by kernel_rfl
theorem lLaB (k m:Nat):∀ (n:Nat) (x0:Int) (x1:(List (List Int))) (x2 x3:Int) (x4:(List Int)) (x5 x6:Int) (x7:(List Int)) (x8:(List (List Int))) (x9:(List Int)) (A:(List Int)) (B:(List Int)) (r:(List Int)),LaB n x0 x1 x2 x3 x4 x5 x6 x7 x8 x9 A B=some r→zM Try.prog (tn60 48) (TM.evF Try.prog (tn60) dOk (k+40)) dOk (k+40) (zc Try.prog (tn0 48) 48 16) 2 16 (n+m) { sl:=[(0,.v (.sc (.ptr 0 0))),(4,.v (.sc (I4 x0))),(20,.v (.sc (.d 22 (.list 3 (.int .i64)) x1))),(21,.v (.sc (I4 x2))),(22,.v (.sc (I4 x3))),(30,.v (.sc (.d 3 (.int .i64) x4))),(31,.v (.sc (I4 x5))),(32,.v (.sc (I4 x6)))],lo:=[],h:=[.box 73 [.d 3 (.int .i64) (x7),.d 22 (.list 3 (.int .i64)) (x8),.d 3 (.int .i64) (x9),.g 1,.g 2],.row 3 (.int .i64) (A),.row 3 (.int .i64) (B)],n0:=2,w:=false }=some (xLaB x0 x1 x2 x3 x4 x5 x6 x7 x8 x9 A B r):=by
 intro n
 induction n with
 | zero=>intro _ _ _ _ _ _ _ _ _ _ _ _ r h;cases h
 | succ n ih=>
  intro x0 x1 x2 x3 x4 x5 x6 x7 x8 x9 A B r
  rw [show n+1+m=n+m+1 by omega,zp,bLaB,qLaB]
  cases (decide (x6 < x5)) with
  | true=>
   cases (decide (0≤x6)) with
   | true=>
    cases (decide (x6 < (x4.length:Int))) with
    | true=>
     cases (decide (0≤List.getD x4 x6.toNat 0)) with
     | true=>
      cases (decide (List.getD x4 x6.toNat 0 < (B.length:Int))) with
      | true=>
       cases (decide ((List.getD x4 x6.toNat 0).toNat < List.length B)) with
       | true=>
        exact ih _ _ _ _ _ _ _ _ _ _ _ _ r
       | false=>
        intro h;cases h
      | false=>
       intro h;cases h
     | false=>
      intro h;cases h
    | false=>
     intro h;cases h
   | false=>
    intro h;cases h
  | false=>
   intro h;cases h;rfl
noncomputable def sLaB:TellS:=fun S=>dCS 2 S fun y1 y2 y3=>dSs 0 y1 fun y5 l4=>zi 0 0 y5<|dSI 4 .i64 l4 fun x0 l6=>dSs 20 l6 fun y8 l7=>dD 22 (.list 3 (.int .i64)) y8 fun x1=>dSI 21 .i64 l7 fun x2 l9=>dSI 22 .i64 l9 fun x3 l10=>dSs 30 l10 fun y12 l11=>dD 3 (.int .i64) y12 fun x4=>dSI 31 .i64 l11 fun x5 l13=>dSI 32 .i64 l13 fun x6 l14=>dE l14<|dE y2<|dHB 73 y3 fun y16 l15=>dC y16 fun y17 l18=>dD 3 (.int .i64) y17 fun x7=>dC l18 fun y19 l20=>dD 22 (.list 3 (.int .i64)) y19 fun x8=>dC l20 fun y21 l22=>dD 3 (.int .i64) y21 fun x9=>dC l22 fun y23 l24=>dG 1 y23<|dC l24 fun y25 l26=>dG 2 y25<|dE l26<|dHR 3 (.int .i64) l15 fun A l27=>dHR 3 (.int .i64) l27 fun B l28=>dE l28 <|  some [(ok (LaB FU x0 x1 x2 x3 x4 x5 x6 x7 x8 x9 A B),(.exit 2),{ sl:=[(0,.v (.sc (.ptr 0 0))),(20,.v (.sc (.d 22 (.list 3 (.int .i64)) x1))),(21,.v (.sc (I4 x2))),(22,.v (.sc (I4 x3)))],lo:=[],h:=[.box 73 [.d 3 (.int .i64) (x7),.d 22 (.list 3 (.int .i64)) (x8),.d 3 (.int .i64) (x9),.g 1,.g 2],.row 3 (.int .i64) (A),.row 3 (.int .i64) ((val (LaB FU x0 x1 x2 x3 x4 x5 x6 x7 x8 x9 A B)):List Int)],n0:=2,w:=false })]
theorem wLaB:zB Try.prog dOk base o60 t60 ((48,16),sLaB):=by
 refine ⟨.loop (zc Try.prog (tn0 48) 48 16),2,by kernel_rfl,?_⟩
 intro S alts e S' h10 h2
 have h1:sLaB S=some alts:=h10
 clear h10
 unfold sLaB at h1
 repeat with_reducible first|replace h1:=yc h1;obtain ⟨_,_,_,rfl,h1⟩:=h1|(first|replace h1:=zX h1|replace h1:=ye h1|replace h1:=zG h1|replace h1:=dCq h1|replace h1:=zY h1);obtain ⟨_,_,rfl,h1⟩:=h1|(first|replace h1:=zr h1|replace h1:=dEq h1|replace h1:=dGq h1);obtain ⟨rfl,h1⟩:=h1|replace h1:=dDq h1;obtain ⟨_,rfl,h1⟩:=h1
 cases h1
 obtain ⟨hc0,rfl,rfl⟩:=zt h2
 exact ⟨FU+40,(ze rfl).trans (lLaB FU 40 FU _ _ _ _ _ _ _ _ _ _ _ _ _ (zf hc0))⟩
noncomputable def o61:OrcT:=o60
noncomputable def t61:TellT:=((48,16),sLaB)::t60
noncomputable abbrev tn61:FuncId→TAn:=zh base o61 t61
theorem ok61:TnOk Try.prog tn61 (mkA base) dOk:=by
 have h0:TnOk Try.prog (tn60) (mkA base) dOk:=ok60
 have h1:=zD h0 h0 (p:=((48,16),sLaB)) wLaB
 exact h1
noncomputable def LaD:Nat→(List (List Int))→Int→Int→(List Int)→(List (List Int))→(List Int)→(List Int)→(List Int)→Option (List Int)
 | 0,_,_,_,_,_,_,_,_=>none
 | n+1,x0,x1,x2,x3,x4,x5,x6,x7=>(cond (decide (x2 < x1)) (cond (decide (0≤x2)) (cond (decide (x2 < (x0.length:Int))) (cond (ok (v52 (List.getD x0 x2.toNat []) x3 x4 x5 x6 x7)) (cond (decide (val (v52 (List.getD x0 x2.toNat []) x3 x4 x5 x6 x7)≠0)) (cond (ok (LaB FU (IntKind.wrap IntKind.i64 (Int.tdiv (1000000000:Int) (val (v52 (List.getD x0 x2.toNat []) x3 x4 x5 x6 x7)))) x0 x1 x2 (List.getD x0 x2.toNat []) (↑(List.length (List.getD x0 x2.toNat [])):Int) 0 x3 x4 x5 x6 x7)) (LaD n x0 x1 (IntKind.wrap IntKind.i64 (x2+(1:Int))) x3 x4 x5 x6 (val (LaB FU (IntKind.wrap IntKind.i64 (Int.tdiv (1000000000:Int) (val (v52 (List.getD x0 x2.toNat []) x3 x4 x5 x6 x7)))) x0 x1 x2 (List.getD x0 x2.toNat []) (↑(List.length (List.getD x0 x2.toNat [])):Int) 0 x3 x4 x5 x6 x7))) none) none) none) none) none) (some x7))
theorem qLaD:type_of% @LaD.eq_2:=@LaD.eq_2
noncomputable def xLaD (x0:(List (List Int))) (x1 x2:Int) (x3:(List Int)) (x4:(List (List Int))) (x5:(List Int)) (x6:(List Int)) (x7:(List Int)):(List Int)→Ex×CS:=fun r=>((.exit 0),{ sl:=[],lo:=[],h:=[.box 73 [.d 3 (.int .i64) (x3),.d 22 (.list 3 (.int .i64)) (x4),.d 3 (.int .i64) (x5),.g 1,.g 2],.row 3 (.int .i64) (x6),.row 3 (.int .i64) (r:List Int)],n0:=2,w:=false })
theorem bLaD (k:Nat) (cN:CS→Option (Ex×CS)) (cX:Ex→CS→Option (Ex×CS)) (x0:(List (List Int))) (x1 x2:Int) (x3:(List Int)) (x4:(List (List Int))) (x5:(List Int)) (x6:(List Int)) (x7:(List Int)):zq Try.prog (tn61 48) (TM.evF Try.prog (tn61) dOk (k+40)) dOk (k+40) (zc Try.prog (tn0 48) 48 0) 0 0 { sl:=[(0,.v (.sc (.ptr 0 0))),(20,.v (.sc (.d 22 (.list 3 (.int .i64)) x0))),(21,.v (.sc (I4 x1))),(22,.v (.sc (I4 x2)))],lo:=[],h:=[.box 73 [.d 3 (.int .i64) (x3),.d 22 (.list 3 (.int .i64)) (x4),.d 3 (.int .i64) (x5),.g 1,.g 2],.row 3 (.int .i64) (x6),.row 3 (.int .i64) (x7)],n0:=2,w:=false } cN cX=(cond (decide (x2 < x1)) (cond (decide (0≤x2)) (cond (decide (x2 < (x0.length:Int))) (cond (ok (v52 (List.getD x0 x2.toNat []) x3 x4 x5 x6 x7)) (cond (decide (val (v52 (List.getD x0 x2.toNat []) x3 x4 x5 x6 x7)≠0)) (cond (ok (LaB FU (IntKind.wrap IntKind.i64 (Int.tdiv (1000000000:Int) (val (v52 (List.getD x0 x2.toNat []) x3 x4 x5 x6 x7)))) x0 x1 x2 (List.getD x0 x2.toNat []) (↑(List.length (List.getD x0 x2.toNat [])):Int) 0 x3 x4 x5 x6 x7)) (cN { sl:=[(0,.v (.sc (.ptr 0 0))),(20,.v (.sc (.d 22 (.list 3 (.int .i64)) x0))),(21,.v (.sc (I4 x1))),(22,.v (.sc (I4 (IntKind.wrap IntKind.i64 (x2+(1:Int))))))],lo:=[],h:=[.box 73 [.d 3 (.int .i64) (x3),.d 22 (.list 3 (.int .i64)) (x4),.d 3 (.int .i64) (x5),.g 1,.g 2],.row 3 (.int .i64) (x6),.row 3 (.int .i64) (val (LaB FU (IntKind.wrap IntKind.i64 (Int.tdiv (1000000000:Int) (val (v52 (List.getD x0 x2.toNat []) x3 x4 x5 x6 x7)))) x0 x1 x2 (List.getD x0 x2.toNat []) (↑(List.length (List.getD x0 x2.toNat [])):Int) 0 x3 x4 x5 x6 x7):List Int)],n0:=2,w:=false }) none) none) none) none) none) (cX (.exit 0) { sl:=[],lo:=[],h:=[.box 73 [.d 3 (.int .i64) (x3),.d 22 (.list 3 (.int .i64)) (x4),.d 3 (.int .i64) (x5),.g 1,.g 2],.row 3 (.int .i64) (x6),.row 3 (.int .i64) (x7)],n0:=2,w:=false })):=by kernel_rfl
theorem lLaD (k m:Nat):∀ (n:Nat) (x0:(List (List Int))) (x1 x2:Int) (x3:(List Int)) (x4:(List (List Int))) (x5:(List Int)) (x6:(List Int)) (x7:(List Int)) (r:(List Int)),LaD n x0 x1 x2 x3 x4 x5 x6 x7=some r→zM Try.prog (tn61 48) (TM.evF Try.prog (tn61) dOk (k+40)) dOk (k+40) (zc Try.prog (tn0 48) 48 0) 0 0 (n+m) { sl:=[(0,.v (.sc (.ptr 0 0))),(20,.v (.sc (.d 22 (.list 3 (.int .i64)) x0))),(21,.v (.sc (I4 x1))),(22,.v (.sc (I4 x2)))],lo:=[],h:=[.box 73 [.d 3 (.int .i64) (x3),.d 22 (.list 3 (.int .i64)) (x4),.d 3 (.int .i64) (x5),.g 1,.g 2],.row 3 (.int .i64) (x6),.row 3 (.int .i64) (x7)],n0:=2,w:=false }=some (xLaD x0 x1 x2 x3 x4 x5 x6 x7 r):=by
 intro n
 induction n with
 | zero=>intro _ _ _ _ _ _ _ _ r h;cases h
 | succ n ih=>
  intro x0 x1 x2 x3 x4 x5 x6 x7 r
  rw [show n+1+m=n+m+1 by omega,zp,bLaD,qLaD]
  refine zb ?_ ?_
  refine zb ?_ ?_
  refine zb ?_ ?_
  refine zb ?_ ?_
  refine zb ?_ ?_
  refine zb ?_ ?_
  exact ih _ _ _ _ _ _ _ _ r
  intro h;cases h
  intro h;cases h
  intro h;cases h
  intro h;cases h
  intro h;cases h
  intro h;cases h;rfl
noncomputable def sLaD:TellS:=fun S=>dCS 2 S fun y1 y2 y3=>dSs 0 y1 fun y5 l4=>zi 0 0 y5<|dSs 20 l4 fun y7 l6=>dD 22 (.list 3 (.int .i64)) y7 fun x0=>dSI 21 .i64 l6 fun x1 l8=>dSI 22 .i64 l8 fun x2 l9=>dE l9<|dE y2<|dHB 73 y3 fun y11 l10=>dC y11 fun y12 l13=>dD 3 (.int .i64) y12 fun x3=>dC l13 fun y14 l15=>dD 22 (.list 3 (.int .i64)) y14 fun x4=>dC l15 fun y16 l17=>dD 3 (.int .i64) y16 fun x5=>dC l17 fun y18 l19=>dG 1 y18<|dC l19 fun y20 l21=>dG 2 y20<|dE l21<|dHR 3 (.int .i64) l10 fun x6 l22=>dHR 3 (.int .i64) l22 fun x7 l23=>dE l23 <|  some [(ok (LaD FU x0 x1 x2 x3 x4 x5 x6 x7),(.exit 0),{ sl:=[],lo:=[],h:=[.box 73 [.d 3 (.int .i64) (x3),.d 22 (.list 3 (.int .i64)) (x4),.d 3 (.int .i64) (x5),.g 1,.g 2],.row 3 (.int .i64) (x6),.row 3 (.int .i64) ((val (LaD FU x0 x1 x2 x3 x4 x5 x6 x7)):List Int)],n0:=2,w:=false })]
theorem wLaD:zB Try.prog dOk base o61 t61 ((48,0),sLaD):=by
 refine ⟨.loop (zc Try.prog (tn0 48) 48 0),0,by kernel_rfl,?_⟩
 intro S alts e S' h10 h2
 have h1:sLaD S=some alts:=h10
 clear h10
 unfold sLaD at h1
 repeat with_reducible first|replace h1:=yc h1;obtain ⟨_,_,_,rfl,h1⟩:=h1|(first|replace h1:=zX h1|replace h1:=ye h1|replace h1:=zG h1|replace h1:=dCq h1|replace h1:=zY h1);obtain ⟨_,_,rfl,h1⟩:=h1|(first|replace h1:=zr h1|replace h1:=dEq h1|replace h1:=dGq h1);obtain ⟨rfl,h1⟩:=h1|replace h1:=dDq h1;obtain ⟨_,rfl,h1⟩:=h1
 cases h1
 obtain ⟨hc0,rfl,rfl⟩:=zt h2
 exact ⟨FU+40,(ze rfl).trans (lLaD FU 40 FU _ _ _ _ _ _ _ _ _ (zf hc0))⟩
noncomputable def o62:OrcT:=o61
noncomputable def t62:TellT:=((48,0),sLaD)::t61
noncomputable abbrev tn62:FuncId→TAn:=zh base o62 t62
theorem ok62:TnOk Try.prog tn62 (mkA base) dOk:=by
 have h0:TnOk Try.prog (tn61) (mkA base) dOk:=ok61
 have h1:=zD h0 h0 (p:=((48,0),sLaD)) wLaD
 exact h1
end Go.Proofs.Ytgmebdomopdgmaa
