/- What some functions and loops come to: printed and checked. Written by a program of ours. -/
import Derived.Test.YtgmebdomopdgmaaG2
set_option linter.all false
set_option maxRecDepth 1000000
set_option maxHeartbeats 4000000
namespace Go.Proofs.Ytgmebdomopdgmaa
open Go Go.AM Go.TM Go.Proofs
noncomputable def Lad:Nat→Int→Int→Int→(List (List Int))→(List Int)→Int→(List Int)→(List (List Int))→(List Int)→(List Int)→(List Int)→(List (List Int))→(List Int)→Option ((List (List Int))×(List Int)×Int)
 | 0,_,_,_,_,_,_,_,_,_,_,_,_,_=>none
 | n+1,x0,x1,x2,x3,x4,x5,x6,x7,x8,x9,A,B,C=>(cond (decide (x1 < x0)) (cond (ok (v29 x6 x7 x8 x9 A)) (cond (ok (v28 x6 x7 x8 (val (v29 x6 x7 x8 x9 A)).1 (val (v29 x6 x7 x8 x9 A)).2)) (cond (val (v28 x6 x7 x8 (val (v29 x6 x7 x8 x9 A)).1 (val (v29 x6 x7 x8 x9 A)).2)).2.2.2 (cond (decide ((val (v28 x6 x7 x8 (val (v29 x6 x7 x8 x9 A)).1 (val (v29 x6 x7 x8 x9 A)).2)).2.2.1 < x5)) (Lad n x0 (IntKind.wrap IntKind.i64 (x1+(1:Int))) x2 (val (v28 x6 x7 x8 (val (v29 x6 x7 x8 x9 A)).1 (val (v29 x6 x7 x8 x9 A)).2)).1 (val (v28 x6 x7 x8 (val (v29 x6 x7 x8 x9 A)).1 (val (v29 x6 x7 x8 x9 A)).2)).2.1 (val (v28 x6 x7 x8 (val (v29 x6 x7 x8 x9 A)).1 (val (v29 x6 x7 x8 x9 A)).2)).2.2.1 x6 x7 x8 (val (v29 x6 x7 x8 x9 A)).1 (val (v29 x6 x7 x8 x9 A)).2 B C) (Lad n x0 (IntKind.wrap IntKind.i64 (x1+(1:Int))) x2 x3 x4 x5 x6 x7 x8 (val (v29 x6 x7 x8 x9 A)).1 (val (v29 x6 x7 x8 x9 A)).2 B C)) (Lad n x0 (IntKind.wrap IntKind.i64 (x1+(1:Int))) x2 x3 x4 x5 x6 x7 x8 (val (v29 x6 x7 x8 x9 A)).1 (val (v29 x6 x7 x8 x9 A)).2 B C)) none) none) (some (x3,x4,x5)))
theorem qLad:type_of% @Lad.eq_2:=@Lad.eq_2
noncomputable def xLad (x0 x1 x2:Int) (x3:(List (List Int))) (x4:(List Int)) (x5:Int) (x6:(List Int)) (x7:(List (List Int))) (x8:(List Int)) (x9:(List Int)) (A:(List Int)) (B:(List (List Int))) (C:(List Int)):((List (List Int))×(List Int)×Int)→Ex×CS:=fun r=>((.exit 0),{ sl:=[(4,.l 4 0),(9,.l 9 0)],lo:=[(4,[.g 0,.g 1,I4 (x2)]),(9,[.d 22 (.list 3 (.int .i64)) (r.1:List (List Int)),.d 3 (.int .i64) (r.2.1:List Int),I4 (r.2.2)])],h:=[.row 22 (.list 3 (.int .i64)) (B),.row 3 (.int .i64) (C)],n0:=0,w:=false })
theorem bLad (k:Nat) (cN:CS→Option (Ex×CS)) (cX:Ex→CS→Option (Ex×CS)) (x0 x1 x2:Int) (x3:(List (List Int))) (x4:(List Int)) (x5:Int) (x6:(List Int)) (x7:(List (List Int))) (x8:(List Int)) (x9:(List Int)) (A:(List Int)) (B:(List (List Int))) (C:(List Int)):zz Try.prog (tn87 13) (TM.evF Try.prog (tn87) dOk (k+40)) dOk (k+40) (zc Try.prog (tn0 13) 13 0) 0 0 { sl:=[(4,.l 4 0),(7,.v (.sc (.ptr 0 0))),(9,.l 9 0),(54,.v (.sc (I4 x0))),(55,.v (.sc (I4 x1)))],lo:=[(4,[.g 3,.g 4,I4 (x2)]),(9,[.d 22 (.list 3 (.int .i64)) (x3),.d 3 (.int .i64) (x4),I4 (x5)])],h:=[.box 73 [.d 3 (.int .i64) (x6),.d 22 (.list 3 (.int .i64)) (x7),.d 3 (.int .i64) (x8),.g 1,.g 2],.row 3 (.int .i64) (x9),.row 3 (.int .i64) (A),.row 22 (.list 3 (.int .i64)) (B),.row 3 (.int .i64) (C)],n0:=0,w:=false } cN cX=(cond (decide (x1 < x0)) (cond (ok (v29 x6 x7 x8 x9 A)) (cond (ok (v28 x6 x7 x8 (val (v29 x6 x7 x8 x9 A)).1 (val (v29 x6 x7 x8 x9 A)).2)) (cond (val (v28 x6 x7 x8 (val (v29 x6 x7 x8 x9 A)).1 (val (v29 x6 x7 x8 x9 A)).2)).2.2.2 (cond (decide ((val (v28 x6 x7 x8 (val (v29 x6 x7 x8 x9 A)).1 (val (v29 x6 x7 x8 x9 A)).2)).2.2.1 < x5)) (cN { sl:=[(4,.l 4 0),(7,.v (.sc (.ptr 0 0))),(9,.l 9 0),(54,.v (.sc (I4 x0))),(55,.v (.sc (I4 (IntKind.wrap IntKind.i64 (x1+(1:Int))))))],lo:=[(4,[.g 3,.g 4,I4 (x2)]),(9,[.d 22 (.list 3 (.int .i64)) ((val (v28 x6 x7 x8 (val (v29 x6 x7 x8 x9 A)).1 (val (v29 x6 x7 x8 x9 A)).2)).1:List (List Int)),.d 3 (.int .i64) ((val (v28 x6 x7 x8 (val (v29 x6 x7 x8 x9 A)).1 (val (v29 x6 x7 x8 x9 A)).2)).2.1:List Int),I4 (val (v28 x6 x7 x8 (val (v29 x6 x7 x8 x9 A)).1 (val (v29 x6 x7 x8 x9 A)).2)).2.2.1])],h:=[.box 73 [.d 3 (.int .i64) (x6),.d 22 (.list 3 (.int .i64)) (x7),.d 3 (.int .i64) (x8),.g 1,.g 2],.row 3 (.int .i64) ((val (v29 x6 x7 x8 x9 A)).1:List Int),.row 3 (.int .i64) ((val (v29 x6 x7 x8 x9 A)).2:List Int),.row 22 (.list 3 (.int .i64)) (B),.row 3 (.int .i64) (C)],n0:=0,w:=false }) (cN { sl:=[(4,.l 4 0),(7,.v (.sc (.ptr 0 0))),(9,.l 9 0),(54,.v (.sc (I4 x0))),(55,.v (.sc (I4 (IntKind.wrap IntKind.i64 (x1+(1:Int))))))],lo:=[(4,[.g 3,.g 4,I4 (x2)]),(9,[.d 22 (.list 3 (.int .i64)) (x3),.d 3 (.int .i64) (x4),I4 (x5)])],h:=[.box 73 [.d 3 (.int .i64) (x6),.d 22 (.list 3 (.int .i64)) (x7),.d 3 (.int .i64) (x8),.g 1,.g 2],.row 3 (.int .i64) ((val (v29 x6 x7 x8 x9 A)).1:List Int),.row 3 (.int .i64) ((val (v29 x6 x7 x8 x9 A)).2:List Int),.row 22 (.list 3 (.int .i64)) (B),.row 3 (.int .i64) (C)],n0:=0,w:=false })) (cN { sl:=[(4,.l 4 0),(7,.v (.sc (.ptr 0 0))),(9,.l 9 0),(54,.v (.sc (I4 x0))),(55,.v (.sc (I4 (IntKind.wrap IntKind.i64 (x1+(1:Int))))))],lo:=[(4,[.g 3,.g 4,I4 (x2)]),(9,[.d 22 (.list 3 (.int .i64)) (x3),.d 3 (.int .i64) (x4),I4 (x5)])],h:=[.box 73 [.d 3 (.int .i64) (x6),.d 22 (.list 3 (.int .i64)) (x7),.d 3 (.int .i64) (x8),.g 1,.g 2],.row 3 (.int .i64) ((val (v29 x6 x7 x8 x9 A)).1:List Int),.row 3 (.int .i64) ((val (v29 x6 x7 x8 x9 A)).2:List Int),.row 22 (.list 3 (.int .i64)) (B),.row 3 (.int .i64) (C)],n0:=0,w:=false })) none) none) (cX (.exit 0) { sl:=[(4,.l 4 0),(9,.l 9 0)],lo:=[(4,[.g 0,.g 1,I4 (x2)]),(9,[.d 22 (.list 3 (.int .i64)) (x3),.d 3 (.int .i64) (x4),I4 (x5)])],h:=[.row 22 (.list 3 (.int .i64)) (B),.row 3 (.int .i64) (C)],n0:=0,w:=false })):=by kernel_rfl
theorem lLad (k m:Nat):∀ (n:Nat) (x0 x1 x2:Int) (x3:(List (List Int))) (x4:(List Int)) (x5:Int) (x6:(List Int)) (x7:(List (List Int))) (x8:(List Int)) (x9:(List Int)) (A:(List Int)) (B:(List (List Int))) (C:(List Int)) (r:((List (List Int))×(List Int)×Int)),Lad n x0 x1 x2 x3 x4 x5 x6 x7 x8 x9 A B C=some r→zQ Try.prog (tn87 13) (TM.evF Try.prog (tn87) dOk (k+40)) dOk (k+40) (zc Try.prog (tn0 13) 13 0) 0 0 (n+m) { sl:=[(4,.l 4 0),(7,.v (.sc (.ptr 0 0))),(9,.l 9 0),(54,.v (.sc (I4 x0))),(55,.v (.sc (I4 x1)))],lo:=[(4,[.g 3,.g 4,I4 (x2)]),(9,[.d 22 (.list 3 (.int .i64)) (x3),.d 3 (.int .i64) (x4),I4 (x5)])],h:=[.box 73 [.d 3 (.int .i64) (x6),.d 22 (.list 3 (.int .i64)) (x7),.d 3 (.int .i64) (x8),.g 1,.g 2],.row 3 (.int .i64) (x9),.row 3 (.int .i64) (A),.row 22 (.list 3 (.int .i64)) (B),.row 3 (.int .i64) (C)],n0:=0,w:=false }=some (xLad x0 x1 x2 x3 x4 x5 x6 x7 x8 x9 A B C r):=by
 intro n
 induction n with
 | zero=>intro _ _ _ _ _ _ _ _ _ _ _ _ _ r h;cases h
 | succ n ih=>
  intro x0 x1 x2 x3 x4 x5 x6 x7 x8 x9 A B C r
  rw [show n+1+m=n+m+1 by omega,zw,bLad,qLad]
  refine zb ?_ ?_
  refine zb ?_ ?_
  refine zb ?_ ?_
  refine zb ?_ ?_
  refine zb ?_ ?_
  exact ih _ _ _ _ _ _ _ _ _ _ _ _ _ r
  exact ih _ _ _ _ _ _ _ _ _ _ _ _ _ r
  exact ih _ _ _ _ _ _ _ _ _ _ _ _ _ r
  intro h;cases h
  intro h;cases h
  intro h;cases h;rfl
noncomputable def sLad:TellS:=fun S=>dCS 0 S fun y1 y2 y3=>dSt 4 y1 fun y5 l4=>dL 4 0 y5<|dSs 7 l4 fun y7 l6=>zj 0 0 y7<|dSt 9 l6 fun y9 l8=>dL 9 0 y9<|dSI 54 .i64 l8 fun x0 l10=>dSI 55 .i64 l10 fun x1 l11=>dE l11<|dLo 4 y2 fun y12 l13=>dC y12 fun y14 l15=>dG 3 y14<|dC l15 fun y16 l17=>dG 4 y16<|dK l17 fun x2 l18=>dE l18<|dLo 9 l13 fun y19 l20=>dC y19 fun y21 l22=>dD 22 (.list 3 (.int .i64)) y21 fun x3=>dC l22 fun y23 l24=>dD 3 (.int .i64) y23 fun x4=>dK l24 fun x5 l25=>dE l25<|dE l20<|dHB 73 y3 fun y27 l26=>dC y27 fun y28 l29=>dD 3 (.int .i64) y28 fun x6=>dC l29 fun y30 l31=>dD 22 (.list 3 (.int .i64)) y30 fun x7=>dC l31 fun y32 l33=>dD 3 (.int .i64) y32 fun x8=>dC l33 fun y34 l35=>dG 1 y34<|dC l35 fun y36 l37=>dG 2 y36<|dE l37<|dHR 3 (.int .i64) l26 fun x9 l38=>dHR 3 (.int .i64) l38 fun A l39=>dHR 22 (.list 3 (.int .i64)) l39 fun B l40=>dHR 3 (.int .i64) l40 fun C l41=>dE l41 <|  some [(ok (Lad FU x0 x1 x2 x3 x4 x5 x6 x7 x8 x9 A B C),(.exit 0),{ sl:=[(4,.l 4 0),(9,.l 9 0)],lo:=[(4,[.g 0,.g 1,I4 (x2)]),(9,[.d 22 (.list 3 (.int .i64)) ((val (Lad FU x0 x1 x2 x3 x4 x5 x6 x7 x8 x9 A B C)).1:List (List Int)),.d 3 (.int .i64) ((val (Lad FU x0 x1 x2 x3 x4 x5 x6 x7 x8 x9 A B C)).2.1:List Int),I4 ((val (Lad FU x0 x1 x2 x3 x4 x5 x6 x7 x8 x9 A B C)).2.2)])],h:=[.row 22 (.list 3 (.int .i64)) (B),.row 3 (.int .i64) (C)],n0:=0,w:=false })]
theorem wLad:zG Try.prog dOk base o87 t87 ((13,0),sLad):=by
 refine ⟨.loop (zc Try.prog (tn0 13) 13 0),0,by kernel_rfl,?_⟩
 intro S alts e S' h10 h2
 have h1:sLad S=some alts:=h10
 clear h10
 unfold sLad at h1
 replace h1:=yg h1;obtain ⟨_,_,_,rfl,h1⟩:=h1
 replace h1:=xF h1;obtain ⟨_,_,rfl,h1⟩:=h1
 replace h1:=dLq h1;obtain ⟨rfl,h1⟩:=h1
 replace h1:=zm h1;obtain ⟨_,_,rfl,h1⟩:=h1
 replace h1:=ze h1;obtain ⟨rfl,h1⟩:=h1
 replace h1:=xF h1;obtain ⟨_,_,rfl,h1⟩:=h1
 replace h1:=dLq h1;obtain ⟨rfl,h1⟩:=h1
 replace h1:=zp h1;obtain ⟨_,_,rfl,h1⟩:=h1
 replace h1:=zp h1;obtain ⟨_,_,rfl,h1⟩:=h1
 replace h1:=dEq h1;obtain ⟨rfl,h1⟩:=h1
 replace h1:=xL h1;obtain ⟨_,_,rfl,h1⟩:=h1
 replace h1:=dCq h1;obtain ⟨_,_,rfl,h1⟩:=h1
 replace h1:=dGq h1;obtain ⟨rfl,h1⟩:=h1
 replace h1:=dCq h1;obtain ⟨_,_,rfl,h1⟩:=h1
 replace h1:=dGq h1;obtain ⟨rfl,h1⟩:=h1
 replace h1:=zL h1;obtain ⟨_,_,rfl,h1⟩:=h1
 replace h1:=dEq h1;obtain ⟨rfl,h1⟩:=h1
 replace h1:=xL h1;obtain ⟨_,_,rfl,h1⟩:=h1
 replace h1:=dCq h1;obtain ⟨_,_,rfl,h1⟩:=h1
 replace h1:=dDq h1;obtain ⟨_,rfl,h1⟩:=h1
 replace h1:=dCq h1;obtain ⟨_,_,rfl,h1⟩:=h1
 replace h1:=dDq h1;obtain ⟨_,rfl,h1⟩:=h1
 replace h1:=zL h1;obtain ⟨_,_,rfl,h1⟩:=h1
 replace h1:=dEq h1;obtain ⟨rfl,h1⟩:=h1
 replace h1:=dEq h1;obtain ⟨rfl,h1⟩:=h1
 replace h1:=zl h1;obtain ⟨_,_,rfl,h1⟩:=h1
 replace h1:=dCq h1;obtain ⟨_,_,rfl,h1⟩:=h1
 replace h1:=dDq h1;obtain ⟨_,rfl,h1⟩:=h1
 replace h1:=dCq h1;obtain ⟨_,_,rfl,h1⟩:=h1
 replace h1:=dDq h1;obtain ⟨_,rfl,h1⟩:=h1
 replace h1:=dCq h1;obtain ⟨_,_,rfl,h1⟩:=h1
 replace h1:=dDq h1;obtain ⟨_,rfl,h1⟩:=h1
 replace h1:=dCq h1;obtain ⟨_,_,rfl,h1⟩:=h1
 replace h1:=dGq h1;obtain ⟨rfl,h1⟩:=h1
 replace h1:=dCq h1;obtain ⟨_,_,rfl,h1⟩:=h1
 replace h1:=dGq h1;obtain ⟨rfl,h1⟩:=h1
 replace h1:=dEq h1;obtain ⟨rfl,h1⟩:=h1
 replace h1:=zq h1;obtain ⟨_,_,rfl,h1⟩:=h1
 replace h1:=zq h1;obtain ⟨_,_,rfl,h1⟩:=h1
 replace h1:=zq h1;obtain ⟨_,_,rfl,h1⟩:=h1
 replace h1:=zq h1;obtain ⟨_,_,rfl,h1⟩:=h1
 replace h1:=dEq h1;obtain ⟨rfl,h1⟩:=h1
 cases h1
 obtain ⟨hc0,rfl,rfl⟩:=zy h2
 exact ⟨FU+40,(zg rfl).trans (lLad FU 40 FU _ _ _ _ _ _ _ _ _ _ _ _ _ _ (zf hc0))⟩
noncomputable def o88:OrcT:=o87
noncomputable def t88:TellT:=((13,0),sLad)::t87
noncomputable abbrev tn88:FuncId→TAn:=zi base o88 t88
theorem ok88:TnOk Try.prog tn88 (mkA base) dOk:=by
 have h0:TnOk Try.prog (tn87) (mkA base) dOk:=ok87
 have h1:=zI h0 h0 (p:=((13,0),sLad)) wLad
 exact h1
noncomputable def v13 (x0:(List Int)) (x1:(List (List Int))) (x2:(List Int)) (x3:Int):Option ((List (List Int))×(List Int)×Int×Int):=(cond (ok (v23_3 x2)) (cond (ok (v26 x0 x1 x2)) (cond (ok (v25 x0 (val (v26 x0 x1 x2)))) (cond (!val (v25 x0 (val (v26 x0 x1 x2)))) (some ([],[],0,(1:Int))) (cond ((x2.length:Int) != (x1.length:Int)) (some ([],[],0,(1:Int))) (cond (val (v23_3 x2)) (some ([],[],0,(1:Int))) (cond (decide (x3 < 0)) (some ([],[],0,(1:Int))) (cond (decide (x3 > (1000:Int))) (some ([],[],0,(1:Int))) (cond (ok (v27 x0 x1 x2)) (cond (!(val (v27 x0 x1 x2)).1) (some ([],[],0,(4:Int))) (cond (ok (v28 x0 x1 x2 (val (v27 x0 x1 x2)).2.1 (val (v27 x0 x1 x2)).2.2)) (cond (ok (Lad FU x3 0 0 (val (v28 x0 x1 x2 (val (v27 x0 x1 x2)).2.1 (val (v27 x0 x1 x2)).2.2)).1 (val (v28 x0 x1 x2 (val (v27 x0 x1 x2)).2.1 (val (v27 x0 x1 x2)).2.2)).2.1 (val (v28 x0 x1 x2 (val (v27 x0 x1 x2)).2.1 (val (v27 x0 x1 x2)).2.2)).2.2.1 x0 x1 x2 (val (v27 x0 x1 x2)).2.1 (val (v27 x0 x1 x2)).2.2 [] [])) (some ((val (Lad FU x3 0 0 (val (v28 x0 x1 x2 (val (v27 x0 x1 x2)).2.1 (val (v27 x0 x1 x2)).2.2)).1 (val (v28 x0 x1 x2 (val (v27 x0 x1 x2)).2.1 (val (v27 x0 x1 x2)).2.2)).2.1 (val (v28 x0 x1 x2 (val (v27 x0 x1 x2)).2.1 (val (v27 x0 x1 x2)).2.2)).2.2.1 x0 x1 x2 (val (v27 x0 x1 x2)).2.1 (val (v27 x0 x1 x2)).2.2 [] [])).1,(val (Lad FU x3 0 0 (val (v28 x0 x1 x2 (val (v27 x0 x1 x2)).2.1 (val (v27 x0 x1 x2)).2.2)).1 (val (v28 x0 x1 x2 (val (v27 x0 x1 x2)).2.1 (val (v27 x0 x1 x2)).2.2)).2.1 (val (v28 x0 x1 x2 (val (v27 x0 x1 x2)).2.1 (val (v27 x0 x1 x2)).2.2)).2.2.1 x0 x1 x2 (val (v27 x0 x1 x2)).2.1 (val (v27 x0 x1 x2)).2.2 [] [])).2.1,(val (Lad FU x3 0 0 (val (v28 x0 x1 x2 (val (v27 x0 x1 x2)).2.1 (val (v27 x0 x1 x2)).2.2)).1 (val (v28 x0 x1 x2 (val (v27 x0 x1 x2)).2.1 (val (v27 x0 x1 x2)).2.2)).2.1 (val (v28 x0 x1 x2 (val (v27 x0 x1 x2)).2.1 (val (v27 x0 x1 x2)).2.2)).2.2.1 x0 x1 x2 (val (v27 x0 x1 x2)).2.1 (val (v27 x0 x1 x2)).2.2 [] [])).2.2,0)) none) none)) none)))))) none) none) none)
theorem ev13 (x0:(List Int)) (x1:(List (List Int))) (x2:(List Int)) (x3:Int):zu Try.prog (tn88 13) (TM.evF Try.prog (tn88) dOk 40) dOk 40 13 [.agg [.d 3 (.int .i64) (x0),.d 22 (.list 3 (.int .i64)) (x1),.d 3 (.int .i64) (x2)],.sc (I4 x3)] []=(v13 x0 x1 x2 x3).bind fun r=>some ([.agg [.d 22 (.list 3 (.int .i64)) (r.1:List (List Int)),.d 3 (.int .i64) (r.2.1:List Int),I4 (r.2.2.1)],.sc (I4 (r.2.2.2))],[]):=by
 refine Eq.trans (b:=(cond (ok (v23_3 x2)) (cond (ok (v26 x0 x1 x2)) (cond (ok (v25 x0 (val (v26 x0 x1 x2)))) (cond (!val (v25 x0 (val (v26 x0 x1 x2)))) (some ([.agg [.d 22 (.list 3 (.int .i64)) ([]:List (List Int)),.d 3 (.int .i64) ([]:List Int),I4 (0)],.sc (I4 ((1:Int)))],[])) (cond ((x2.length:Int) != (x1.length:Int)) (some ([.agg [.d 22 (.list 3 (.int .i64)) ([]:List (List Int)),.d 3 (.int .i64) ([]:List Int),I4 (0)],.sc (I4 ((1:Int)))],[])) (cond (val (v23_3 x2)) (some ([.agg [.d 22 (.list 3 (.int .i64)) ([]:List (List Int)),.d 3 (.int .i64) ([]:List Int),I4 (0)],.sc (I4 ((1:Int)))],[])) (cond (decide (x3 < 0)) (some ([.agg [.d 22 (.list 3 (.int .i64)) ([]:List (List Int)),.d 3 (.int .i64) ([]:List Int),I4 (0)],.sc (I4 ((1:Int)))],[])) (cond (decide (x3 > (1000:Int))) (some ([.agg [.d 22 (.list 3 (.int .i64)) ([]:List (List Int)),.d 3 (.int .i64) ([]:List Int),I4 (0)],.sc (I4 ((1:Int)))],[])) (cond (ok (v27 x0 x1 x2)) (cond (!(val (v27 x0 x1 x2)).1) (some ([.agg [.d 22 (.list 3 (.int .i64)) ([]:List (List Int)),.d 3 (.int .i64) ([]:List Int),I4 (0)],.sc (I4 ((4:Int)))],[])) (cond (ok (v28 x0 x1 x2 (val (v27 x0 x1 x2)).2.1 (val (v27 x0 x1 x2)).2.2)) (cond (ok (Lad FU x3 0 0 (val (v28 x0 x1 x2 (val (v27 x0 x1 x2)).2.1 (val (v27 x0 x1 x2)).2.2)).1 (val (v28 x0 x1 x2 (val (v27 x0 x1 x2)).2.1 (val (v27 x0 x1 x2)).2.2)).2.1 (val (v28 x0 x1 x2 (val (v27 x0 x1 x2)).2.1 (val (v27 x0 x1 x2)).2.2)).2.2.1 x0 x1 x2 (val (v27 x0 x1 x2)).2.1 (val (v27 x0 x1 x2)).2.2 [] [])) (some ([.agg [.d 22 (.list 3 (.int .i64)) ((val (Lad FU x3 0 0 (val (v28 x0 x1 x2 (val (v27 x0 x1 x2)).2.1 (val (v27 x0 x1 x2)).2.2)).1 (val (v28 x0 x1 x2 (val (v27 x0 x1 x2)).2.1 (val (v27 x0 x1 x2)).2.2)).2.1 (val (v28 x0 x1 x2 (val (v27 x0 x1 x2)).2.1 (val (v27 x0 x1 x2)).2.2)).2.2.1 x0 x1 x2 (val (v27 x0 x1 x2)).2.1 (val (v27 x0 x1 x2)).2.2 [] [])).1:List (List Int)),.d 3 (.int .i64) ((val (Lad FU x3 0 0 (val (v28 x0 x1 x2 (val (v27 x0 x1 x2)).2.1 (val (v27 x0 x1 x2)).2.2)).1 (val (v28 x0 x1 x2 (val (v27 x0 x1 x2)).2.1 (val (v27 x0 x1 x2)).2.2)).2.1 (val (v28 x0 x1 x2 (val (v27 x0 x1 x2)).2.1 (val (v27 x0 x1 x2)).2.2)).2.2.1 x0 x1 x2 (val (v27 x0 x1 x2)).2.1 (val (v27 x0 x1 x2)).2.2 [] [])).2.1:List Int),I4 (val (Lad FU x3 0 0 (val (v28 x0 x1 x2 (val (v27 x0 x1 x2)).2.1 (val (v27 x0 x1 x2)).2.2)).1 (val (v28 x0 x1 x2 (val (v27 x0 x1 x2)).2.1 (val (v27 x0 x1 x2)).2.2)).2.1 (val (v28 x0 x1 x2 (val (v27 x0 x1 x2)).2.1 (val (v27 x0 x1 x2)).2.2)).2.2.1 x0 x1 x2 (val (v27 x0 x1 x2)).2.1 (val (v27 x0 x1 x2)).2.2 [] [])).2.2],.sc (I4 (0))],[])) none) none)) none)))))) none) none) none)) (by kernel_rfl) ?_
 unfold v13
 refine za ?_ ?_
 refine za ?_ ?_
 refine za ?_ ?_
 refine za ?_ ?_
 rfl
 refine za ?_ ?_
 rfl
 refine za ?_ ?_
 rfl
 refine za ?_ ?_
 rfl
 refine za ?_ ?_
 rfl
 refine za ?_ ?_
 refine za ?_ ?_
 rfl
 refine za ?_ ?_
 refine za ?_ ?_
 rfl
 rfl
 rfl
 rfl
 rfl
 rfl
 rfl
noncomputable def sv13:OrcS:=fun al H=>dC al fun y1 l2=>dA y1 fun y3=>dC y3 fun y4 l5=>dD 3 (.int .i64) y4 fun x0=>dC l5 fun y6 l7=>dD 22 (.list 3 (.int .i64)) y6 fun x1=>dC l7 fun y8 l9=>dD 3 (.int .i64) y8 fun x2=>dE l9<|dC l2 fun y10 l11=>dS y10 fun y12=>xb .i64 y12 fun x3=>dE l11<|dE H <|  some [(ok (v13 x0 x1 x2 x3),[.agg [.d 22 (.list 3 (.int .i64)) ((val (v13 x0 x1 x2 x3)).1:List (List Int)),.d 3 (.int .i64) ((val (v13 x0 x1 x2 x3)).2.1:List Int),I4 ((val (v13 x0 x1 x2 x3)).2.2.1)],.sc (I4 ((val (v13 x0 x1 x2 x3)).2.2.2))],[])]
theorem wv13:zr Try.prog dOk base o88 t88 (13,sv13):=by
 intro al H q hq0 rs H2 h2
 have hq:sv13 al H=some q:=hq0
 clear hq0
 unfold sv13 at hq
 obtain ⟨_,_,rfl,g1⟩:=dCq hq
 obtain ⟨_,rfl,g2⟩:=dAq g1
 obtain ⟨_,_,rfl,g3⟩:=dCq g2
 obtain ⟨_,rfl,g4⟩:=dDq g3
 obtain ⟨_,_,rfl,g5⟩:=dCq g4
 obtain ⟨_,rfl,g6⟩:=dDq g5
 obtain ⟨_,_,rfl,g7⟩:=dCq g6
 obtain ⟨_,rfl,g8⟩:=dDq g7
 obtain ⟨rfl,g9⟩:=dEq g8
 obtain ⟨_,_,rfl,g10⟩:=dCq g9
 obtain ⟨_,rfl,g11⟩:=dSq g10
 obtain ⟨_,rfl,g12⟩:=xd g11
 obtain ⟨rfl,g13⟩:=dEq g12
 obtain ⟨rfl,g14⟩:=dEq g13
 cases g14
 obtain ⟨hc0,rfl,rfl⟩:=zh h2
 exact ⟨41,(zC (by kernel_rfl)).trans ((ev13 _ _ _ _).trans (zo (zf hc0)))⟩
noncomputable def o89:OrcT:=(13,sv13)::o88
noncomputable def t89:TellT:=t88
noncomputable abbrev tn89:FuncId→TAn:=zi base o89 t89
theorem ok89:TnOk Try.prog tn89 (mkA base) dOk:=by
 have h0:TnOk Try.prog (tn88) (mkA base) dOk:=ok88
 have h1:=zt h0 h0 (p:=(13,sv13)) wv13
 exact h1
noncomputable def Lan:Nat→Int→Int→(List Int)→(List (List Int))→(List Int)→(List Int)→(List (List Int))→(List Int)→Option ((List (List Int))×(List Int))
 | 0,_,_,_,_,_,_,_,_=>none
 | n+1,x0,x1,x2,x3,x4,x5,x6,x7=>(cond (decide (x1 < x0)) (cond (decide (List.length x6+List.length [[0]]≤nat_lit 2147483648)) (cond (decide (List.length x7+List.length [0]≤nat_lit 2147483648)) (Lan n x0 (IntKind.wrap IntKind.i64 (x1+(1:Int))) x2 x3 x4 x5 (x6++[[0]]) (x7++[0])) none) none) (some (x6,x7)))
theorem qLan:type_of% @Lan.eq_2:=@Lan.eq_2
noncomputable def xLan (x0 x1:Int) (x2:(List Int)) (x3:(List (List Int))) (x4:(List Int)) (x5:(List Int)) (x6:(List (List Int))) (x7:(List Int)):((List (List Int))×(List Int))→Ex×CS:=fun r=>((.exit 0),{ sl:=[(4,.l 4 0),(5,.l 5 0)],lo:=[(4,[.g 0,.g 1,.g 2]),(5,[.g 3,.g 4,.g 5])],h:=[.row 3 (.int .i64) (x2),.row 22 (.list 3 (.int .i64)) (x3),.row 3 (.int .i64) (x4),.row 3 (.int .i64) (x5),.row 22 (.list 3 (.int .i64)) (r.1:List (List Int)),.row 3 (.int .i64) (r.2:List Int)],n0:=0,w:=false })
theorem bLan (k:Nat) (cN:CS→Option (Ex×CS)) (cX:Ex→CS→Option (Ex×CS)) (x0 x1:Int) (x2:(List Int)) (x3:(List (List Int))) (x4:(List Int)) (x5:(List Int)) (x6:(List (List Int))) (x7:(List Int)):zz Try.prog (tn89 19) (TM.evF Try.prog (tn89) dOk (k+40)) dOk (k+40) (zc Try.prog (tn0 19) 19 0) 0 0 { sl:=[(4,.l 4 0),(5,.l 5 0),(9,.v (.sc (I4 x0))),(10,.v (.sc (I4 x1)))],lo:=[(4,[.g 0,.g 1,.g 2]),(5,[.g 3,.g 4,.g 5])],h:=[.row 3 (.int .i64) (x2),.row 22 (.list 3 (.int .i64)) (x3),.row 3 (.int .i64) (x4),.row 3 (.int .i64) (x5),.row 22 (.list 3 (.int .i64)) (x6),.row 3 (.int .i64) (x7)],n0:=0,w:=false } cN cX=(cond (decide (x1 < x0)) (cond (decide (List.length x6+List.length [[0]]≤nat_lit 2147483648)) (cond (decide (List.length x7+List.length [0]≤nat_lit 2147483648)) (cN { sl:=[(4,.l 4 0),(5,.l 5 0),(9,.v (.sc (I4 x0))),(10,.v (.sc (I4 (IntKind.wrap IntKind.i64 (x1+(1:Int))))))],lo:=[(4,[.g 0,.g 1,.g 2]),(5,[.g 3,.g 4,.g 5])],h:=[.row 3 (.int .i64) (x2),.row 22 (.list 3 (.int .i64)) (x3),.row 3 (.int .i64) (x4),.row 3 (.int .i64) (x5),.row 22 (.list 3 (.int .i64)) (x6++[[0]]:List (List Int)),.row 3 (.int .i64) (x7++[0]:List Int)],n0:=0,w:=false }) none) none) (cX (.exit 0) { sl:=[(4,.l 4 0),(5,.l 5 0)],lo:=[(4,[.g 0,.g 1,.g 2]),(5,[.g 3,.g 4,.g 5])],h:=[.row 3 (.int .i64) (x2),.row 22 (.list 3 (.int .i64)) (x3),.row 3 (.int .i64) (x4),.row 3 (.int .i64) (x5),.row 22 (.list 3 (.int .i64)) (x6),.row 3 (.int .i64) (x7)],n0:=0,w:=false })):=by kernel_rfl
theorem lLan (k m:Nat):∀ (n:Nat) (x0 x1:Int) (x2:(List Int)) (x3:(List (List Int))) (x4:(List Int)) (x5:(List Int)) (x6:(List (List Int))) (x7:(List Int)) (r:((List (List Int))×(List Int))),Lan n x0 x1 x2 x3 x4 x5 x6 x7=some r→zQ Try.prog (tn89 19) (TM.evF Try.prog (tn89) dOk (k+40)) dOk (k+40) (zc Try.prog (tn0 19) 19 0) 0 0 (n+m) { sl:=[(4,.l 4 0),(5,.l 5 0),(9,.v (.sc (I4 x0))),(10,.v (.sc (I4 x1)))],lo:=[(4,[.g 0,.g 1,.g 2]),(5,[.g 3,.g 4,.g 5])],h:=[.row 3 (.int .i64) (x2),.row 22 (.list 3 (.int .i64)) (x3),.row 3 (.int .i64) (x4),.row 3 (.int .i64) (x5),.row 22 (.list 3 (.int .i64)) (x6),.row 3 (.int .i64) (x7)],n0:=0,w:=false }=some (xLan x0 x1 x2 x3 x4 x5 x6 x7 r):=by
 intro n
 induction n with
 | zero=>intro _ _ _ _ _ _ _ _ r h;cases h
 | succ n ih=>
  intro x0 x1 x2 x3 x4 x5 x6 x7 r
  rw [show n+1+m=n+m+1 by omega,zw,bLan,qLan]
  refine zb ?_ ?_
  refine zb ?_ ?_
  refine zb ?_ ?_
  exact ih _ _ _ _ _ _ _ _ r
  intro h;cases h
  intro h;cases h
  intro h;cases h;rfl
noncomputable def sLan:TellS:=fun S=>dCS 0 S fun y1 y2 y3=>dSt 4 y1 fun y5 l4=>dL 4 0 y5<|dSt 5 l4 fun y7 l6=>dL 5 0 y7<|dSI 9 .i64 l6 fun x0 l8=>dSI 10 .i64 l8 fun x1 l9=>dE l9<|dLo 4 y2 fun y10 l11=>dC y10 fun y12 l13=>dG 0 y12<|dC l13 fun y14 l15=>dG 1 y14<|dC l15 fun y16 l17=>dG 2 y16<|dE l17<|dLo 5 l11 fun y18 l19=>dC y18 fun y20 l21=>dG 3 y20<|dC l21 fun y22 l23=>dG 4 y22<|dC l23 fun y24 l25=>dG 5 y24<|dE l25<|dE l19<|dHR 3 (.int .i64) y3 fun x2 l26=>dHR 22 (.list 3 (.int .i64)) l26 fun x3 l27=>dHR 3 (.int .i64) l27 fun x4 l28=>dHR 3 (.int .i64) l28 fun x5 l29=>dHR 22 (.list 3 (.int .i64)) l29 fun x6 l30=>dHR 3 (.int .i64) l30 fun x7 l31=>dE l31 <|  some [(ok (Lan FU x0 x1 x2 x3 x4 x5 x6 x7),(.exit 0),{ sl:=[(4,.l 4 0),(5,.l 5 0)],lo:=[(4,[.g 0,.g 1,.g 2]),(5,[.g 3,.g 4,.g 5])],h:=[.row 3 (.int .i64) (x2),.row 22 (.list 3 (.int .i64)) (x3),.row 3 (.int .i64) (x4),.row 3 (.int .i64) (x5),.row 22 (.list 3 (.int .i64)) ((val (Lan FU x0 x1 x2 x3 x4 x5 x6 x7)).1:List (List Int)),.row 3 (.int .i64) ((val (Lan FU x0 x1 x2 x3 x4 x5 x6 x7)).2:List Int)],n0:=0,w:=false })]
theorem wLan:zG Try.prog dOk base o89 t89 ((19,0),sLan):=by
 refine ⟨.loop (zc Try.prog (tn0 19) 19 0),0,by kernel_rfl,?_⟩
 intro S alts e S' h10 h2
 have h1:sLan S=some alts:=h10
 clear h10
 unfold sLan at h1
 replace h1:=yg h1;obtain ⟨_,_,_,rfl,h1⟩:=h1
 replace h1:=xF h1;obtain ⟨_,_,rfl,h1⟩:=h1
 replace h1:=dLq h1;obtain ⟨rfl,h1⟩:=h1
 replace h1:=xF h1;obtain ⟨_,_,rfl,h1⟩:=h1
 replace h1:=dLq h1;obtain ⟨rfl,h1⟩:=h1
 replace h1:=zp h1;obtain ⟨_,_,rfl,h1⟩:=h1
 replace h1:=zp h1;obtain ⟨_,_,rfl,h1⟩:=h1
 replace h1:=dEq h1;obtain ⟨rfl,h1⟩:=h1
 replace h1:=xL h1;obtain ⟨_,_,rfl,h1⟩:=h1
 replace h1:=dCq h1;obtain ⟨_,_,rfl,h1⟩:=h1
 replace h1:=dGq h1;obtain ⟨rfl,h1⟩:=h1
 replace h1:=dCq h1;obtain ⟨_,_,rfl,h1⟩:=h1
 replace h1:=dGq h1;obtain ⟨rfl,h1⟩:=h1
 replace h1:=dCq h1;obtain ⟨_,_,rfl,h1⟩:=h1
 replace h1:=dGq h1;obtain ⟨rfl,h1⟩:=h1
 replace h1:=dEq h1;obtain ⟨rfl,h1⟩:=h1
 replace h1:=xL h1;obtain ⟨_,_,rfl,h1⟩:=h1
 replace h1:=dCq h1;obtain ⟨_,_,rfl,h1⟩:=h1
 replace h1:=dGq h1;obtain ⟨rfl,h1⟩:=h1
 replace h1:=dCq h1;obtain ⟨_,_,rfl,h1⟩:=h1
 replace h1:=dGq h1;obtain ⟨rfl,h1⟩:=h1
 replace h1:=dCq h1;obtain ⟨_,_,rfl,h1⟩:=h1
 replace h1:=dGq h1;obtain ⟨rfl,h1⟩:=h1
 replace h1:=dEq h1;obtain ⟨rfl,h1⟩:=h1
 replace h1:=dEq h1;obtain ⟨rfl,h1⟩:=h1
 replace h1:=zq h1;obtain ⟨_,_,rfl,h1⟩:=h1
 replace h1:=zq h1;obtain ⟨_,_,rfl,h1⟩:=h1
 replace h1:=zq h1;obtain ⟨_,_,rfl,h1⟩:=h1
 replace h1:=zq h1;obtain ⟨_,_,rfl,h1⟩:=h1
 replace h1:=zq h1;obtain ⟨_,_,rfl,h1⟩:=h1
 replace h1:=zq h1;obtain ⟨_,_,rfl,h1⟩:=h1
 replace h1:=dEq h1;obtain ⟨rfl,h1⟩:=h1
 cases h1
 obtain ⟨hc0,rfl,rfl⟩:=zy h2
 exact ⟨FU+40,(zg rfl).trans (lLan FU 40 FU _ _ _ _ _ _ _ _ _ (zf hc0))⟩
noncomputable def o90:OrcT:=o89
noncomputable def t90:TellT:=((19,0),sLan)::t89
noncomputable abbrev tn90:FuncId→TAn:=zi base o90 t90
theorem ok90:TnOk Try.prog tn90 (mkA base) dOk:=by
 have h0:TnOk Try.prog (tn89) (mkA base) dOk:=ok89
 have h1:=zI h0 h0 (p:=((19,0),sLan)) wLan
 exact h1
noncomputable def v19 (x0 x1:Int):Option ((List Int)×(List (List Int))×(List Int)):=(cond (ok (Lan FU x1 0 [] [] [] [x0] [] [])) (some ([x0],(val (Lan FU x1 0 [] [] [] [x0] [] [])).1,(val (Lan FU x1 0 [] [] [] [x0] [] [])).2)) none)
theorem ev19 (x0 x1:Int):zu Try.prog (tn90 19) (TM.evF Try.prog (tn90) dOk 40) dOk 40 19 [.sc (I4 x0),.sc (I4 x1)] []=(v19 x0 x1).bind fun r=>some ([.agg [.d 3 (.int .i64) (r.1:List Int),.d 22 (.list 3 (.int .i64)) (r.2.1:List (List Int)),.d 3 (.int .i64) (r.2.2:List Int)]],[]):=by
 refine Eq.trans (b:=(cond (ok (Lan FU x1 0 [] [] [] [x0] [] [])) (some ([.agg [.d 3 (.int .i64) ([x0]:List Int),.d 22 (.list 3 (.int .i64)) ((val (Lan FU x1 0 [] [] [] [x0] [] [])).1:List (List Int)),.d 3 (.int .i64) ((val (Lan FU x1 0 [] [] [] [x0] [] [])).2:List Int)]],[])) none)) (by kernel_rfl) ?_
 unfold v19
 refine za ?_ ?_
 rfl
 rfl
noncomputable def sv19:OrcS:=fun al H=>dC al fun y1 l2=>dS y1 fun y3=>xb .i64 y3 fun x0=>dC l2 fun y4 l5=>dS y4 fun y6=>xb .i64 y6 fun x1=>dE l5<|dE H <|  some [(ok (v19 x0 x1),[.agg [.d 3 (.int .i64) ((val (v19 x0 x1)).1:List Int),.d 22 (.list 3 (.int .i64)) ((val (v19 x0 x1)).2.1:List (List Int)),.d 3 (.int .i64) ((val (v19 x0 x1)).2.2:List Int)]],[])]
theorem wv19:zr Try.prog dOk base o90 t90 (19,sv19):=by
 intro al H q hq0 rs H2 h2
 have hq:sv19 al H=some q:=hq0
 clear hq0
 unfold sv19 at hq
 obtain ⟨_,_,rfl,g1⟩:=dCq hq
 obtain ⟨_,rfl,g2⟩:=dSq g1
 obtain ⟨_,rfl,g3⟩:=xd g2
 obtain ⟨_,_,rfl,g4⟩:=dCq g3
 obtain ⟨_,rfl,g5⟩:=dSq g4
 obtain ⟨_,rfl,g6⟩:=xd g5
 obtain ⟨rfl,g7⟩:=dEq g6
 obtain ⟨rfl,g8⟩:=dEq g7
 cases g8
 obtain ⟨hc0,rfl,rfl⟩:=zh h2
 exact ⟨41,(zC (by kernel_rfl)).trans ((ev19 _ _).trans (zo (zf hc0)))⟩
noncomputable def o91:OrcT:=(19,sv19)::o90
noncomputable def t91:TellT:=t90
noncomputable abbrev tn91:FuncId→TAn:=zi base o91 t91
theorem ok91:TnOk Try.prog tn91 (mkA base) dOk:=by
 have h0:TnOk Try.prog (tn90) (mkA base) dOk:=ok90
 have h1:=zt h0 h0 (p:=(19,sv19)) wv19
 exact h1
noncomputable def v11:Option Bool:=(some (true))
theorem ev11:zu Try.prog (tn91 11) (TM.evF Try.prog (tn91) dOk 40) dOk 40 11 [] []=(v11).bind fun r=>some ([.sc (.bool (r))],[]):=by
 refine Eq.trans (b:=(some ([.sc (.bool (true))],[]))) (by kernel_rfl) ?_
 unfold v11
 rfl
noncomputable def sv11:OrcS:=fun al H=>dE al<|dE H <|  some [(ok (v11),[.sc (.bool ((val (v11))))],[])]
theorem wv11:zr Try.prog dOk base o91 t91 (11,sv11):=by
 intro al H q hq0 rs H2 h2
 have hq:sv11 al H=some q:=hq0
 clear hq0
 unfold sv11 at hq
 obtain ⟨rfl,g1⟩:=dEq hq
 obtain ⟨rfl,g2⟩:=dEq g1
 cases g2
 obtain ⟨hc0,rfl,rfl⟩:=zh h2
 exact ⟨41,(zC (by kernel_rfl)).trans ((ev11 ).trans (zo (zf hc0)))⟩
noncomputable def o92:OrcT:=(11,sv11)::o91
noncomputable def t92:TellT:=t91
noncomputable abbrev tn92:FuncId→TAn:=zi base o92 t92
theorem ok92:TnOk Try.prog tn92 (mkA base) dOk:=by
 have h0:TnOk Try.prog (tn91) (mkA base) dOk:=ok91
 have h1:=zt h0 h0 (p:=(11,sv11)) wv11
 exact h1
noncomputable def LaK (x0:Bool) (x1 x2:Int) (x3:(List Int)) (x4:(List (List Int))) (x5 x6:Int) (x7:(List (List Int))) (x8:(List Int)) (x9:Int):Option (Bool ⊕ Unit):=(cond ((x3.length:Int) != (1:Int)) (some (.inl (false))) (cond (decide (0 < (x3.length:Int))) (cond (decide (x2≠0)) (cond (List.getD x3 (Int.toNat 0) 0 != IntKind.wrap IntKind.i64 (Int.tdiv (IntKind.wrap IntKind.i64 (x1*(1000000:Int))) x2)) (some (.inl (false))) (some (.inr ()))) none) none))
noncomputable def xLaK (x0:Bool) (x1 x2:Int) (x3:(List Int)) (x4:(List (List Int))) (x5 x6:Int) (x7:(List (List Int))) (x8:(List Int)) (x9:Int):(Bool ⊕ Unit)→Ex×CS:=fun r=>match r with | .inl a0=>(.ret,{ sl:=[(6,.v (.sc (.bool (a0))))],lo:=[],h:=[],n0:=0,w:=true }) | .inr b0=>(.normal,{ sl:=[(7,.v (.sc (.bool x0))),(8,.v (.sc (I4 x1))),(9,.v (.sc (I4 x2))),(10,.l 10 0),(49,.v (.sc (.d 22 (.list 3 (.int .i64)) x4))),(50,.v (.sc (I4 x5))),(51,.v (.sc (I4 x6)))],lo:=[(10,[.d 22 (.list 3 (.int .i64)) (x7),.d 3 (.int .i64) (x8),I4 (x9)])],h:=[],n0:=0,w:=false })
theorem bLaK (k:Nat) (cX:Ex→CS→Option (Ex×CS)) (x0:Bool) (x1 x2:Int) (x3:(List Int)) (x4:(List (List Int))) (x5 x6:Int) (x7:(List (List Int))) (x8:(List Int)) (x9:Int):Zx Try.prog (tn92 6) (TM.evF Try.prog (tn92) dOk (k+40)) dOk (k+40) (zc Try.prog (tn0 6) 6 76) 1 76 { sl:=[(7,.v (.sc (.bool x0))),(8,.v (.sc (I4 x1))),(9,.v (.sc (I4 x2))),(10,.l 10 0),(13,.v (.sc (.d 3 (.int .i64) x3))),(49,.v (.sc (.d 22 (.list 3 (.int .i64)) x4))),(50,.v (.sc (I4 x5))),(51,.v (.sc (I4 x6)))],lo:=[(10,[.d 22 (.list 3 (.int .i64)) (x7),.d 3 (.int .i64) (x8),I4 (x9)])],h:=[],n0:=0,w:=false } cX=(cond ((x3.length:Int) != (1:Int)) (cX .ret { sl:=[(6,.v (.sc (.bool (false))))],lo:=[],h:=[],n0:=0,w:=true }) (cond (decide (0 < (x3.length:Int))) (cond (decide (x2≠0)) (cond (List.getD x3 (Int.toNat 0) 0 != IntKind.wrap IntKind.i64 (Int.tdiv (IntKind.wrap IntKind.i64 (x1*(1000000:Int))) x2)) (cX .ret { sl:=[(6,.v (.sc (.bool (false))))],lo:=[],h:=[],n0:=0,w:=true }) (cX .normal { sl:=[(7,.v (.sc (.bool x0))),(8,.v (.sc (I4 x1))),(9,.v (.sc (I4 x2))),(10,.l 10 0),(49,.v (.sc (.d 22 (.list 3 (.int .i64)) x4))),(50,.v (.sc (I4 x5))),(51,.v (.sc (I4 x6)))],lo:=[(10,[.d 22 (.list 3 (.int .i64)) (x7),.d 3 (.int .i64) (x8),I4 (x9)])],h:=[],n0:=0,w:=false })) none) none)):=by kernel_rfl
theorem lLaK (k:Nat) (x0:Bool) (x1 x2:Int) (x3:(List Int)) (x4:(List (List Int))) (x5 x6:Int) (x7:(List (List Int))) (x8:(List Int)) (x9:Int) (r:(Bool ⊕ Unit)):LaK x0 x1 x2 x3 x4 x5 x6 x7 x8 x9=some r→Zx Try.prog (tn92 6) (TM.evF Try.prog (tn92) dOk (k+40)) dOk (k+40) (zc Try.prog (tn0 6) 6 76) 1 76 { sl:=[(7,.v (.sc (.bool x0))),(8,.v (.sc (I4 x1))),(9,.v (.sc (I4 x2))),(10,.l 10 0),(13,.v (.sc (.d 3 (.int .i64) x3))),(49,.v (.sc (.d 22 (.list 3 (.int .i64)) x4))),(50,.v (.sc (I4 x5))),(51,.v (.sc (I4 x6)))],lo:=[(10,[.d 22 (.list 3 (.int .i64)) (x7),.d 3 (.int .i64) (x8),I4 (x9)])],h:=[],n0:=0,w:=false } (fun e s=>some (e,s))=some (xLaK x0 x1 x2 x3 x4 x5 x6 x7 x8 x9 r):=by
 rw [bLaK]
 unfold LaK
 refine zb ?_ ?_
 intro h;cases h;rfl
 refine zb ?_ ?_
 refine zb ?_ ?_
 refine zb ?_ ?_
 intro h;cases h;rfl
 intro h;cases h;rfl
 intro h;cases h
 intro h;cases h
noncomputable def sLaK:TellS:=fun S=>dCS 0 S fun y1 y2 y3=>dSs 7 y1 fun y5 l4=>wz y5 fun x0=>dSI 8 .i64 l4 fun x1 l6=>dSI 9 .i64 l6 fun x2 l7=>dSt 10 l7 fun y9 l8=>dL 10 0 y9<|dSs 13 l8 fun y11 l10=>dD 3 (.int .i64) y11 fun x3=>dSs 49 l10 fun y13 l12=>dD 22 (.list 3 (.int .i64)) y13 fun x4=>dSI 50 .i64 l12 fun x5 l14=>dSI 51 .i64 l14 fun x6 l15=>dE l15<|dLo 10 y2 fun y16 l17=>dC y16 fun y18 l19=>dD 22 (.list 3 (.int .i64)) y18 fun x7=>dC l19 fun y20 l21=>dD 3 (.int .i64) y20 fun x8=>dK l21 fun x9 l22=>dE l22<|dE l17<|dE y3 <|  some [(isL (LaK x0 x1 x2 x3 x4 x5 x6 x7 x8 x9),.ret,{ sl:=[(6,.v (.sc (.bool ((zV (LaK x0 x1 x2 x3 x4 x5 x6 x7 x8 x9))))))],lo:=[],h:=[],n0:=0,w:=true }),(ok (zP (LaK x0 x1 x2 x3 x4 x5 x6 x7 x8 x9)),.normal,{ sl:=[(7,.v (.sc (.bool x0))),(8,.v (.sc (I4 x1))),(9,.v (.sc (I4 x2))),(10,.l 10 0),(49,.v (.sc (.d 22 (.list 3 (.int .i64)) x4))),(50,.v (.sc (I4 x5))),(51,.v (.sc (I4 x6)))],lo:=[(10,[.d 22 (.list 3 (.int .i64)) (x7),.d 3 (.int .i64) (x8),I4 (x9)])],h:=[],n0:=0,w:=false })]
theorem wLaK:zG Try.prog dOk base o92 t92 ((6,76),sLaK):=by
 refine ⟨(zc Try.prog (tn0 6) 6 76),1,by kernel_rfl,?_⟩
 intro S alts e S' h10 h2
 have h1:sLaK S=some alts:=h10
 clear h10
 unfold sLaK at h1
 replace h1:=yg h1;obtain ⟨_,_,_,rfl,h1⟩:=h1
 replace h1:=zm h1;obtain ⟨_,_,rfl,h1⟩:=h1
 replace h1:=xX h1;obtain ⟨_,rfl,h1⟩:=h1
 replace h1:=zp h1;obtain ⟨_,_,rfl,h1⟩:=h1
 replace h1:=zp h1;obtain ⟨_,_,rfl,h1⟩:=h1
 replace h1:=xF h1;obtain ⟨_,_,rfl,h1⟩:=h1
 replace h1:=dLq h1;obtain ⟨rfl,h1⟩:=h1
 replace h1:=zm h1;obtain ⟨_,_,rfl,h1⟩:=h1
 replace h1:=dDq h1;obtain ⟨_,rfl,h1⟩:=h1
 replace h1:=zm h1;obtain ⟨_,_,rfl,h1⟩:=h1
 replace h1:=dDq h1;obtain ⟨_,rfl,h1⟩:=h1
 replace h1:=zp h1;obtain ⟨_,_,rfl,h1⟩:=h1
 replace h1:=zp h1;obtain ⟨_,_,rfl,h1⟩:=h1
 replace h1:=dEq h1;obtain ⟨rfl,h1⟩:=h1
 replace h1:=xL h1;obtain ⟨_,_,rfl,h1⟩:=h1
 replace h1:=dCq h1;obtain ⟨_,_,rfl,h1⟩:=h1
 replace h1:=dDq h1;obtain ⟨_,rfl,h1⟩:=h1
 replace h1:=dCq h1;obtain ⟨_,_,rfl,h1⟩:=h1
 replace h1:=dDq h1;obtain ⟨_,rfl,h1⟩:=h1
 replace h1:=zL h1;obtain ⟨_,_,rfl,h1⟩:=h1
 replace h1:=dEq h1;obtain ⟨rfl,h1⟩:=h1
 replace h1:=dEq h1;obtain ⟨rfl,h1⟩:=h1
 replace h1:=dEq h1;obtain ⟨rfl,h1⟩:=h1
 cases h1
 rcases yK h2 with ⟨hc0,rfl,rfl⟩ | h2
 · exact ⟨0+40,(ZY rfl).trans (lLaK 0 _ _ _ _ _ _ _ _ _ _ _ (yU hc0))⟩
 obtain ⟨hc1,rfl,rfl⟩:=zy h2
 exact ⟨0+40,(ZY rfl).trans (lLaK 0 _ _ _ _ _ _ _ _ _ _ _ (yG (zf hc1)))⟩
noncomputable def o93:OrcT:=o92
noncomputable def t93:TellT:=((6,76),sLaK)::t92
noncomputable abbrev tn93:FuncId→TAn:=zi base o93 t93
theorem ok93:TnOk Try.prog tn93 (mkA base) dOk:=by
 have h0:TnOk Try.prog (tn92) (mkA base) dOk:=ok92
 have h1:=zI h0 h0 (p:=((6,76),sLaK)) wLaK
 exact h1
noncomputable def Lai:Nat→Bool→Int→Int→(List (List Int))→Int→Int→(List (List Int))→(List Int)→Int→Option (Bool ⊕ Unit)
 | 0,_,_,_,_,_,_,_,_,_=>none
 | n+1,x0,x1,x2,x3,x4,x5,x6,x7,x8=>(cond (decide (x5 < x4)) (cond (decide (0≤x5)) (cond (decide (x5 < (x3.length:Int))) (cond (isL (LaK x0 x1 x2 (List.getD x3 x5.toNat []) x3 x4 x5 x6 x7 x8)) (some (.inl (zV (LaK x0 x1 x2 (List.getD x3 x5.toNat []) x3 x4 x5 x6 x7 x8)))) (cond (ok (zP (LaK x0 x1 x2 (List.getD x3 x5.toNat []) x3 x4 x5 x6 x7 x8))) (Lai n x0 x1 x2 x3 x4 (IntKind.wrap IntKind.i64 (x5+(1:Int))) x6 x7 x8) none)) none) none) (some (.inr ())))
theorem qLai:type_of% @Lai.eq_2:=@Lai.eq_2
noncomputable def xLai (x0:Bool) (x1 x2:Int) (x3:(List (List Int))) (x4 x5:Int) (x6:(List (List Int))) (x7:(List Int)) (x8:Int):(Bool ⊕ Unit)→Ex×CS:=fun r=>match r with | .inl a0=>(.ret,{ sl:=[(6,.v (.sc (.bool (a0))))],lo:=[],h:=[],n0:=0,w:=true }) | .inr b0=>((.exit 0),{ sl:=[(7,.v (.sc (.bool x0))),(8,.v (.sc (I4 x1))),(9,.v (.sc (I4 x2))),(10,.l 10 0)],lo:=[(10,[.d 22 (.list 3 (.int .i64)) (x6),.d 3 (.int .i64) (x7),I4 (x8)])],h:=[],n0:=0,w:=false })
theorem bLai (k:Nat) (cN:CS→Option (Ex×CS)) (cX:Ex→CS→Option (Ex×CS)) (x0:Bool) (x1 x2:Int) (x3:(List (List Int))) (x4 x5:Int) (x6:(List (List Int))) (x7:(List Int)) (x8:Int):zz Try.prog (tn93 6) (TM.evF Try.prog (tn93) dOk (k+40)) dOk (k+40) (zc Try.prog (tn0 6) 6 0) 0 0 { sl:=[(7,.v (.sc (.bool x0))),(8,.v (.sc (I4 x1))),(9,.v (.sc (I4 x2))),(10,.l 10 0),(49,.v (.sc (.d 22 (.list 3 (.int .i64)) x3))),(50,.v (.sc (I4 x4))),(51,.v (.sc (I4 x5)))],lo:=[(10,[.d 22 (.list 3 (.int .i64)) (x6),.d 3 (.int .i64) (x7),I4 (x8)])],h:=[],n0:=0,w:=false } cN cX=(cond (decide (x5 < x4)) (cond (decide (0≤x5)) (cond (decide (x5 < (x3.length:Int))) (cond (isL (LaK x0 x1 x2 (List.getD x3 x5.toNat []) x3 x4 x5 x6 x7 x8)) (cX .ret { sl:=[(6,.v (.sc (.bool (zV (LaK x0 x1 x2 (List.getD x3 x5.toNat []) x3 x4 x5 x6 x7 x8)))))],lo:=[],h:=[],n0:=0,w:=true }) (cond (ok (zP (LaK x0 x1 x2 (List.getD x3 x5.toNat []) x3 x4 x5 x6 x7 x8))) (cN { sl:=[(7,.v (.sc (.bool x0))),(8,.v (.sc (I4 x1))),(9,.v (.sc (I4 x2))),(10,.l 10 0),(49,.v (.sc (.d 22 (.list 3 (.int .i64)) x3))),(50,.v (.sc (I4 x4))),(51,.v (.sc (I4 (IntKind.wrap IntKind.i64 (x5+(1:Int))))))],lo:=[(10,[.d 22 (.list 3 (.int .i64)) (x6),.d 3 (.int .i64) (x7),I4 (x8)])],h:=[],n0:=0,w:=false }) none)) none) none) (cX (.exit 0) { sl:=[(7,.v (.sc (.bool x0))),(8,.v (.sc (I4 x1))),(9,.v (.sc (I4 x2))),(10,.l 10 0)],lo:=[(10,[.d 22 (.list 3 (.int .i64)) (x6),.d 3 (.int .i64) (x7),I4 (x8)])],h:=[],n0:=0,w:=false })):=by kernel_rfl
theorem lLai (k m:Nat):∀ (n:Nat) (x0:Bool) (x1 x2:Int) (x3:(List (List Int))) (x4 x5:Int) (x6:(List (List Int))) (x7:(List Int)) (x8:Int) (r:(Bool ⊕ Unit)),Lai n x0 x1 x2 x3 x4 x5 x6 x7 x8=some r→zQ Try.prog (tn93 6) (TM.evF Try.prog (tn93) dOk (k+40)) dOk (k+40) (zc Try.prog (tn0 6) 6 0) 0 0 (n+m) { sl:=[(7,.v (.sc (.bool x0))),(8,.v (.sc (I4 x1))),(9,.v (.sc (I4 x2))),(10,.l 10 0),(49,.v (.sc (.d 22 (.list 3 (.int .i64)) x3))),(50,.v (.sc (I4 x4))),(51,.v (.sc (I4 x5)))],lo:=[(10,[.d 22 (.list 3 (.int .i64)) (x6),.d 3 (.int .i64) (x7),I4 (x8)])],h:=[],n0:=0,w:=false }=some (xLai x0 x1 x2 x3 x4 x5 x6 x7 x8 r):=by
 intro n
 induction n with
 | zero=>intro _ _ _ _ _ _ _ _ _ r h;cases h
 | succ n ih=>
  intro x0 x1 x2 x3 x4 x5 x6 x7 x8 r
  rw [show n+1+m=n+m+1 by omega,zw,bLai,qLai]
  refine zb ?_ ?_
  refine zb ?_ ?_
  refine zb ?_ ?_
  refine zb ?_ ?_
  intro h;cases h;rfl
  refine zb ?_ ?_
  exact ih _ _ _ _ _ _ _ _ _ r
  intro h;cases h
  intro h;cases h
  intro h;cases h
  intro h;cases h;rfl
noncomputable def sLai:TellS:=fun S=>dCS 0 S fun y1 y2 y3=>dSs 7 y1 fun y5 l4=>wz y5 fun x0=>dSI 8 .i64 l4 fun x1 l6=>dSI 9 .i64 l6 fun x2 l7=>dSt 10 l7 fun y9 l8=>dL 10 0 y9<|dSs 49 l8 fun y11 l10=>dD 22 (.list 3 (.int .i64)) y11 fun x3=>dSI 50 .i64 l10 fun x4 l12=>dSI 51 .i64 l12 fun x5 l13=>dE l13<|dLo 10 y2 fun y14 l15=>dC y14 fun y16 l17=>dD 22 (.list 3 (.int .i64)) y16 fun x6=>dC l17 fun y18 l19=>dD 3 (.int .i64) y18 fun x7=>dK l19 fun x8 l20=>dE l20<|dE l15<|dE y3 <|  some [(isL (Lai FU x0 x1 x2 x3 x4 x5 x6 x7 x8),.ret,{ sl:=[(6,.v (.sc (.bool ((zV (Lai FU x0 x1 x2 x3 x4 x5 x6 x7 x8))))))],lo:=[],h:=[],n0:=0,w:=true }),(ok (zP (Lai FU x0 x1 x2 x3 x4 x5 x6 x7 x8)),(.exit 0),{ sl:=[(7,.v (.sc (.bool x0))),(8,.v (.sc (I4 x1))),(9,.v (.sc (I4 x2))),(10,.l 10 0)],lo:=[(10,[.d 22 (.list 3 (.int .i64)) (x6),.d 3 (.int .i64) (x7),I4 (x8)])],h:=[],n0:=0,w:=false })]
theorem wLai:zG Try.prog dOk base o93 t93 ((6,0),sLai):=by
 refine ⟨.loop (zc Try.prog (tn0 6) 6 0),0,by kernel_rfl,?_⟩
 intro S alts e S' h10 h2
 have h1:sLai S=some alts:=h10
 clear h10
 unfold sLai at h1
 replace h1:=yg h1;obtain ⟨_,_,_,rfl,h1⟩:=h1
 replace h1:=zm h1;obtain ⟨_,_,rfl,h1⟩:=h1
 replace h1:=xX h1;obtain ⟨_,rfl,h1⟩:=h1
 replace h1:=zp h1;obtain ⟨_,_,rfl,h1⟩:=h1
 replace h1:=zp h1;obtain ⟨_,_,rfl,h1⟩:=h1
 replace h1:=xF h1;obtain ⟨_,_,rfl,h1⟩:=h1
 replace h1:=dLq h1;obtain ⟨rfl,h1⟩:=h1
 replace h1:=zm h1;obtain ⟨_,_,rfl,h1⟩:=h1
 replace h1:=dDq h1;obtain ⟨_,rfl,h1⟩:=h1
 replace h1:=zp h1;obtain ⟨_,_,rfl,h1⟩:=h1
 replace h1:=zp h1;obtain ⟨_,_,rfl,h1⟩:=h1
 replace h1:=dEq h1;obtain ⟨rfl,h1⟩:=h1
 replace h1:=xL h1;obtain ⟨_,_,rfl,h1⟩:=h1
 replace h1:=dCq h1;obtain ⟨_,_,rfl,h1⟩:=h1
 replace h1:=dDq h1;obtain ⟨_,rfl,h1⟩:=h1
 replace h1:=dCq h1;obtain ⟨_,_,rfl,h1⟩:=h1
 replace h1:=dDq h1;obtain ⟨_,rfl,h1⟩:=h1
 replace h1:=zL h1;obtain ⟨_,_,rfl,h1⟩:=h1
 replace h1:=dEq h1;obtain ⟨rfl,h1⟩:=h1
 replace h1:=dEq h1;obtain ⟨rfl,h1⟩:=h1
 replace h1:=dEq h1;obtain ⟨rfl,h1⟩:=h1
 cases h1
 rcases yK h2 with ⟨hc0,rfl,rfl⟩ | h2
 · exact ⟨FU+40,(zg rfl).trans (lLai FU 40 FU _ _ _ _ _ _ _ _ _ _ (yU hc0))⟩
 obtain ⟨hc1,rfl,rfl⟩:=zy h2
 exact ⟨FU+40,(zg rfl).trans (lLai FU 40 FU _ _ _ _ _ _ _ _ _ _ (yG (zf hc1)))⟩
noncomputable def o94:OrcT:=o93
noncomputable def t94:TellT:=((6,0),sLai)::t93
noncomputable abbrev tn94:FuncId→TAn:=zi base o94 t94
theorem ok94:TnOk Try.prog tn94 (mkA base) dOk:=by
 have h0:TnOk Try.prog (tn93) (mkA base) dOk:=ok93
 have h1:=zI h0 h0 (p:=((6,0),sLai)) wLai
 exact h1
noncomputable def LaL (x0:Bool) (x1 x2:Int) (x3:(List (List Int))) (x4:(List Int)) (x5:Int):Option Bool:=(cond (isL (Lai FU x0 x1 x2 x3 (x3.length:Int) 0 x3 x4 x5)) (some (zV (Lai FU x0 x1 x2 x3 (x3.length:Int) 0 x3 x4 x5))) (cond (ok (zP (Lai FU x0 x1 x2 x3 (x3.length:Int) 0 x3 x4 x5))) (cond x0 (cond (decide (x5≥0)) (some (decide (x5≤IntKind.wrap IntKind.i64 (IntKind.wrap IntKind.i64 (x1+IntKind.wrap IntKind.i64 (x2*x2))+(1:Int))))) (some (false))) (some (false))) none))
noncomputable def xLaL (x0:Bool) (x1 x2:Int) (x3:(List (List Int))) (x4:(List Int)) (x5:Int):Bool→Ex×CS:=fun r=>(.ret,{ sl:=[(6,.v (.sc (.bool (r))))],lo:=[],h:=[],n0:=0,w:=true })
theorem bLaL (k:Nat) (cX:Ex→CS→Option (Ex×CS)) (x0:Bool) (x1 x2:Int) (x3:(List (List Int))) (x4:(List Int)) (x5:Int):Zx Try.prog (tn94 6) (TM.evF Try.prog (tn94) dOk (k+40)) dOk (k+40) (zc Try.prog (tn0 6) 6 52) 0 52 { sl:=[(7,.v (.sc (.bool x0))),(8,.v (.sc (I4 x1))),(9,.v (.sc (I4 x2))),(10,.l 10 0)],lo:=[(10,[.d 22 (.list 3 (.int .i64)) (x3),.d 3 (.int .i64) (x4),I4 (x5)])],h:=[],n0:=0,w:=false } cX=(cond (isL (Lai FU x0 x1 x2 x3 (x3.length:Int) 0 x3 x4 x5)) (cX .ret { sl:=[(6,.v (.sc (.bool (zV (Lai FU x0 x1 x2 x3 (x3.length:Int) 0 x3 x4 x5)))))],lo:=[],h:=[],n0:=0,w:=true }) (cond (ok (zP (Lai FU x0 x1 x2 x3 (x3.length:Int) 0 x3 x4 x5))) (cond x0 (cond (decide (x5≥0)) (cX .ret { sl:=[(6,.v (.sc (.bool (decide (x5≤IntKind.wrap IntKind.i64 (IntKind.wrap IntKind.i64 (x1+IntKind.wrap IntKind.i64 (x2*x2))+(1:Int)))))))],lo:=[],h:=[],n0:=0,w:=true }) (cX .ret { sl:=[(6,.v (.sc (.bool (false))))],lo:=[],h:=[],n0:=0,w:=true })) (cX .ret { sl:=[(6,.v (.sc (.bool (false))))],lo:=[],h:=[],n0:=0,w:=true })) none)):=by kernel_rfl
theorem lLaL (k:Nat) (x0:Bool) (x1 x2:Int) (x3:(List (List Int))) (x4:(List Int)) (x5:Int) (r:Bool):LaL x0 x1 x2 x3 x4 x5=some r→Zx Try.prog (tn94 6) (TM.evF Try.prog (tn94) dOk (k+40)) dOk (k+40) (zc Try.prog (tn0 6) 6 52) 0 52 { sl:=[(7,.v (.sc (.bool x0))),(8,.v (.sc (I4 x1))),(9,.v (.sc (I4 x2))),(10,.l 10 0)],lo:=[(10,[.d 22 (.list 3 (.int .i64)) (x3),.d 3 (.int .i64) (x4),I4 (x5)])],h:=[],n0:=0,w:=false } (fun e s=>some (e,s))=some (xLaL x0 x1 x2 x3 x4 x5 r):=by
 rw [bLaL]
 unfold LaL
 refine zb ?_ ?_
 intro h;cases h;rfl
 refine zb ?_ ?_
 refine zb ?_ ?_
 refine zb ?_ ?_
 intro h;cases h;rfl
 intro h;cases h;rfl
 intro h;cases h;rfl
 intro h;cases h
noncomputable def sLaL:TellS:=fun S=>dCS 0 S fun y1 y2 y3=>dSs 7 y1 fun y5 l4=>wz y5 fun x0=>dSI 8 .i64 l4 fun x1 l6=>dSI 9 .i64 l6 fun x2 l7=>dSt 10 l7 fun y9 l8=>dL 10 0 y9<|dE l8<|dLo 10 y2 fun y10 l11=>dC y10 fun y12 l13=>dD 22 (.list 3 (.int .i64)) y12 fun x3=>dC l13 fun y14 l15=>dD 3 (.int .i64) y14 fun x4=>dK l15 fun x5 l16=>dE l16<|dE l11<|dE y3 <|  some [(ok (LaL x0 x1 x2 x3 x4 x5),.ret,{ sl:=[(6,.v (.sc (.bool ((val (LaL x0 x1 x2 x3 x4 x5))))))],lo:=[],h:=[],n0:=0,w:=true })]
theorem wLaL:zG Try.prog dOk base o94 t94 ((6,52),sLaL):=by
 refine ⟨(zc Try.prog (tn0 6) 6 52),0,by kernel_rfl,?_⟩
 intro S alts e S' h10 h2
 have h1:sLaL S=some alts:=h10
 clear h10
 unfold sLaL at h1
 replace h1:=yg h1;obtain ⟨_,_,_,rfl,h1⟩:=h1
 replace h1:=zm h1;obtain ⟨_,_,rfl,h1⟩:=h1
 replace h1:=xX h1;obtain ⟨_,rfl,h1⟩:=h1
 replace h1:=zp h1;obtain ⟨_,_,rfl,h1⟩:=h1
 replace h1:=zp h1;obtain ⟨_,_,rfl,h1⟩:=h1
 replace h1:=xF h1;obtain ⟨_,_,rfl,h1⟩:=h1
 replace h1:=dLq h1;obtain ⟨rfl,h1⟩:=h1
 replace h1:=dEq h1;obtain ⟨rfl,h1⟩:=h1
 replace h1:=xL h1;obtain ⟨_,_,rfl,h1⟩:=h1
 replace h1:=dCq h1;obtain ⟨_,_,rfl,h1⟩:=h1
 replace h1:=dDq h1;obtain ⟨_,rfl,h1⟩:=h1
 replace h1:=dCq h1;obtain ⟨_,_,rfl,h1⟩:=h1
 replace h1:=dDq h1;obtain ⟨_,rfl,h1⟩:=h1
 replace h1:=zL h1;obtain ⟨_,_,rfl,h1⟩:=h1
 replace h1:=dEq h1;obtain ⟨rfl,h1⟩:=h1
 replace h1:=dEq h1;obtain ⟨rfl,h1⟩:=h1
 replace h1:=dEq h1;obtain ⟨rfl,h1⟩:=h1
 cases h1
 obtain ⟨hc0,rfl,rfl⟩:=zy h2
 exact ⟨0+40,(ZY rfl).trans (lLaL 0 _ _ _ _ _ _ _ (zf hc0))⟩
noncomputable def o95:OrcT:=o94
noncomputable def t95:TellT:=((6,52),sLaL)::t94
noncomputable abbrev tn95:FuncId→TAn:=zi base o95 t95
theorem ok95:TnOk Try.prog tn95 (mkA base) dOk:=by
 have h0:TnOk Try.prog (tn94) (mkA base) dOk:=ok94
 have h1:=zI h0 h0 (p:=((6,52),sLaL)) wLaL
 exact h1
noncomputable def v6 (x0 x1 x2:Int):Option Bool:=(cond (ok (v19 (IntKind.wrap IntKind.i64 ((1:Int)+Int.tmod (IntKind.wrap IntKind.i64 x0) (1000:Int))) (IntKind.wrap IntKind.i64 ((1:Int)+Int.tmod (IntKind.wrap IntKind.i64 x1) (8:Int))))) (cond (ok (v13 (val (v19 (IntKind.wrap IntKind.i64 ((1:Int)+Int.tmod (IntKind.wrap IntKind.i64 x0) (1000:Int))) (IntKind.wrap IntKind.i64 ((1:Int)+Int.tmod (IntKind.wrap IntKind.i64 x1) (8:Int))))).1 (val (v19 (IntKind.wrap IntKind.i64 ((1:Int)+Int.tmod (IntKind.wrap IntKind.i64 x0) (1000:Int))) (IntKind.wrap IntKind.i64 ((1:Int)+Int.tmod (IntKind.wrap IntKind.i64 x1) (8:Int))))).2.1 (val (v19 (IntKind.wrap IntKind.i64 ((1:Int)+Int.tmod (IntKind.wrap IntKind.i64 x0) (1000:Int))) (IntKind.wrap IntKind.i64 ((1:Int)+Int.tmod (IntKind.wrap IntKind.i64 x1) (8:Int))))).2.2 (Int.tmod (IntKind.wrap IntKind.i64 x2) (31:Int)))) (cond ((val (v13 (val (v19 (IntKind.wrap IntKind.i64 ((1:Int)+Int.tmod (IntKind.wrap IntKind.i64 x0) (1000:Int))) (IntKind.wrap IntKind.i64 ((1:Int)+Int.tmod (IntKind.wrap IntKind.i64 x1) (8:Int))))).1 (val (v19 (IntKind.wrap IntKind.i64 ((1:Int)+Int.tmod (IntKind.wrap IntKind.i64 x0) (1000:Int))) (IntKind.wrap IntKind.i64 ((1:Int)+Int.tmod (IntKind.wrap IntKind.i64 x1) (8:Int))))).2.1 (val (v19 (IntKind.wrap IntKind.i64 ((1:Int)+Int.tmod (IntKind.wrap IntKind.i64 x0) (1000:Int))) (IntKind.wrap IntKind.i64 ((1:Int)+Int.tmod (IntKind.wrap IntKind.i64 x1) (8:Int))))).2.2 (Int.tmod (IntKind.wrap IntKind.i64 x2) (31:Int)))).2.2.2 != 0) (some (false)) (cond ((↑(List.length (val (v13 (val (v19 (IntKind.wrap IntKind.i64 ((1:Int)+Int.tmod (IntKind.wrap IntKind.i64 x0) (1000:Int))) (IntKind.wrap IntKind.i64 ((1:Int)+Int.tmod (IntKind.wrap IntKind.i64 x1) (8:Int))))).1 (val (v19 (IntKind.wrap IntKind.i64 ((1:Int)+Int.tmod (IntKind.wrap IntKind.i64 x0) (1000:Int))) (IntKind.wrap IntKind.i64 ((1:Int)+Int.tmod (IntKind.wrap IntKind.i64 x1) (8:Int))))).2.1 (val (v19 (IntKind.wrap IntKind.i64 ((1:Int)+Int.tmod (IntKind.wrap IntKind.i64 x0) (1000:Int))) (IntKind.wrap IntKind.i64 ((1:Int)+Int.tmod (IntKind.wrap IntKind.i64 x1) (8:Int))))).2.2 (Int.tmod (IntKind.wrap IntKind.i64 x2) (31:Int)))).1):Int) != IntKind.wrap IntKind.i64 ((1:Int)+Int.tmod (IntKind.wrap IntKind.i64 x1) (8:Int))) (some (false)) (cond ((↑(List.length (val (v13 (val (v19 (IntKind.wrap IntKind.i64 ((1:Int)+Int.tmod (IntKind.wrap IntKind.i64 x0) (1000:Int))) (IntKind.wrap IntKind.i64 ((1:Int)+Int.tmod (IntKind.wrap IntKind.i64 x1) (8:Int))))).1 (val (v19 (IntKind.wrap IntKind.i64 ((1:Int)+Int.tmod (IntKind.wrap IntKind.i64 x0) (1000:Int))) (IntKind.wrap IntKind.i64 ((1:Int)+Int.tmod (IntKind.wrap IntKind.i64 x1) (8:Int))))).2.1 (val (v19 (IntKind.wrap IntKind.i64 ((1:Int)+Int.tmod (IntKind.wrap IntKind.i64 x0) (1000:Int))) (IntKind.wrap IntKind.i64 ((1:Int)+Int.tmod (IntKind.wrap IntKind.i64 x1) (8:Int))))).2.2 (Int.tmod (IntKind.wrap IntKind.i64 x2) (31:Int)))).2.1):Int) != (1:Int)) (some (false)) (cond (ok (LaL (val v11) (IntKind.wrap IntKind.i64 ((1:Int)+Int.tmod (IntKind.wrap IntKind.i64 x0) (1000:Int))) (IntKind.wrap IntKind.i64 ((1:Int)+Int.tmod (IntKind.wrap IntKind.i64 x1) (8:Int))) (val (v13 (val (v19 (IntKind.wrap IntKind.i64 ((1:Int)+Int.tmod (IntKind.wrap IntKind.i64 x0) (1000:Int))) (IntKind.wrap IntKind.i64 ((1:Int)+Int.tmod (IntKind.wrap IntKind.i64 x1) (8:Int))))).1 (val (v19 (IntKind.wrap IntKind.i64 ((1:Int)+Int.tmod (IntKind.wrap IntKind.i64 x0) (1000:Int))) (IntKind.wrap IntKind.i64 ((1:Int)+Int.tmod (IntKind.wrap IntKind.i64 x1) (8:Int))))).2.1 (val (v19 (IntKind.wrap IntKind.i64 ((1:Int)+Int.tmod (IntKind.wrap IntKind.i64 x0) (1000:Int))) (IntKind.wrap IntKind.i64 ((1:Int)+Int.tmod (IntKind.wrap IntKind.i64 x1) (8:Int))))).2.2 (Int.tmod (IntKind.wrap IntKind.i64 x2) (31:Int)))).1 (val (v13 (val (v19 (IntKind.wrap IntKind.i64 ((1:Int)+Int.tmod (IntKind.wrap IntKind.i64 x0) (1000:Int))) (IntKind.wrap IntKind.i64 ((1:Int)+Int.tmod (IntKind.wrap IntKind.i64 x1) (8:Int))))).1 (val (v19 (IntKind.wrap IntKind.i64 ((1:Int)+Int.tmod (IntKind.wrap IntKind.i64 x0) (1000:Int))) (IntKind.wrap IntKind.i64 ((1:Int)+Int.tmod (IntKind.wrap IntKind.i64 x1) (8:Int))))).2.1 (val (v19 (IntKind.wrap IntKind.i64 ((1:Int)+Int.tmod (IntKind.wrap IntKind.i64 x0) (1000:Int))) (IntKind.wrap IntKind.i64 ((1:Int)+Int.tmod (IntKind.wrap IntKind.i64 x1) (8:Int))))).2.2 (Int.tmod (IntKind.wrap IntKind.i64 x2) (31:Int)))).2.1 (val (v13 (val (v19 (IntKind.wrap IntKind.i64 ((1:Int)+Int.tmod (IntKind.wrap IntKind.i64 x0) (1000:Int))) (IntKind.wrap IntKind.i64 ((1:Int)+Int.tmod (IntKind.wrap IntKind.i64 x1) (8:Int))))).1 (val (v19 (IntKind.wrap IntKind.i64 ((1:Int)+Int.tmod (IntKind.wrap IntKind.i64 x0) (1000:Int))) (IntKind.wrap IntKind.i64 ((1:Int)+Int.tmod (IntKind.wrap IntKind.i64 x1) (8:Int))))).2.1 (val (v19 (IntKind.wrap IntKind.i64 ((1:Int)+Int.tmod (IntKind.wrap IntKind.i64 x0) (1000:Int))) (IntKind.wrap IntKind.i64 ((1:Int)+Int.tmod (IntKind.wrap IntKind.i64 x1) (8:Int))))).2.2 (Int.tmod (IntKind.wrap IntKind.i64 x2) (31:Int)))).2.2.1)) (some (val (LaL (val v11) (IntKind.wrap IntKind.i64 ((1:Int)+Int.tmod (IntKind.wrap IntKind.i64 x0) (1000:Int))) (IntKind.wrap IntKind.i64 ((1:Int)+Int.tmod (IntKind.wrap IntKind.i64 x1) (8:Int))) (val (v13 (val (v19 (IntKind.wrap IntKind.i64 ((1:Int)+Int.tmod (IntKind.wrap IntKind.i64 x0) (1000:Int))) (IntKind.wrap IntKind.i64 ((1:Int)+Int.tmod (IntKind.wrap IntKind.i64 x1) (8:Int))))).1 (val (v19 (IntKind.wrap IntKind.i64 ((1:Int)+Int.tmod (IntKind.wrap IntKind.i64 x0) (1000:Int))) (IntKind.wrap IntKind.i64 ((1:Int)+Int.tmod (IntKind.wrap IntKind.i64 x1) (8:Int))))).2.1 (val (v19 (IntKind.wrap IntKind.i64 ((1:Int)+Int.tmod (IntKind.wrap IntKind.i64 x0) (1000:Int))) (IntKind.wrap IntKind.i64 ((1:Int)+Int.tmod (IntKind.wrap IntKind.i64 x1) (8:Int))))).2.2 (Int.tmod (IntKind.wrap IntKind.i64 x2) (31:Int)))).1 (val (v13 (val (v19 (IntKind.wrap IntKind.i64 ((1:Int)+Int.tmod (IntKind.wrap IntKind.i64 x0) (1000:Int))) (IntKind.wrap IntKind.i64 ((1:Int)+Int.tmod (IntKind.wrap IntKind.i64 x1) (8:Int))))).1 (val (v19 (IntKind.wrap IntKind.i64 ((1:Int)+Int.tmod (IntKind.wrap IntKind.i64 x0) (1000:Int))) (IntKind.wrap IntKind.i64 ((1:Int)+Int.tmod (IntKind.wrap IntKind.i64 x1) (8:Int))))).2.1 (val (v19 (IntKind.wrap IntKind.i64 ((1:Int)+Int.tmod (IntKind.wrap IntKind.i64 x0) (1000:Int))) (IntKind.wrap IntKind.i64 ((1:Int)+Int.tmod (IntKind.wrap IntKind.i64 x1) (8:Int))))).2.2 (Int.tmod (IntKind.wrap IntKind.i64 x2) (31:Int)))).2.1 (val (v13 (val (v19 (IntKind.wrap IntKind.i64 ((1:Int)+Int.tmod (IntKind.wrap IntKind.i64 x0) (1000:Int))) (IntKind.wrap IntKind.i64 ((1:Int)+Int.tmod (IntKind.wrap IntKind.i64 x1) (8:Int))))).1 (val (v19 (IntKind.wrap IntKind.i64 ((1:Int)+Int.tmod (IntKind.wrap IntKind.i64 x0) (1000:Int))) (IntKind.wrap IntKind.i64 ((1:Int)+Int.tmod (IntKind.wrap IntKind.i64 x1) (8:Int))))).2.1 (val (v19 (IntKind.wrap IntKind.i64 ((1:Int)+Int.tmod (IntKind.wrap IntKind.i64 x0) (1000:Int))) (IntKind.wrap IntKind.i64 ((1:Int)+Int.tmod (IntKind.wrap IntKind.i64 x1) (8:Int))))).2.2 (Int.tmod (IntKind.wrap IntKind.i64 x2) (31:Int)))).2.2.1))) none)))) none) none)
theorem ev6 (x0 x1 x2:Int):zu Try.prog (tn95 6) (TM.evF Try.prog (tn95) dOk 40) dOk 40 6 [.sc (.int .u16 x0),.sc (.int .u8 x1),.sc (.int .u8 x2)] []=(v6 x0 x1 x2).bind fun r=>some ([.sc (.bool (r))],[]):=by
 refine Eq.trans (b:=(cond (ok (v19 (IntKind.wrap IntKind.i64 ((1:Int)+Int.tmod (IntKind.wrap IntKind.i64 x0) (1000:Int))) (IntKind.wrap IntKind.i64 ((1:Int)+Int.tmod (IntKind.wrap IntKind.i64 x1) (8:Int))))) (cond (ok (v13 (val (v19 (IntKind.wrap IntKind.i64 ((1:Int)+Int.tmod (IntKind.wrap IntKind.i64 x0) (1000:Int))) (IntKind.wrap IntKind.i64 ((1:Int)+Int.tmod (IntKind.wrap IntKind.i64 x1) (8:Int))))).1 (val (v19 (IntKind.wrap IntKind.i64 ((1:Int)+Int.tmod (IntKind.wrap IntKind.i64 x0) (1000:Int))) (IntKind.wrap IntKind.i64 ((1:Int)+Int.tmod (IntKind.wrap IntKind.i64 x1) (8:Int))))).2.1 (val (v19 (IntKind.wrap IntKind.i64 ((1:Int)+Int.tmod (IntKind.wrap IntKind.i64 x0) (1000:Int))) (IntKind.wrap IntKind.i64 ((1:Int)+Int.tmod (IntKind.wrap IntKind.i64 x1) (8:Int))))).2.2 (Int.tmod (IntKind.wrap IntKind.i64 x2) (31:Int)))) (cond ((val (v13 (val (v19 (IntKind.wrap IntKind.i64 ((1:Int)+Int.tmod (IntKind.wrap IntKind.i64 x0) (1000:Int))) (IntKind.wrap IntKind.i64 ((1:Int)+Int.tmod (IntKind.wrap IntKind.i64 x1) (8:Int))))).1 (val (v19 (IntKind.wrap IntKind.i64 ((1:Int)+Int.tmod (IntKind.wrap IntKind.i64 x0) (1000:Int))) (IntKind.wrap IntKind.i64 ((1:Int)+Int.tmod (IntKind.wrap IntKind.i64 x1) (8:Int))))).2.1 (val (v19 (IntKind.wrap IntKind.i64 ((1:Int)+Int.tmod (IntKind.wrap IntKind.i64 x0) (1000:Int))) (IntKind.wrap IntKind.i64 ((1:Int)+Int.tmod (IntKind.wrap IntKind.i64 x1) (8:Int))))).2.2 (Int.tmod (IntKind.wrap IntKind.i64 x2) (31:Int)))).2.2.2 != 0) (some ([.sc (.bool (false))],[])) (cond ((↑(List.length (val (v13 (val (v19 (IntKind.wrap IntKind.i64 ((1:Int)+Int.tmod (IntKind.wrap IntKind.i64 x0) (1000:Int))) (IntKind.wrap IntKind.i64 ((1:Int)+Int.tmod (IntKind.wrap IntKind.i64 x1) (8:Int))))).1 (val (v19 (IntKind.wrap IntKind.i64 ((1:Int)+Int.tmod (IntKind.wrap IntKind.i64 x0) (1000:Int))) (IntKind.wrap IntKind.i64 ((1:Int)+Int.tmod (IntKind.wrap IntKind.i64 x1) (8:Int))))).2.1 (val (v19 (IntKind.wrap IntKind.i64 ((1:Int)+Int.tmod (IntKind.wrap IntKind.i64 x0) (1000:Int))) (IntKind.wrap IntKind.i64 ((1:Int)+Int.tmod (IntKind.wrap IntKind.i64 x1) (8:Int))))).2.2 (Int.tmod (IntKind.wrap IntKind.i64 x2) (31:Int)))).1):Int) != IntKind.wrap IntKind.i64 ((1:Int)+Int.tmod (IntKind.wrap IntKind.i64 x1) (8:Int))) (some ([.sc (.bool (false))],[])) (cond ((↑(List.length (val (v13 (val (v19 (IntKind.wrap IntKind.i64 ((1:Int)+Int.tmod (IntKind.wrap IntKind.i64 x0) (1000:Int))) (IntKind.wrap IntKind.i64 ((1:Int)+Int.tmod (IntKind.wrap IntKind.i64 x1) (8:Int))))).1 (val (v19 (IntKind.wrap IntKind.i64 ((1:Int)+Int.tmod (IntKind.wrap IntKind.i64 x0) (1000:Int))) (IntKind.wrap IntKind.i64 ((1:Int)+Int.tmod (IntKind.wrap IntKind.i64 x1) (8:Int))))).2.1 (val (v19 (IntKind.wrap IntKind.i64 ((1:Int)+Int.tmod (IntKind.wrap IntKind.i64 x0) (1000:Int))) (IntKind.wrap IntKind.i64 ((1:Int)+Int.tmod (IntKind.wrap IntKind.i64 x1) (8:Int))))).2.2 (Int.tmod (IntKind.wrap IntKind.i64 x2) (31:Int)))).2.1):Int) != (1:Int)) (some ([.sc (.bool (false))],[])) (cond (ok (LaL (val v11) (IntKind.wrap IntKind.i64 ((1:Int)+Int.tmod (IntKind.wrap IntKind.i64 x0) (1000:Int))) (IntKind.wrap IntKind.i64 ((1:Int)+Int.tmod (IntKind.wrap IntKind.i64 x1) (8:Int))) (val (v13 (val (v19 (IntKind.wrap IntKind.i64 ((1:Int)+Int.tmod (IntKind.wrap IntKind.i64 x0) (1000:Int))) (IntKind.wrap IntKind.i64 ((1:Int)+Int.tmod (IntKind.wrap IntKind.i64 x1) (8:Int))))).1 (val (v19 (IntKind.wrap IntKind.i64 ((1:Int)+Int.tmod (IntKind.wrap IntKind.i64 x0) (1000:Int))) (IntKind.wrap IntKind.i64 ((1:Int)+Int.tmod (IntKind.wrap IntKind.i64 x1) (8:Int))))).2.1 (val (v19 (IntKind.wrap IntKind.i64 ((1:Int)+Int.tmod (IntKind.wrap IntKind.i64 x0) (1000:Int))) (IntKind.wrap IntKind.i64 ((1:Int)+Int.tmod (IntKind.wrap IntKind.i64 x1) (8:Int))))).2.2 (Int.tmod (IntKind.wrap IntKind.i64 x2) (31:Int)))).1 (val (v13 (val (v19 (IntKind.wrap IntKind.i64 ((1:Int)+Int.tmod (IntKind.wrap IntKind.i64 x0) (1000:Int))) (IntKind.wrap IntKind.i64 ((1:Int)+Int.tmod (IntKind.wrap IntKind.i64 x1) (8:Int))))).1 (val (v19 (IntKind.wrap IntKind.i64 ((1:Int)+Int.tmod (IntKind.wrap IntKind.i64 x0) (1000:Int))) (IntKind.wrap IntKind.i64 ((1:Int)+Int.tmod (IntKind.wrap IntKind.i64 x1) (8:Int))))).2.1 (val (v19 (IntKind.wrap IntKind.i64 ((1:Int)+Int.tmod (IntKind.wrap IntKind.i64 x0) (1000:Int))) (IntKind.wrap IntKind.i64 ((1:Int)+Int.tmod (IntKind.wrap IntKind.i64 x1) (8:Int))))).2.2 (Int.tmod (IntKind.wrap IntKind.i64 x2) (31:Int)))).2.1 (val (v13 (val (v19 (IntKind.wrap IntKind.i64 ((1:Int)+Int.tmod (IntKind.wrap IntKind.i64 x0) (1000:Int))) (IntKind.wrap IntKind.i64 ((1:Int)+Int.tmod (IntKind.wrap IntKind.i64 x1) (8:Int))))).1 (val (v19 (IntKind.wrap IntKind.i64 ((1:Int)+Int.tmod (IntKind.wrap IntKind.i64 x0) (1000:Int))) (IntKind.wrap IntKind.i64 ((1:Int)+Int.tmod (IntKind.wrap IntKind.i64 x1) (8:Int))))).2.1 (val (v19 (IntKind.wrap IntKind.i64 ((1:Int)+Int.tmod (IntKind.wrap IntKind.i64 x0) (1000:Int))) (IntKind.wrap IntKind.i64 ((1:Int)+Int.tmod (IntKind.wrap IntKind.i64 x1) (8:Int))))).2.2 (Int.tmod (IntKind.wrap IntKind.i64 x2) (31:Int)))).2.2.1)) (some ([.sc (.bool (val (LaL (val v11) (IntKind.wrap IntKind.i64 ((1:Int)+Int.tmod (IntKind.wrap IntKind.i64 x0) (1000:Int))) (IntKind.wrap IntKind.i64 ((1:Int)+Int.tmod (IntKind.wrap IntKind.i64 x1) (8:Int))) (val (v13 (val (v19 (IntKind.wrap IntKind.i64 ((1:Int)+Int.tmod (IntKind.wrap IntKind.i64 x0) (1000:Int))) (IntKind.wrap IntKind.i64 ((1:Int)+Int.tmod (IntKind.wrap IntKind.i64 x1) (8:Int))))).1 (val (v19 (IntKind.wrap IntKind.i64 ((1:Int)+Int.tmod (IntKind.wrap IntKind.i64 x0) (1000:Int))) (IntKind.wrap IntKind.i64 ((1:Int)+Int.tmod (IntKind.wrap IntKind.i64 x1) (8:Int))))).2.1 (val (v19 (IntKind.wrap IntKind.i64 ((1:Int)+Int.tmod (IntKind.wrap IntKind.i64 x0) (1000:Int))) (IntKind.wrap IntKind.i64 ((1:Int)+Int.tmod (IntKind.wrap IntKind.i64 x1) (8:Int))))).2.2 (Int.tmod (IntKind.wrap IntKind.i64 x2) (31:Int)))).1 (val (v13 (val (v19 (IntKind.wrap IntKind.i64 ((1:Int)+Int.tmod (IntKind.wrap IntKind.i64 x0) (1000:Int))) (IntKind.wrap IntKind.i64 ((1:Int)+Int.tmod (IntKind.wrap IntKind.i64 x1) (8:Int))))).1 (val (v19 (IntKind.wrap IntKind.i64 ((1:Int)+Int.tmod (IntKind.wrap IntKind.i64 x0) (1000:Int))) (IntKind.wrap IntKind.i64 ((1:Int)+Int.tmod (IntKind.wrap IntKind.i64 x1) (8:Int))))).2.1 (val (v19 (IntKind.wrap IntKind.i64 ((1:Int)+Int.tmod (IntKind.wrap IntKind.i64 x0) (1000:Int))) (IntKind.wrap IntKind.i64 ((1:Int)+Int.tmod (IntKind.wrap IntKind.i64 x1) (8:Int))))).2.2 (Int.tmod (IntKind.wrap IntKind.i64 x2) (31:Int)))).2.1 (val (v13 (val (v19 (IntKind.wrap IntKind.i64 ((1:Int)+Int.tmod (IntKind.wrap IntKind.i64 x0) (1000:Int))) (IntKind.wrap IntKind.i64 ((1:Int)+Int.tmod (IntKind.wrap IntKind.i64 x1) (8:Int))))).1 (val (v19 (IntKind.wrap IntKind.i64 ((1:Int)+Int.tmod (IntKind.wrap IntKind.i64 x0) (1000:Int))) (IntKind.wrap IntKind.i64 ((1:Int)+Int.tmod (IntKind.wrap IntKind.i64 x1) (8:Int))))).2.1 (val (v19 (IntKind.wrap IntKind.i64 ((1:Int)+Int.tmod (IntKind.wrap IntKind.i64 x0) (1000:Int))) (IntKind.wrap IntKind.i64 ((1:Int)+Int.tmod (IntKind.wrap IntKind.i64 x1) (8:Int))))).2.2 (Int.tmod (IntKind.wrap IntKind.i64 x2) (31:Int)))).2.2.1)))],[])) none)))) none) none)) (by kernel_rfl) ?_
 unfold v6
 refine za ?_ ?_
 refine za ?_ ?_
 refine za ?_ ?_
 rfl
 refine za ?_ ?_
 rfl
 refine za ?_ ?_
 rfl
 refine za ?_ ?_
 rfl
 rfl
 rfl
 rfl
noncomputable def sv6:OrcS:=fun al H=>dC al fun y1 l2=>dS y1 fun y3=>xb .u16 y3 fun x0=>dC l2 fun y4 l5=>dS y4 fun y6=>xb .u8 y6 fun x1=>dC l5 fun y7 l8=>dS y7 fun y9=>xb .u8 y9 fun x2=>dE l8<|dE H <|  some [(ok (v6 x0 x1 x2),[.sc (.bool ((val (v6 x0 x1 x2))))],[])]
noncomputable def o96:OrcT:=(6,sv6)::o95
noncomputable def t96:TellT:=t95
noncomputable abbrev tn96:FuncId→TAn:=zi base o96 t96
end Go.Proofs.Ytgmebdomopdgmaa
