/- What some functions and loops come to: printed and checked. Written by a program of ours. -/
import Derived.Test.YtgmebdomopdgmaaG2
set_option linter.all false
set_option maxRecDepth 1000000
set_option maxHeartbeats 4000000
namespace Go.Proofs.Ytgmebdomopdgmaa
open Go Go.AM Go.TM Go.Proofs
noncomputable def Lad:Nat→Int→Int→Int→(List (List Int))→(List Int)→Int→(List Int)→(List (List Int))→(List Int)→(List Int)→(List Int)→(List (List Int))→(List Int)→Option ((List (List Int))×(List Int)×Int)
 | 0,_,_,_,_,_,_,_,_,_,_,_,_,_=>none
 | n+1,x0,x1,x2,x3,x4,x5,x6,x7,x8,x9,A,B,C=>(cond (decide (x1 < x0)) (cond (ok (v29 x6 x7 x8 x9 A)) (cond (ok (v28 x6 x7 x8 (val (v29 x6 x7 x8 x9 A)).1 (val (v29 x6 x7 x8 x9 A)).2)) (cond (val (v28 x6 x7 x8 (val (v29 x6 x7 x8 x9 A)).1 (val (v29 x6 x7 x8 x9 A)).2)).2.2.2 (cond (decide ((val (v28 x6 x7 x8 (val (v29 x6 x7 x8 x9 A)).1 (val (v29 x6 x7 x8 x9 A)).2)).2.2.1 < x5)) (Lad n x0 (IntKind.wrap IntKind.i64 (x1+(1:Int))) x2 (val (v28 x6 x7 x8 (val (v29 x6 x7 x8 x9 A)).1 (val (v29 x6 x7 x8 x9 A)).2)).1 (val (v28 x6 x7 x8 (val (v29 x6 x7 x8 x9 A)).1 (val (v29 x6 x7 x8 x9 A)).2)).2.1 (val (v28 x6 x7 x8 (val (v29 x6 x7 x8 x9 A)).1 (val (v29 x6 x7 x8 x9 A)).2)).2.2.1 x6 x7 x8 (val (v29 x6 x7 x8 x9 A)).1 (val (v29 x6 x7 x8 x9 A)).2 B C) (Lad n x0 (IntKind.wrap IntKind.i64 (x1+(1:Int))) x2 x3 x4 x5 x6 x7 x8 (val (v29 x6 x7 x8 x9 A)).1 (val (v29 x6 x7 x8 x9 A)).2 B C)) (Lad n x0 (IntKind.wrap IntKind.i64 (x1+(1:Int))) x2 x3 x4 x5 x6 x7 x8 (val (v29 x6 x7 x8 x9 A)).1 (val (v29 x6 x7 x8 x9 A)).2 B C)) none) none) (some (x3,x4,x5)))
theorem qLad:type_of% @Lad.eq_2:=@Lad.eq_2
noncomputable def xLad (x0 x1 x2:Int) (x3:(List (List Int))) (x4:(List Int)) (x5:Int) (x6:(List Int)) (x7:(List (List Int))) (x8:(List Int)) (x9:(List Int)) (A:(List Int)) (B:(List (List Int))) (C:(List Int)):((List (List Int))×(List Int)×Int)→Ex×CS:=fun r=>((.exit 0),{ sl:=[(4,.l 4 0),(9,.l 9 0)],lo:=[(4,[.g 0,.g 1,I4 (x2)]),(9,[.d 22 (.list 3 (.int .i64)) (r.1:List (List Int)),.d 3 (.int .i64) (r.2.1:List Int),I4 (r.2.2)])],h:=[.row 22 (.list 3 (.int .i64)) (B),.row 3 (.int .i64) (C)],n0:=0,w:=false })
theorem bLad (k:Nat) (cN:CS→Option (Ex×CS)) (cX:Ex→CS→Option (Ex×CS)) (x0 x1 x2:Int) (x3:(List (List Int))) (x4:(List Int)) (x5:Int) (x6:(List Int)) (x7:(List (List Int))) (x8:(List Int)) (x9:(List Int)) (A:(List Int)) (B:(List (List Int))) (C:(List Int)):zq Try.prog (tn87 13) (TM.evF Try.prog (tn87) dOk (k+40)) dOk (k+40) (zc Try.prog (tn0 13) 13 0) 0 0 { sl:=[(4,.l 4 0),(7,.v (.sc (.ptr 0 0))),(9,.l 9 0),(54,.v (.sc (I4 x0))),(55,.v (.sc (I4 x1)))],lo:=[(4,[.g 3,.g 4,I4 (x2)]),(9,[.d 22 (.list 3 (.int .i64)) (x3),.d 3 (.int .i64) (x4),I4 (x5)])],h:=[.box 73 [.d 3 (.int .i64) (x6),.d 22 (.list 3 (.int .i64)) (x7),.d 3 (.int .i64) (x8),.g 1,.g 2],.row 3 (.int .i64) (x9),.row 3 (.int .i64) (A),.row 22 (.list 3 (.int .i64)) (B),.row 3 (.int .i64) (C)],n0:=0,w:=false } cN cX=(cond (decide (x1 < x0)) (cond (ok (v29 x6 x7 x8 x9 A)) (cond (ok (v28 x6 x7 x8 (val (v29 x6 x7 x8 x9 A)).1 (val (v29 x6 x7 x8 x9 A)).2)) (cond (val (v28 x6 x7 x8 (val (v29 x6 x7 x8 x9 A)).1 (val (v29 x6 x7 x8 x9 A)).2)).2.2.2 (cond (decide ((val (v28 x6 x7 x8 (val (v29 x6 x7 x8 x9 A)).1 (val (v29 x6 x7 x8 x9 A)).2)).2.2.1 < x5)) (cN { sl:=[(4,.l 4 0),(7,.v (.sc (.ptr 0 0))),(9,.l 9 0),(54,.v (.sc (I4 x0))),(55,.v (.sc (I4 (IntKind.wrap IntKind.i64 (x1+(1:Int))))))],lo:=[(4,[.g 3,.g 4,I4 (x2)]),(9,[.d 22 (.list 3 (.int .i64)) ((val (v28 x6 x7 x8 (val (v29 x6 x7 x8 x9 A)).1 (val (v29 x6 x7 x8 x9 A)).2)).1:List (List Int)),.d 3 (.int .i64) ((val (v28 x6 x7 x8 (val (v29 x6 x7 x8 x9 A)).1 (val (v29 x6 x7 x8 x9 A)).2)).2.1:List Int),I4 (val (v28 x6 x7 x8 (val (v29 x6 x7 x8 x9 A)).1 (val (v29 x6 x7 x8 x9 A)).2)).2.2.1])],h:=[.box 73 [.d 3 (.int .i64) (x6),.d 22 (.list 3 (.int .i64)) (x7),.d 3 (.int .i64) (x8),.g 1,.g 2],.row 3 (.int .i64) ((val (v29 x6 x7 x8 x9 A)).1:List Int),.row 3 (.int .i64) ((val (v29 x6 x7 x8 x9 A)).2:List Int),.row 22 (.list 3 (.int .i64)) (B),.row 3 (.int .i64) (C)],n0:=0,w:=false }) (cN { sl:=[(4,.l 4 0),(7,.v (.sc (.ptr 0 0))),(9,.l 9 0),(54,.v (.sc (I4 x0))),(55,.v (.sc (I4 (IntKind.wrap IntKind.i64 (x1+(1:Int))))))],lo:=[(4,[.g 3,.g 4,I4 (x2)]),(9,[.d 22 (.list 3 (.int .i64)) (x3),.d 3 (.int .i64) (x4),I4 (x5)])],h:=[.box 73 [.d 3 (.int .i64) (x6),.d 22 (.list 3 (.int .i64)) (x7),.d 3 (.int .i64) (x8),.g 1,.g 2],.row 3 (.int .i64) ((val (v29 x6 x7 x8 x9 A)).1:List Int),.row 3 (.int .i64) ((val (v29 x6 x7 x8 x9 A)).2:List Int),.row 22 (.list 3 (.int .i64)) (B),.row 3 (.int .i64) (C)],n0:=0,w:=false })) (cN { sl:=[(4,.l 4 0),(7,.v (.sc (.ptr 0 0))),(9,.l 9 0),(54,.v (.sc (I4 x0))),(55,.v (.sc (I4 (IntKind.wrap IntKind.i64 (x1+(1:Int))))))],lo:=[(4,[.g 3,.g 4,I4 (x2)]),(9,[.d 22 (.list 3 (.int .i64)) (x3),.d 3 (.int .i64) (x4),I4 (x5)])],h:=[.box 73 [.d 3 (.int .i64) (x6),.d 22 (.list 3 (.int .i64)) (x7),.d 3 (.int .i64) (x8),.g 1,.g 2],.row 3 (.int .i64) ((val (v29 x6 x7 x8 x9 A)).1:List Int),.row 3 (.int .i64) ((val (v29 x6 x7 x8 x9 A)).2:List Int),.row 22 (.list 3 (.int .i64)) (B),.row 3 (.int .i64) (C)],n0:=0,w:=false })) none) none) (cX (.exit 0) { sl:=[(4,.l 4 0),(9,.l 9 0)],lo:=[(4,[.g 0,.g 1,I4 (x2)]),(9,[.d 22 (.list 3 (.int .i64)) (x3),.d 3 (.int .i64) (x4),I4 (x5)])],h:=[.row 22 (.list 3 (.int .i64)) (B),.row 3 (.int .i64) (C)],n0:=0,w:=false })):=by kernel_rfl
theorem lLad (k m:Nat):∀ (n:Nat) (x0 x1 x2:Int) (x3:(List (List Int))) (x4:(List Int)) (x5:Int) (x6:(List Int)) (x7:(List (List Int))) (x8:(List Int)) (x9:(List Int)) (A:(List Int)) (B:(List (List Int))) (C:(List Int)) (r:((List (List Int))×(List Int)×Int)),Lad n x0 x1 x2 x3 x4 x5 x6 x7 x8 x9 A B C=some r→zM Try.prog (tn87 13) (TM.evF Try.prog (tn87) dOk (k+40)) dOk (k+40) (zc Try.prog (tn0 13) 13 0) 0 0 (n+m) { sl:=[(4,.l 4 0),(7,.v (.sc (.ptr 0 0))),(9,.l 9 0),(54,.v (.sc (I4 x0))),(55,.v (.sc (I4 x1)))],lo:=[(4,[.g 3,.g 4,I4 (x2)]),(9,[.d 22 (.list 3 (.int .i64)) (x3),.d 3 (.int .i64) (x4),I4 (x5)])],h:=[.box 73 [.d 3 (.int .i64) (x6),.d 22 (.list 3 (.int .i64)) (x7),.d 3 (.int .i64) (x8),.g 1,.g 2],.row 3 (.int .i64) (x9),.row 3 (.int .i64) (A),.row 22 (.list 3 (.int .i64)) (B),.row 3 (.int .i64) (C)],n0:=0,w:=false }=some (xLad x0 x1 x2 x3 x4 x5 x6 x7 x8 x9 A B C r):=by
 intro n
 induction n with
 | zero=>intro _ _ _ _ _ _ _ _ _ _ _ _ _ r h;cases h
 | succ n ih=>
  intro x0 x1 x2 x3 x4 x5 x6 x7 x8 x9 A B C r
  rw [show n+1+m=n+m+1 by omega,zp,bLad,qLad]
  refine zb ?_ ?_
  refine zb ?_ ?_
  refine zb ?_ ?_
  refine zb ?_ ?_
  refine zb ?_ ?_
  exact ih _ _ _ _ _ _ _ _ _ _ _ _ _ r
  exact ih _ _ _ _ _ _ _ _ _ _ _ _ _ r
  exact ih _ _ _ _ _ _ _ _ _ _ _ _ _ r
  intro h;cases h
  intro h;cases h
  intro h;cases h;rfl
noncomputable def sLad:TellS:=fun S=>dCS 0 S fun y1 y2 y3=>dSt 4 y1 fun y5 l4=>dL 4 0 y5<|dSs 7 l4 fun y7 l6=>zi 0 0 y7<|dSt 9 l6 fun y9 l8=>dL 9 0 y9<|dSI 54 .i64 l8 fun x0 l10=>dSI 55 .i64 l10 fun x1 l11=>dE l11<|dLo 4 y2 fun y12 l13=>dC y12 fun y14 l15=>dG 3 y14<|dC l15 fun y16 l17=>dG 4 y16<|dK l17 fun x2 l18=>dE l18<|dLo 9 l13 fun y19 l20=>dC y19 fun y21 l22=>dD 22 (.list 3 (.int .i64)) y21 fun x3=>dC l22 fun y23 l24=>dD 3 (.int .i64) y23 fun x4=>dK l24 fun x5 l25=>dE l25<|dE l20<|dHB 73 y3 fun y27 l26=>dC y27 fun y28 l29=>dD 3 (.int .i64) y28 fun x6=>dC l29 fun y30 l31=>dD 22 (.list 3 (.int .i64)) y30 fun x7=>dC l31 fun y32 l33=>dD 3 (.int .i64) y32 fun x8=>dC l33 fun y34 l35=>dG 1 y34<|dC l35 fun y36 l37=>dG 2 y36<|dE l37<|dHR 3 (.int .i64) l26 fun x9 l38=>dHR 3 (.int .i64) l38 fun A l39=>dHR 22 (.list 3 (.int .i64)) l39 fun B l40=>dHR 3 (.int .i64) l40 fun C l41=>dE l41 <|  some [(ok (Lad FU x0 x1 x2 x3 x4 x5 x6 x7 x8 x9 A B C),(.exit 0),{ sl:=[(4,.l 4 0),(9,.l 9 0)],lo:=[(4,[.g 0,.g 1,I4 (x2)]),(9,[.d 22 (.list 3 (.int .i64)) ((val (Lad FU x0 x1 x2 x3 x4 x5 x6 x7 x8 x9 A B C)).1:List (List Int)),.d 3 (.int .i64) ((val (Lad FU x0 x1 x2 x3 x4 x5 x6 x7 x8 x9 A B C)).2.1:List Int),I4 ((val (Lad FU x0 x1 x2 x3 x4 x5 x6 x7 x8 x9 A B C)).2.2)])],h:=[.row 22 (.list 3 (.int .i64)) (B),.row 3 (.int .i64) (C)],n0:=0,w:=false })]
theorem wLad:zB Try.prog dOk base o87 t87 ((13,0),sLad):=by
 refine ⟨.loop (zc Try.prog (tn0 13) 13 0),0,by kernel_rfl,?_⟩
 intro S alts e S' h10 h2
 have h1:sLad S=some alts:=h10
 clear h10
 unfold sLad at h1
 repeat with_reducible first|replace h1:=yc h1;obtain ⟨_,_,_,rfl,h1⟩:=h1|(first|replace h1:=wB h1|replace h1:=zX h1|replace h1:=ye h1|replace h1:=wL h1|replace h1:=dCq h1|replace h1:=zJ h1|replace h1:=zG h1|replace h1:=zY h1);obtain ⟨_,_,rfl,h1⟩:=h1|(first|replace h1:=dLq h1|replace h1:=zr h1|replace h1:=dEq h1|replace h1:=dGq h1);obtain ⟨rfl,h1⟩:=h1|replace h1:=dDq h1;obtain ⟨_,rfl,h1⟩:=h1
 cases h1
 obtain ⟨hc0,rfl,rfl⟩:=zt h2
 exact ⟨FU+40,(ze rfl).trans (lLad FU 40 FU _ _ _ _ _ _ _ _ _ _ _ _ _ _ (zf hc0))⟩
noncomputable def o88:OrcT:=o87
noncomputable def t88:TellT:=((13,0),sLad)::t87
noncomputable abbrev tn88:FuncId→TAn:=zh base o88 t88
theorem ok88:TnOk Try.prog tn88 (mkA base) dOk:=by
 have h0:TnOk Try.prog (tn87) (mkA base) dOk:=ok87
 have h1:=zD h0 h0 (p:=((13,0),sLad)) wLad
 exact h1
noncomputable def v13 (x0:(List Int)) (x1:(List (List Int))) (x2:(List Int)) (x3:Int):Option ((List (List Int))×(List Int)×Int×Int):=(cond (ok (v23_3 x2)) (cond (ok (v26 x0 x1 x2)) (cond (ok (v25 x0 (val (v26 x0 x1 x2)))) (cond (!val (v25 x0 (val (v26 x0 x1 x2)))) (some ([],[],0,(1:Int))) (cond ((x2.length:Int) != (x1.length:Int)) (some ([],[],0,(1:Int))) (cond (val (v23_3 x2)) (some ([],[],0,(1:Int))) (cond (decide (x3 < 0)) (some ([],[],0,(1:Int))) (cond (decide (x3 > (1000:Int))) (some ([],[],0,(1:Int))) (cond (ok (v27 x0 x1 x2)) (cond (!(val (v27 x0 x1 x2)).1) (some ([],[],0,(4:Int))) (cond (ok (v28 x0 x1 x2 (val (v27 x0 x1 x2)).2.1 (val (v27 x0 x1 x2)).2.2)) (cond (ok (Lad FU x3 0 0 (val (v28 x0 x1 x2 (val (v27 x0 x1 x2)).2.1 (val (v27 x0 x1 x2)).2.2)).1 (val (v28 x0 x1 x2 (val (v27 x0 x1 x2)).2.1 (val (v27 x0 x1 x2)).2.2)).2.1 (val (v28 x0 x1 x2 (val (v27 x0 x1 x2)).2.1 (val (v27 x0 x1 x2)).2.2)).2.2.1 x0 x1 x2 (val (v27 x0 x1 x2)).2.1 (val (v27 x0 x1 x2)).2.2 [] [])) (some ((val (Lad FU x3 0 0 (val (v28 x0 x1 x2 (val (v27 x0 x1 x2)).2.1 (val (v27 x0 x1 x2)).2.2)).1 (val (v28 x0 x1 x2 (val (v27 x0 x1 x2)).2.1 (val (v27 x0 x1 x2)).2.2)).2.1 (val (v28 x0 x1 x2 (val (v27 x0 x1 x2)).2.1 (val (v27 x0 x1 x2)).2.2)).2.2.1 x0 x1 x2 (val (v27 x0 x1 x2)).2.1 (val (v27 x0 x1 x2)).2.2 [] [])).1,(val (Lad FU x3 0 0 (val (v28 x0 x1 x2 (val (v27 x0 x1 x2)).2.1 (val (v27 x0 x1 x2)).2.2)).1 (val (v28 x0 x1 x2 (val (v27 x0 x1 x2)).2.1 (val (v27 x0 x1 x2)).2.2)).2.1 (val (v28 x0 x1 x2 (val (v27 x0 x1 x2)).2.1 (val (v27 x0 x1 x2)).2.2)).2.2.1 x0 x1 x2 (val (v27 x0 x1 x2)).2.1 (val (v27 x0 x1 x2)).2.2 [] [])).2.1,(val (Lad FU x3 0 0 (val (v28 x0 x1 x2 (val (v27 x0 x1 x2)).2.1 (val (v27 x0 x1 x2)).2.2)).1 (val (v28 x0 x1 x2 (val (v27 x0 x1 x2)).2.1 (val (v27 x0 x1 x2)).2.2)).2.1 (val (v28 x0 x1 x2 (val (v27 x0 x1 x2)).2.1 (val (v27 x0 x1 x2)).2.2)).2.2.1 x0 x1 x2 (val (v27 x0 x1 x2)).2.1 (val (v27 x0 x1 x2)).2.2 [] [])).2.2,0)) none) none)) none)))))) none) none) none)
theorem ev13 (x0:(List Int)) (x1:(List (List Int))) (x2:(List Int)) (x3:Int):zo Try.prog (tn88 13) (TM.evF Try.prog (tn88) dOk 40) dOk 40 13 [.agg [.d 3 (.int .i64) (x0),.d 22 (.list 3 (.int .i64)) (x1),.d 3 (.int .i64) (x2)],.sc (I4 x3)] []=(v13 x0 x1 x2 x3).bind fun r=>some ([.agg [.d 22 (.list 3 (.int .i64)) (r.1:List (List Int)),.d 3 (.int .i64) (r.2.1:List Int),I4 (r.2.2.1)],.sc (I4 (r.2.2.2))],[]):=by
 refine Eq.trans (b:=(cond (ok (v23_3 x2)) (cond (ok (v26 x0 x1 x2)) (cond (ok (v25 x0 (val (v26 x0 x1 x2)))) (cond (!val (v25 x0 (val (v26 x0 x1 x2)))) (some ([.agg [.d 22 (.list 3 (.int .i64)) ([]:List (List Int)),.d 3 (.int .i64) ([]:List Int),I4 (0)],.sc (I4 ((1:Int)))],[])) (cond ((x2.length:Int) != (x1.length:Int)) (some ([.agg [.d 22 (.list 3 (.int .i64)) ([]:List (List Int)),.d 3 (.int .i64) ([]:List Int),I4 (0)],.sc (I4 ((1:Int)))],[])) (cond (val (v23_3 x2)) (some ([.agg [.d 22 (.list 3 (.int .i64)) ([]:List (List Int)),.d 3 (.int .i64) ([]:List Int),I4 (0)],.sc (I4 ((1:Int)))],[])) (cond (decide (x3 < 0)) (some ([.agg [.d 22 (.list 3 (.int .i64)) ([]:List (List Int)),.d 3 (.int .i64) ([]:List Int),I4 (0)],.sc (I4 ((1:Int)))],[])) (cond (decide (x3 > (1000:Int))) (some ([.agg [.d 22 (.list 3 (.int .i64)) ([]:List (List Int)),.d 3 (.int .i64) ([]:List Int),I4 (0)],.sc (I4 ((1:Int)))],[])) (cond (ok (v27 x0 x1 x2)) (cond (!(val (v27 x0 x1 x2)).1) (some ([.agg [.d 22 (.list 3 (.int .i64)) ([]:List (List Int)),.d 3 (.int .i64) ([]:List Int),I4 (0)],.sc (I4 ((4:Int)))],[])) (cond (ok (v28 x0 x1 x2 (val (v27 x0 x1 x2)).2.1 (val (v27 x0 x1 x2)).2.2)) (cond (ok (Lad FU x3 0 0 (val (v28 x0 x1 x2 (val (v27 x0 x1 x2)).2.1 (val (v27 x0 x1 x2)).2.2)).1 (val (v28 x0 x1 x2 (val (v27 x0 x1 x2)).2.1 (val (v27 x0 x1 x2)).2.2)).2.1 (val (v28 x0 x1 x2 (val (v27 x0 x1 x2)).2.1 (val (v27 x0 x1 x2)).2.2)).2.2.1 x0 x1 x2 (val (v27 x0 x1 x2)).2.1 (val (v27 x0 x1 x2)).2.2 [] [])) (some ([.agg [.d 22 (.list 3 (.int .i64)) ((val (Lad FU x3 0 0 (val (v28 x0 x1 x2 (val (v27 x0 x1 x2)).2.1 (val (v27 x0 x1 x2)).2.2)).1 (val (v28 x0 x1 x2 (val (v27 x0 x1 x2)).2.1 (val (v27 x0 x1 x2)).2.2)).2.1 (val (v28 x0 x1 x2 (val (v27 x0 x1 x2)).2.1 (val (v27 x0 x1 x2)).2.2)).2.2.1 x0 x1 x2 (val (v27 x0 x1 x2)).2.1 (val (v27 x0 x1 x2)).2.2 [] [])).1:List (List Int)),.d 3 (.int .i64) ((val (Lad FU x3 0 0 (val (v28 x0 x1 x2 (val (v27 x0 x1 x2)).2.1 (val (v27 x0 x1 x2)).2.2)).1 (val (v28 x0 x1 x2 (val (v27 x0 x1 x2)).2.1 (val (v27 x0 x1 x2)).2.2)).2.1 (val (v28 x0 x1 x2 (val (v27 x0 x1 x2)).2.1 (val (v27 x0 x1 x2)).2.2)).2.2.1 x0 x1 x2 (val (v27 x0 x1 x2)).2.1 (val (v27 x0 x1 x2)).2.2 [] [])).2.1:List Int),I4 (val (Lad FU x3 0 0 (val (v28 x0 x1 x2 (val (v27 x0 x1 x2)).2.1 (val (v27 x0 x1 x2)).2.2)).1 (val (v28 x0 x1 x2 (val (v27 x0 x1 x2)).2.1 (val (v27 x0 x1 x2)).2.2)).2.1 (val (v28 x0 x1 x2 (val (v27 x0 x1 x2)).2.1 (val (v27 x0 x1 x2)).2.2)).2.2.1 x0 x1 x2 (val (v27 x0 x1 x2)).2.1 (val (v27 x0 x1 x2)).2.2 [] [])).2.2],.sc (I4 (0))],[])) none) none)) none)))))) none) none) none)) (by kernel_rfl) ?_
 unfold v13
 refine za ?_ ?_
 refine za ?_ ?_
 refine za ?_ ?_
 refine za ?_ ?_
 rfl
 refine za ?_ ?_
 rfl
 refine za ?_ ?_
 rfl
 refine za ?_ ?_
 rfl
 refine za ?_ ?_
 rfl
 refine za ?_ ?_
 refine za ?_ ?_
 rfl
 refine za ?_ ?_
 refine za ?_ ?_
 rfl
 rfl
 rfl
 rfl
 rfl
 rfl
 rfl
noncomputable def sv13:OrcS:=fun al H=>dC al fun y1 l2=>dA y1 fun y3=>dC y3 fun y4 l5=>dD 3 (.int .i64) y4 fun x0=>dC l5 fun y6 l7=>dD 22 (.list 3 (.int .i64)) y6 fun x1=>dC l7 fun y8 l9=>dD 3 (.int .i64) y8 fun x2=>dE l9<|dC l2 fun y10 l11=>dS y10 fun y12=>xd .i64 y12 fun x3=>dE l11<|dE H <|  some [(ok (v13 x0 x1 x2 x3),[.agg [.d 22 (.list 3 (.int .i64)) ((val (v13 x0 x1 x2 x3)).1:List (List Int)),.d 3 (.int .i64) ((val (v13 x0 x1 x2 x3)).2.1:List Int),I4 ((val (v13 x0 x1 x2 x3)).2.2.1)],.sc (I4 ((val (v13 x0 x1 x2 x3)).2.2.2))],[])]
theorem wv13:zm Try.prog dOk base o88 t88 (13,sv13):=by
 intro al H q hq0 rs H2 h2
 have hq:sv13 al H=some q:=hq0
 clear hq0
 unfold sv13 at hq
 repeat with_reducible first|replace hq:=dCq hq;obtain ⟨_,_,rfl,hq⟩:=hq|(first|replace hq:=dAq hq|replace hq:=dDq hq|replace hq:=dSq hq|replace hq:=xu hq);obtain ⟨_,rfl,hq⟩:=hq|replace hq:=dEq hq;obtain ⟨rfl,hq⟩:=hq
 cases hq
 obtain ⟨hc0,rfl,rfl⟩:=zg h2
 exact ⟨41,(zu (by kernel_rfl)).trans ((ev13 _ _ _ _).trans (zl (zf hc0)))⟩
noncomputable def o89:OrcT:=(13,sv13)::o88
noncomputable def t89:TellT:=t88
noncomputable abbrev tn89:FuncId→TAn:=zh base o89 t89
theorem ok89:TnOk Try.prog tn89 (mkA base) dOk:=by
 have h0:TnOk Try.prog (tn88) (mkA base) dOk:=ok88
 have h1:=zn h0 h0 (p:=(13,sv13)) wv13
 exact h1
noncomputable def Lau:Nat→Int→(List Int)→(List (List Int))→(List Int)→Option (Bool ⊕ Unit)
 | 0,_,_,_,_=>none
 | n+1,x0,x1,x2,x3=>(cond (decide (x0 < (x2.length:Int))) (cond (decide (0≤x0)) (cond (decide ((↑(List.length (List.getD x2 x0.toNat [])):Int) > (20:Int))) (some (.inl (false))) (Lau n (IntKind.wrap IntKind.i64 (x0+(1:Int))) x1 x2 x3)) none) (some (.inr ())))
theorem qLau:type_of% @Lau.eq_2:=@Lau.eq_2
noncomputable def xLau (x0:Int) (x1:(List Int)) (x2:(List (List Int))) (x3:(List Int)):(Bool ⊕ Unit)→Ex×CS:=fun r=>match r with | .inl a0=>(.ret,{ sl:=[(2,.v (.sc (.bool (a0))))],lo:=[],h:=[],n0:=0,w:=true }) | .inr b0=>((.exit 0),{ sl:=[(1,.l 1 0),(5,.l 1 1)],lo:=[(1,[.d 3 (.int .i64) (x1),.d 22 (.list 3 (.int .i64)) (x2),.d 3 (.int .i64) (x3)])],h:=[],n0:=0,w:=false })
theorem bLau (k:Nat) (cN:CS→Option (Ex×CS)) (cX:Ex→CS→Option (Ex×CS)) (x0:Int) (x1:(List Int)) (x2:(List (List Int))) (x3:(List Int)):zq Try.prog (tn89 12) (TM.evF Try.prog (tn89) dOk (k+40)) dOk (k+40) (zc Try.prog (tn0 12) 12 0) 0 0 { sl:=[(1,.l 1 0),(3,.v (.sc (I4 x0)))],lo:=[(1,[.d 3 (.int .i64) (x1),.d 22 (.list 3 (.int .i64)) (x2),.d 3 (.int .i64) (x3)])],h:=[],n0:=0,w:=false } cN cX=(cond (decide (x0 < (x2.length:Int))) (cond (decide (0≤x0)) (cond (decide (x0 < (x2.length:Int))) (cond (decide ((↑(List.length (List.getD x2 x0.toNat [])):Int) > (20:Int))) (cX .ret { sl:=[(2,.v (.sc (.bool (false))))],lo:=[],h:=[],n0:=0,w:=true }) (cN { sl:=[(1,.l 1 0),(3,.v (.sc (I4 (IntKind.wrap IntKind.i64 (x0+(1:Int))))))],lo:=[(1,[.d 3 (.int .i64) (x1),.d 22 (.list 3 (.int .i64)) (x2),.d 3 (.int .i64) (x3)])],h:=[],n0:=0,w:=false })) none) none) (cX (.exit 0) { sl:=[(1,.l 1 0),(5,.l 1 1)],lo:=[(1,[.d 3 (.int .i64) (x1),.d 22 (.list 3 (.int .i64)) (x2),.d 3 (.int .i64) (x3)])],h:=[],n0:=0,w:=false })):=by kernel_rfl
theorem lLau (k m:Nat):∀ (n:Nat) (x0:Int) (x1:(List Int)) (x2:(List (List Int))) (x3:(List Int)) (r:(Bool ⊕ Unit)),Lau n x0 x1 x2 x3=some r→zM Try.prog (tn89 12) (TM.evF Try.prog (tn89) dOk (k+40)) dOk (k+40) (zc Try.prog (tn0 12) 12 0) 0 0 (n+m) { sl:=[(1,.l 1 0),(3,.v (.sc (I4 x0)))],lo:=[(1,[.d 3 (.int .i64) (x1),.d 22 (.list 3 (.int .i64)) (x2),.d 3 (.int .i64) (x3)])],h:=[],n0:=0,w:=false }=some (xLau x0 x1 x2 x3 r):=by
 intro n
 induction n with
 | zero=>intro _ _ _ _ r h;cases h
 | succ n ih=>
  intro x0 x1 x2 x3 r
  rw [show n+1+m=n+m+1 by omega,zp,bLau,qLau]
  cases (decide (x0 < (x2.length:Int))) with
  | true=>
   cases (decide (0≤x0)) with
   | true=>
    cases (decide ((↑(List.length (List.getD x2 x0.toNat [])):Int) > (20:Int))) with
    | true=>
     intro h;cases h;rfl
    | false=>
     exact ih _ _ _ _ r
   | false=>
    intro h;cases h
  | false=>
   intro h;cases h;rfl
noncomputable def sLau:TellS:=fun S=>dCS 0 S fun y1 y2 y3=>dSt 1 y1 fun y5 l4=>dL 1 0 y5<|dSI 3 .i64 l4 fun x0 l6=>dE l6<|dLo 1 y2 fun y7 l8=>dC y7 fun y9 l10=>dD 3 (.int .i64) y9 fun x1=>dC l10 fun y11 l12=>dD 22 (.list 3 (.int .i64)) y11 fun x2=>dC l12 fun y13 l14=>dD 3 (.int .i64) y13 fun x3=>dE l14<|dE l8<|dE y3 <|  some [(isL (Lau FU x0 x1 x2 x3),.ret,{ sl:=[(2,.v (.sc (.bool ((zN (Lau FU x0 x1 x2 x3))))))],lo:=[],h:=[],n0:=0,w:=true }),(ok (zL (Lau FU x0 x1 x2 x3)),(.exit 0),{ sl:=[(1,.l 1 0),(5,.l 1 1)],lo:=[(1,[.d 3 (.int .i64) (x1),.d 22 (.list 3 (.int .i64)) (x2),.d 3 (.int .i64) (x3)])],h:=[],n0:=0,w:=false })]
theorem wLau:zB Try.prog dOk base o89 t89 ((12,0),sLau):=by
 refine ⟨.loop (zc Try.prog (tn0 12) 12 0),0,by kernel_rfl,?_⟩
 intro S alts e S' h10 h2
 have h1:sLau S=some alts:=h10
 clear h10
 unfold sLau at h1
 repeat with_reducible first|replace h1:=yc h1;obtain ⟨_,_,_,rfl,h1⟩:=h1|(first|replace h1:=wB h1|replace h1:=ye h1|replace h1:=wL h1|replace h1:=dCq h1);obtain ⟨_,_,rfl,h1⟩:=h1|(first|replace h1:=dLq h1|replace h1:=dEq h1);obtain ⟨rfl,h1⟩:=h1|replace h1:=dDq h1;obtain ⟨_,rfl,h1⟩:=h1
 cases h1
 rcases yx h2 with ⟨hc0,rfl,rfl⟩ | h2
 · exact ⟨FU+40,(ze rfl).trans (lLau FU 40 FU _ _ _ _ _ (yS hc0))⟩
 obtain ⟨hc1,rfl,rfl⟩:=zt h2
 exact ⟨FU+40,(ze rfl).trans (lLau FU 40 FU _ _ _ _ _ (yw (zf hc1)))⟩
noncomputable def o90:OrcT:=o89
noncomputable def t90:TellT:=((12,0),sLau)::t89
noncomputable abbrev tn90:FuncId→TAn:=zh base o90 t90
theorem ok90:TnOk Try.prog tn90 (mkA base) dOk:=by
 have h0:TnOk Try.prog (tn89) (mkA base) dOk:=ok89
 have h1:=zD h0 h0 (p:=((12,0),sLau)) wLau
 exact h1
noncomputable def v12 (x0:(List Int)) (x1:(List (List Int))) (x2:(List Int)):Option Bool:=(cond (isL (Lau FU 0 x0 x1 x2)) (some (zN (Lau FU 0 x0 x1 x2))) (cond (ok (zL (Lau FU 0 x0 x1 x2))) (cond (decide ((x0.length:Int)≤(20:Int))) (cond (decide ((x1.length:Int)≤(20:Int))) (some (decide ((x2.length:Int)≤(40:Int)))) (some (false))) (some (false))) none))
theorem ev12 (x0:(List Int)) (x1:(List (List Int))) (x2:(List Int)):zo Try.prog (tn90 12) (TM.evF Try.prog (tn90) dOk 40) dOk 40 12 [.agg [.d 3 (.int .i64) (x0),.d 22 (.list 3 (.int .i64)) (x1),.d 3 (.int .i64) (x2)]] []=(v12 x0 x1 x2).bind fun r=>some ([.sc (.bool (r))],[]):=by
 refine Eq.trans (b:=(cond (isL (Lau FU 0 x0 x1 x2)) (some ([.sc (.bool (zN (Lau FU 0 x0 x1 x2)))],[])) (cond (ok (zL (Lau FU 0 x0 x1 x2))) (cond (decide ((x0.length:Int)≤(20:Int))) (cond (decide ((x1.length:Int)≤(20:Int))) (some ([.sc (.bool (decide ((x2.length:Int)≤(40:Int))))],[])) (some ([.sc (.bool (false))],[]))) (some ([.sc (.bool (false))],[]))) none))) (by kernel_rfl) ?_
 unfold v12
 refine za ?_ ?_
 rfl
 refine za ?_ ?_
 refine za ?_ ?_
 refine za ?_ ?_
 rfl
 rfl
 rfl
 rfl
noncomputable def sv12:OrcS:=fun al H=>dC al fun y1 l2=>dA y1 fun y3=>dC y3 fun y4 l5=>dD 3 (.int .i64) y4 fun x0=>dC l5 fun y6 l7=>dD 22 (.list 3 (.int .i64)) y6 fun x1=>dC l7 fun y8 l9=>dD 3 (.int .i64) y8 fun x2=>dE l9<|dE l2<|dE H <|  some [(ok (v12 x0 x1 x2),[.sc (.bool ((val (v12 x0 x1 x2))))],[])]
theorem wv12:zm Try.prog dOk base o90 t90 (12,sv12):=by
 intro al H q hq0 rs H2 h2
 have hq:sv12 al H=some q:=hq0
 clear hq0
 unfold sv12 at hq
 repeat with_reducible first|replace hq:=dCq hq;obtain ⟨_,_,rfl,hq⟩:=hq|(first|replace hq:=dAq hq|replace hq:=dDq hq);obtain ⟨_,rfl,hq⟩:=hq|replace hq:=dEq hq;obtain ⟨rfl,hq⟩:=hq
 cases hq
 obtain ⟨hc0,rfl,rfl⟩:=zg h2
 exact ⟨41,(zu (by kernel_rfl)).trans ((ev12 _ _ _).trans (zl (zf hc0)))⟩
noncomputable def o91:OrcT:=(12,sv12)::o90
noncomputable def t91:TellT:=t90
noncomputable abbrev tn91:FuncId→TAn:=zh base o91 t91
theorem ok91:TnOk Try.prog tn91 (mkA base) dOk:=by
 have h0:TnOk Try.prog (tn90) (mkA base) dOk:=ok90
 have h1:=zn h0 h0 (p:=(12,sv12)) wv12
 exact h1
noncomputable def LaR:Nat→Int→Int→(List Int)→(List (List Int))→(List Int)→(List Int)→(List (List Int))→(List Int)→Option ((List (List Int))×(List Int))
 | 0,_,_,_,_,_,_,_,_=>none
 | n+1,x0,x1,x2,x3,x4,x5,x6,x7=>(cond (decide (x1 < x0)) (cond (decide (List.length x6+List.length [[0]]≤nat_lit 2147483648)) (cond (decide (List.length x7+List.length [0]≤nat_lit 2147483648)) (LaR n x0 (IntKind.wrap IntKind.i64 (x1+(1:Int))) x2 x3 x4 x5 (x6++[[0]]) (x7++[0])) none) none) (some (x6,x7)))
theorem qLaR:type_of% @LaR.eq_2:=@LaR.eq_2
noncomputable def xLaR (x0 x1:Int) (x2:(List Int)) (x3:(List (List Int))) (x4:(List Int)) (x5:(List Int)) (x6:(List (List Int))) (x7:(List Int)):((List (List Int))×(List Int))→Ex×CS:=fun r=>((.exit 0),{ sl:=[(4,.l 4 0),(5,.l 5 0)],lo:=[(4,[.g 0,.g 1,.g 2]),(5,[.g 3,.g 4,.g 5])],h:=[.row 3 (.int .i64) (x2),.row 22 (.list 3 (.int .i64)) (x3),.row 3 (.int .i64) (x4),.row 3 (.int .i64) (x5),.row 22 (.list 3 (.int .i64)) (r.1:List (List Int)),.row 3 (.int .i64) (r.2:List Int)],n0:=0,w:=false })
theorem bLaR (k:Nat) (cN:CS→Option (Ex×CS)) (cX:Ex→CS→Option (Ex×CS)) (x0 x1:Int) (x2:(List Int)) (x3:(List (List Int))) (x4:(List Int)) (x5:(List Int)) (x6:(List (List Int))) (x7:(List Int)):zq Try.prog (tn91 19) (TM.evF Try.prog (tn91) dOk (k+40)) dOk (k+40) (zc Try.prog (tn0 19) 19 0) 0 0 { sl:=[(4,.l 4 0),(5,.l 5 0),(9,.v (.sc (I4 x0))),(10,.v (.sc (I4 x1)))],lo:=[(4,[.g 0,.g 1,.g 2]),(5,[.g 3,.g 4,.g 5])],h:=[.row 3 (.int .i64) (x2),.row 22 (.list 3 (.int .i64)) (x3),.row 3 (.int .i64) (x4),.row 3 (.int .i64) (x5),.row 22 (.list 3 (.int .i64)) (x6),.row 3 (.int .i64) (x7)],n0:=0,w:=false } cN cX=(cond (decide (x1 < x0)) (cond (decide (List.length x6+List.length [[0]]≤nat_lit 2147483648)) (cond (decide (List.length x7+List.length [0]≤nat_lit 2147483648)) (cN { sl:=[(4,.l 4 0),(5,.l 5 0),(9,.v (.sc (I4 x0))),(10,.v (.sc (I4 (IntKind.wrap IntKind.i64 (x1+(1:Int))))))],lo:=[(4,[.g 0,.g 1,.g 2]),(5,[.g 3,.g 4,.g 5])],h:=[.row 3 (.int .i64) (x2),.row 22 (.list 3 (.int .i64)) (x3),.row 3 (.int .i64) (x4),.row 3 (.int .i64) (x5),.row 22 (.list 3 (.int .i64)) (x6++[[0]]:List (List Int)),.row 3 (.int .i64) (x7++[0]:List Int)],n0:=0,w:=false }) none) none) (cX (.exit 0) { sl:=[(4,.l 4 0),(5,.l 5 0)],lo:=[(4,[.g 0,.g 1,.g 2]),(5,[.g 3,.g 4,.g 5])],h:=[.row 3 (.int .i64) (x2),.row 22 (.list 3 (.int .i64)) (x3),.row 3 (.int .i64) (x4),.row 3 (.int .i64) (x5),.row 22 (.list 3 (.int .i64)) (x6),.row 3 (.int .i64) (x7)],n0:=0,w:=false })):=by kernel_rfl
theorem lLaR (k m:Nat):∀ (n:Nat) (x0 x1:Int) (x2:(List Int)) (x3:(List (List Int))) (x4:(List Int)) (x5:(List Int)) (x6:(List (List Int))) (x7:(List Int)) (r:((List (List Int))×(List Int))),LaR n x0 x1 x2 x3 x4 x5 x6 x7=some r→zM Try.prog (tn91 19) (TM.evF Try.prog (tn91) dOk (k+40)) dOk (k+40) (zc Try.prog (tn0 19) 19 0) 0 0 (n+m) { sl:=[(4,.l 4 0),(5,.l 5 0),(9,.v (.sc (I4 x0))),(10,.v (.sc (I4 x1)))],lo:=[(4,[.g 0,.g 1,.g 2]),(5,[.g 3,.g 4,.g 5])],h:=[.row 3 (.int .i64) (x2),.row 22 (.list 3 (.int .i64)) (x3),.row 3 (.int .i64) (x4),.row 3 (.int .i64) (x5),.row 22 (.list 3 (.int .i64)) (x6),.row 3 (.int .i64) (x7)],n0:=0,w:=false }=some (xLaR x0 x1 x2 x3 x4 x5 x6 x7 r):=by
 intro n
 induction n with
 | zero=>intro _ _ _ _ _ _ _ _ r h;cases h
 | succ n ih=>
  intro x0 x1 x2 x3 x4 x5 x6 x7 r
  rw [show n+1+m=n+m+1 by omega,zp,bLaR,qLaR]
  refine zb ?_ ?_
  refine zb ?_ ?_
  refine zb ?_ ?_
  exact ih _ _ _ _ _ _ _ _ r
  intro h;cases h
  intro h;cases h
  intro h;cases h;rfl
noncomputable def sLaR:TellS:=fun S=>dCS 0 S fun y1 y2 y3=>dSt 4 y1 fun y5 l4=>dL 4 0 y5<|dSt 5 l4 fun y7 l6=>dL 5 0 y7<|dSI 9 .i64 l6 fun x0 l8=>dSI 10 .i64 l8 fun x1 l9=>dE l9<|dLo 4 y2 fun y10 l11=>dC y10 fun y12 l13=>dG 0 y12<|dC l13 fun y14 l15=>dG 1 y14<|dC l15 fun y16 l17=>dG 2 y16<|dE l17<|dLo 5 l11 fun y18 l19=>dC y18 fun y20 l21=>dG 3 y20<|dC l21 fun y22 l23=>dG 4 y22<|dC l23 fun y24 l25=>dG 5 y24<|dE l25<|dE l19<|dHR 3 (.int .i64) y3 fun x2 l26=>dHR 22 (.list 3 (.int .i64)) l26 fun x3 l27=>dHR 3 (.int .i64) l27 fun x4 l28=>dHR 3 (.int .i64) l28 fun x5 l29=>dHR 22 (.list 3 (.int .i64)) l29 fun x6 l30=>dHR 3 (.int .i64) l30 fun x7 l31=>dE l31 <|  some [(ok (LaR FU x0 x1 x2 x3 x4 x5 x6 x7),(.exit 0),{ sl:=[(4,.l 4 0),(5,.l 5 0)],lo:=[(4,[.g 0,.g 1,.g 2]),(5,[.g 3,.g 4,.g 5])],h:=[.row 3 (.int .i64) (x2),.row 22 (.list 3 (.int .i64)) (x3),.row 3 (.int .i64) (x4),.row 3 (.int .i64) (x5),.row 22 (.list 3 (.int .i64)) ((val (LaR FU x0 x1 x2 x3 x4 x5 x6 x7)).1:List (List Int)),.row 3 (.int .i64) ((val (LaR FU x0 x1 x2 x3 x4 x5 x6 x7)).2:List Int)],n0:=0,w:=false })]
theorem wLaR:zB Try.prog dOk base o91 t91 ((19,0),sLaR):=by
 refine ⟨.loop (zc Try.prog (tn0 19) 19 0),0,by kernel_rfl,?_⟩
 intro S alts e S' h10 h2
 have h1:sLaR S=some alts:=h10
 clear h10
 unfold sLaR at h1
 repeat with_reducible first|replace h1:=yc h1;obtain ⟨_,_,_,rfl,h1⟩:=h1|(first|replace h1:=wB h1|replace h1:=ye h1|replace h1:=wL h1|replace h1:=dCq h1|replace h1:=zY h1);obtain ⟨_,_,rfl,h1⟩:=h1|(first|replace h1:=dLq h1|replace h1:=dEq h1|replace h1:=dGq h1);obtain ⟨rfl,h1⟩:=h1
 cases h1
 obtain ⟨hc0,rfl,rfl⟩:=zt h2
 exact ⟨FU+40,(ze rfl).trans (lLaR FU 40 FU _ _ _ _ _ _ _ _ _ (zf hc0))⟩
noncomputable def o92:OrcT:=o91
noncomputable def t92:TellT:=((19,0),sLaR)::t91
noncomputable abbrev tn92:FuncId→TAn:=zh base o92 t92
theorem ok92:TnOk Try.prog tn92 (mkA base) dOk:=by
 have h0:TnOk Try.prog (tn91) (mkA base) dOk:=ok91
 have h1:=zD h0 h0 (p:=((19,0),sLaR)) wLaR
 exact h1
noncomputable def v19 (x0 x1:Int):Option ((List Int)×(List (List Int))×(List Int)):=(cond (ok (LaR FU x1 0 [] [] [] [x0] [] [])) (some ([x0],(val (LaR FU x1 0 [] [] [] [x0] [] [])).1,(val (LaR FU x1 0 [] [] [] [x0] [] [])).2)) none)
theorem ev19 (x0 x1:Int):zo Try.prog (tn92 19) (TM.evF Try.prog (tn92) dOk 40) dOk 40 19 [.sc (I4 x0),.sc (I4 x1)] []=(v19 x0 x1).bind fun r=>some ([.agg [.d 3 (.int .i64) (r.1:List Int),.d 22 (.list 3 (.int .i64)) (r.2.1:List (List Int)),.d 3 (.int .i64) (r.2.2:List Int)]],[]):=by
 refine Eq.trans (b:=(cond (ok (LaR FU x1 0 [] [] [] [x0] [] [])) (some ([.agg [.d 3 (.int .i64) ([x0]:List Int),.d 22 (.list 3 (.int .i64)) ((val (LaR FU x1 0 [] [] [] [x0] [] [])).1:List (List Int)),.d 3 (.int .i64) ((val (LaR FU x1 0 [] [] [] [x0] [] [])).2:List Int)]],[])) none)) (by kernel_rfl) ?_
 unfold v19
 refine za ?_ ?_
 rfl
 rfl
noncomputable def sv19:OrcS:=fun al H=>dC al fun y1 l2=>dS y1 fun y3=>xd .i64 y3 fun x0=>dC l2 fun y4 l5=>dS y4 fun y6=>xd .i64 y6 fun x1=>dE l5<|dE H <|  some [(ok (v19 x0 x1),[.agg [.d 3 (.int .i64) ((val (v19 x0 x1)).1:List Int),.d 22 (.list 3 (.int .i64)) ((val (v19 x0 x1)).2.1:List (List Int)),.d 3 (.int .i64) ((val (v19 x0 x1)).2.2:List Int)]],[])]
theorem wv19:zm Try.prog dOk base o92 t92 (19,sv19):=by
 intro al H q hq0 rs H2 h2
 have hq:sv19 al H=some q:=hq0
 clear hq0
 unfold sv19 at hq
 repeat with_reducible first|replace hq:=dCq hq;obtain ⟨_,_,rfl,hq⟩:=hq|(first|replace hq:=dSq hq|replace hq:=xu hq);obtain ⟨_,rfl,hq⟩:=hq|replace hq:=dEq hq;obtain ⟨rfl,hq⟩:=hq
 cases hq
 obtain ⟨hc0,rfl,rfl⟩:=zg h2
 exact ⟨41,(zu (by kernel_rfl)).trans ((ev19 _ _).trans (zl (zf hc0)))⟩
noncomputable def o93:OrcT:=(19,sv19)::o92
noncomputable def t93:TellT:=t92
noncomputable abbrev tn93:FuncId→TAn:=zh base o93 t93
theorem ok93:TnOk Try.prog tn93 (mkA base) dOk:=by
 have h0:TnOk Try.prog (tn92) (mkA base) dOk:=ok92
 have h1:=zn h0 h0 (p:=(19,sv19)) wv19
 exact h1
noncomputable def LaQ:Nat→(List Int)→(List Int)→Int→Option (Bool ⊕ Unit)
 | 0,_,_,_=>none
 | n+1,x0,x1,x2=>(cond (decide (x2 < (x0.length:Int))) (cond (decide (0≤x2)) (cond (decide (x2 < (x1.length:Int))) (cond (List.getD x0 x2.toNat 0 != List.getD x1 x2.toNat 0) (some (.inl (false))) (LaQ n x0 x1 (IntKind.wrap IntKind.i64 (x2+(1:Int))))) none) none) (some (.inr ())))
theorem qLaQ:type_of% @LaQ.eq_2:=@LaQ.eq_2
noncomputable def xLaQ (x0:(List Int)) (x1:(List Int)) (x2:Int):(Bool ⊕ Unit)→Ex×CS:=fun r=>match r with | .inl a0=>(.ret,{ sl:=[(4,.v (.sc (.bool (a0))))],lo:=[],h:=[],n0:=0,w:=true }) | .inr b0=>((.exit 0),{ sl:=[],lo:=[],h:=[],n0:=0,w:=false })
theorem bLaQ (k:Nat) (cN:CS→Option (Ex×CS)) (cX:Ex→CS→Option (Ex×CS)) (x0:(List Int)) (x1:(List Int)) (x2:Int):zq Try.prog (tn93 20) (TM.evF Try.prog (tn93) dOk (k+40)) dOk (k+40) (zc Try.prog (tn0 20) 20 0) 0 0 { sl:=[(0,.v (.sc (.d 3 (.int .i64) x0))),(1,.v (.sc (.d 3 (.int .i64) x1))),(5,.v (.sc (I4 x2)))],lo:=[],h:=[],n0:=0,w:=false } cN cX=(cond (decide (x2 < (x0.length:Int))) (cond (decide (0≤x2)) (cond (decide (x2 < (x0.length:Int))) (cond (decide (0≤x2)) (cond (decide (x2 < (x1.length:Int))) (cond (List.getD x0 x2.toNat 0 != List.getD x1 x2.toNat 0) (cX .ret { sl:=[(4,.v (.sc (.bool (false))))],lo:=[],h:=[],n0:=0,w:=true }) (cN { sl:=[(0,.v (.sc (.d 3 (.int .i64) x0))),(1,.v (.sc (.d 3 (.int .i64) x1))),(5,.v (.sc (I4 (IntKind.wrap IntKind.i64 (x2+(1:Int))))))],lo:=[],h:=[],n0:=0,w:=false })) none) none) none) none) (cX (.exit 0) { sl:=[],lo:=[],h:=[],n0:=0,w:=false })):=by kernel_rfl
theorem lLaQ (k m:Nat):∀ (n:Nat) (x0:(List Int)) (x1:(List Int)) (x2:Int) (r:(Bool ⊕ Unit)),LaQ n x0 x1 x2=some r→zM Try.prog (tn93 20) (TM.evF Try.prog (tn93) dOk (k+40)) dOk (k+40) (zc Try.prog (tn0 20) 20 0) 0 0 (n+m) { sl:=[(0,.v (.sc (.d 3 (.int .i64) x0))),(1,.v (.sc (.d 3 (.int .i64) x1))),(5,.v (.sc (I4 x2)))],lo:=[],h:=[],n0:=0,w:=false }=some (xLaQ x0 x1 x2 r):=by
 intro n
 induction n with
 | zero=>intro _ _ _ r h;cases h
 | succ n ih=>
  intro x0 x1 x2 r
  rw [show n+1+m=n+m+1 by omega,zp,bLaQ,qLaQ]
  cases (decide (x2 < (x0.length:Int))) with
  | true=>
   cases (decide (0≤x2)) with
   | true=>
    cases (decide (x2 < (x1.length:Int))) with
    | true=>
     cases (List.getD x0 x2.toNat 0 != List.getD x1 x2.toNat 0) with
     | true=>
      intro h;cases h;rfl
     | false=>
      exact ih _ _ _ r
    | false=>
     intro h;cases h
   | false=>
    intro h;cases h
  | false=>
   intro h;cases h;rfl
noncomputable def sLaQ:TellS:=fun S=>dCS 0 S fun y1 y2 y3=>dSs 0 y1 fun y5 l4=>dD 3 (.int .i64) y5 fun x0=>dSs 1 l4 fun y7 l6=>dD 3 (.int .i64) y7 fun x1=>dSI 5 .i64 l6 fun x2 l8=>dE l8<|dE y2<|dE y3 <|  some [(isL (LaQ FU x0 x1 x2),.ret,{ sl:=[(4,.v (.sc (.bool ((zN (LaQ FU x0 x1 x2))))))],lo:=[],h:=[],n0:=0,w:=true }),(ok (zL (LaQ FU x0 x1 x2)),(.exit 0),{ sl:=[],lo:=[],h:=[],n0:=0,w:=false })]
theorem wLaQ:zB Try.prog dOk base o93 t93 ((20,0),sLaQ):=by
 refine ⟨.loop (zc Try.prog (tn0 20) 20 0),0,by kernel_rfl,?_⟩
 intro S alts e S' h10 h2
 have h1:sLaQ S=some alts:=h10
 clear h10
 unfold sLaQ at h1
 repeat with_reducible first|replace h1:=yc h1;obtain ⟨_,_,_,rfl,h1⟩:=h1|(first|replace h1:=zX h1|replace h1:=ye h1);obtain ⟨_,_,rfl,h1⟩:=h1|replace h1:=dDq h1;obtain ⟨_,rfl,h1⟩:=h1|replace h1:=dEq h1;obtain ⟨rfl,h1⟩:=h1
 cases h1
 rcases yx h2 with ⟨hc0,rfl,rfl⟩ | h2
 · exact ⟨FU+40,(ze rfl).trans (lLaQ FU 40 FU _ _ _ _ (yS hc0))⟩
 obtain ⟨hc1,rfl,rfl⟩:=zt h2
 exact ⟨FU+40,(ze rfl).trans (lLaQ FU 40 FU _ _ _ _ (yw (zf hc1)))⟩
noncomputable def o94:OrcT:=o93
noncomputable def t94:TellT:=((20,0),sLaQ)::t93
noncomputable abbrev tn94:FuncId→TAn:=zh base o94 t94
theorem ok94:TnOk Try.prog tn94 (mkA base) dOk:=by
 have h0:TnOk Try.prog (tn93) (mkA base) dOk:=ok93
 have h1:=zD h0 h0 (p:=((20,0),sLaQ)) wLaQ
 exact h1
noncomputable def v20 (x0:(List Int)) (x1:(List Int)):Option Bool:=(cond ((x0.length:Int) != (x1.length:Int)) (some (false)) (cond (isL (LaQ FU x0 x1 0)) (some (zN (LaQ FU x0 x1 0))) (cond (ok (zL (LaQ FU x0 x1 0))) (some (true)) none)))
theorem ev20 (x0:(List Int)) (x1:(List Int)):zo Try.prog (tn94 20) (TM.evF Try.prog (tn94) dOk 40) dOk 40 20 [.sc (.d 3 (.int .i64) x0),.sc (.d 3 (.int .i64) x1)] []=(v20 x0 x1).bind fun r=>some ([.sc (.bool (r))],[]):=by
 refine Eq.trans (b:=(cond ((x0.length:Int) != (x1.length:Int)) (some ([.sc (.bool (false))],[])) (cond (isL (LaQ FU x0 x1 0)) (some ([.sc (.bool (zN (LaQ FU x0 x1 0)))],[])) (cond (ok (zL (LaQ FU x0 x1 0))) (some ([.sc (.bool (true))],[])) none)))) (by kernel_rfl) ?_
 unfold v20
 refine za ?_ ?_
 rfl
 refine za ?_ ?_
 rfl
 refine za ?_ ?_
 rfl
 rfl
noncomputable def sv20:OrcS:=fun al H=>dC al fun y1 l2=>dS y1 fun y3=>dD 3 (.int .i64) y3 fun x0=>dC l2 fun y4 l5=>dS y4 fun y6=>dD 3 (.int .i64) y6 fun x1=>dE l5<|dE H <|  some [(ok (v20 x0 x1),[.sc (.bool ((val (v20 x0 x1))))],[])]
theorem wv20:zm Try.prog dOk base o94 t94 (20,sv20):=by
 intro al H q hq0 rs H2 h2
 have hq:sv20 al H=some q:=hq0
 clear hq0
 unfold sv20 at hq
 repeat with_reducible first|replace hq:=dCq hq;obtain ⟨_,_,rfl,hq⟩:=hq|(first|replace hq:=dSq hq|replace hq:=dDq hq);obtain ⟨_,rfl,hq⟩:=hq|replace hq:=dEq hq;obtain ⟨rfl,hq⟩:=hq
 cases hq
 obtain ⟨hc0,rfl,rfl⟩:=zg h2
 exact ⟨41,(zu (by kernel_rfl)).trans ((ev20 _ _).trans (zl (zf hc0)))⟩
noncomputable def o95:OrcT:=(20,sv20)::o94
noncomputable def t95:TellT:=t94
noncomputable abbrev tn95:FuncId→TAn:=zh base o95 t95
theorem ok95:TnOk Try.prog tn95 (mkA base) dOk:=by
 have h0:TnOk Try.prog (tn94) (mkA base) dOk:=ok94
 have h1:=zn h0 h0 (p:=(20,sv20)) wv20
 exact h1
noncomputable def LaP:Nat→Int→(List (List Int))→(List Int)→Int→(List (List Int))→(List Int)→Int→Option (Bool ⊕ Unit)
 | 0,_,_,_,_,_,_,_=>none
 | n+1,x0,x1,x2,x3,x4,x5,x6=>(cond (decide (x0 < (x1.length:Int))) (cond (decide (0≤x0)) (cond (decide (x0 < (x4.length:Int))) (cond (ok (v20 (List.getD x1 x0.toNat []) (List.getD x4 x0.toNat []))) (cond (!val (v20 (List.getD x1 x0.toNat []) (List.getD x4 x0.toNat []))) (some (.inl (false))) (LaP n (IntKind.wrap IntKind.i64 (x0+(1:Int))) x1 x2 x3 x4 x5 x6)) none) none) none) (some (.inr ())))
theorem qLaP:type_of% @LaP.eq_2:=@LaP.eq_2
noncomputable def xLaP (x0:Int) (x1:(List (List Int))) (x2:(List Int)) (x3:Int) (x4:(List (List Int))) (x5:(List Int)) (x6:Int):(Bool ⊕ Unit)→Ex×CS:=fun r=>match r with | .inl a0=>(.ret,{ sl:=[(4,.v (.sc (.bool (a0))))],lo:=[],h:=[],n0:=0,w:=true }) | .inr b0=>((.exit 0),{ sl:=[(2,.l 2 0),(3,.l 3 0),(29,.l 2 0)],lo:=[],h:=[],n0:=0,w:=false })
theorem bLaP (k:Nat) (cN:CS→Option (Ex×CS)) (cX:Ex→CS→Option (Ex×CS)) (x0:Int) (x1:(List (List Int))) (x2:(List Int)) (x3:Int) (x4:(List (List Int))) (x5:(List Int)) (x6:Int):zq Try.prog (tn95 15) (TM.evF Try.prog (tn95) dOk (k+40)) dOk (k+40) (zc Try.prog (tn0 15) 15 0) 0 0 { sl:=[(2,.l 2 0),(3,.l 3 0),(5,.v (.sc (I4 x0)))],lo:=[(2,[.d 22 (.list 3 (.int .i64)) (x1),.d 3 (.int .i64) (x2),I4 (x3)]),(3,[.d 22 (.list 3 (.int .i64)) (x4),.d 3 (.int .i64) (x5),I4 (x6)])],h:=[],n0:=0,w:=false } cN cX=(cond (decide (x0 < (x1.length:Int))) (cond (decide (0≤x0)) (cond (decide (x0 < (x1.length:Int))) (cond (decide (0≤x0)) (cond (decide (x0 < (x4.length:Int))) (cond (ok (v20 (List.getD x1 x0.toNat []) (List.getD x4 x0.toNat []))) (cond (!val (v20 (List.getD x1 x0.toNat []) (List.getD x4 x0.toNat []))) (cX .ret { sl:=[(4,.v (.sc (.bool (false))))],lo:=[],h:=[],n0:=0,w:=true }) (cN { sl:=[(2,.l 2 0),(3,.l 3 0),(5,.v (.sc (I4 (IntKind.wrap IntKind.i64 (x0+(1:Int))))))],lo:=[(2,[.d 22 (.list 3 (.int .i64)) (x1),.d 3 (.int .i64) (x2),I4 (x3)]),(3,[.d 22 (.list 3 (.int .i64)) (x4),.d 3 (.int .i64) (x5),I4 (x6)])],h:=[],n0:=0,w:=false })) none) none) none) none) none) (cX (.exit 0) { sl:=[(2,.l 2 0),(3,.l 3 0),(29,.l 2 0)],lo:=[],h:=[],n0:=0,w:=false })):=by kernel_rfl
theorem lLaP (k m:Nat):∀ (n:Nat) (x0:Int) (x1:(List (List Int))) (x2:(List Int)) (x3:Int) (x4:(List (List Int))) (x5:(List Int)) (x6:Int) (r:(Bool ⊕ Unit)),LaP n x0 x1 x2 x3 x4 x5 x6=some r→zM Try.prog (tn95 15) (TM.evF Try.prog (tn95) dOk (k+40)) dOk (k+40) (zc Try.prog (tn0 15) 15 0) 0 0 (n+m) { sl:=[(2,.l 2 0),(3,.l 3 0),(5,.v (.sc (I4 x0)))],lo:=[(2,[.d 22 (.list 3 (.int .i64)) (x1),.d 3 (.int .i64) (x2),I4 (x3)]),(3,[.d 22 (.list 3 (.int .i64)) (x4),.d 3 (.int .i64) (x5),I4 (x6)])],h:=[],n0:=0,w:=false }=some (xLaP x0 x1 x2 x3 x4 x5 x6 r):=by
 intro n
 induction n with
 | zero=>intro _ _ _ _ _ _ _ r h;cases h
 | succ n ih=>
  intro x0 x1 x2 x3 x4 x5 x6 r
  rw [show n+1+m=n+m+1 by omega,zp,bLaP,qLaP]
  cases (decide (x0 < (x1.length:Int))) with
  | true=>
   cases (decide (0≤x0)) with
   | true=>
    cases (decide (x0 < (x4.length:Int))) with
    | true=>
     cases (ok (v20 (List.getD x1 x0.toNat []) (List.getD x4 x0.toNat []))) with
     | true=>
      cases (!val (v20 (List.getD x1 x0.toNat []) (List.getD x4 x0.toNat []))) with
      | true=>
       intro h;cases h;rfl
      | false=>
       exact ih _ _ _ _ _ _ _ r
     | false=>
      intro h;cases h
    | false=>
     intro h;cases h
   | false=>
    intro h;cases h
  | false=>
   intro h;cases h;rfl
noncomputable def sLaP:TellS:=fun S=>dCS 0 S fun y1 y2 y3=>dSt 2 y1 fun y5 l4=>dL 2 0 y5<|dSt 3 l4 fun y7 l6=>dL 3 0 y7<|dSI 5 .i64 l6 fun x0 l8=>dE l8<|dLo 2 y2 fun y9 l10=>dC y9 fun y11 l12=>dD 22 (.list 3 (.int .i64)) y11 fun x1=>dC l12 fun y13 l14=>dD 3 (.int .i64) y13 fun x2=>dK l14 fun x3 l15=>dE l15<|dLo 3 l10 fun y16 l17=>dC y16 fun y18 l19=>dD 22 (.list 3 (.int .i64)) y18 fun x4=>dC l19 fun y20 l21=>dD 3 (.int .i64) y20 fun x5=>dK l21 fun x6 l22=>dE l22<|dE l17<|dE y3 <|  some [(isL (LaP FU x0 x1 x2 x3 x4 x5 x6),.ret,{ sl:=[(4,.v (.sc (.bool ((zN (LaP FU x0 x1 x2 x3 x4 x5 x6))))))],lo:=[],h:=[],n0:=0,w:=true }),(ok (zL (LaP FU x0 x1 x2 x3 x4 x5 x6)),(.exit 0),{ sl:=[(2,.l 2 0),(3,.l 3 0),(29,.l 2 0)],lo:=[],h:=[],n0:=0,w:=false })]
theorem wLaP:zB Try.prog dOk base o95 t95 ((15,0),sLaP):=by
 refine ⟨.loop (zc Try.prog (tn0 15) 15 0),0,by kernel_rfl,?_⟩
 intro S alts e S' h10 h2
 have h1:sLaP S=some alts:=h10
 clear h10
 unfold sLaP at h1
 repeat with_reducible first|replace h1:=yc h1;obtain ⟨_,_,_,rfl,h1⟩:=h1|(first|replace h1:=wB h1|replace h1:=ye h1|replace h1:=wL h1|replace h1:=dCq h1|replace h1:=zJ h1);obtain ⟨_,_,rfl,h1⟩:=h1|(first|replace h1:=dLq h1|replace h1:=dEq h1);obtain ⟨rfl,h1⟩:=h1|replace h1:=dDq h1;obtain ⟨_,rfl,h1⟩:=h1
 cases h1
 rcases yx h2 with ⟨hc0,rfl,rfl⟩ | h2
 · exact ⟨FU+40,(ze rfl).trans (lLaP FU 40 FU _ _ _ _ _ _ _ _ (yS hc0))⟩
 obtain ⟨hc1,rfl,rfl⟩:=zt h2
 exact ⟨FU+40,(ze rfl).trans (lLaP FU 40 FU _ _ _ _ _ _ _ _ (yw (zf hc1)))⟩
noncomputable def o96:OrcT:=o95
noncomputable def t96:TellT:=((15,0),sLaP)::t95
noncomputable abbrev tn96:FuncId→TAn:=zh base o96 t96
theorem ok96:TnOk Try.prog tn96 (mkA base) dOk:=by
 have h0:TnOk Try.prog (tn95) (mkA base) dOk:=ok95
 have h1:=zD h0 h0 (p:=((15,0),sLaP)) wLaP
 exact h1
noncomputable def v15 (x0:(List (List Int))) (x1:(List Int)) (x2:Int) (x3:(List (List Int))) (x4:(List Int)) (x5:Int):Option Bool:=(cond (x2 != x5) (some (false)) (cond ((x0.length:Int) != (x3.length:Int)) (some (false)) (cond (ok (v20 x1 x4)) (cond (!val (v20 x1 x4)) (some (false)) (cond (isL (LaP FU 0 x0 x1 x2 x3 x4 x5)) (some (zN (LaP FU 0 x0 x1 x2 x3 x4 x5))) (cond (ok (zL (LaP FU 0 x0 x1 x2 x3 x4 x5))) (some (true)) none))) none)))
theorem ev15 (x0:(List (List Int))) (x1:(List Int)) (x2:Int) (x3:(List (List Int))) (x4:(List Int)) (x5:Int):zo Try.prog (tn96 15) (TM.evF Try.prog (tn96) dOk 40) dOk 40 15 [.agg [.d 22 (.list 3 (.int .i64)) (x0),.d 3 (.int .i64) (x1),I4 (x2)],.agg [.d 22 (.list 3 (.int .i64)) (x3),.d 3 (.int .i64) (x4),I4 (x5)]] []=(v15 x0 x1 x2 x3 x4 x5).bind fun r=>some ([.sc (.bool (r))],[]):=by
 refine Eq.trans (b:=(cond (x2 != x5) (some ([.sc (.bool (false))],[])) (cond ((x0.length:Int) != (x3.length:Int)) (some ([.sc (.bool (false))],[])) (cond (ok (v20 x1 x4)) (cond (!val (v20 x1 x4)) (some ([.sc (.bool (false))],[])) (cond (isL (LaP FU 0 x0 x1 x2 x3 x4 x5)) (some ([.sc (.bool (zN (LaP FU 0 x0 x1 x2 x3 x4 x5)))],[])) (cond (ok (zL (LaP FU 0 x0 x1 x2 x3 x4 x5))) (some ([.sc (.bool (true))],[])) none))) none)))) (by kernel_rfl) ?_
 unfold v15
 refine za ?_ ?_
 rfl
 refine za ?_ ?_
 rfl
 refine za ?_ ?_
 refine za ?_ ?_
 rfl
 refine za ?_ ?_
 rfl
 refine za ?_ ?_
 rfl
 rfl
 rfl
noncomputable def sv15:OrcS:=fun al H=>dC al fun y1 l2=>dA y1 fun y3=>dC y3 fun y4 l5=>dD 22 (.list 3 (.int .i64)) y4 fun x0=>dC l5 fun y6 l7=>dD 3 (.int .i64) y6 fun x1=>dK l7 fun x2 l8=>dE l8<|dC l2 fun y9 l10=>dA y9 fun y11=>dC y11 fun y12 l13=>dD 22 (.list 3 (.int .i64)) y12 fun x3=>dC l13 fun y14 l15=>dD 3 (.int .i64) y14 fun x4=>dK l15 fun x5 l16=>dE l16<|dE l10<|dE H <|  some [(ok (v15 x0 x1 x2 x3 x4 x5),[.sc (.bool ((val (v15 x0 x1 x2 x3 x4 x5))))],[])]
theorem wv15:zm Try.prog dOk base o96 t96 (15,sv15):=by
 intro al H q hq0 rs H2 h2
 have hq:sv15 al H=some q:=hq0
 clear hq0
 unfold sv15 at hq
 repeat with_reducible first|(first|replace hq:=dCq hq|replace hq:=zJ hq);obtain ⟨_,_,rfl,hq⟩:=hq|(first|replace hq:=dAq hq|replace hq:=dDq hq);obtain ⟨_,rfl,hq⟩:=hq|replace hq:=dEq hq;obtain ⟨rfl,hq⟩:=hq
 cases hq
 obtain ⟨hc0,rfl,rfl⟩:=zg h2
 exact ⟨41,(zu (by kernel_rfl)).trans ((ev15 _ _ _ _ _ _).trans (zl (zf hc0)))⟩
noncomputable def o97:OrcT:=(15,sv15)::o96
noncomputable def t97:TellT:=t96
noncomputable abbrev tn97:FuncId→TAn:=zh base o97 t97
theorem ok97:TnOk Try.prog tn97 (mkA base) dOk:=by
 have h0:TnOk Try.prog (tn96) (mkA base) dOk:=ok96
 have h1:=zn h0 h0 (p:=(15,sv15)) wv15
 exact h1
noncomputable def v11:Option Bool:=(some (true))
theorem ev11:zo Try.prog (tn97 11) (TM.evF Try.prog (tn97) dOk 40) dOk 40 11 [] []=(v11).bind fun r=>some ([.sc (.bool (r))],[]):=by
 refine Eq.trans (b:=(some ([.sc (.bool (true))],[]))) (by kernel_rfl) ?_
 unfold v11
 rfl
noncomputable def sv11:OrcS:=fun al H=>dE al<|dE H <|  some [(ok (v11),[.sc (.bool ((val (v11))))],[])]
theorem wv11:zm Try.prog dOk base o97 t97 (11,sv11):=by
 intro al H q hq0 rs H2 h2
 have hq:sv11 al H=some q:=hq0
 clear hq0
 unfold sv11 at hq
 obtain ⟨rfl,g1⟩:=dEq hq
 obtain ⟨rfl,g2⟩:=dEq g1
 cases g2
 obtain ⟨hc0,rfl,rfl⟩:=zg h2
 exact ⟨41,(zu (by kernel_rfl)).trans ((ev11 ).trans (zl (zf hc0)))⟩
noncomputable def o98:OrcT:=(11,sv11)::o97
noncomputable def t98:TellT:=t97
noncomputable abbrev tn98:FuncId→TAn:=zh base o98 t98
theorem ok98:TnOk Try.prog tn98 (mkA base) dOk:=by
 have h0:TnOk Try.prog (tn97) (mkA base) dOk:=ok97
 have h1:=zn h0 h0 (p:=(11,sv11)) wv11
 exact h1
noncomputable def LaK:Nat→Int→(List Int)→(List (List Int))→(List Int)→(List Int)→(List Int)→(List (List (List Int)))→(List (List (List Int)))→Option (List (List (List Int)))
 | 0,_,_,_,_,_,_,_,_=>none
 | n+1,x0,x1,x2,x3,x4,x5,x6,x7=>(cond (decide (x0 < (x2.length:Int))) (cond (decide (0≤x0)) (cond (decide (List.length x7+List.length [[List.getD x2 x0.toNat []]]≤nat_lit 2147483648)) (LaK n (IntKind.wrap IntKind.i64 (x0+(1:Int))) x1 x2 x3 x4 x5 x6 (x7++[[List.getD x2 x0.toNat []]])) none) none) (some x7))
theorem qLaK:type_of% @LaK.eq_2:=@LaK.eq_2
noncomputable def xLaK (x0:Int) (x1:(List Int)) (x2:(List (List Int))) (x3:(List Int)) (x4:(List Int)) (x5:(List Int)) (x6:(List (List (List Int)))) (x7:(List (List (List Int)))):(List (List (List Int)))→Ex×CS:=fun r=>((.exit 0),{ sl:=[(1,.l 1 0),(2,.l 2 0),(3,.l 3 0),(9,.l 1 1)],lo:=[(2,[.g 0,.g 1]),(3,[.d 3 (.int .i64) (x4),.g 2])],h:=[.row 3 (.int .i64) (x5),.row 23 (.list 22 (.list 3 (.int .i64))) (x6),.row 23 (.list 22 (.list 3 (.int .i64))) (r:List (List (List Int)))],n0:=0,w:=false })
theorem bLaK (k:Nat) (cN:CS→Option (Ex×CS)) (cX:Ex→CS→Option (Ex×CS)) (x0:Int) (x1:(List Int)) (x2:(List (List Int))) (x3:(List Int)) (x4:(List Int)) (x5:(List Int)) (x6:(List (List (List Int)))) (x7:(List (List (List Int)))):zq Try.prog (tn98 17) (TM.evF Try.prog (tn98) dOk (k+40)) dOk (k+40) (zc Try.prog (tn0 17) 17 0) 0 0 { sl:=[(1,.l 1 0),(2,.l 2 0),(3,.l 3 0),(4,.v (.sc (I4 x0)))],lo:=[(1,[.d 3 (.int .i64) (x1),.d 22 (.list 3 (.int .i64)) (x2),.d 3 (.int .i64) (x3)]),(2,[.g 0,.g 1]),(3,[.d 3 (.int .i64) (x4),.g 2])],h:=[.row 3 (.int .i64) (x5),.row 23 (.list 22 (.list 3 (.int .i64))) (x6),.row 23 (.list 22 (.list 3 (.int .i64))) (x7)],n0:=0,w:=false } cN cX=(cond (decide (x0 < (x2.length:Int))) (cond (decide (0≤x0)) (cond (decide (x0 < (x2.length:Int))) (cond (decide (List.length x7+List.length [[List.getD x2 x0.toNat []]]≤nat_lit 2147483648)) (cN { sl:=[(1,.l 1 0),(2,.l 2 0),(3,.l 3 0),(4,.v (.sc (I4 (IntKind.wrap IntKind.i64 (x0+(1:Int))))))],lo:=[(1,[.d 3 (.int .i64) (x1),.d 22 (.list 3 (.int .i64)) (x2),.d 3 (.int .i64) (x3)]),(2,[.g 0,.g 1]),(3,[.d 3 (.int .i64) (x4),.g 2])],h:=[.row 3 (.int .i64) (x5),.row 23 (.list 22 (.list 3 (.int .i64))) (x6),.row 23 (.list 22 (.list 3 (.int .i64))) (x7++[[List.getD x2 x0.toNat []]]:List (List (List Int)))],n0:=0,w:=false }) none) none) none) (cX (.exit 0) { sl:=[(1,.l 1 0),(2,.l 2 0),(3,.l 3 0),(9,.l 1 1)],lo:=[(2,[.g 0,.g 1]),(3,[.d 3 (.int .i64) (x4),.g 2])],h:=[.row 3 (.int .i64) (x5),.row 23 (.list 22 (.list 3 (.int .i64))) (x6),.row 23 (.list 22 (.list 3 (.int .i64))) (x7)],n0:=0,w:=false })):=by kernel_rfl
theorem lLaK (k m:Nat):∀ (n:Nat) (x0:Int) (x1:(List Int)) (x2:(List (List Int))) (x3:(List Int)) (x4:(List Int)) (x5:(List Int)) (x6:(List (List (List Int)))) (x7:(List (List (List Int)))) (r:(List (List (List Int)))),LaK n x0 x1 x2 x3 x4 x5 x6 x7=some r→zM Try.prog (tn98 17) (TM.evF Try.prog (tn98) dOk (k+40)) dOk (k+40) (zc Try.prog (tn0 17) 17 0) 0 0 (n+m) { sl:=[(1,.l 1 0),(2,.l 2 0),(3,.l 3 0),(4,.v (.sc (I4 x0)))],lo:=[(1,[.d 3 (.int .i64) (x1),.d 22 (.list 3 (.int .i64)) (x2),.d 3 (.int .i64) (x3)]),(2,[.g 0,.g 1]),(3,[.d 3 (.int .i64) (x4),.g 2])],h:=[.row 3 (.int .i64) (x5),.row 23 (.list 22 (.list 3 (.int .i64))) (x6),.row 23 (.list 22 (.list 3 (.int .i64))) (x7)],n0:=0,w:=false }=some (xLaK x0 x1 x2 x3 x4 x5 x6 x7 r):=by
 intro n
 induction n with
 | zero=>intro _ _ _ _ _ _ _ _ r h;cases h
 | succ n ih=>
  intro x0 x1 x2 x3 x4 x5 x6 x7 r
  rw [show n+1+m=n+m+1 by omega,zp,bLaK,qLaK]
  cases (decide (x0 < (x2.length:Int))) with
  | true=>
   cases (decide (0≤x0)) with
   | true=>
    cases (decide (List.length x7+List.length [[List.getD x2 x0.toNat []]]≤nat_lit 2147483648)) with
    | true=>
     exact ih _ _ _ _ _ _ _ _ r
    | false=>
     intro h;cases h
   | false=>
    intro h;cases h
  | false=>
   intro h;cases h;rfl
noncomputable def sLaK:TellS:=fun S=>dCS 0 S fun y1 y2 y3=>dSt 1 y1 fun y5 l4=>dL 1 0 y5<|dSt 2 l4 fun y7 l6=>dL 2 0 y7<|dSt 3 l6 fun y9 l8=>dL 3 0 y9<|dSI 4 .i64 l8 fun x0 l10=>dE l10<|dLo 1 y2 fun y11 l12=>dC y11 fun y13 l14=>dD 3 (.int .i64) y13 fun x1=>dC l14 fun y15 l16=>dD 22 (.list 3 (.int .i64)) y15 fun x2=>dC l16 fun y17 l18=>dD 3 (.int .i64) y17 fun x3=>dE l18<|dLo 2 l12 fun y19 l20=>dC y19 fun y21 l22=>dG 0 y21<|dC l22 fun y23 l24=>dG 1 y23<|dE l24<|dLo 3 l20 fun y25 l26=>dC y25 fun y27 l28=>dD 3 (.int .i64) y27 fun x4=>dC l28 fun y29 l30=>dG 2 y29<|dE l30<|dE l26<|dHR 3 (.int .i64) y3 fun x5 l31=>dHR 23 (.list 22 (.list 3 (.int .i64))) l31 fun x6 l32=>dHR 23 (.list 22 (.list 3 (.int .i64))) l32 fun x7 l33=>dE l33 <|  some [(ok (LaK FU x0 x1 x2 x3 x4 x5 x6 x7),(.exit 0),{ sl:=[(1,.l 1 0),(2,.l 2 0),(3,.l 3 0),(9,.l 1 1)],lo:=[(2,[.g 0,.g 1]),(3,[.d 3 (.int .i64) (x4),.g 2])],h:=[.row 3 (.int .i64) (x5),.row 23 (.list 22 (.list 3 (.int .i64))) (x6),.row 23 (.list 22 (.list 3 (.int .i64))) ((val (LaK FU x0 x1 x2 x3 x4 x5 x6 x7)):List (List (List Int)))],n0:=0,w:=false })]
theorem wLaK:zB Try.prog dOk base o98 t98 ((17,0),sLaK):=by
 refine ⟨.loop (zc Try.prog (tn0 17) 17 0),0,by kernel_rfl,?_⟩
 intro S alts e S' h10 h2
 have h1:sLaK S=some alts:=h10
 clear h10
 unfold sLaK at h1
 repeat with_reducible first|replace h1:=yc h1;obtain ⟨_,_,_,rfl,h1⟩:=h1|(first|replace h1:=wB h1|replace h1:=ye h1|replace h1:=wL h1|replace h1:=dCq h1|replace h1:=zY h1);obtain ⟨_,_,rfl,h1⟩:=h1|(first|replace h1:=dLq h1|replace h1:=dEq h1|replace h1:=dGq h1);obtain ⟨rfl,h1⟩:=h1|replace h1:=dDq h1;obtain ⟨_,rfl,h1⟩:=h1
 cases h1
 obtain ⟨hc0,rfl,rfl⟩:=zt h2
 exact ⟨FU+40,(ze rfl).trans (lLaK FU 40 FU _ _ _ _ _ _ _ _ _ (zf hc0))⟩
noncomputable def o99:OrcT:=o98
noncomputable def t99:TellT:=((17,0),sLaK)::t98
noncomputable abbrev tn99:FuncId→TAn:=zh base o99 t99
theorem ok99:TnOk Try.prog tn99 (mkA base) dOk:=by
 have h0:TnOk Try.prog (tn98) (mkA base) dOk:=ok98
 have h1:=zD h0 h0 (p:=((17,0),sLaK)) wLaK
 exact h1
noncomputable def v17 (x0:(List Int)) (x1:(List (List Int))) (x2:(List Int)):Option (List (List (List Int))):=(cond (ok (LaK FU 0 x0 x1 x2 x0 [] [] [])) (some (val (LaK FU 0 x0 x1 x2 x0 [] [] []))) none)
theorem ev17 (x0:(List Int)) (x1:(List (List Int))) (x2:(List Int)):zo Try.prog (tn99 17) (TM.evF Try.prog (tn99) dOk 40) dOk 40 17 [.agg [.d 3 (.int .i64) (x0),.d 22 (.list 3 (.int .i64)) (x1),.d 3 (.int .i64) (x2)]] []=(v17 x0 x1 x2).bind fun r=>some ([.agg [.d 3 (.int .i64) (x0),.d 23 (.list 22 (.list 3 (.int .i64))) (r:List (List (List Int)))]],[]):=by
 refine Eq.trans (b:=(cond (ok (LaK FU 0 x0 x1 x2 x0 [] [] [])) (some ([.agg [.d 3 (.int .i64) (x0),.d 23 (.list 22 (.list 3 (.int .i64))) (val (LaK FU 0 x0 x1 x2 x0 [] [] []):List (List (List Int)))]],[])) none)) (by kernel_rfl) ?_
 unfold v17
 refine za ?_ ?_
 rfl
 rfl
noncomputable def sv17:OrcS:=fun al H=>dC al fun y1 l2=>dA y1 fun y3=>dC y3 fun y4 l5=>dD 3 (.int .i64) y4 fun x0=>dC l5 fun y6 l7=>dD 22 (.list 3 (.int .i64)) y6 fun x1=>dC l7 fun y8 l9=>dD 3 (.int .i64) y8 fun x2=>dE l9<|dE l2<|dE H <|  some [(ok (v17 x0 x1 x2),[.agg [.d 3 (.int .i64) (x0),.d 23 (.list 22 (.list 3 (.int .i64))) ((val (v17 x0 x1 x2)):List (List (List Int)))]],[])]
theorem wv17:zm Try.prog dOk base o99 t99 (17,sv17):=by
 intro al H q hq0 rs H2 h2
 have hq:sv17 al H=some q:=hq0
 clear hq0
 unfold sv17 at hq
 repeat with_reducible first|replace hq:=dCq hq;obtain ⟨_,_,rfl,hq⟩:=hq|(first|replace hq:=dAq hq|replace hq:=dDq hq);obtain ⟨_,rfl,hq⟩:=hq|replace hq:=dEq hq;obtain ⟨rfl,hq⟩:=hq
 cases hq
 obtain ⟨hc0,rfl,rfl⟩:=zg h2
 exact ⟨41,(zu (by kernel_rfl)).trans ((ev17 _ _ _).trans (zl (zf hc0)))⟩
noncomputable def o100:OrcT:=(17,sv17)::o99
noncomputable def t100:TellT:=t99
noncomputable abbrev tn100:FuncId→TAn:=zh base o100 t100
theorem ok100:TnOk Try.prog tn100 (mkA base) dOk:=by
 have h0:TnOk Try.prog (tn99) (mkA base) dOk:=ok99
 have h1:=zn h0 h0 (p:=(17,sv17)) wv17
 exact h1
noncomputable def Lam:Nat→(List (List Int))→Int→Int→(List Int)→(List (List (List Int)))→Option (Bool ⊕ Unit)
 | 0,_,_,_,_,_=>none
 | n+1,x0,x1,x2,x3,x4=>(cond (decide (0≤x1)) (cond (decide (x1 < (x0.length:Int))) (cond (decide (x2 < (↑(List.length (List.getD x0 x1.toNat [])):Int))) (cond (decide (0≤x2)) (cond (decide (List.getD (List.getD x0 x1.toNat []) x2.toNat 0 < 0)) (some (.inl (false))) (cond (decide (List.getD (List.getD x0 x1.toNat []) x2.toNat 0 > (1000000000:Int))) (some (.inl (false))) (Lam n x0 x1 (IntKind.wrap IntKind.i64 (x2+(1:Int))) x3 x4))) none) (some (.inr ()))) none) none)
theorem qLam:type_of% @Lam.eq_2:=@Lam.eq_2
noncomputable def xLam (x0:(List (List Int))) (x1 x2:Int) (x3:(List Int)) (x4:(List (List (List Int)))):(Bool ⊕ Unit)→Ex×CS:=fun r=>match r with | .inl a0=>(.ret,{ sl:=[(4,.v (.sc (.bool (a0))))],lo:=[],h:=[],n0:=0,w:=true }) | .inr b0=>((.exit 2),{ sl:=[(1,.v (.sc (.d 22 (.list 3 (.int .i64)) x0))),(2,.l 2 0),(5,.v (.sc (I4 x1)))],lo:=[(2,[.d 3 (.int .i64) (x3),.d 23 (.list 22 (.list 3 (.int .i64))) (x4)])],h:=[],n0:=0,w:=false })
theorem bLam (k:Nat) (cN:CS→Option (Ex×CS)) (cX:Ex→CS→Option (Ex×CS)) (x0:(List (List Int))) (x1 x2:Int) (x3:(List Int)) (x4:(List (List (List Int)))):zq Try.prog (tn100 16) (TM.evF Try.prog (tn100) dOk (k+40)) dOk (k+40) (zc Try.prog (tn0 16) 16 16) 2 16 { sl:=[(1,.v (.sc (.d 22 (.list 3 (.int .i64)) x0))),(2,.l 2 0),(5,.v (.sc (I4 x1))),(6,.v (.sc (I4 x2)))],lo:=[(2,[.d 3 (.int .i64) (x3),.d 23 (.list 22 (.list 3 (.int .i64))) (x4)])],h:=[],n0:=0,w:=false } cN cX=(cond (decide (0≤x1)) (cond (decide (x1 < (x0.length:Int))) (cond (decide (x2 < (↑(List.length (List.getD x0 x1.toNat [])):Int))) (cond (decide (0≤x1)) (cond (decide (x1 < (x0.length:Int))) (cond (decide (0≤x2)) (cond (decide (x2 < (↑(List.length (List.getD x0 x1.toNat [])):Int))) (cond (decide (List.getD (List.getD x0 x1.toNat []) x2.toNat 0 < 0)) (cX .ret { sl:=[(4,.v (.sc (.bool (false))))],lo:=[],h:=[],n0:=0,w:=true }) (cond (decide (0≤x1)) (cond (decide (x1 < (x0.length:Int))) (cond (decide (0≤x2)) (cond (decide (x2 < (↑(List.length (List.getD x0 x1.toNat [])):Int))) (cond (decide (List.getD (List.getD x0 x1.toNat []) x2.toNat 0 > (1000000000:Int))) (cX .ret { sl:=[(4,.v (.sc (.bool (false))))],lo:=[],h:=[],n0:=0,w:=true }) (cN { sl:=[(1,.v (.sc (.d 22 (.list 3 (.int .i64)) x0))),(2,.l 2 0),(5,.v (.sc (I4 x1))),(6,.v (.sc (I4 (IntKind.wrap IntKind.i64 (x2+(1:Int))))))],lo:=[(2,[.d 3 (.int .i64) (x3),.d 23 (.list 22 (.list 3 (.int .i64))) (x4)])],h:=[],n0:=0,w:=false })) none) none) none) none)) none) none) none) none) (cX (.exit 2) { sl:=[(1,.v (.sc (.d 22 (.list 3 (.int .i64)) x0))),(2,.l 2 0),(5,.v (.sc (I4 x1)))],lo:=[(2,[.d 3 (.int .i64) (x3),.d 23 (.list 22 (.list 3 (.int .i64))) (x4)])],h:=[],n0:=0,w:=false })) none) none):=by kernel_rfl
theorem lLam (k m:Nat):∀ (n:Nat) (x0:(List (List Int))) (x1 x2:Int) (x3:(List Int)) (x4:(List (List (List Int)))) (r:(Bool ⊕ Unit)),Lam n x0 x1 x2 x3 x4=some r→zM Try.prog (tn100 16) (TM.evF Try.prog (tn100) dOk (k+40)) dOk (k+40) (zc Try.prog (tn0 16) 16 16) 2 16 (n+m) { sl:=[(1,.v (.sc (.d 22 (.list 3 (.int .i64)) x0))),(2,.l 2 0),(5,.v (.sc (I4 x1))),(6,.v (.sc (I4 x2)))],lo:=[(2,[.d 3 (.int .i64) (x3),.d 23 (.list 22 (.list 3 (.int .i64))) (x4)])],h:=[],n0:=0,w:=false }=some (xLam x0 x1 x2 x3 x4 r):=by
 intro n
 induction n with
 | zero=>intro _ _ _ _ _ r h;cases h
 | succ n ih=>
  intro x0 x1 x2 x3 x4 r
  rw [show n+1+m=n+m+1 by omega,zp,bLam,qLam]
  cases (decide (0≤x1)) with
  | true=>
   cases (decide (x1 < (x0.length:Int))) with
   | true=>
    cases (decide (x2 < (↑(List.length (List.getD x0 x1.toNat [])):Int))) with
    | true=>
     cases (decide (0≤x2)) with
     | true=>
      cases (decide (List.getD (List.getD x0 x1.toNat []) x2.toNat 0 < 0)) with
      | true=>
       intro h;cases h;rfl
      | false=>
       cases (decide (List.getD (List.getD x0 x1.toNat []) x2.toNat 0 > (1000000000:Int))) with
       | true=>
        intro h;cases h;rfl
       | false=>
        exact ih _ _ _ _ _ r
     | false=>
      intro h;cases h
    | false=>
     intro h;cases h;rfl
   | false=>
    intro h;cases h
  | false=>
   intro h;cases h
noncomputable def sLam:TellS:=fun S=>dCS 0 S fun y1 y2 y3=>dSs 1 y1 fun y5 l4=>dD 22 (.list 3 (.int .i64)) y5 fun x0=>dSt 2 l4 fun y7 l6=>dL 2 0 y7<|dSI 5 .i64 l6 fun x1 l8=>dSI 6 .i64 l8 fun x2 l9=>dE l9<|dLo 2 y2 fun y10 l11=>dC y10 fun y12 l13=>dD 3 (.int .i64) y12 fun x3=>dC l13 fun y14 l15=>dD 23 (.list 22 (.list 3 (.int .i64))) y14 fun x4=>dE l15<|dE l11<|dE y3 <|  some [(isL (Lam FU x0 x1 x2 x3 x4),.ret,{ sl:=[(4,.v (.sc (.bool ((zN (Lam FU x0 x1 x2 x3 x4))))))],lo:=[],h:=[],n0:=0,w:=true }),(ok (zL (Lam FU x0 x1 x2 x3 x4)),(.exit 2),{ sl:=[(1,.v (.sc (.d 22 (.list 3 (.int .i64)) x0))),(2,.l 2 0),(5,.v (.sc (I4 x1)))],lo:=[(2,[.d 3 (.int .i64) (x3),.d 23 (.list 22 (.list 3 (.int .i64))) (x4)])],h:=[],n0:=0,w:=false })]
theorem wLam:zB Try.prog dOk base o100 t100 ((16,16),sLam):=by
 refine ⟨.loop (zc Try.prog (tn0 16) 16 16),2,by kernel_rfl,?_⟩
 intro S alts e S' h10 h2
 have h1:sLam S=some alts:=h10
 clear h10
 unfold sLam at h1
 repeat with_reducible first|replace h1:=yc h1;obtain ⟨_,_,_,rfl,h1⟩:=h1|(first|replace h1:=zX h1|replace h1:=wB h1|replace h1:=ye h1|replace h1:=wL h1|replace h1:=dCq h1);obtain ⟨_,_,rfl,h1⟩:=h1|replace h1:=dDq h1;obtain ⟨_,rfl,h1⟩:=h1|(first|replace h1:=dLq h1|replace h1:=dEq h1);obtain ⟨rfl,h1⟩:=h1
 cases h1
 rcases yx h2 with ⟨hc0,rfl,rfl⟩ | h2
 · exact ⟨FU+40,(ze rfl).trans (lLam FU 40 FU _ _ _ _ _ _ (yS hc0))⟩
 obtain ⟨hc1,rfl,rfl⟩:=zt h2
 exact ⟨FU+40,(ze rfl).trans (lLam FU 40 FU _ _ _ _ _ _ (yw (zf hc1)))⟩
noncomputable def o101:OrcT:=o100
noncomputable def t101:TellT:=((16,16),sLam)::t100
noncomputable abbrev tn101:FuncId→TAn:=zh base o101 t101
theorem ok101:TnOk Try.prog tn101 (mkA base) dOk:=by
 have h0:TnOk Try.prog (tn100) (mkA base) dOk:=ok100
 have h1:=zD h0 h0 (p:=((16,16),sLam)) wLam
 exact h1
noncomputable def Lao:Nat→(List (List Int))→Int→(List Int)→(List (List (List Int)))→Option (Bool ⊕ Unit)
 | 0,_,_,_,_=>none
 | n+1,x0,x1,x2,x3=>(cond (decide (x1 < (x0.length:Int))) (cond (decide (0≤x1)) (cond (decide (x1 < (x3.length:Int))) (cond ((↑(List.length (List.getD x0 x1.toNat [])):Int) != (↑(List.length (List.getD x3 x1.toNat [])):Int)) (some (.inl (false))) (cond (isL (Lam FU x0 x1 0 x2 x3)) (some (.inl (zN (Lam FU x0 x1 0 x2 x3)))) (cond (ok (zL (Lam FU x0 x1 0 x2 x3))) (Lao n x0 (IntKind.wrap IntKind.i64 (x1+(1:Int))) x2 x3) none))) none) none) (some (.inr ())))
theorem qLao:type_of% @Lao.eq_2:=@Lao.eq_2
noncomputable def xLao (x0:(List (List Int))) (x1:Int) (x2:(List Int)) (x3:(List (List (List Int)))):(Bool ⊕ Unit)→Ex×CS:=fun r=>match r with | .inl a0=>(.ret,{ sl:=[(4,.v (.sc (.bool (a0))))],lo:=[],h:=[],n0:=0,w:=true }) | .inr b0=>((.exit 0),{ sl:=[(2,.l 2 0)],lo:=[],h:=[],n0:=0,w:=false })
theorem bLao (k:Nat) (cN:CS→Option (Ex×CS)) (cX:Ex→CS→Option (Ex×CS)) (x0:(List (List Int))) (x1:Int) (x2:(List Int)) (x3:(List (List (List Int)))):zq Try.prog (tn101 16) (TM.evF Try.prog (tn101) dOk (k+40)) dOk (k+40) (zc Try.prog (tn0 16) 16 0) 0 0 { sl:=[(1,.v (.sc (.d 22 (.list 3 (.int .i64)) x0))),(2,.l 2 0),(5,.v (.sc (I4 x1)))],lo:=[(2,[.d 3 (.int .i64) (x2),.d 23 (.list 22 (.list 3 (.int .i64))) (x3)])],h:=[],n0:=0,w:=false } cN cX=(cond (decide (x1 < (x0.length:Int))) (cond (decide (0≤x1)) (cond (decide (x1 < (x0.length:Int))) (cond (decide (0≤x1)) (cond (decide (x1 < (x3.length:Int))) (cond ((↑(List.length (List.getD x0 x1.toNat [])):Int) != (↑(List.length (List.getD x3 x1.toNat [])):Int)) (cX .ret { sl:=[(4,.v (.sc (.bool (false))))],lo:=[],h:=[],n0:=0,w:=true }) (cond (isL (Lam FU x0 x1 0 x2 x3)) (cX .ret { sl:=[(4,.v (.sc (.bool (zN (Lam FU x0 x1 0 x2 x3)))))],lo:=[],h:=[],n0:=0,w:=true }) (cond (ok (zL (Lam FU x0 x1 0 x2 x3))) (cN { sl:=[(1,.v (.sc (.d 22 (.list 3 (.int .i64)) x0))),(2,.l 2 0),(5,.v (.sc (I4 (IntKind.wrap IntKind.i64 (x1+(1:Int))))))],lo:=[(2,[.d 3 (.int .i64) (x2),.d 23 (.list 22 (.list 3 (.int .i64))) (x3)])],h:=[],n0:=0,w:=false }) none))) none) none) none) none) (cX (.exit 0) { sl:=[(2,.l 2 0)],lo:=[],h:=[],n0:=0,w:=false })):=by kernel_rfl
theorem lLao (k m:Nat):∀ (n:Nat) (x0:(List (List Int))) (x1:Int) (x2:(List Int)) (x3:(List (List (List Int)))) (r:(Bool ⊕ Unit)),Lao n x0 x1 x2 x3=some r→zM Try.prog (tn101 16) (TM.evF Try.prog (tn101) dOk (k+40)) dOk (k+40) (zc Try.prog (tn0 16) 16 0) 0 0 (n+m) { sl:=[(1,.v (.sc (.d 22 (.list 3 (.int .i64)) x0))),(2,.l 2 0),(5,.v (.sc (I4 x1)))],lo:=[(2,[.d 3 (.int .i64) (x2),.d 23 (.list 22 (.list 3 (.int .i64))) (x3)])],h:=[],n0:=0,w:=false }=some (xLao x0 x1 x2 x3 r):=by
 intro n
 induction n with
 | zero=>intro _ _ _ _ r h;cases h
 | succ n ih=>
  intro x0 x1 x2 x3 r
  rw [show n+1+m=n+m+1 by omega,zp,bLao,qLao]
  cases (decide (x1 < (x0.length:Int))) with
  | true=>
   cases (decide (0≤x1)) with
   | true=>
    cases (decide (x1 < (x3.length:Int))) with
    | true=>
     cases ((↑(List.length (List.getD x0 x1.toNat [])):Int) != (↑(List.length (List.getD x3 x1.toNat [])):Int)) with
     | true=>
      intro h;cases h;rfl
     | false=>
      cases (isL (Lam FU x0 x1 0 x2 x3)) with
      | true=>
       intro h;cases h;rfl
      | false=>
       cases (ok (zL (Lam FU x0 x1 0 x2 x3))) with
       | true=>
        exact ih _ _ _ _ r
       | false=>
        intro h;cases h
    | false=>
     intro h;cases h
   | false=>
    intro h;cases h
  | false=>
   intro h;cases h;rfl
noncomputable def sLao:TellS:=fun S=>dCS 0 S fun y1 y2 y3=>dSs 1 y1 fun y5 l4=>dD 22 (.list 3 (.int .i64)) y5 fun x0=>dSt 2 l4 fun y7 l6=>dL 2 0 y7<|dSI 5 .i64 l6 fun x1 l8=>dE l8<|dLo 2 y2 fun y9 l10=>dC y9 fun y11 l12=>dD 3 (.int .i64) y11 fun x2=>dC l12 fun y13 l14=>dD 23 (.list 22 (.list 3 (.int .i64))) y13 fun x3=>dE l14<|dE l10<|dE y3 <|  some [(isL (Lao FU x0 x1 x2 x3),.ret,{ sl:=[(4,.v (.sc (.bool ((zN (Lao FU x0 x1 x2 x3))))))],lo:=[],h:=[],n0:=0,w:=true }),(ok (zL (Lao FU x0 x1 x2 x3)),(.exit 0),{ sl:=[(2,.l 2 0)],lo:=[],h:=[],n0:=0,w:=false })]
theorem wLao:zB Try.prog dOk base o101 t101 ((16,0),sLao):=by
 refine ⟨.loop (zc Try.prog (tn0 16) 16 0),0,by kernel_rfl,?_⟩
 intro S alts e S' h10 h2
 have h1:sLao S=some alts:=h10
 clear h10
 unfold sLao at h1
 repeat with_reducible first|replace h1:=yc h1;obtain ⟨_,_,_,rfl,h1⟩:=h1|(first|replace h1:=zX h1|replace h1:=wB h1|replace h1:=ye h1|replace h1:=wL h1|replace h1:=dCq h1);obtain ⟨_,_,rfl,h1⟩:=h1|replace h1:=dDq h1;obtain ⟨_,rfl,h1⟩:=h1|(first|replace h1:=dLq h1|replace h1:=dEq h1);obtain ⟨rfl,h1⟩:=h1
 cases h1
 rcases yx h2 with ⟨hc0,rfl,rfl⟩ | h2
 · exact ⟨FU+40,(ze rfl).trans (lLao FU 40 FU _ _ _ _ _ (yS hc0))⟩
 obtain ⟨hc1,rfl,rfl⟩:=zt h2
 exact ⟨FU+40,(ze rfl).trans (lLao FU 40 FU _ _ _ _ _ (yw (zf hc1)))⟩
noncomputable def o102:OrcT:=o101
noncomputable def t102:TellT:=((16,0),sLao)::t101
noncomputable abbrev tn102:FuncId→TAn:=zh base o102 t102
theorem ok102:TnOk Try.prog tn102 (mkA base) dOk:=by
 have h0:TnOk Try.prog (tn101) (mkA base) dOk:=ok101
 have h1:=zD h0 h0 (p:=((16,0),sLao)) wLao
 exact h1
noncomputable def v16 (x0:(List Int)) (x1:(List (List (List Int)))) (x2:(List (List Int))):Option Bool:=(cond ((x2.length:Int) != (x1.length:Int)) (some (false)) (cond (isL (Lao FU x2 0 x0 x1)) (some (zN (Lao FU x2 0 x0 x1))) (cond (ok (zL (Lao FU x2 0 x0 x1))) (some (true)) none)))
theorem ev16 (x0:(List Int)) (x1:(List (List (List Int)))) (x2:(List (List Int))):zo Try.prog (tn102 16) (TM.evF Try.prog (tn102) dOk 40) dOk 40 16 [.agg [.d 3 (.int .i64) (x0),.d 23 (.list 22 (.list 3 (.int .i64))) (x1)],.sc (.d 22 (.list 3 (.int .i64)) x2)] []=(v16 x0 x1 x2).bind fun r=>some ([.sc (.bool (r))],[]):=by
 refine Eq.trans (b:=(cond ((x2.length:Int) != (x1.length:Int)) (some ([.sc (.bool (false))],[])) (cond (isL (Lao FU x2 0 x0 x1)) (some ([.sc (.bool (zN (Lao FU x2 0 x0 x1)))],[])) (cond (ok (zL (Lao FU x2 0 x0 x1))) (some ([.sc (.bool (true))],[])) none)))) (by kernel_rfl) ?_
 unfold v16
 refine za ?_ ?_
 rfl
 refine za ?_ ?_
 rfl
 refine za ?_ ?_
 rfl
 rfl
noncomputable def sv16:OrcS:=fun al H=>dC al fun y1 l2=>dA y1 fun y3=>dC y3 fun y4 l5=>dD 3 (.int .i64) y4 fun x0=>dC l5 fun y6 l7=>dD 23 (.list 22 (.list 3 (.int .i64))) y6 fun x1=>dE l7<|dC l2 fun y8 l9=>dS y8 fun y10=>dD 22 (.list 3 (.int .i64)) y10 fun x2=>dE l9<|dE H <|  some [(ok (v16 x0 x1 x2),[.sc (.bool ((val (v16 x0 x1 x2))))],[])]
theorem wv16:zm Try.prog dOk base o102 t102 (16,sv16):=by
 intro al H q hq0 rs H2 h2
 have hq:sv16 al H=some q:=hq0
 clear hq0
 unfold sv16 at hq
 repeat with_reducible first|replace hq:=dCq hq;obtain ⟨_,_,rfl,hq⟩:=hq|(first|replace hq:=dAq hq|replace hq:=dDq hq|replace hq:=dSq hq);obtain ⟨_,rfl,hq⟩:=hq|replace hq:=dEq hq;obtain ⟨rfl,hq⟩:=hq
 cases hq
 obtain ⟨hc0,rfl,rfl⟩:=zg h2
 exact ⟨41,(zu (by kernel_rfl)).trans ((ev16 _ _ _).trans (zl (zf hc0)))⟩
noncomputable def o103:OrcT:=(16,sv16)::o102
noncomputable def t103:TellT:=t102
noncomputable abbrev tn103:FuncId→TAn:=zh base o103 t103
theorem ok103:TnOk Try.prog tn103 (mkA base) dOk:=by
 have h0:TnOk Try.prog (tn102) (mkA base) dOk:=ok102
 have h1:=zn h0 h0 (p:=(16,sv16)) wv16
 exact h1
noncomputable def Lax:Nat→(List Int)→Int→Int→Option (Bool ⊕ Unit)
 | 0,_,_,_=>none
 | n+1,x0,x1,x2=>(cond (decide (x2 < (x0.length:Int))) (cond (decide (0≤x2)) (cond (List.getD x0 x2.toNat 0==x1) (some (.inl (true))) (Lax n x0 x1 (IntKind.wrap IntKind.i64 (x2+(1:Int))))) none) (some (.inr ())))
theorem qLax:type_of% @Lax.eq_2:=@Lax.eq_2
noncomputable def xLax (x0:(List Int)) (x1 x2:Int):(Bool ⊕ Unit)→Ex×CS:=fun r=>match r with | .inl a0=>(.ret,{ sl:=[(4,.v (.sc (.bool (a0))))],lo:=[],h:=[],n0:=0,w:=true }) | .inr b0=>((.exit 0),{ sl:=[],lo:=[],h:=[],n0:=0,w:=false })
theorem bLax (k:Nat) (cN:CS→Option (Ex×CS)) (cX:Ex→CS→Option (Ex×CS)) (x0:(List Int)) (x1 x2:Int):zq Try.prog (tn103 55) (TM.evF Try.prog (tn103) dOk (k+40)) dOk (k+40) (zc Try.prog (tn0 55) 55 0) 0 0 { sl:=[(0,.v (.sc (.d 3 (.int .i64) x0))),(1,.v (.sc (I4 x1))),(5,.v (.sc (I4 x2)))],lo:=[],h:=[],n0:=0,w:=false } cN cX=(cond (decide (x2 < (x0.length:Int))) (cond (decide (0≤x2)) (cond (decide (x2 < (x0.length:Int))) (cond (List.getD x0 x2.toNat 0==x1) (cX .ret { sl:=[(4,.v (.sc (.bool (true))))],lo:=[],h:=[],n0:=0,w:=true }) (cN { sl:=[(0,.v (.sc (.d 3 (.int .i64) x0))),(1,.v (.sc (I4 x1))),(5,.v (.sc (I4 (IntKind.wrap IntKind.i64 (x2+(1:Int))))))],lo:=[],h:=[],n0:=0,w:=false })) none) none) (cX (.exit 0) { sl:=[],lo:=[],h:=[],n0:=0,w:=false })):=by kernel_rfl
theorem lLax (k m:Nat):∀ (n:Nat) (x0:(List Int)) (x1 x2:Int) (r:(Bool ⊕ Unit)),Lax n x0 x1 x2=some r→zM Try.prog (tn103 55) (TM.evF Try.prog (tn103) dOk (k+40)) dOk (k+40) (zc Try.prog (tn0 55) 55 0) 0 0 (n+m) { sl:=[(0,.v (.sc (.d 3 (.int .i64) x0))),(1,.v (.sc (I4 x1))),(5,.v (.sc (I4 x2)))],lo:=[],h:=[],n0:=0,w:=false }=some (xLax x0 x1 x2 r):=by
 intro n
 induction n with
 | zero=>intro _ _ _ r h;cases h
 | succ n ih=>
  intro x0 x1 x2 r
  rw [show n+1+m=n+m+1 by omega,zp,bLax,qLax]
  cases (decide (x2 < (x0.length:Int))) with
  | true=>
   cases (decide (0≤x2)) with
   | true=>
    cases (List.getD x0 x2.toNat 0==x1) with
    | true=>
     intro h;cases h;rfl
    | false=>
     exact ih _ _ _ r
   | false=>
    intro h;cases h
  | false=>
   intro h;cases h;rfl
noncomputable def sLax:TellS:=fun S=>dCS 0 S fun y1 y2 y3=>dSs 0 y1 fun y5 l4=>dD 3 (.int .i64) y5 fun x0=>dSI 1 .i64 l4 fun x1 l6=>dSI 5 .i64 l6 fun x2 l7=>dE l7<|dE y2<|dE y3 <|  some [(isL (Lax FU x0 x1 x2),.ret,{ sl:=[(4,.v (.sc (.bool ((zN (Lax FU x0 x1 x2))))))],lo:=[],h:=[],n0:=0,w:=true }),(ok (zL (Lax FU x0 x1 x2)),(.exit 0),{ sl:=[],lo:=[],h:=[],n0:=0,w:=false })]
theorem wLax:zB Try.prog dOk base o103 t103 ((55,0),sLax):=by
 refine ⟨.loop (zc Try.prog (tn0 55) 55 0),0,by kernel_rfl,?_⟩
 intro S alts e S' h10 h2
 have h1:sLax S=some alts:=h10
 clear h10
 unfold sLax at h1
 repeat with_reducible first|replace h1:=yc h1;obtain ⟨_,_,_,rfl,h1⟩:=h1|(first|replace h1:=zX h1|replace h1:=ye h1);obtain ⟨_,_,rfl,h1⟩:=h1|replace h1:=dDq h1;obtain ⟨_,rfl,h1⟩:=h1|replace h1:=dEq h1;obtain ⟨rfl,h1⟩:=h1
 cases h1
 rcases yx h2 with ⟨hc0,rfl,rfl⟩ | h2
 · exact ⟨FU+40,(ze rfl).trans (lLax FU 40 FU _ _ _ _ (yS hc0))⟩
 obtain ⟨hc1,rfl,rfl⟩:=zt h2
 exact ⟨FU+40,(ze rfl).trans (lLax FU 40 FU _ _ _ _ (yw (zf hc1)))⟩
noncomputable def o104:OrcT:=o103
noncomputable def t104:TellT:=((55,0),sLax)::t103
noncomputable abbrev tn104:FuncId→TAn:=zh base o104 t104
theorem ok104:TnOk Try.prog tn104 (mkA base) dOk:=by
 have h0:TnOk Try.prog (tn103) (mkA base) dOk:=ok103
 have h1:=zD h0 h0 (p:=((55,0),sLax)) wLax
 exact h1
noncomputable def v55 (x0:(List Int)) (x1:Int):Option Bool:=(cond (isL (Lax FU x0 x1 0)) (some (zN (Lax FU x0 x1 0))) (cond (ok (zL (Lax FU x0 x1 0))) (some (false)) none))
theorem ev55 (x0:(List Int)) (x1:Int):zo Try.prog (tn104 55) (TM.evF Try.prog (tn104) dOk 40) dOk 40 55 [.sc (.d 3 (.int .i64) x0),.sc (I4 x1)] []=(v55 x0 x1).bind fun r=>some ([.sc (.bool (r))],[]):=by
 refine Eq.trans (b:=(cond (isL (Lax FU x0 x1 0)) (some ([.sc (.bool (zN (Lax FU x0 x1 0)))],[])) (cond (ok (zL (Lax FU x0 x1 0))) (some ([.sc (.bool (false))],[])) none))) (by kernel_rfl) ?_
 unfold v55
 refine za ?_ ?_
 rfl
 refine za ?_ ?_
 rfl
 rfl
noncomputable def sv55:OrcS:=fun al H=>dC al fun y1 l2=>dS y1 fun y3=>dD 3 (.int .i64) y3 fun x0=>dC l2 fun y4 l5=>dS y4 fun y6=>xd .i64 y6 fun x1=>dE l5<|dE H <|  some [(ok (v55 x0 x1),[.sc (.bool ((val (v55 x0 x1))))],[])]
theorem wv55:zm Try.prog dOk base o104 t104 (55,sv55):=by
 intro al H q hq0 rs H2 h2
 have hq:sv55 al H=some q:=hq0
 clear hq0
 unfold sv55 at hq
 repeat with_reducible first|replace hq:=dCq hq;obtain ⟨_,_,rfl,hq⟩:=hq|(first|replace hq:=dSq hq|replace hq:=dDq hq|replace hq:=xu hq);obtain ⟨_,rfl,hq⟩:=hq|replace hq:=dEq hq;obtain ⟨rfl,hq⟩:=hq
 cases hq
 obtain ⟨hc0,rfl,rfl⟩:=zg h2
 exact ⟨41,(zu (by kernel_rfl)).trans ((ev55 _ _).trans (zl (zf hc0)))⟩
noncomputable def o105:OrcT:=(55,sv55)::o104
noncomputable def t105:TellT:=t104
noncomputable abbrev tn105:FuncId→TAn:=zh base o105 t105
theorem ok105:TnOk Try.prog tn105 (mkA base) dOk:=by
 have h0:TnOk Try.prog (tn104) (mkA base) dOk:=ok104
 have h1:=zn h0 h0 (p:=(55,sv55)) wv55
 exact h1
noncomputable def Laf:Nat→(List (List Int))→Int→Int→Int→Int→(List Int)→(List (List (List Int)))→Option Int
 | 0,_,_,_,_,_,_,_=>none
 | n+1,x0,x1,x2,x3,x4,x5,x6=>(cond (decide (0≤x3)) (cond (decide (x3 < (x6.length:Int))) (cond (decide (x4 < (↑(List.length (List.getD x6 x3.toNat [])):Int))) (cond (decide (0≤x4)) (cond (ok (v55 (List.getD (List.getD x6 x3.toNat []) x4.toNat []) x1)) (cond (val (v55 (List.getD (List.getD x6 x3.toNat []) x4.toNat []) x1)) (cond (decide (x3 < (x0.length:Int))) (cond (decide (x4 < (↑(List.length (List.getD x0 x3.toNat [])):Int))) (Laf n x0 x1 (IntKind.wrap IntKind.i64 (x2+List.getD (List.getD x0 x3.toNat []) x4.toNat 0)) x3 (IntKind.wrap IntKind.i64 (x4+(1:Int))) x5 x6) none) none) (Laf n x0 x1 x2 x3 (IntKind.wrap IntKind.i64 (x4+(1:Int))) x5 x6)) none) none) (some x2)) none) none)
theorem qLaf:type_of% @Laf.eq_2:=@Laf.eq_2
noncomputable def xLaf (x0:(List (List Int))) (x1 x2 x3 x4:Int) (x5:(List Int)) (x6:(List (List (List Int)))):Int→Ex×CS:=fun r=>((.exit 2),{ sl:=[(1,.v (.sc (.d 22 (.list 3 (.int .i64)) x0))),(2,.v (.sc (I4 x1))),(3,.l 3 0),(7,.v (.sc (I4 (r)))),(8,.v (.sc (I4 x3))),(18,.l 3 1)],lo:=[(3,[.d 3 (.int .i64) (x5),.d 23 (.list 22 (.list 3 (.int .i64))) (x6)])],h:=[],n0:=0,w:=false })
theorem bLaf (k:Nat) (cN:CS→Option (Ex×CS)) (cX:Ex→CS→Option (Ex×CS)) (x0:(List (List Int))) (x1 x2 x3 x4:Int) (x5:(List Int)) (x6:(List (List (List Int)))):zq Try.prog (tn105 35) (TM.evF Try.prog (tn105) dOk (k+40)) dOk (k+40) (zc Try.prog (tn0 35) 35 16) 2 16 { sl:=[(1,.v (.sc (.d 22 (.list 3 (.int .i64)) x0))),(2,.v (.sc (I4 x1))),(3,.l 3 0),(7,.v (.sc (I4 x2))),(8,.v (.sc (I4 x3))),(9,.v (.sc (I4 x4)))],lo:=[(3,[.d 3 (.int .i64) (x5),.d 23 (.list 22 (.list 3 (.int .i64))) (x6)])],h:=[],n0:=0,w:=false } cN cX=(cond (decide (0≤x3)) (cond (decide (x3 < (x6.length:Int))) (cond (decide (x4 < (↑(List.length (List.getD x6 x3.toNat [])):Int))) (cond (decide (0≤x3)) (cond (decide (x3 < (x6.length:Int))) (cond (decide (0≤x4)) (cond (decide (x4 < (↑(List.length (List.getD x6 x3.toNat [])):Int))) (cond (ok (v55 (List.getD (List.getD x6 x3.toNat []) x4.toNat []) x1)) (cond (val (v55 (List.getD (List.getD x6 x3.toNat []) x4.toNat []) x1)) (cond (decide (0≤x3)) (cond (decide (x3 < (x0.length:Int))) (cond (decide (0≤x4)) (cond (decide (x4 < (↑(List.length (List.getD x0 x3.toNat [])):Int))) (cN { sl:=[(1,.v (.sc (.d 22 (.list 3 (.int .i64)) x0))),(2,.v (.sc (I4 x1))),(3,.l 3 0),(7,.v (.sc (I4 (IntKind.wrap IntKind.i64 (x2+List.getD (List.getD x0 x3.toNat []) x4.toNat 0))))),(8,.v (.sc (I4 x3))),(9,.v (.sc (I4 (IntKind.wrap IntKind.i64 (x4+(1:Int))))))],lo:=[(3,[.d 3 (.int .i64) (x5),.d 23 (.list 22 (.list 3 (.int .i64))) (x6)])],h:=[],n0:=0,w:=false }) none) none) none) none) (cN { sl:=[(1,.v (.sc (.d 22 (.list 3 (.int .i64)) x0))),(2,.v (.sc (I4 x1))),(3,.l 3 0),(7,.v (.sc (I4 x2))),(8,.v (.sc (I4 x3))),(9,.v (.sc (I4 (IntKind.wrap IntKind.i64 (x4+(1:Int))))))],lo:=[(3,[.d 3 (.int .i64) (x5),.d 23 (.list 22 (.list 3 (.int .i64))) (x6)])],h:=[],n0:=0,w:=false })) none) none) none) none) none) (cX (.exit 2) { sl:=[(1,.v (.sc (.d 22 (.list 3 (.int .i64)) x0))),(2,.v (.sc (I4 x1))),(3,.l 3 0),(7,.v (.sc (I4 x2))),(8,.v (.sc (I4 x3))),(18,.l 3 1)],lo:=[(3,[.d 3 (.int .i64) (x5),.d 23 (.list 22 (.list 3 (.int .i64))) (x6)])],h:=[],n0:=0,w:=false })) none) none):=by kernel_rfl
theorem lLaf (k m:Nat):∀ (n:Nat) (x0:(List (List Int))) (x1 x2 x3 x4:Int) (x5:(List Int)) (x6:(List (List (List Int)))) (r:Int),Laf n x0 x1 x2 x3 x4 x5 x6=some r→zM Try.prog (tn105 35) (TM.evF Try.prog (tn105) dOk (k+40)) dOk (k+40) (zc Try.prog (tn0 35) 35 16) 2 16 (n+m) { sl:=[(1,.v (.sc (.d 22 (.list 3 (.int .i64)) x0))),(2,.v (.sc (I4 x1))),(3,.l 3 0),(7,.v (.sc (I4 x2))),(8,.v (.sc (I4 x3))),(9,.v (.sc (I4 x4)))],lo:=[(3,[.d 3 (.int .i64) (x5),.d 23 (.list 22 (.list 3 (.int .i64))) (x6)])],h:=[],n0:=0,w:=false }=some (xLaf x0 x1 x2 x3 x4 x5 x6 r):=by
 intro n
 induction n with
 | zero=>intro _ _ _ _ _ _ _ r h;cases h
 | succ n ih=>
  intro x0 x1 x2 x3 x4 x5 x6 r
  rw [show n+1+m=n+m+1 by omega,zp,bLaf,qLaf]
  cases (decide (0≤x3)) with
  | true=>
   cases (decide (x3 < (x6.length:Int))) with
   | true=>
    cases (decide (x4 < (↑(List.length (List.getD x6 x3.toNat [])):Int))) with
    | true=>
     cases (decide (0≤x4)) with
     | true=>
      cases (ok (v55 (List.getD (List.getD x6 x3.toNat []) x4.toNat []) x1)) with
      | true=>
       cases (val (v55 (List.getD (List.getD x6 x3.toNat []) x4.toNat []) x1)) with
       | true=>
        cases (decide (x3 < (x0.length:Int))) with
        | true=>
         cases (decide (x4 < (↑(List.length (List.getD x0 x3.toNat [])):Int))) with
         | true=>
          exact ih _ _ _ _ _ _ _ r
         | false=>
          intro h;cases h
        | false=>
         intro h;cases h
       | false=>
        exact ih _ _ _ _ _ _ _ r
      | false=>
       intro h;cases h
     | false=>
      intro h;cases h
    | false=>
     intro h;cases h;rfl
   | false=>
    intro h;cases h
  | false=>
   intro h;cases h
noncomputable def sLaf:TellS:=fun S=>dCS 0 S fun y1 y2 y3=>dSs 1 y1 fun y5 l4=>dD 22 (.list 3 (.int .i64)) y5 fun x0=>dSI 2 .i64 l4 fun x1 l6=>dSt 3 l6 fun y8 l7=>dL 3 0 y8<|dSI 7 .i64 l7 fun x2 l9=>dSI 8 .i64 l9 fun x3 l10=>dSI 9 .i64 l10 fun x4 l11=>dE l11<|dLo 3 y2 fun y12 l13=>dC y12 fun y14 l15=>dD 3 (.int .i64) y14 fun x5=>dC l15 fun y16 l17=>dD 23 (.list 22 (.list 3 (.int .i64))) y16 fun x6=>dE l17<|dE l13<|dE y3 <|  some [(ok (Laf FU x0 x1 x2 x3 x4 x5 x6),(.exit 2),{ sl:=[(1,.v (.sc (.d 22 (.list 3 (.int .i64)) x0))),(2,.v (.sc (I4 x1))),(3,.l 3 0),(7,.v (.sc (I4 ((val (Laf FU x0 x1 x2 x3 x4 x5 x6)))))),(8,.v (.sc (I4 x3))),(18,.l 3 1)],lo:=[(3,[.d 3 (.int .i64) (x5),.d 23 (.list 22 (.list 3 (.int .i64))) (x6)])],h:=[],n0:=0,w:=false })]
theorem wLaf:zB Try.prog dOk base o105 t105 ((35,16),sLaf):=by
 refine ⟨.loop (zc Try.prog (tn0 35) 35 16),2,by kernel_rfl,?_⟩
 intro S alts e S' h10 h2
 have h1:sLaf S=some alts:=h10
 clear h10
 unfold sLaf at h1
 repeat with_reducible first|replace h1:=yc h1;obtain ⟨_,_,_,rfl,h1⟩:=h1|(first|replace h1:=zX h1|replace h1:=ye h1|replace h1:=wB h1|replace h1:=wL h1|replace h1:=dCq h1);obtain ⟨_,_,rfl,h1⟩:=h1|replace h1:=dDq h1;obtain ⟨_,rfl,h1⟩:=h1|(first|replace h1:=dLq h1|replace h1:=dEq h1);obtain ⟨rfl,h1⟩:=h1
 cases h1
 obtain ⟨hc0,rfl,rfl⟩:=zt h2
 exact ⟨FU+40,(ze rfl).trans (lLaf FU 40 FU _ _ _ _ _ _ _ _ (zf hc0))⟩
noncomputable def o106:OrcT:=o105
noncomputable def t106:TellT:=((35,16),sLaf)::t105
noncomputable abbrev tn106:FuncId→TAn:=zh base o106 t106
theorem ok106:TnOk Try.prog tn106 (mkA base) dOk:=by
 have h0:TnOk Try.prog (tn105) (mkA base) dOk:=ok105
 have h1:=zD h0 h0 (p:=((35,16),sLaf)) wLaf
 exact h1
noncomputable def Lai:Nat→(List (List Int))→Int→Int→Int→(List Int)→(List (List (List Int)))→Option Int
 | 0,_,_,_,_,_,_=>none
 | n+1,x0,x1,x2,x3,x4,x5=>(cond (decide (x3 < (x5.length:Int))) (cond (ok (Laf FU x0 x1 x2 x3 0 x4 x5)) (Lai n x0 x1 (val (Laf FU x0 x1 x2 x3 0 x4 x5)) (IntKind.wrap IntKind.i64 (x3+(1:Int))) x4 x5) none) (some x2))
theorem qLai:type_of% @Lai.eq_2:=@Lai.eq_2
noncomputable def xLai (x0:(List (List Int))) (x1 x2 x3:Int) (x4:(List Int)) (x5:(List (List (List Int)))):Int→Ex×CS:=fun r=>((.exit 0),{ sl:=[(3,.l 3 0),(7,.v (.sc (I4 (r)))),(11,.l 3 1)],lo:=[],h:=[],n0:=0,w:=false })
theorem bLai (k:Nat) (cN:CS→Option (Ex×CS)) (cX:Ex→CS→Option (Ex×CS)) (x0:(List (List Int))) (x1 x2 x3:Int) (x4:(List Int)) (x5:(List (List (List Int)))):zq Try.prog (tn106 35) (TM.evF Try.prog (tn106) dOk (k+40)) dOk (k+40) (zc Try.prog (tn0 35) 35 0) 0 0 { sl:=[(1,.v (.sc (.d 22 (.list 3 (.int .i64)) x0))),(2,.v (.sc (I4 x1))),(3,.l 3 0),(7,.v (.sc (I4 x2))),(8,.v (.sc (I4 x3)))],lo:=[(3,[.d 3 (.int .i64) (x4),.d 23 (.list 22 (.list 3 (.int .i64))) (x5)])],h:=[],n0:=0,w:=false } cN cX=(cond (decide (x3 < (x5.length:Int))) (cond (ok (Laf FU x0 x1 x2 x3 0 x4 x5)) (cN { sl:=[(1,.v (.sc (.d 22 (.list 3 (.int .i64)) x0))),(2,.v (.sc (I4 x1))),(3,.l 3 0),(7,.v (.sc (I4 (val (Laf FU x0 x1 x2 x3 0 x4 x5))))),(8,.v (.sc (I4 (IntKind.wrap IntKind.i64 (x3+(1:Int))))))],lo:=[(3,[.d 3 (.int .i64) (x4),.d 23 (.list 22 (.list 3 (.int .i64))) (x5)])],h:=[],n0:=0,w:=false }) none) (cX (.exit 0) { sl:=[(3,.l 3 0),(7,.v (.sc (I4 x2))),(11,.l 3 1)],lo:=[],h:=[],n0:=0,w:=false })):=by kernel_rfl
theorem lLai (k m:Nat):∀ (n:Nat) (x0:(List (List Int))) (x1 x2 x3:Int) (x4:(List Int)) (x5:(List (List (List Int)))) (r:Int),Lai n x0 x1 x2 x3 x4 x5=some r→zM Try.prog (tn106 35) (TM.evF Try.prog (tn106) dOk (k+40)) dOk (k+40) (zc Try.prog (tn0 35) 35 0) 0 0 (n+m) { sl:=[(1,.v (.sc (.d 22 (.list 3 (.int .i64)) x0))),(2,.v (.sc (I4 x1))),(3,.l 3 0),(7,.v (.sc (I4 x2))),(8,.v (.sc (I4 x3)))],lo:=[(3,[.d 3 (.int .i64) (x4),.d 23 (.list 22 (.list 3 (.int .i64))) (x5)])],h:=[],n0:=0,w:=false }=some (xLai x0 x1 x2 x3 x4 x5 r):=by
 intro n
 induction n with
 | zero=>intro _ _ _ _ _ _ r h;cases h
 | succ n ih=>
  intro x0 x1 x2 x3 x4 x5 r
  rw [show n+1+m=n+m+1 by omega,zp,bLai,qLai]
  refine zb ?_ ?_
  refine zb ?_ ?_
  exact ih _ _ _ _ _ _ r
  intro h;cases h
  intro h;cases h;rfl
noncomputable def sLai:TellS:=fun S=>dCS 0 S fun y1 y2 y3=>dSs 1 y1 fun y5 l4=>dD 22 (.list 3 (.int .i64)) y5 fun x0=>dSI 2 .i64 l4 fun x1 l6=>dSt 3 l6 fun y8 l7=>dL 3 0 y8<|dSI 7 .i64 l7 fun x2 l9=>dSI 8 .i64 l9 fun x3 l10=>dE l10<|dLo 3 y2 fun y11 l12=>dC y11 fun y13 l14=>dD 3 (.int .i64) y13 fun x4=>dC l14 fun y15 l16=>dD 23 (.list 22 (.list 3 (.int .i64))) y15 fun x5=>dE l16<|dE l12<|dE y3 <|  some [(ok (Lai FU x0 x1 x2 x3 x4 x5),(.exit 0),{ sl:=[(3,.l 3 0),(7,.v (.sc (I4 ((val (Lai FU x0 x1 x2 x3 x4 x5)))))),(11,.l 3 1)],lo:=[],h:=[],n0:=0,w:=false })]
theorem wLai:zB Try.prog dOk base o106 t106 ((35,0),sLai):=by
 refine ⟨.loop (zc Try.prog (tn0 35) 35 0),0,by kernel_rfl,?_⟩
 intro S alts e S' h10 h2
 have h1:sLai S=some alts:=h10
 clear h10
 unfold sLai at h1
 repeat with_reducible first|replace h1:=yc h1;obtain ⟨_,_,_,rfl,h1⟩:=h1|(first|replace h1:=zX h1|replace h1:=ye h1|replace h1:=wB h1|replace h1:=wL h1|replace h1:=dCq h1);obtain ⟨_,_,rfl,h1⟩:=h1|replace h1:=dDq h1;obtain ⟨_,rfl,h1⟩:=h1|(first|replace h1:=dLq h1|replace h1:=dEq h1);obtain ⟨rfl,h1⟩:=h1
 cases h1
 obtain ⟨hc0,rfl,rfl⟩:=zt h2
 exact ⟨FU+40,(ze rfl).trans (lLai FU 40 FU _ _ _ _ _ _ _ (zf hc0))⟩
noncomputable def o107:OrcT:=o106
noncomputable def t107:TellT:=((35,0),sLai)::t106
noncomputable abbrev tn107:FuncId→TAn:=zh base o107 t107
theorem ok107:TnOk Try.prog tn107 (mkA base) dOk:=by
 have h0:TnOk Try.prog (tn106) (mkA base) dOk:=ok106
 have h1:=zD h0 h0 (p:=((35,0),sLai)) wLai
 exact h1
noncomputable def v35 (x0:(List Int)) (x1:(List (List (List Int)))) (x2:(List (List Int))) (x3:Int):Option Int:=(cond (ok (Lai FU x2 x3 0 0 x0 x1)) (some (val (Lai FU x2 x3 0 0 x0 x1))) none)
theorem ev35 (x0:(List Int)) (x1:(List (List (List Int)))) (x2:(List (List Int))) (x3:Int):zo Try.prog (tn107 35) (TM.evF Try.prog (tn107) dOk 40) dOk 40 35 [.agg [.d 3 (.int .i64) (x0),.d 23 (.list 22 (.list 3 (.int .i64))) (x1)],.sc (.d 22 (.list 3 (.int .i64)) x2),.sc (I4 x3)] []=(v35 x0 x1 x2 x3).bind fun r=>some ([.sc (I4 (r))],[]):=by
 refine Eq.trans (b:=(cond (ok (Lai FU x2 x3 0 0 x0 x1)) (some ([.sc (I4 (val (Lai FU x2 x3 0 0 x0 x1)))],[])) none)) (by kernel_rfl) ?_
 unfold v35
 refine za ?_ ?_
 rfl
 rfl
noncomputable def sv35:OrcS:=fun al H=>dC al fun y1 l2=>dA y1 fun y3=>dC y3 fun y4 l5=>dD 3 (.int .i64) y4 fun x0=>dC l5 fun y6 l7=>dD 23 (.list 22 (.list 3 (.int .i64))) y6 fun x1=>dE l7<|dC l2 fun y8 l9=>dS y8 fun y10=>dD 22 (.list 3 (.int .i64)) y10 fun x2=>dC l9 fun y11 l12=>dS y11 fun y13=>xd .i64 y13 fun x3=>dE l12<|dE H <|  some [(ok (v35 x0 x1 x2 x3),[.sc (I4 ((val (v35 x0 x1 x2 x3))))],[])]
theorem wv35:zm Try.prog dOk base o107 t107 (35,sv35):=by
 intro al H q hq0 rs H2 h2
 have hq:sv35 al H=some q:=hq0
 clear hq0
 unfold sv35 at hq
 repeat with_reducible first|replace hq:=dCq hq;obtain ⟨_,_,rfl,hq⟩:=hq|(first|replace hq:=dAq hq|replace hq:=dDq hq|replace hq:=dSq hq|replace hq:=xu hq);obtain ⟨_,rfl,hq⟩:=hq|replace hq:=dEq hq;obtain ⟨rfl,hq⟩:=hq
 cases hq
 obtain ⟨hc0,rfl,rfl⟩:=zg h2
 exact ⟨41,(zu (by kernel_rfl)).trans ((ev35 _ _ _ _).trans (zl (zf hc0)))⟩
noncomputable def o108:OrcT:=(35,sv35)::o107
noncomputable def t108:TellT:=t107
noncomputable abbrev tn108:FuncId→TAn:=zh base o108 t108
theorem ok108:TnOk Try.prog tn108 (mkA base) dOk:=by
 have h0:TnOk Try.prog (tn107) (mkA base) dOk:=ok107
 have h1:=zn h0 h0 (p:=(35,sv35)) wv35
 exact h1
noncomputable def Lae:Nat→(List (List Int))→Int→(List Int)→(List (List (List Int)))→Option (Bool ⊕ Unit)
 | 0,_,_,_,_=>none
 | n+1,x0,x1,x2,x3=>(cond (decide (x1 < (x2.length:Int))) (cond (ok (v35 x2 x3 x0 x1)) (cond (decide (0≤x1)) (cond (decide (val (v35 x2 x3 x0 x1) > IntKind.wrap IntKind.i64 ((1000000:Int)*List.getD x2 x1.toNat 0))) (some (.inl (false))) (Lae n x0 (IntKind.wrap IntKind.i64 (x1+(1:Int))) x2 x3)) none) none) (some (.inr ())))
theorem qLae:type_of% @Lae.eq_2:=@Lae.eq_2
noncomputable def xLae (x0:(List (List Int))) (x1:Int) (x2:(List Int)) (x3:(List (List (List Int)))):(Bool ⊕ Unit)→Ex×CS:=fun r=>match r with | .inl a0=>(.ret,{ sl:=[(4,.v (.sc (.bool (a0))))],lo:=[],h:=[],n0:=0,w:=true }) | .inr b0=>((.exit 0),{ sl:=[(2,.l 2 0),(7,.l 2 0)],lo:=[],h:=[],n0:=0,w:=false })
theorem bLae (k:Nat) (cN:CS→Option (Ex×CS)) (cX:Ex→CS→Option (Ex×CS)) (x0:(List (List Int))) (x1:Int) (x2:(List Int)) (x3:(List (List (List Int)))):zq Try.prog (tn108 18) (TM.evF Try.prog (tn108) dOk (k+40)) dOk (k+40) (zc Try.prog (tn0 18) 18 0) 0 0 { sl:=[(1,.v (.sc (.d 22 (.list 3 (.int .i64)) x0))),(2,.l 2 0),(5,.v (.sc (I4 x1)))],lo:=[(2,[.d 3 (.int .i64) (x2),.d 23 (.list 22 (.list 3 (.int .i64))) (x3)])],h:=[],n0:=0,w:=false } cN cX=(cond (decide (x1 < (x2.length:Int))) (cond (ok (v35 x2 x3 x0 x1)) (cond (decide (0≤x1)) (cond (decide (x1 < (x2.length:Int))) (cond (decide (val (v35 x2 x3 x0 x1) > IntKind.wrap IntKind.i64 ((1000000:Int)*List.getD x2 x1.toNat 0))) (cX .ret { sl:=[(4,.v (.sc (.bool (false))))],lo:=[],h:=[],n0:=0,w:=true }) (cN { sl:=[(1,.v (.sc (.d 22 (.list 3 (.int .i64)) x0))),(2,.l 2 0),(5,.v (.sc (I4 (IntKind.wrap IntKind.i64 (x1+(1:Int))))))],lo:=[(2,[.d 3 (.int .i64) (x2),.d 23 (.list 22 (.list 3 (.int .i64))) (x3)])],h:=[],n0:=0,w:=false })) none) none) none) (cX (.exit 0) { sl:=[(2,.l 2 0),(7,.l 2 0)],lo:=[],h:=[],n0:=0,w:=false })):=by kernel_rfl
theorem lLae (k m:Nat):∀ (n:Nat) (x0:(List (List Int))) (x1:Int) (x2:(List Int)) (x3:(List (List (List Int)))) (r:(Bool ⊕ Unit)),Lae n x0 x1 x2 x3=some r→zM Try.prog (tn108 18) (TM.evF Try.prog (tn108) dOk (k+40)) dOk (k+40) (zc Try.prog (tn0 18) 18 0) 0 0 (n+m) { sl:=[(1,.v (.sc (.d 22 (.list 3 (.int .i64)) x0))),(2,.l 2 0),(5,.v (.sc (I4 x1)))],lo:=[(2,[.d 3 (.int .i64) (x2),.d 23 (.list 22 (.list 3 (.int .i64))) (x3)])],h:=[],n0:=0,w:=false }=some (xLae x0 x1 x2 x3 r):=by
 intro n
 induction n with
 | zero=>intro _ _ _ _ r h;cases h
 | succ n ih=>
  intro x0 x1 x2 x3 r
  rw [show n+1+m=n+m+1 by omega,zp,bLae,qLae]
  cases (decide (x1 < (x2.length:Int))) with
  | true=>
   cases (ok (v35 x2 x3 x0 x1)) with
   | true=>
    cases (decide (0≤x1)) with
    | true=>
     cases (decide (val (v35 x2 x3 x0 x1) > IntKind.wrap IntKind.i64 ((1000000:Int)*List.getD x2 x1.toNat 0))) with
     | true=>
      intro h;cases h;rfl
     | false=>
      exact ih _ _ _ _ r
    | false=>
     intro h;cases h
   | false=>
    intro h;cases h
  | false=>
   intro h;cases h;rfl
noncomputable def sLae:TellS:=fun S=>dCS 0 S fun y1 y2 y3=>dSs 1 y1 fun y5 l4=>dD 22 (.list 3 (.int .i64)) y5 fun x0=>dSt 2 l4 fun y7 l6=>dL 2 0 y7<|dSI 5 .i64 l6 fun x1 l8=>dE l8<|dLo 2 y2 fun y9 l10=>dC y9 fun y11 l12=>dD 3 (.int .i64) y11 fun x2=>dC l12 fun y13 l14=>dD 23 (.list 22 (.list 3 (.int .i64))) y13 fun x3=>dE l14<|dE l10<|dE y3 <|  some [(isL (Lae FU x0 x1 x2 x3),.ret,{ sl:=[(4,.v (.sc (.bool ((zN (Lae FU x0 x1 x2 x3))))))],lo:=[],h:=[],n0:=0,w:=true }),(ok (zL (Lae FU x0 x1 x2 x3)),(.exit 0),{ sl:=[(2,.l 2 0),(7,.l 2 0)],lo:=[],h:=[],n0:=0,w:=false })]
theorem wLae:zB Try.prog dOk base o108 t108 ((18,0),sLae):=by
 refine ⟨.loop (zc Try.prog (tn0 18) 18 0),0,by kernel_rfl,?_⟩
 intro S alts e S' h10 h2
 have h1:sLae S=some alts:=h10
 clear h10
 unfold sLae at h1
 repeat with_reducible first|replace h1:=yc h1;obtain ⟨_,_,_,rfl,h1⟩:=h1|(first|replace h1:=zX h1|replace h1:=wB h1|replace h1:=ye h1|replace h1:=wL h1|replace h1:=dCq h1);obtain ⟨_,_,rfl,h1⟩:=h1|replace h1:=dDq h1;obtain ⟨_,rfl,h1⟩:=h1|(first|replace h1:=dLq h1|replace h1:=dEq h1);obtain ⟨rfl,h1⟩:=h1
 cases h1
 rcases yx h2 with ⟨hc0,rfl,rfl⟩ | h2
 · exact ⟨FU+40,(ze rfl).trans (lLae FU 40 FU _ _ _ _ _ (yS hc0))⟩
 obtain ⟨hc1,rfl,rfl⟩:=zt h2
 exact ⟨FU+40,(ze rfl).trans (lLae FU 40 FU _ _ _ _ _ (yw (zf hc1)))⟩
noncomputable def o109:OrcT:=o108
noncomputable def t109:TellT:=((18,0),sLae)::t108
noncomputable abbrev tn109:FuncId→TAn:=zh base o109 t109
theorem ok109:TnOk Try.prog tn109 (mkA base) dOk:=by
 have h0:TnOk Try.prog (tn108) (mkA base) dOk:=ok108
 have h1:=zD h0 h0 (p:=((18,0),sLae)) wLae
 exact h1
noncomputable def v18 (x0:(List Int)) (x1:(List (List (List Int)))) (x2:(List (List Int))):Option Bool:=(cond (isL (Lae FU x2 0 x0 x1)) (some (zN (Lae FU x2 0 x0 x1))) (cond (ok (zL (Lae FU x2 0 x0 x1))) (some (true)) none))
theorem ev18 (x0:(List Int)) (x1:(List (List (List Int)))) (x2:(List (List Int))):zo Try.prog (tn109 18) (TM.evF Try.prog (tn109) dOk 40) dOk 40 18 [.agg [.d 3 (.int .i64) (x0),.d 23 (.list 22 (.list 3 (.int .i64))) (x1)],.sc (.d 22 (.list 3 (.int .i64)) x2)] []=(v18 x0 x1 x2).bind fun r=>some ([.sc (.bool (r))],[]):=by
 refine Eq.trans (b:=(cond (isL (Lae FU x2 0 x0 x1)) (some ([.sc (.bool (zN (Lae FU x2 0 x0 x1)))],[])) (cond (ok (zL (Lae FU x2 0 x0 x1))) (some ([.sc (.bool (true))],[])) none))) (by kernel_rfl) ?_
 unfold v18
 refine za ?_ ?_
 rfl
 refine za ?_ ?_
 rfl
 rfl
noncomputable def sv18:OrcS:=fun al H=>dC al fun y1 l2=>dA y1 fun y3=>dC y3 fun y4 l5=>dD 3 (.int .i64) y4 fun x0=>dC l5 fun y6 l7=>dD 23 (.list 22 (.list 3 (.int .i64))) y6 fun x1=>dE l7<|dC l2 fun y8 l9=>dS y8 fun y10=>dD 22 (.list 3 (.int .i64)) y10 fun x2=>dE l9<|dE H <|  some [(ok (v18 x0 x1 x2),[.sc (.bool ((val (v18 x0 x1 x2))))],[])]
theorem wv18:zm Try.prog dOk base o109 t109 (18,sv18):=by
 intro al H q hq0 rs H2 h2
 have hq:sv18 al H=some q:=hq0
 clear hq0
 unfold sv18 at hq
 repeat with_reducible first|replace hq:=dCq hq;obtain ⟨_,_,rfl,hq⟩:=hq|(first|replace hq:=dAq hq|replace hq:=dDq hq|replace hq:=dSq hq);obtain ⟨_,rfl,hq⟩:=hq|replace hq:=dEq hq;obtain ⟨rfl,hq⟩:=hq
 cases hq
 obtain ⟨hc0,rfl,rfl⟩:=zg h2
 exact ⟨41,(zu (by kernel_rfl)).trans ((ev18 _ _ _).trans (zl (zf hc0)))⟩
noncomputable def o110:OrcT:=(18,sv18)::o109
noncomputable def t110:TellT:=t109
noncomputable abbrev tn110:FuncId→TAn:=zh base o110 t110
theorem ok110:TnOk Try.prog tn110 (mkA base) dOk:=by
 have h0:TnOk Try.prog (tn109) (mkA base) dOk:=ok109
 have h1:=zn h0 h0 (p:=(18,sv18)) wv18
 exact h1
noncomputable def LaO (x0:(List (List Int))) (x1:Bool) (x2 x3 x4 x5:Int) (x6:(List (List Int))) (x7:(List Int)) (x8:Int):Option (Bool ⊕ Int):=(cond (decide (0≤x3)) (cond (decide (x3 < (x6.length:Int))) (cond ((↑(List.length (List.getD x6 x3.toNat [])):Int) != (1:Int)) (some (.inl (false))) (cond (decide (x3 < (x0.length:Int))) (cond ((↑(List.length (List.getD x0 x3.toNat [])):Int) != (1:Int)) (some (.inl (false))) (cond (decide (0 < (↑(List.length (List.getD x6 x3.toNat [])):Int))) (cond (decide (List.getD (List.getD x6 x3.toNat []) (Int.toNat 0) 0 < (1:Int))) (some (.inl (false))) (cond (decide (0 < (↑(List.length (List.getD x0 x3.toNat [])):Int))) (cond (decide (List.getD (List.getD x6 x3.toNat []) (Int.toNat 0) 0≠0)) (some (.inr (IntKind.wrap IntKind.i64 (x2+IntKind.wrap IntKind.i64 (Int.tdiv (IntKind.wrap IntKind.i64 ((1000000:Int)*List.getD (List.getD x0 x3.toNat []) (Int.toNat 0) 0)) (List.getD (List.getD x6 x3.toNat []) (Int.toNat 0) 0)))))) none) none)) none)) none)) none) none)
noncomputable def xLaO (x0:(List (List Int))) (x1:Bool) (x2 x3 x4 x5:Int) (x6:(List (List Int))) (x7:(List Int)) (x8:Int):(Bool ⊕ Int)→Ex×CS:=fun r=>match r with | .inl a0=>(.ret,{ sl:=[(6,.v (.sc (.bool (a0))))],lo:=[],h:=[],n0:=0,w:=true }) | .inr b0=>(.normal,{ sl:=[(2,.v (.sc (.d 22 (.list 3 (.int .i64)) x0))),(7,.v (.sc (.bool x1))),(8,.l 8 0),(10,.v (.sc (I4 (b0)))),(49,.v (.sc (I4 x4))),(50,.v (.sc (I4 x5)))],lo:=[(8,[.d 22 (.list 3 (.int .i64)) (x6),.d 3 (.int .i64) (x7),I4 (x8)])],h:=[],n0:=0,w:=false })
theorem bLaO (k:Nat) (cX:Ex→CS→Option (Ex×CS)) (x0:(List (List Int))) (x1:Bool) (x2 x3 x4 x5:Int) (x6:(List (List Int))) (x7:(List Int)) (x8:Int):WE Try.prog (tn110 4) (TM.evF Try.prog (tn110) dOk (k+40)) dOk (k+40) (zc Try.prog (tn0 4) 4 108) 1 108 { sl:=[(2,.v (.sc (.d 22 (.list 3 (.int .i64)) x0))),(7,.v (.sc (.bool x1))),(8,.l 8 0),(10,.v (.sc (I4 x2))),(11,.v (.sc (I4 x3))),(49,.v (.sc (I4 x4))),(50,.v (.sc (I4 x5)))],lo:=[(8,[.d 22 (.list 3 (.int .i64)) (x6),.d 3 (.int .i64) (x7),I4 (x8)])],h:=[],n0:=0,w:=false } cX=(cond (decide (0≤x3)) (cond (decide (x3 < (x6.length:Int))) (cond ((↑(List.length (List.getD x6 x3.toNat [])):Int) != (1:Int)) (cX .ret { sl:=[(6,.v (.sc (.bool (false))))],lo:=[],h:=[],n0:=0,w:=true }) (cond (decide (0≤x3)) (cond (decide (x3 < (x0.length:Int))) (cond ((↑(List.length (List.getD x0 x3.toNat [])):Int) != (1:Int)) (cX .ret { sl:=[(6,.v (.sc (.bool (false))))],lo:=[],h:=[],n0:=0,w:=true }) (cond (decide (0≤x3)) (cond (decide (x3 < (x6.length:Int))) (cond (decide (0 < (↑(List.length (List.getD x6 x3.toNat [])):Int))) (cond (decide (List.getD (List.getD x6 x3.toNat []) (Int.toNat 0) 0 < (1:Int))) (cX .ret { sl:=[(6,.v (.sc (.bool (false))))],lo:=[],h:=[],n0:=0,w:=true }) (cond (decide (0≤x3)) (cond (decide (x3 < (x0.length:Int))) (cond (decide (0 < (↑(List.length (List.getD x0 x3.toNat [])):Int))) (cond (decide (0≤x3)) (cond (decide (x3 < (x6.length:Int))) (cond (decide (0 < (↑(List.length (List.getD x6 x3.toNat [])):Int))) (cond (decide (List.getD (List.getD x6 x3.toNat []) (Int.toNat 0) 0≠0)) (cX .normal { sl:=[(2,.v (.sc (.d 22 (.list 3 (.int .i64)) x0))),(7,.v (.sc (.bool x1))),(8,.l 8 0),(10,.v (.sc (I4 (IntKind.wrap IntKind.i64 (x2+IntKind.wrap IntKind.i64 (Int.tdiv (IntKind.wrap IntKind.i64 ((1000000:Int)*List.getD (List.getD x0 x3.toNat []) (Int.toNat 0) 0)) (List.getD (List.getD x6 x3.toNat []) (Int.toNat 0) 0))))))),(49,.v (.sc (I4 x4))),(50,.v (.sc (I4 x5)))],lo:=[(8,[.d 22 (.list 3 (.int .i64)) (x6),.d 3 (.int .i64) (x7),I4 (x8)])],h:=[],n0:=0,w:=false }) none) none) none) none) none) none) none)) none) none) none)) none) none)) none) none):=by kernel_rfl
theorem lLaO (k:Nat) (x0:(List (List Int))) (x1:Bool) (x2 x3 x4 x5:Int) (x6:(List (List Int))) (x7:(List Int)) (x8:Int) (r:(Bool ⊕ Int)):LaO x0 x1 x2 x3 x4 x5 x6 x7 x8=some r→WE Try.prog (tn110 4) (TM.evF Try.prog (tn110) dOk (k+40)) dOk (k+40) (zc Try.prog (tn0 4) 4 108) 1 108 { sl:=[(2,.v (.sc (.d 22 (.list 3 (.int .i64)) x0))),(7,.v (.sc (.bool x1))),(8,.l 8 0),(10,.v (.sc (I4 x2))),(11,.v (.sc (I4 x3))),(49,.v (.sc (I4 x4))),(50,.v (.sc (I4 x5)))],lo:=[(8,[.d 22 (.list 3 (.int .i64)) (x6),.d 3 (.int .i64) (x7),I4 (x8)])],h:=[],n0:=0,w:=false } (fun e s=>some (e,s))=some (xLaO x0 x1 x2 x3 x4 x5 x6 x7 x8 r):=by
 rw [bLaO]
 unfold LaO
 cases (decide (0≤x3)) with
 | true=>
  cases (decide (x3 < (x6.length:Int))) with
  | true=>
   cases ((↑(List.length (List.getD x6 x3.toNat [])):Int) != (1:Int)) with
   | true=>
    intro h;cases h;rfl
   | false=>
    cases (decide (x3 < (x0.length:Int))) with
    | true=>
     cases ((↑(List.length (List.getD x0 x3.toNat [])):Int) != (1:Int)) with
     | true=>
      intro h;cases h;rfl
     | false=>
      cases (decide (0 < (↑(List.length (List.getD x6 x3.toNat [])):Int))) with
      | true=>
       cases (decide (List.getD (List.getD x6 x3.toNat []) (Int.toNat 0) 0 < (1:Int))) with
       | true=>
        intro h;cases h;rfl
       | false=>
        cases (decide (0 < (↑(List.length (List.getD x0 x3.toNat [])):Int))) with
        | true=>
         cases (decide (List.getD (List.getD x6 x3.toNat []) (Int.toNat 0) 0≠0)) with
         | true=>
          intro h;cases h;rfl
         | false=>
          intro h;cases h
        | false=>
         intro h;cases h
      | false=>
       intro h;cases h
    | false=>
     intro h;cases h
  | false=>
   intro h;cases h
 | false=>
  intro h;cases h
noncomputable def sLaO:TellS:=fun S=>dCS 0 S fun y1 y2 y3=>dSs 2 y1 fun y5 l4=>dD 22 (.list 3 (.int .i64)) y5 fun x0=>dSs 7 l4 fun y7 l6=>Zm y7 fun x1=>dSt 8 l6 fun y9 l8=>dL 8 0 y9<|dSI 10 .i64 l8 fun x2 l10=>dSI 11 .i64 l10 fun x3 l11=>dSI 49 .i64 l11 fun x4 l12=>dSI 50 .i64 l12 fun x5 l13=>dE l13<|dLo 8 y2 fun y14 l15=>dC y14 fun y16 l17=>dD 22 (.list 3 (.int .i64)) y16 fun x6=>dC l17 fun y18 l19=>dD 3 (.int .i64) y18 fun x7=>dK l19 fun x8 l20=>dE l20<|dE l15<|dE y3 <|  some [(isL (LaO x0 x1 x2 x3 x4 x5 x6 x7 x8),.ret,{ sl:=[(6,.v (.sc (.bool ((zN (LaO x0 x1 x2 x3 x4 x5 x6 x7 x8))))))],lo:=[],h:=[],n0:=0,w:=true }),(ok (zL (LaO x0 x1 x2 x3 x4 x5 x6 x7 x8)),.normal,{ sl:=[(2,.v (.sc (.d 22 (.list 3 (.int .i64)) x0))),(7,.v (.sc (.bool x1))),(8,.l 8 0),(10,.v (.sc (I4 ((val (zL (LaO x0 x1 x2 x3 x4 x5 x6 x7 x8))))))),(49,.v (.sc (I4 x4))),(50,.v (.sc (I4 x5)))],lo:=[(8,[.d 22 (.list 3 (.int .i64)) (x6),.d 3 (.int .i64) (x7),I4 (x8)])],h:=[],n0:=0,w:=false })]
theorem wLaO:zB Try.prog dOk base o110 t110 ((4,108),sLaO):=by
 refine ⟨(zc Try.prog (tn0 4) 4 108),1,by kernel_rfl,?_⟩
 intro S alts e S' h10 h2
 have h1:sLaO S=some alts:=h10
 clear h10
 unfold sLaO at h1
 repeat with_reducible first|replace h1:=yc h1;obtain ⟨_,_,_,rfl,h1⟩:=h1|(first|replace h1:=zX h1|replace h1:=wB h1|replace h1:=ye h1|replace h1:=wL h1|replace h1:=dCq h1|replace h1:=zJ h1);obtain ⟨_,_,rfl,h1⟩:=h1|(first|replace h1:=dDq h1|replace h1:=wV h1);obtain ⟨_,rfl,h1⟩:=h1|(first|replace h1:=dLq h1|replace h1:=dEq h1);obtain ⟨rfl,h1⟩:=h1
 cases h1
 rcases yx h2 with ⟨hc0,rfl,rfl⟩ | h2
 · exact ⟨0+40,(evPiece_code rfl).trans (lLaO 0 _ _ _ _ _ _ _ _ _ _ (yS hc0))⟩
 obtain ⟨hc1,rfl,rfl⟩:=zt h2
 exact ⟨0+40,(evPiece_code rfl).trans (lLaO 0 _ _ _ _ _ _ _ _ _ _ (yw (zf hc1)))⟩
noncomputable def o111:OrcT:=o110
noncomputable def t111:TellT:=((4,108),sLaO)::t110
noncomputable abbrev tn111:FuncId→TAn:=zh base o111 t111
theorem ok111:TnOk Try.prog tn111 (mkA base) dOk:=by
 have h0:TnOk Try.prog (tn110) (mkA base) dOk:=ok110
 have h1:=zD h0 h0 (p:=((4,108),sLaO)) wLaO
 exact h1
noncomputable def Lah:Nat→(List (List Int))→Bool→Int→Int→Int→(List (List Int))→(List Int)→Int→Option (Bool ⊕ Int)
 | 0,_,_,_,_,_,_,_,_=>none
 | n+1,x0,x1,x2,x3,x4,x5,x6,x7=>(cond (decide (x4 < x3)) (cond (isL (LaO x0 x1 x2 x4 x3 x4 x5 x6 x7)) (some (.inl (zN (LaO x0 x1 x2 x4 x3 x4 x5 x6 x7)))) (cond (ok (zL (LaO x0 x1 x2 x4 x3 x4 x5 x6 x7))) (Lah n x0 x1 (val (zL (LaO x0 x1 x2 x4 x3 x4 x5 x6 x7))) x3 (IntKind.wrap IntKind.i64 (x4+(1:Int))) x5 x6 x7) none)) (some (.inr x2)))
theorem qLah:type_of% @Lah.eq_2:=@Lah.eq_2
noncomputable def xLah (x0:(List (List Int))) (x1:Bool) (x2 x3 x4:Int) (x5:(List (List Int))) (x6:(List Int)) (x7:Int):(Bool ⊕ Int)→Ex×CS:=fun r=>match r with | .inl a0=>(.ret,{ sl:=[(6,.v (.sc (.bool (a0))))],lo:=[],h:=[],n0:=0,w:=true }) | .inr b0=>((.exit 0),{ sl:=[(2,.v (.sc (.d 22 (.list 3 (.int .i64)) x0))),(7,.v (.sc (.bool x1))),(8,.l 8 0),(10,.v (.sc (I4 (b0))))],lo:=[(8,[.d 22 (.list 3 (.int .i64)) (x5),.d 3 (.int .i64) (x6),I4 (x7)])],h:=[],n0:=0,w:=false })
theorem bLah (k:Nat) (cN:CS→Option (Ex×CS)) (cX:Ex→CS→Option (Ex×CS)) (x0:(List (List Int))) (x1:Bool) (x2 x3 x4:Int) (x5:(List (List Int))) (x6:(List Int)) (x7:Int):zq Try.prog (tn111 4) (TM.evF Try.prog (tn111) dOk (k+40)) dOk (k+40) (zc Try.prog (tn0 4) 4 0) 0 0 { sl:=[(2,.v (.sc (.d 22 (.list 3 (.int .i64)) x0))),(7,.v (.sc (.bool x1))),(8,.l 8 0),(10,.v (.sc (I4 x2))),(49,.v (.sc (I4 x3))),(50,.v (.sc (I4 x4)))],lo:=[(8,[.d 22 (.list 3 (.int .i64)) (x5),.d 3 (.int .i64) (x6),I4 (x7)])],h:=[],n0:=0,w:=false } cN cX=(cond (decide (x4 < x3)) (cond (isL (LaO x0 x1 x2 x4 x3 x4 x5 x6 x7)) (cX .ret { sl:=[(6,.v (.sc (.bool (zN (LaO x0 x1 x2 x4 x3 x4 x5 x6 x7)))))],lo:=[],h:=[],n0:=0,w:=true }) (cond (ok (zL (LaO x0 x1 x2 x4 x3 x4 x5 x6 x7))) (cN { sl:=[(2,.v (.sc (.d 22 (.list 3 (.int .i64)) x0))),(7,.v (.sc (.bool x1))),(8,.l 8 0),(10,.v (.sc (I4 (val (zL (LaO x0 x1 x2 x4 x3 x4 x5 x6 x7)))))),(49,.v (.sc (I4 x3))),(50,.v (.sc (I4 (IntKind.wrap IntKind.i64 (x4+(1:Int))))))],lo:=[(8,[.d 22 (.list 3 (.int .i64)) (x5),.d 3 (.int .i64) (x6),I4 (x7)])],h:=[],n0:=0,w:=false }) none)) (cX (.exit 0) { sl:=[(2,.v (.sc (.d 22 (.list 3 (.int .i64)) x0))),(7,.v (.sc (.bool x1))),(8,.l 8 0),(10,.v (.sc (I4 x2)))],lo:=[(8,[.d 22 (.list 3 (.int .i64)) (x5),.d 3 (.int .i64) (x6),I4 (x7)])],h:=[],n0:=0,w:=false })):=by kernel_rfl
theorem lLah (k m:Nat):∀ (n:Nat) (x0:(List (List Int))) (x1:Bool) (x2 x3 x4:Int) (x5:(List (List Int))) (x6:(List Int)) (x7:Int) (r:(Bool ⊕ Int)),Lah n x0 x1 x2 x3 x4 x5 x6 x7=some r→zM Try.prog (tn111 4) (TM.evF Try.prog (tn111) dOk (k+40)) dOk (k+40) (zc Try.prog (tn0 4) 4 0) 0 0 (n+m) { sl:=[(2,.v (.sc (.d 22 (.list 3 (.int .i64)) x0))),(7,.v (.sc (.bool x1))),(8,.l 8 0),(10,.v (.sc (I4 x2))),(49,.v (.sc (I4 x3))),(50,.v (.sc (I4 x4)))],lo:=[(8,[.d 22 (.list 3 (.int .i64)) (x5),.d 3 (.int .i64) (x6),I4 (x7)])],h:=[],n0:=0,w:=false }=some (xLah x0 x1 x2 x3 x4 x5 x6 x7 r):=by
 intro n
 induction n with
 | zero=>intro _ _ _ _ _ _ _ _ r h;cases h
 | succ n ih=>
  intro x0 x1 x2 x3 x4 x5 x6 x7 r
  rw [show n+1+m=n+m+1 by omega,zp,bLah,qLah]
  refine zb ?_ ?_
  refine zb ?_ ?_
  intro h;cases h;rfl
  refine zb ?_ ?_
  exact ih _ _ _ _ _ _ _ _ r
  intro h;cases h
  intro h;cases h;rfl
noncomputable def sLah:TellS:=fun S=>dCS 0 S fun y1 y2 y3=>dSs 2 y1 fun y5 l4=>dD 22 (.list 3 (.int .i64)) y5 fun x0=>dSs 7 l4 fun y7 l6=>Zm y7 fun x1=>dSt 8 l6 fun y9 l8=>dL 8 0 y9<|dSI 10 .i64 l8 fun x2 l10=>dSI 49 .i64 l10 fun x3 l11=>dSI 50 .i64 l11 fun x4 l12=>dE l12<|dLo 8 y2 fun y13 l14=>dC y13 fun y15 l16=>dD 22 (.list 3 (.int .i64)) y15 fun x5=>dC l16 fun y17 l18=>dD 3 (.int .i64) y17 fun x6=>dK l18 fun x7 l19=>dE l19<|dE l14<|dE y3 <|  some [(isL (Lah FU x0 x1 x2 x3 x4 x5 x6 x7),.ret,{ sl:=[(6,.v (.sc (.bool ((zN (Lah FU x0 x1 x2 x3 x4 x5 x6 x7))))))],lo:=[],h:=[],n0:=0,w:=true }),(ok (zL (Lah FU x0 x1 x2 x3 x4 x5 x6 x7)),(.exit 0),{ sl:=[(2,.v (.sc (.d 22 (.list 3 (.int .i64)) x0))),(7,.v (.sc (.bool x1))),(8,.l 8 0),(10,.v (.sc (I4 ((val (zL (Lah FU x0 x1 x2 x3 x4 x5 x6 x7)))))))],lo:=[(8,[.d 22 (.list 3 (.int .i64)) (x5),.d 3 (.int .i64) (x6),I4 (x7)])],h:=[],n0:=0,w:=false })]
theorem wLah:zB Try.prog dOk base o111 t111 ((4,0),sLah):=by
 refine ⟨.loop (zc Try.prog (tn0 4) 4 0),0,by kernel_rfl,?_⟩
 intro S alts e S' h10 h2
 have h1:sLah S=some alts:=h10
 clear h10
 unfold sLah at h1
 repeat with_reducible first|replace h1:=yc h1;obtain ⟨_,_,_,rfl,h1⟩:=h1|(first|replace h1:=zX h1|replace h1:=wB h1|replace h1:=ye h1|replace h1:=wL h1|replace h1:=dCq h1|replace h1:=zJ h1);obtain ⟨_,_,rfl,h1⟩:=h1|(first|replace h1:=dDq h1|replace h1:=wV h1);obtain ⟨_,rfl,h1⟩:=h1|(first|replace h1:=dLq h1|replace h1:=dEq h1);obtain ⟨rfl,h1⟩:=h1
 cases h1
 rcases yx h2 with ⟨hc0,rfl,rfl⟩ | h2
 · exact ⟨FU+40,(ze rfl).trans (lLah FU 40 FU _ _ _ _ _ _ _ _ _ (yS hc0))⟩
 obtain ⟨hc1,rfl,rfl⟩:=zt h2
 exact ⟨FU+40,(ze rfl).trans (lLah FU 40 FU _ _ _ _ _ _ _ _ _ (yw (zf hc1)))⟩
noncomputable def o112:OrcT:=o111
noncomputable def t112:TellT:=((4,0),sLah)::t111
noncomputable abbrev tn112:FuncId→TAn:=zh base o112 t112
theorem ok112:TnOk Try.prog tn112 (mkA base) dOk:=by
 have h0:TnOk Try.prog (tn111) (mkA base) dOk:=ok111
 have h1:=zD h0 h0 (p:=((4,0),sLah)) wLah
 exact h1
noncomputable def LaX (x0:(List (List Int))) (x1:Bool) (x2:Int) (x3:(List (List Int))) (x4:(List Int)) (x5:Int):Option Bool:=(cond (isL (Lah FU x0 x1 x2 (x0.length:Int) 0 x3 x4 x5)) (some (zN (Lah FU x0 x1 x2 (x0.length:Int) 0 x3 x4 x5))) (cond (ok (zL (Lah FU x0 x1 x2 (x0.length:Int) 0 x3 x4 x5))) (cond x1 (some (decide (val (zL (Lah FU x0 x1 x2 (x0.length:Int) 0 x3 x4 x5))≤IntKind.wrap IntKind.i64 (IntKind.wrap IntKind.i64 ((1000000:Int)*(x0.length:Int))+x5)))) (some (false))) none))
noncomputable def xLaX (x0:(List (List Int))) (x1:Bool) (x2:Int) (x3:(List (List Int))) (x4:(List Int)) (x5:Int):Bool→Ex×CS:=fun r=>(.ret,{ sl:=[(6,.v (.sc (.bool (r))))],lo:=[],h:=[],n0:=0,w:=true })
theorem bLaX (k:Nat) (cX:Ex→CS→Option (Ex×CS)) (x0:(List (List Int))) (x1:Bool) (x2:Int) (x3:(List (List Int))) (x4:(List Int)) (x5:Int):WE Try.prog (tn112 4) (TM.evF Try.prog (tn112) dOk (k+40)) dOk (k+40) (zc Try.prog (tn0 4) 4 84) 0 84 { sl:=[(2,.v (.sc (.d 22 (.list 3 (.int .i64)) x0))),(7,.v (.sc (.bool x1))),(8,.l 8 0),(10,.v (.sc (I4 x2)))],lo:=[(8,[.d 22 (.list 3 (.int .i64)) (x3),.d 3 (.int .i64) (x4),I4 (x5)])],h:=[],n0:=0,w:=false } cX=(cond (isL (Lah FU x0 x1 x2 (x0.length:Int) 0 x3 x4 x5)) (cX .ret { sl:=[(6,.v (.sc (.bool (zN (Lah FU x0 x1 x2 (x0.length:Int) 0 x3 x4 x5)))))],lo:=[],h:=[],n0:=0,w:=true }) (cond (ok (zL (Lah FU x0 x1 x2 (x0.length:Int) 0 x3 x4 x5))) (cond x1 (cX .ret { sl:=[(6,.v (.sc (.bool (decide (val (zL (Lah FU x0 x1 x2 (x0.length:Int) 0 x3 x4 x5))≤IntKind.wrap IntKind.i64 (IntKind.wrap IntKind.i64 ((1000000:Int)*(x0.length:Int))+x5))))))],lo:=[],h:=[],n0:=0,w:=true }) (cX .ret { sl:=[(6,.v (.sc (.bool (false))))],lo:=[],h:=[],n0:=0,w:=true })) none)):=by kernel_rfl
theorem lLaX (k:Nat) (x0:(List (List Int))) (x1:Bool) (x2:Int) (x3:(List (List Int))) (x4:(List Int)) (x5:Int) (r:Bool):LaX x0 x1 x2 x3 x4 x5=some r→WE Try.prog (tn112 4) (TM.evF Try.prog (tn112) dOk (k+40)) dOk (k+40) (zc Try.prog (tn0 4) 4 84) 0 84 { sl:=[(2,.v (.sc (.d 22 (.list 3 (.int .i64)) x0))),(7,.v (.sc (.bool x1))),(8,.l 8 0),(10,.v (.sc (I4 x2)))],lo:=[(8,[.d 22 (.list 3 (.int .i64)) (x3),.d 3 (.int .i64) (x4),I4 (x5)])],h:=[],n0:=0,w:=false } (fun e s=>some (e,s))=some (xLaX x0 x1 x2 x3 x4 x5 r):=by
 rw [bLaX]
 unfold LaX
 refine zb ?_ ?_
 intro h;cases h;rfl
 refine zb ?_ ?_
 refine zb ?_ ?_
 intro h;cases h;rfl
 intro h;cases h;rfl
 intro h;cases h
noncomputable def sLaX:TellS:=fun S=>dCS 0 S fun y1 y2 y3=>dSs 2 y1 fun y5 l4=>dD 22 (.list 3 (.int .i64)) y5 fun x0=>dSs 7 l4 fun y7 l6=>Zm y7 fun x1=>dSt 8 l6 fun y9 l8=>dL 8 0 y9<|dSI 10 .i64 l8 fun x2 l10=>dE l10<|dLo 8 y2 fun y11 l12=>dC y11 fun y13 l14=>dD 22 (.list 3 (.int .i64)) y13 fun x3=>dC l14 fun y15 l16=>dD 3 (.int .i64) y15 fun x4=>dK l16 fun x5 l17=>dE l17<|dE l12<|dE y3 <|  some [(ok (LaX x0 x1 x2 x3 x4 x5),.ret,{ sl:=[(6,.v (.sc (.bool ((val (LaX x0 x1 x2 x3 x4 x5))))))],lo:=[],h:=[],n0:=0,w:=true })]
theorem wLaX:zB Try.prog dOk base o112 t112 ((4,84),sLaX):=by
 refine ⟨(zc Try.prog (tn0 4) 4 84),0,by kernel_rfl,?_⟩
 intro S alts e S' h10 h2
 have h1:sLaX S=some alts:=h10
 clear h10
 unfold sLaX at h1
 repeat with_reducible first|replace h1:=yc h1;obtain ⟨_,_,_,rfl,h1⟩:=h1|(first|replace h1:=zX h1|replace h1:=wB h1|replace h1:=ye h1|replace h1:=wL h1|replace h1:=dCq h1|replace h1:=zJ h1);obtain ⟨_,_,rfl,h1⟩:=h1|(first|replace h1:=dDq h1|replace h1:=wV h1);obtain ⟨_,rfl,h1⟩:=h1|(first|replace h1:=dLq h1|replace h1:=dEq h1);obtain ⟨rfl,h1⟩:=h1
 cases h1
 obtain ⟨hc0,rfl,rfl⟩:=zt h2
 exact ⟨0+40,(evPiece_code rfl).trans (lLaX 0 _ _ _ _ _ _ _ (zf hc0))⟩
noncomputable def o113:OrcT:=o112
noncomputable def t113:TellT:=((4,84),sLaX)::t112
noncomputable abbrev tn113:FuncId→TAn:=zh base o113 t113
theorem ok113:TnOk Try.prog tn113 (mkA base) dOk:=by
 have h0:TnOk Try.prog (tn112) (mkA base) dOk:=ok112
 have h1:=zD h0 h0 (p:=((4,84),sLaX)) wLaX
 exact h1
noncomputable def LaV (x0:(List (List Int))) (x1:Bool) (x2:(List (List Int))) (x3:(List Int)) (x4:Int):Option Bool:=(cond ((x2.length:Int) != (x0.length:Int)) (some (false)) (cond (ok (LaX x0 x1 0 x2 x3 x4)) (some (val (LaX x0 x1 0 x2 x3 x4))) none))
noncomputable def xLaV (x0:(List (List Int))) (x1:Bool) (x2:(List (List Int))) (x3:(List Int)) (x4:Int):Bool→Ex×CS:=fun r=>(.ret,{ sl:=[(6,.v (.sc (.bool (r))))],lo:=[],h:=[],n0:=0,w:=true })
theorem bLaV (k:Nat) (cX:Ex→CS→Option (Ex×CS)) (x0:(List (List Int))) (x1:Bool) (x2:(List (List Int))) (x3:(List Int)) (x4:Int):WE Try.prog (tn113 4) (TM.evF Try.prog (tn113) dOk (k+40)) dOk (k+40) (zc Try.prog (tn0 4) 4 60) 0 60 { sl:=[(2,.v (.sc (.d 22 (.list 3 (.int .i64)) x0))),(7,.v (.sc (.bool x1))),(8,.l 8 0)],lo:=[(8,[.d 22 (.list 3 (.int .i64)) (x2),.d 3 (.int .i64) (x3),I4 (x4)])],h:=[],n0:=0,w:=false } cX=(cond ((x2.length:Int) != (x0.length:Int)) (cX .ret { sl:=[(6,.v (.sc (.bool (false))))],lo:=[],h:=[],n0:=0,w:=true }) (cond (ok (LaX x0 x1 0 x2 x3 x4)) (cX .ret { sl:=[(6,.v (.sc (.bool (val (LaX x0 x1 0 x2 x3 x4)))))],lo:=[],h:=[],n0:=0,w:=true }) none)):=by kernel_rfl
theorem lLaV (k:Nat) (x0:(List (List Int))) (x1:Bool) (x2:(List (List Int))) (x3:(List Int)) (x4:Int) (r:Bool):LaV x0 x1 x2 x3 x4=some r→WE Try.prog (tn113 4) (TM.evF Try.prog (tn113) dOk (k+40)) dOk (k+40) (zc Try.prog (tn0 4) 4 60) 0 60 { sl:=[(2,.v (.sc (.d 22 (.list 3 (.int .i64)) x0))),(7,.v (.sc (.bool x1))),(8,.l 8 0)],lo:=[(8,[.d 22 (.list 3 (.int .i64)) (x2),.d 3 (.int .i64) (x3),I4 (x4)])],h:=[],n0:=0,w:=false } (fun e s=>some (e,s))=some (xLaV x0 x1 x2 x3 x4 r):=by
 rw [bLaV]
 unfold LaV
 refine zb ?_ ?_
 intro h;cases h;rfl
 refine zb ?_ ?_
 intro h;cases h;rfl
 intro h;cases h
noncomputable def sLaV:TellS:=fun S=>dCS 0 S fun y1 y2 y3=>dSs 2 y1 fun y5 l4=>dD 22 (.list 3 (.int .i64)) y5 fun x0=>dSs 7 l4 fun y7 l6=>Zm y7 fun x1=>dSt 8 l6 fun y9 l8=>dL 8 0 y9<|dE l8<|dLo 8 y2 fun y10 l11=>dC y10 fun y12 l13=>dD 22 (.list 3 (.int .i64)) y12 fun x2=>dC l13 fun y14 l15=>dD 3 (.int .i64) y14 fun x3=>dK l15 fun x4 l16=>dE l16<|dE l11<|dE y3 <|  some [(ok (LaV x0 x1 x2 x3 x4),.ret,{ sl:=[(6,.v (.sc (.bool ((val (LaV x0 x1 x2 x3 x4))))))],lo:=[],h:=[],n0:=0,w:=true })]
theorem wLaV:zB Try.prog dOk base o113 t113 ((4,60),sLaV):=by
 refine ⟨(zc Try.prog (tn0 4) 4 60),0,by kernel_rfl,?_⟩
 intro S alts e S' h10 h2
 have h1:sLaV S=some alts:=h10
 clear h10
 unfold sLaV at h1
 repeat with_reducible first|replace h1:=yc h1;obtain ⟨_,_,_,rfl,h1⟩:=h1|(first|replace h1:=zX h1|replace h1:=wB h1|replace h1:=wL h1|replace h1:=dCq h1|replace h1:=zJ h1);obtain ⟨_,_,rfl,h1⟩:=h1|(first|replace h1:=dDq h1|replace h1:=wV h1);obtain ⟨_,rfl,h1⟩:=h1|(first|replace h1:=dLq h1|replace h1:=dEq h1);obtain ⟨rfl,h1⟩:=h1
 cases h1
 obtain ⟨hc0,rfl,rfl⟩:=zt h2
 exact ⟨0+40,(evPiece_code rfl).trans (lLaV 0 _ _ _ _ _ _ (zf hc0))⟩
noncomputable def o114:OrcT:=o113
noncomputable def t114:TellT:=((4,60),sLaV)::t113
noncomputable abbrev tn114:FuncId→TAn:=zh base o114 t114
theorem ok114:TnOk Try.prog tn114 (mkA base) dOk:=by
 have h0:TnOk Try.prog (tn113) (mkA base) dOk:=ok113
 have h1:=zD h0 h0 (p:=((4,60),sLaV)) wLaV
 exact h1
noncomputable def LaW (x0:Int) (x1:(List (List Int))) (x2:Bool) (x3:(List Int)) (x4:(List (List Int))) (x5:(List Int)):Option Bool:=(cond (ok (v13 x3 x4 x5 (Int.tmod (IntKind.wrap IntKind.i64 x0) (31:Int)))) (cond ((val (v13 x3 x4 x5 (Int.tmod (IntKind.wrap IntKind.i64 x0) (31:Int)))).2.2.2 != 0) (some x2) (cond (ok (LaV x1 x2 (val (v13 x3 x4 x5 (Int.tmod (IntKind.wrap IntKind.i64 x0) (31:Int)))).1 (val (v13 x3 x4 x5 (Int.tmod (IntKind.wrap IntKind.i64 x0) (31:Int)))).2.1 (val (v13 x3 x4 x5 (Int.tmod (IntKind.wrap IntKind.i64 x0) (31:Int)))).2.2.1)) (some (val (LaV x1 x2 (val (v13 x3 x4 x5 (Int.tmod (IntKind.wrap IntKind.i64 x0) (31:Int)))).1 (val (v13 x3 x4 x5 (Int.tmod (IntKind.wrap IntKind.i64 x0) (31:Int)))).2.1 (val (v13 x3 x4 x5 (Int.tmod (IntKind.wrap IntKind.i64 x0) (31:Int)))).2.2.1))) none)) none)
noncomputable def xLaW (x0:Int) (x1:(List (List Int))) (x2:Bool) (x3:(List Int)) (x4:(List (List Int))) (x5:(List Int)):Bool→Ex×CS:=fun r=>(.ret,{ sl:=[(6,.v (.sc (.bool (r))))],lo:=[],h:=[],n0:=0,w:=true })
theorem bLaW (k:Nat) (cX:Ex→CS→Option (Ex×CS)) (x0:Int) (x1:(List (List Int))) (x2:Bool) (x3:(List Int)) (x4:(List (List Int))) (x5:(List Int)):WE Try.prog (tn114 4) (TM.evF Try.prog (tn114) dOk (k+40)) dOk (k+40) (zc Try.prog (tn0 4) 4 36) 0 36 { sl:=[(1,.v (.sc (.int .u8 x0))),(2,.v (.sc (.d 22 (.list 3 (.int .i64)) x1))),(3,.l 3 0),(7,.v (.sc (.bool x2)))],lo:=[(3,[.d 3 (.int .i64) (x3),.d 22 (.list 3 (.int .i64)) (x4),.d 3 (.int .i64) (x5)])],h:=[],n0:=0,w:=false } cX=(cond (ok (v13 x3 x4 x5 (Int.tmod (IntKind.wrap IntKind.i64 x0) (31:Int)))) (cond ((val (v13 x3 x4 x5 (Int.tmod (IntKind.wrap IntKind.i64 x0) (31:Int)))).2.2.2 != 0) (cX .ret { sl:=[(6,.v (.sc (.bool x2)))],lo:=[],h:=[],n0:=0,w:=true }) (cond (ok (LaV x1 x2 (val (v13 x3 x4 x5 (Int.tmod (IntKind.wrap IntKind.i64 x0) (31:Int)))).1 (val (v13 x3 x4 x5 (Int.tmod (IntKind.wrap IntKind.i64 x0) (31:Int)))).2.1 (val (v13 x3 x4 x5 (Int.tmod (IntKind.wrap IntKind.i64 x0) (31:Int)))).2.2.1)) (cX .ret { sl:=[(6,.v (.sc (.bool (val (LaV x1 x2 (val (v13 x3 x4 x5 (Int.tmod (IntKind.wrap IntKind.i64 x0) (31:Int)))).1 (val (v13 x3 x4 x5 (Int.tmod (IntKind.wrap IntKind.i64 x0) (31:Int)))).2.1 (val (v13 x3 x4 x5 (Int.tmod (IntKind.wrap IntKind.i64 x0) (31:Int)))).2.2.1)))))],lo:=[],h:=[],n0:=0,w:=true }) none)) none):=by kernel_rfl
theorem lLaW (k:Nat) (x0:Int) (x1:(List (List Int))) (x2:Bool) (x3:(List Int)) (x4:(List (List Int))) (x5:(List Int)) (r:Bool):LaW x0 x1 x2 x3 x4 x5=some r→WE Try.prog (tn114 4) (TM.evF Try.prog (tn114) dOk (k+40)) dOk (k+40) (zc Try.prog (tn0 4) 4 36) 0 36 { sl:=[(1,.v (.sc (.int .u8 x0))),(2,.v (.sc (.d 22 (.list 3 (.int .i64)) x1))),(3,.l 3 0),(7,.v (.sc (.bool x2)))],lo:=[(3,[.d 3 (.int .i64) (x3),.d 22 (.list 3 (.int .i64)) (x4),.d 3 (.int .i64) (x5)])],h:=[],n0:=0,w:=false } (fun e s=>some (e,s))=some (xLaW x0 x1 x2 x3 x4 x5 r):=by
 rw [bLaW]
 unfold LaW
 refine zb ?_ ?_
 refine zb ?_ ?_
 intro h;cases h;rfl
 refine zb ?_ ?_
 intro h;cases h;rfl
 intro h;cases h
 intro h;cases h
noncomputable def sLaW:TellS:=fun S=>dCS 0 S fun y1 y2 y3=>dSI 1 .u8 y1 fun x0 l4=>dSs 2 l4 fun y6 l5=>dD 22 (.list 3 (.int .i64)) y6 fun x1=>dSt 3 l5 fun y8 l7=>dL 3 0 y8<|dSs 7 l7 fun y10 l9=>Zm y10 fun x2=>dE l9<|dLo 3 y2 fun y11 l12=>dC y11 fun y13 l14=>dD 3 (.int .i64) y13 fun x3=>dC l14 fun y15 l16=>dD 22 (.list 3 (.int .i64)) y15 fun x4=>dC l16 fun y17 l18=>dD 3 (.int .i64) y17 fun x5=>dE l18<|dE l12<|dE y3 <|  some [(ok (LaW x0 x1 x2 x3 x4 x5),.ret,{ sl:=[(6,.v (.sc (.bool ((val (LaW x0 x1 x2 x3 x4 x5))))))],lo:=[],h:=[],n0:=0,w:=true })]
theorem wLaW:zB Try.prog dOk base o114 t114 ((4,36),sLaW):=by
 refine ⟨(zc Try.prog (tn0 4) 4 36),0,by kernel_rfl,?_⟩
 intro S alts e S' h10 h2
 have h1:sLaW S=some alts:=h10
 clear h10
 unfold sLaW at h1
 repeat with_reducible first|replace h1:=yc h1;obtain ⟨_,_,_,rfl,h1⟩:=h1|(first|replace h1:=ye h1|replace h1:=zX h1|replace h1:=wB h1|replace h1:=wL h1|replace h1:=dCq h1);obtain ⟨_,_,rfl,h1⟩:=h1|(first|replace h1:=dDq h1|replace h1:=wV h1);obtain ⟨_,rfl,h1⟩:=h1|(first|replace h1:=dLq h1|replace h1:=dEq h1);obtain ⟨rfl,h1⟩:=h1
 cases h1
 obtain ⟨hc0,rfl,rfl⟩:=zt h2
 exact ⟨0+40,(evPiece_code rfl).trans (lLaW 0 _ _ _ _ _ _ _ (zf hc0))⟩
noncomputable def o115:OrcT:=o114
noncomputable def t115:TellT:=((4,36),sLaW)::t114
noncomputable abbrev tn115:FuncId→TAn:=zh base o115 t115
theorem ok115:TnOk Try.prog tn115 (mkA base) dOk:=by
 have h0:TnOk Try.prog (tn114) (mkA base) dOk:=ok114
 have h1:=zD h0 h0 (p:=((4,36),sLaW)) wLaW
 exact h1
noncomputable def v4 (x0:(List Int)) (x1:(List (List Int))) (x2:(List Int)) (x3:Int) (x4:(List (List Int))):Option Bool:=(cond (ok (v12 x0 x1 x2)) (cond (!val (v12 x0 x1 x2)) (some (true)) (cond (ok (v17 x0 x1 x2)) (cond (ok (v16 x0 (val (v17 x0 x1 x2)) x4)) (cond (!val (v16 x0 (val (v17 x0 x1 x2)) x4)) (some (true)) (cond (ok (v18 x0 (val (v17 x0 x1 x2)) x4)) (cond (!val (v18 x0 (val (v17 x0 x1 x2)) x4)) (some (true)) (cond (ok (LaW x3 x4 (val v11) x0 x1 x2)) (some (val (LaW x3 x4 (val v11) x0 x1 x2))) none)) none)) none) none)) none)
theorem ev4 (x0:(List Int)) (x1:(List (List Int))) (x2:(List Int)) (x3:Int) (x4:(List (List Int))):zo Try.prog (tn115 4) (TM.evF Try.prog (tn115) dOk 40) dOk 40 4 [.agg [.d 3 (.int .i64) (x0),.d 22 (.list 3 (.int .i64)) (x1),.d 3 (.int .i64) (x2)],.sc (.int .u8 x3),.sc (.d 22 (.list 3 (.int .i64)) x4)] []=(v4 x0 x1 x2 x3 x4).bind fun r=>some ([.sc (.bool (r))],[]):=by
 refine Eq.trans (b:=(cond (ok (v12 x0 x1 x2)) (cond (!val (v12 x0 x1 x2)) (some ([.sc (.bool (true))],[])) (cond (ok (v17 x0 x1 x2)) (cond (ok (v16 x0 (val (v17 x0 x1 x2)) x4)) (cond (!val (v16 x0 (val (v17 x0 x1 x2)) x4)) (some ([.sc (.bool (true))],[])) (cond (ok (v17 x0 x1 x2)) (cond (ok (v18 x0 (val (v17 x0 x1 x2)) x4)) (cond (!val (v18 x0 (val (v17 x0 x1 x2)) x4)) (some ([.sc (.bool (true))],[])) (cond (ok (LaW x3 x4 (val v11) x0 x1 x2)) (some ([.sc (.bool (val (LaW x3 x4 (val v11) x0 x1 x2)))],[])) none)) none) none)) none) none)) none)) (by kernel_rfl) ?_
 unfold v4
 cases (ok (v12 x0 x1 x2)) with
 | true=>
  cases (!val (v12 x0 x1 x2)) with
  | true=>
   rfl
  | false=>
   cases (ok (v17 x0 x1 x2)) with
   | true=>
    cases (ok (v16 x0 (val (v17 x0 x1 x2)) x4)) with
    | true=>
     cases (!val (v16 x0 (val (v17 x0 x1 x2)) x4)) with
     | true=>
      rfl
     | false=>
      cases (ok (v18 x0 (val (v17 x0 x1 x2)) x4)) with
      | true=>
       cases (!val (v18 x0 (val (v17 x0 x1 x2)) x4)) with
       | true=>
        rfl
       | false=>
        cases (ok (LaW x3 x4 (val v11) x0 x1 x2)) with
        | true=>
         rfl
        | false=>
         rfl
      | false=>
       rfl
    | false=>
     rfl
   | false=>
    rfl
 | false=>
  rfl
noncomputable def sv4:OrcS:=fun al H=>dC al fun y1 l2=>dA y1 fun y3=>dC y3 fun y4 l5=>dD 3 (.int .i64) y4 fun x0=>dC l5 fun y6 l7=>dD 22 (.list 3 (.int .i64)) y6 fun x1=>dC l7 fun y8 l9=>dD 3 (.int .i64) y8 fun x2=>dE l9<|dC l2 fun y10 l11=>dS y10 fun y12=>xd .u8 y12 fun x3=>dC l11 fun y13 l14=>dS y13 fun y15=>dD 22 (.list 3 (.int .i64)) y15 fun x4=>dE l14<|dE H <|  some [(ok (v4 x0 x1 x2 x3 x4),[.sc (.bool ((val (v4 x0 x1 x2 x3 x4))))],[])]
noncomputable def o116:OrcT:=(4,sv4)::o115
noncomputable def t116:TellT:=t115
noncomputable abbrev tn116:FuncId→TAn:=zh base o116 t116
end Go.Proofs.Ytgmebdomopdgmaa
