/- What some functions and loops come to: printed and checked. Written by a program of ours. -/
import Derived.Test.YtgmebdomopdgmaaG2
set_option linter.all false
set_option maxRecDepth 1000000
set_option maxHeartbeats 4000000
namespace Go.Proofs.Ytgmebdomopdgmaa
open Go Go.AM Go.TM Go.Proofs
noncomputable def Lad:Nat→Int→Int→Int→(List (List Int))→(List Int)→Int→(List Int)→(List (List Int))→(List Int)→(List Int)→(List Int)→(List (List Int))→(List Int)→Option ((List (List Int))×(List Int)×Int)
 | 0,_,_,_,_,_,_,_,_,_,_,_,_,_=>none
 | n+1,x0,x1,x2,x3,x4,x5,x6,x7,x8,x9,A,B,C=>(cond (decide (x1 < x0)) (cond (ok (v29 x6 x7 x8 x9 A)) (cond (ok (v28 x6 x7 x8 (val (v29 x6 x7 x8 x9 A)).1 (val (v29 x6 x7 x8 x9 A)).2)) (cond (val (v28 x6 x7 x8 (val (v29 x6 x7 x8 x9 A)).1 (val (v29 x6 x7 x8 x9 A)).2)).2.2.2 (cond (decide ((val (v28 x6 x7 x8 (val (v29 x6 x7 x8 x9 A)).1 (val (v29 x6 x7 x8 x9 A)).2)).2.2.1 < x5)) (Lad n x0 (IntKind.wrap IntKind.i64 (x1+(1:Int))) x2 (val (v28 x6 x7 x8 (val (v29 x6 x7 x8 x9 A)).1 (val (v29 x6 x7 x8 x9 A)).2)).1 (val (v28 x6 x7 x8 (val (v29 x6 x7 x8 x9 A)).1 (val (v29 x6 x7 x8 x9 A)).2)).2.1 (val (v28 x6 x7 x8 (val (v29 x6 x7 x8 x9 A)).1 (val (v29 x6 x7 x8 x9 A)).2)).2.2.1 x6 x7 x8 (val (v29 x6 x7 x8 x9 A)).1 (val (v29 x6 x7 x8 x9 A)).2 B C) (Lad n x0 (IntKind.wrap IntKind.i64 (x1+(1:Int))) x2 x3 x4 x5 x6 x7 x8 (val (v29 x6 x7 x8 x9 A)).1 (val (v29 x6 x7 x8 x9 A)).2 B C)) (Lad n x0 (IntKind.wrap IntKind.i64 (x1+(1:Int))) x2 x3 x4 x5 x6 x7 x8 (val (v29 x6 x7 x8 x9 A)).1 (val (v29 x6 x7 x8 x9 A)).2 B C)) none) none) (some (x3,x4,x5)))
theorem qLad:type_of% @Lad.eq_2:=@Lad.eq_2
noncomputable def xLad (x0 x1 x2:Int) (x3:(List (List Int))) (x4:(List Int)) (x5:Int) (x6:(List Int)) (x7:(List (List Int))) (x8:(List Int)) (x9:(List Int)) (A:(List Int)) (B:(List (List Int))) (C:(List Int)):((List (List Int))×(List Int)×Int)→Ex×CS:=fun r=>((.exit 0),{ sl:=[(4,.l 4 0),(9,.l 9 0)],lo:=[(4,[.g 0,.g 1,I4 (x2)]),(9,[.d 22 (.list 3 (.int .i64)) (r.1:List (List Int)),.d 3 (.int .i64) (r.2.1:List Int),I4 (r.2.2)])],h:=[.row 22 (.list 3 (.int .i64)) (B),.row 3 (.int .i64) (C)],n0:=0,w:=false })
theorem bLad (k:Nat) (cN:CS→Option (Ex×CS)) (cX:Ex→CS→Option (Ex×CS)) (x0 x1 x2:Int) (x3:(List (List Int))) (x4:(List Int)) (x5:Int) (x6:(List Int)) (x7:(List (List Int))) (x8:(List Int)) (x9:(List Int)) (A:(List Int)) (B:(List (List Int))) (C:(List Int)):zq Try.prog (tn87 13) (TM.evF Try.prog (tn87) dOk (k+40)) dOk (k+40) (zc Try.prog (tn0 13) 13 0) 0 0 { sl:=[(4,.l 4 0),(7,.v (.sc (.ptr 0 0))),(9,.l 9 0),(54,.v (.sc (I4 x0))),(55,.v (.sc (I4 x1)))],lo:=[(4,[.g 3,.g 4,I4 (x2)]),(9,[.d 22 (.list 3 (.int .i64)) (x3),.d 3 (.int .i64) (x4),I4 (x5)])],h:=[.box 73 [.d 3 (.int .i64) (x6),.d 22 (.list 3 (.int .i64)) (x7),.d 3 (.int .i64) (x8),.g 1,.g 2],.row 3 (.int .i64) (x9),.row 3 (.int .i64) (A),.row 22 (.list 3 (.int .i64)) (B),.row 3 (.int .i64) (C)],n0:=0,w:=false } cN cX=(cond (decide (x1 < x0)) (cond (ok (v29 x6 x7 x8 x9 A)) (cond (ok (v28 x6 x7 x8 (val (v29 x6 x7 x8 x9 A)).1 (val (v29 x6 x7 x8 x9 A)).2)) (cond (val (v28 x6 x7 x8 (val (v29 x6 x7 x8 x9 A)).1 (val (v29 x6 x7 x8 x9 A)).2)).2.2.2 (cond (decide ((val (v28 x6 x7 x8 (val (v29 x6 x7 x8 x9 A)).1 (val (v29 x6 x7 x8 x9 A)).2)).2.2.1 < x5)) (cN { sl:=[(4,.l 4 0),(7,.v (.sc (.ptr 0 0))),(9,.l 9 0),(54,.v (.sc (I4 x0))),(55,.v (.sc (I4 (IntKind.wrap IntKind.i64 (x1+(1:Int))))))],lo:=[(4,[.g 3,.g 4,I4 (x2)]),(9,[.d 22 (.list 3 (.int .i64)) ((val (v28 x6 x7 x8 (val (v29 x6 x7 x8 x9 A)).1 (val (v29 x6 x7 x8 x9 A)).2)).1:List (List Int)),.d 3 (.int .i64) ((val (v28 x6 x7 x8 (val (v29 x6 x7 x8 x9 A)).1 (val (v29 x6 x7 x8 x9 A)).2)).2.1:List Int),I4 (val (v28 x6 x7 x8 (val (v29 x6 x7 x8 x9 A)).1 (val (v29 x6 x7 x8 x9 A)).2)).2.2.1])],h:=[.box 73 [.d 3 (.int .i64) (x6),.d 22 (.list 3 (.int .i64)) (x7),.d 3 (.int .i64) (x8),.g 1,.g 2],.row 3 (.int .i64) ((val (v29 x6 x7 x8 x9 A)).1:List Int),.row 3 (.int .i64) ((val (v29 x6 x7 x8 x9 A)).2:List Int),.row 22 (.list 3 (.int .i64)) (B),.row 3 (.int .i64) (C)],n0:=0,w:=false }) (cN { sl:=[(4,.l 4 0),(7,.v (.sc (.ptr 0 0))),(9,.l 9 0),(54,.v (.sc (I4 x0))),(55,.v (.sc (I4 (IntKind.wrap IntKind.i64 (x1+(1:Int))))))],lo:=[(4,[.g 3,.g 4,I4 (x2)]),(9,[.d 22 (.list 3 (.int .i64)) (x3),.d 3 (.int .i64) (x4),I4 (x5)])],h:=[.box 73 [.d 3 (.int .i64) (x6),.d 22 (.list 3 (.int .i64)) (x7),.d 3 (.int .i64) (x8),.g 1,.g 2],.row 3 (.int .i64) ((val (v29 x6 x7 x8 x9 A)).1:List Int),.row 3 (.int .i64) ((val (v29 x6 x7 x8 x9 A)).2:List Int),.row 22 (.list 3 (.int .i64)) (B),.row 3 (.int .i64) (C)],n0:=0,w:=false })) (cN { sl:=[(4,.l 4 0),(7,.v (.sc (.ptr 0 0))),(9,.l 9 0),(54,.v (.sc (I4 x0))),(55,.v (.sc (I4 (IntKind.wrap IntKind.i64 (x1+(1:Int))))))],lo:=[(4,[.g 3,.g 4,I4 (x2)]),(9,[.d 22 (.list 3 (.int .i64)) (x3),.d 3 (.int .i64) (x4),I4 (x5)])],h:=[.box 73 [.d 3 (.int .i64) (x6),.d 22 (.list 3 (.int .i64)) (x7),.d 3 (.int .i64) (x8),.g 1,.g 2],.row 3 (.int .i64) ((val (v29 x6 x7 x8 x9 A)).1:List Int),.row 3 (.int .i64) ((val (v29 x6 x7 x8 x9 A)).2:List Int),.row 22 (.list 3 (.int .i64)) (B),.row 3 (.int .i64) (C)],n0:=0,w:=false })) none) none) (cX (.exit 0) { sl:=[(4,.l 4 0),(9,.l 9 0)],lo:=[(4,[.g 0,.g 1,I4 (x2)]),(9,[.d 22 (.list 3 (.int .i64)) (x3),.d 3 (.int .i64) (x4),I4 (x5)])],h:=[.row 22 (.list 3 (.int .i64)) (B),.row 3 (.int .i64) (C)],n0:=0,w:=false })):=by kernel_rfl
theorem lLad (k m:Nat):∀ (n:Nat) (x0 x1 x2:Int) (x3:(List (List Int))) (x4:(List Int)) (x5:Int) (x6:(List Int)) (x7:(List (List Int))) (x8:(List Int)) (x9:(List Int)) (A:(List Int)) (B:(List (List Int))) (C:(List Int)) (r:((List (List Int))×(List Int)×Int)),Lad n x0 x1 x2 x3 x4 x5 x6 x7 x8 x9 A B C=some r→zM Try.prog (tn87 13) (TM.evF Try.prog (tn87) dOk (k+40)) dOk (k+40) (zc Try.prog (tn0 13) 13 0) 0 0 (n+m) { sl:=[(4,.l 4 0),(7,.v (.sc (.ptr 0 0))),(9,.l 9 0),(54,.v (.sc (I4 x0))),(55,.v (.sc (I4 x1)))],lo:=[(4,[.g 3,.g 4,I4 (x2)]),(9,[.d 22 (.list 3 (.int .i64)) (x3),.d 3 (.int .i64) (x4),I4 (x5)])],h:=[.box 73 [.d 3 (.int .i64) (x6),.d 22 (.list 3 (.int .i64)) (x7),.d 3 (.int .i64) (x8),.g 1,.g 2],.row 3 (.int .i64) (x9),.row 3 (.int .i64) (A),.row 22 (.list 3 (.int .i64)) (B),.row 3 (.int .i64) (C)],n0:=0,w:=false }=some (xLad x0 x1 x2 x3 x4 x5 x6 x7 x8 x9 A B C r):=by
 intro n
 induction n with
 | zero=>intro _ _ _ _ _ _ _ _ _ _ _ _ _ r h;cases h
 | succ n ih=>
  intro x0 x1 x2 x3 x4 x5 x6 x7 x8 x9 A B C r
  rw [show n+1+m=n+m+1 by omega,zp,bLad,qLad]
  refine zb ?_ ?_
  refine zb ?_ ?_
  refine zb ?_ ?_
  refine zb ?_ ?_
  refine zb ?_ ?_
  exact ih _ _ _ _ _ _ _ _ _ _ _ _ _ r
  exact ih _ _ _ _ _ _ _ _ _ _ _ _ _ r
  exact ih _ _ _ _ _ _ _ _ _ _ _ _ _ r
  intro h;cases h
  intro h;cases h
  intro h;cases h;rfl
noncomputable def sLad:TellS:=fun S=>dCS 0 S fun y1 y2 y3=>dSt 4 y1 fun y5 l4=>dL 4 0 y5<|dSs 7 l4 fun y7 l6=>zi 0 0 y7<|dSt 9 l6 fun y9 l8=>dL 9 0 y9<|dSI 54 .i64 l8 fun x0 l10=>dSI 55 .i64 l10 fun x1 l11=>dE l11<|dLo 4 y2 fun y12 l13=>dC y12 fun y14 l15=>dG 3 y14<|dC l15 fun y16 l17=>dG 4 y16<|dK l17 fun x2 l18=>dE l18<|dLo 9 l13 fun y19 l20=>dC y19 fun y21 l22=>dD 22 (.list 3 (.int .i64)) y21 fun x3=>dC l22 fun y23 l24=>dD 3 (.int .i64) y23 fun x4=>dK l24 fun x5 l25=>dE l25<|dE l20<|dHB 73 y3 fun y27 l26=>dC y27 fun y28 l29=>dD 3 (.int .i64) y28 fun x6=>dC l29 fun y30 l31=>dD 22 (.list 3 (.int .i64)) y30 fun x7=>dC l31 fun y32 l33=>dD 3 (.int .i64) y32 fun x8=>dC l33 fun y34 l35=>dG 1 y34<|dC l35 fun y36 l37=>dG 2 y36<|dE l37<|dHR 3 (.int .i64) l26 fun x9 l38=>dHR 3 (.int .i64) l38 fun A l39=>dHR 22 (.list 3 (.int .i64)) l39 fun B l40=>dHR 3 (.int .i64) l40 fun C l41=>dE l41 <|  some [(ok (Lad FU x0 x1 x2 x3 x4 x5 x6 x7 x8 x9 A B C),(.exit 0),{ sl:=[(4,.l 4 0),(9,.l 9 0)],lo:=[(4,[.g 0,.g 1,I4 (x2)]),(9,[.d 22 (.list 3 (.int .i64)) ((val (Lad FU x0 x1 x2 x3 x4 x5 x6 x7 x8 x9 A B C)).1:List (List Int)),.d 3 (.int .i64) ((val (Lad FU x0 x1 x2 x3 x4 x5 x6 x7 x8 x9 A B C)).2.1:List Int),I4 ((val (Lad FU x0 x1 x2 x3 x4 x5 x6 x7 x8 x9 A B C)).2.2)])],h:=[.row 22 (.list 3 (.int .i64)) (B),.row 3 (.int .i64) (C)],n0:=0,w:=false })]
theorem wLad:zB Try.prog dOk base o87 t87 ((13,0),sLad):=by
 refine ⟨.loop (zc Try.prog (tn0 13) 13 0),0,by kernel_rfl,?_⟩
 intro S alts e S' h10 h2
 have h1:sLad S=some alts:=h10
 clear h10
 unfold sLad at h1
 repeat with_reducible first|replace h1:=yc h1;obtain ⟨_,_,_,rfl,h1⟩:=h1|(first|replace h1:=wB h1|replace h1:=zX h1|replace h1:=ye h1|replace h1:=wL h1|replace h1:=dCq h1|replace h1:=zJ h1|replace h1:=zG h1|replace h1:=zY h1);obtain ⟨_,_,rfl,h1⟩:=h1|(first|replace h1:=dLq h1|replace h1:=zr h1|replace h1:=dEq h1|replace h1:=dGq h1);obtain ⟨rfl,h1⟩:=h1|replace h1:=dDq h1;obtain ⟨_,rfl,h1⟩:=h1
 cases h1
 obtain ⟨hc0,rfl,rfl⟩:=zt h2
 exact ⟨FU+40,(ze rfl).trans (lLad FU 40 FU _ _ _ _ _ _ _ _ _ _ _ _ _ _ (zf hc0))⟩
noncomputable def o88:OrcT:=o87
noncomputable def t88:TellT:=((13,0),sLad)::t87
noncomputable abbrev tn88:FuncId→TAn:=zh base o88 t88
theorem ok88:TnOk Try.prog tn88 (mkA base) dOk:=by
 have h0:TnOk Try.prog (tn87) (mkA base) dOk:=ok87
 have h1:=zD h0 h0 (p:=((13,0),sLad)) wLad
 exact h1
noncomputable def v13 (x0:(List Int)) (x1:(List (List Int))) (x2:(List Int)) (x3:Int):Option ((List (List Int))×(List Int)×Int×Int):=(cond (ok (v23_3 x2)) (cond (ok (v26 x0 x1 x2)) (cond (ok (v25 x0 (val (v26 x0 x1 x2)))) (cond (!val (v25 x0 (val (v26 x0 x1 x2)))) (some ([],[],0,(1:Int))) (cond ((x2.length:Int) != (x1.length:Int)) (some ([],[],0,(1:Int))) (cond (val (v23_3 x2)) (some ([],[],0,(1:Int))) (cond (decide (x3 < 0)) (some ([],[],0,(1:Int))) (cond (decide (x3 > (1000:Int))) (some ([],[],0,(1:Int))) (cond (ok (v27 x0 x1 x2)) (cond (!(val (v27 x0 x1 x2)).1) (some ([],[],0,(4:Int))) (cond (ok (v28 x0 x1 x2 (val (v27 x0 x1 x2)).2.1 (val (v27 x0 x1 x2)).2.2)) (cond (ok (Lad FU x3 0 0 (val (v28 x0 x1 x2 (val (v27 x0 x1 x2)).2.1 (val (v27 x0 x1 x2)).2.2)).1 (val (v28 x0 x1 x2 (val (v27 x0 x1 x2)).2.1 (val (v27 x0 x1 x2)).2.2)).2.1 (val (v28 x0 x1 x2 (val (v27 x0 x1 x2)).2.1 (val (v27 x0 x1 x2)).2.2)).2.2.1 x0 x1 x2 (val (v27 x0 x1 x2)).2.1 (val (v27 x0 x1 x2)).2.2 [] [])) (some ((val (Lad FU x3 0 0 (val (v28 x0 x1 x2 (val (v27 x0 x1 x2)).2.1 (val (v27 x0 x1 x2)).2.2)).1 (val (v28 x0 x1 x2 (val (v27 x0 x1 x2)).2.1 (val (v27 x0 x1 x2)).2.2)).2.1 (val (v28 x0 x1 x2 (val (v27 x0 x1 x2)).2.1 (val (v27 x0 x1 x2)).2.2)).2.2.1 x0 x1 x2 (val (v27 x0 x1 x2)).2.1 (val (v27 x0 x1 x2)).2.2 [] [])).1,(val (Lad FU x3 0 0 (val (v28 x0 x1 x2 (val (v27 x0 x1 x2)).2.1 (val (v27 x0 x1 x2)).2.2)).1 (val (v28 x0 x1 x2 (val (v27 x0 x1 x2)).2.1 (val (v27 x0 x1 x2)).2.2)).2.1 (val (v28 x0 x1 x2 (val (v27 x0 x1 x2)).2.1 (val (v27 x0 x1 x2)).2.2)).2.2.1 x0 x1 x2 (val (v27 x0 x1 x2)).2.1 (val (v27 x0 x1 x2)).2.2 [] [])).2.1,(val (Lad FU x3 0 0 (val (v28 x0 x1 x2 (val (v27 x0 x1 x2)).2.1 (val (v27 x0 x1 x2)).2.2)).1 (val (v28 x0 x1 x2 (val (v27 x0 x1 x2)).2.1 (val (v27 x0 x1 x2)).2.2)).2.1 (val (v28 x0 x1 x2 (val (v27 x0 x1 x2)).2.1 (val (v27 x0 x1 x2)).2.2)).2.2.1 x0 x1 x2 (val (v27 x0 x1 x2)).2.1 (val (v27 x0 x1 x2)).2.2 [] [])).2.2,0)) none) none)) none)))))) none) none) none)
theorem ev13 (x0:(List Int)) (x1:(List (List Int))) (x2:(List Int)) (x3:Int):zo Try.prog (tn88 13) (TM.evF Try.prog (tn88) dOk 40) dOk 40 13 [.agg [.d 3 (.int .i64) (x0),.d 22 (.list 3 (.int .i64)) (x1),.d 3 (.int .i64) (x2)],.sc (I4 x3)] []=(v13 x0 x1 x2 x3).bind fun r=>some ([.agg [.d 22 (.list 3 (.int .i64)) (r.1:List (List Int)),.d 3 (.int .i64) (r.2.1:List Int),I4 (r.2.2.1)],.sc (I4 (r.2.2.2))],[]):=by
 refine Eq.trans (b:=(cond (ok (v23_3 x2)) (cond (ok (v26 x0 x1 x2)) (cond (ok (v25 x0 (val (v26 x0 x1 x2)))) (cond (!val (v25 x0 (val (v26 x0 x1 x2)))) (some ([.agg [.d 22 (.list 3 (.int .i64)) ([]:List (List Int)),.d 3 (.int .i64) ([]:List Int),I4 (0)],.sc (I4 ((1:Int)))],[])) (cond ((x2.length:Int) != (x1.length:Int)) (some ([.agg [.d 22 (.list 3 (.int .i64)) ([]:List (List Int)),.d 3 (.int .i64) ([]:List Int),I4 (0)],.sc (I4 ((1:Int)))],[])) (cond (val (v23_3 x2)) (some ([.agg [.d 22 (.list 3 (.int .i64)) ([]:List (List Int)),.d 3 (.int .i64) ([]:List Int),I4 (0)],.sc (I4 ((1:Int)))],[])) (cond (decide (x3 < 0)) (some ([.agg [.d 22 (.list 3 (.int .i64)) ([]:List (List Int)),.d 3 (.int .i64) ([]:List Int),I4 (0)],.sc (I4 ((1:Int)))],[])) (cond (decide (x3 > (1000:Int))) (some ([.agg [.d 22 (.list 3 (.int .i64)) ([]:List (List Int)),.d 3 (.int .i64) ([]:List Int),I4 (0)],.sc (I4 ((1:Int)))],[])) (cond (ok (v27 x0 x1 x2)) (cond (!(val (v27 x0 x1 x2)).1) (some ([.agg [.d 22 (.list 3 (.int .i64)) ([]:List (List Int)),.d 3 (.int .i64) ([]:List Int),I4 (0)],.sc (I4 ((4:Int)))],[])) (cond (ok (v28 x0 x1 x2 (val (v27 x0 x1 x2)).2.1 (val (v27 x0 x1 x2)).2.2)) (cond (ok (Lad FU x3 0 0 (val (v28 x0 x1 x2 (val (v27 x0 x1 x2)).2.1 (val (v27 x0 x1 x2)).2.2)).1 (val (v28 x0 x1 x2 (val (v27 x0 x1 x2)).2.1 (val (v27 x0 x1 x2)).2.2)).2.1 (val (v28 x0 x1 x2 (val (v27 x0 x1 x2)).2.1 (val (v27 x0 x1 x2)).2.2)).2.2.1 x0 x1 x2 (val (v27 x0 x1 x2)).2.1 (val (v27 x0 x1 x2)).2.2 [] [])) (some ([.agg [.d 22 (.list 3 (.int .i64)) ((val (Lad FU x3 0 0 (val (v28 x0 x1 x2 (val (v27 x0 x1 x2)).2.1 (val (v27 x0 x1 x2)).2.2)).1 (val (v28 x0 x1 x2 (val (v27 x0 x1 x2)).2.1 (val (v27 x0 x1 x2)).2.2)).2.1 (val (v28 x0 x1 x2 (val (v27 x0 x1 x2)).2.1 (val (v27 x0 x1 x2)).2.2)).2.2.1 x0 x1 x2 (val (v27 x0 x1 x2)).2.1 (val (v27 x0 x1 x2)).2.2 [] [])).1:List (List Int)),.d 3 (.int .i64) ((val (Lad FU x3 0 0 (val (v28 x0 x1 x2 (val (v27 x0 x1 x2)).2.1 (val (v27 x0 x1 x2)).2.2)).1 (val (v28 x0 x1 x2 (val (v27 x0 x1 x2)).2.1 (val (v27 x0 x1 x2)).2.2)).2.1 (val (v28 x0 x1 x2 (val (v27 x0 x1 x2)).2.1 (val (v27 x0 x1 x2)).2.2)).2.2.1 x0 x1 x2 (val (v27 x0 x1 x2)).2.1 (val (v27 x0 x1 x2)).2.2 [] [])).2.1:List Int),I4 (val (Lad FU x3 0 0 (val (v28 x0 x1 x2 (val (v27 x0 x1 x2)).2.1 (val (v27 x0 x1 x2)).2.2)).1 (val (v28 x0 x1 x2 (val (v27 x0 x1 x2)).2.1 (val (v27 x0 x1 x2)).2.2)).2.1 (val (v28 x0 x1 x2 (val (v27 x0 x1 x2)).2.1 (val (v27 x0 x1 x2)).2.2)).2.2.1 x0 x1 x2 (val (v27 x0 x1 x2)).2.1 (val (v27 x0 x1 x2)).2.2 [] [])).2.2],.sc (I4 (0))],[])) none) none)) none)))))) none) none) none)) (by kernel_rfl) ?_
 unfold v13
 refine za ?_ ?_
 refine za ?_ ?_
 refine za ?_ ?_
 refine za ?_ ?_
 rfl
 refine za ?_ ?_
 rfl
 refine za ?_ ?_
 rfl
 refine za ?_ ?_
 rfl
 refine za ?_ ?_
 rfl
 refine za ?_ ?_
 refine za ?_ ?_
 rfl
 refine za ?_ ?_
 refine za ?_ ?_
 rfl
 rfl
 rfl
 rfl
 rfl
 rfl
 rfl
noncomputable def sv13:OrcS:=fun al H=>dC al fun y1 l2=>dA y1 fun y3=>dC y3 fun y4 l5=>dD 3 (.int .i64) y4 fun x0=>dC l5 fun y6 l7=>dD 22 (.list 3 (.int .i64)) y6 fun x1=>dC l7 fun y8 l9=>dD 3 (.int .i64) y8 fun x2=>dE l9<|dC l2 fun y10 l11=>dS y10 fun y12=>xd .i64 y12 fun x3=>dE l11<|dE H <|  some [(ok (v13 x0 x1 x2 x3),[.agg [.d 22 (.list 3 (.int .i64)) ((val (v13 x0 x1 x2 x3)).1:List (List Int)),.d 3 (.int .i64) ((val (v13 x0 x1 x2 x3)).2.1:List Int),I4 ((val (v13 x0 x1 x2 x3)).2.2.1)],.sc (I4 ((val (v13 x0 x1 x2 x3)).2.2.2))],[])]
theorem wv13:zm Try.prog dOk base o88 t88 (13,sv13):=by
 intro al H q hq0 rs H2 h2
 have hq:sv13 al H=some q:=hq0
 clear hq0
 unfold sv13 at hq
 repeat with_reducible first|replace hq:=dCq hq;obtain ⟨_,_,rfl,hq⟩:=hq|(first|replace hq:=dAq hq|replace hq:=dDq hq|replace hq:=dSq hq|replace hq:=xu hq);obtain ⟨_,rfl,hq⟩:=hq|replace hq:=dEq hq;obtain ⟨rfl,hq⟩:=hq
 cases hq
 obtain ⟨hc0,rfl,rfl⟩:=zg h2
 exact ⟨41,(zu (by kernel_rfl)).trans ((ev13 _ _ _ _).trans (zl (zf hc0)))⟩
noncomputable def o89:OrcT:=(13,sv13)::o88
noncomputable def t89:TellT:=t88
noncomputable abbrev tn89:FuncId→TAn:=zh base o89 t89
theorem ok89:TnOk Try.prog tn89 (mkA base) dOk:=by
 have h0:TnOk Try.prog (tn88) (mkA base) dOk:=ok88
 have h1:=zn h0 h0 (p:=(13,sv13)) wv13
 exact h1
noncomputable def Lam:Nat→Int→(List Int)→(List (List Int))→(List Int)→Option (Bool ⊕ Unit)
 | 0,_,_,_,_=>none
 | n+1,x0,x1,x2,x3=>(cond (decide (x0 < (x2.length:Int))) (cond (decide (0≤x0)) (cond (decide ((↑(List.length (List.getD x2 x0.toNat [])):Int) > (20:Int))) (some (.inl (false))) (Lam n (IntKind.wrap IntKind.i64 (x0+(1:Int))) x1 x2 x3)) none) (some (.inr ())))
theorem qLam:type_of% @Lam.eq_2:=@Lam.eq_2
noncomputable def xLam (x0:Int) (x1:(List Int)) (x2:(List (List Int))) (x3:(List Int)):(Bool ⊕ Unit)→Ex×CS:=fun r=>match r with | .inl a0=>(.ret,{ sl:=[(2,.v (.sc (.bool (a0))))],lo:=[],h:=[],n0:=0,w:=true }) | .inr b0=>((.exit 0),{ sl:=[(1,.l 1 0),(5,.l 1 1)],lo:=[(1,[.d 3 (.int .i64) (x1),.d 22 (.list 3 (.int .i64)) (x2),.d 3 (.int .i64) (x3)])],h:=[],n0:=0,w:=false })
theorem bLam (k:Nat) (cN:CS→Option (Ex×CS)) (cX:Ex→CS→Option (Ex×CS)) (x0:Int) (x1:(List Int)) (x2:(List (List Int))) (x3:(List Int)):zq Try.prog (tn89 12) (TM.evF Try.prog (tn89) dOk (k+40)) dOk (k+40) (zc Try.prog (tn0 12) 12 0) 0 0 { sl:=[(1,.l 1 0),(3,.v (.sc (I4 x0)))],lo:=[(1,[.d 3 (.int .i64) (x1),.d 22 (.list 3 (.int .i64)) (x2),.d 3 (.int .i64) (x3)])],h:=[],n0:=0,w:=false } cN cX=(cond (decide (x0 < (x2.length:Int))) (cond (decide (0≤x0)) (cond (decide (x0 < (x2.length:Int))) (cond (decide ((↑(List.length (List.getD x2 x0.toNat [])):Int) > (20:Int))) (cX .ret { sl:=[(2,.v (.sc (.bool (false))))],lo:=[],h:=[],n0:=0,w:=true }) (cN { sl:=[(1,.l 1 0),(3,.v (.sc (I4 (IntKind.wrap IntKind.i64 (x0+(1:Int))))))],lo:=[(1,[.d 3 (.int .i64) (x1),.d 22 (.list 3 (.int .i64)) (x2),.d 3 (.int .i64) (x3)])],h:=[],n0:=0,w:=false })) none) none) (cX (.exit 0) { sl:=[(1,.l 1 0),(5,.l 1 1)],lo:=[(1,[.d 3 (.int .i64) (x1),.d 22 (.list 3 (.int .i64)) (x2),.d 3 (.int .i64) (x3)])],h:=[],n0:=0,w:=false })):=by kernel_rfl
theorem lLam (k m:Nat):∀ (n:Nat) (x0:Int) (x1:(List Int)) (x2:(List (List Int))) (x3:(List Int)) (r:(Bool ⊕ Unit)),Lam n x0 x1 x2 x3=some r→zM Try.prog (tn89 12) (TM.evF Try.prog (tn89) dOk (k+40)) dOk (k+40) (zc Try.prog (tn0 12) 12 0) 0 0 (n+m) { sl:=[(1,.l 1 0),(3,.v (.sc (I4 x0)))],lo:=[(1,[.d 3 (.int .i64) (x1),.d 22 (.list 3 (.int .i64)) (x2),.d 3 (.int .i64) (x3)])],h:=[],n0:=0,w:=false }=some (xLam x0 x1 x2 x3 r):=by
 intro n
 induction n with
 | zero=>intro _ _ _ _ r h;cases h
 | succ n ih=>
  intro x0 x1 x2 x3 r
  rw [show n+1+m=n+m+1 by omega,zp,bLam,qLam]
  cases (decide (x0 < (x2.length:Int))) with
  | true=>
   cases (decide (0≤x0)) with
   | true=>
    cases (decide ((↑(List.length (List.getD x2 x0.toNat [])):Int) > (20:Int))) with
    | true=>
     intro h;cases h;rfl
    | false=>
     exact ih _ _ _ _ r
   | false=>
    intro h;cases h
  | false=>
   intro h;cases h;rfl
noncomputable def sLam:TellS:=fun S=>dCS 0 S fun y1 y2 y3=>dSt 1 y1 fun y5 l4=>dL 1 0 y5<|dSI 3 .i64 l4 fun x0 l6=>dE l6<|dLo 1 y2 fun y7 l8=>dC y7 fun y9 l10=>dD 3 (.int .i64) y9 fun x1=>dC l10 fun y11 l12=>dD 22 (.list 3 (.int .i64)) y11 fun x2=>dC l12 fun y13 l14=>dD 3 (.int .i64) y13 fun x3=>dE l14<|dE l8<|dE y3 <|  some [(isL (Lam FU x0 x1 x2 x3),.ret,{ sl:=[(2,.v (.sc (.bool ((zN (Lam FU x0 x1 x2 x3))))))],lo:=[],h:=[],n0:=0,w:=true }),(ok (zL (Lam FU x0 x1 x2 x3)),(.exit 0),{ sl:=[(1,.l 1 0),(5,.l 1 1)],lo:=[(1,[.d 3 (.int .i64) (x1),.d 22 (.list 3 (.int .i64)) (x2),.d 3 (.int .i64) (x3)])],h:=[],n0:=0,w:=false })]
theorem wLam:zB Try.prog dOk base o89 t89 ((12,0),sLam):=by
 refine ⟨.loop (zc Try.prog (tn0 12) 12 0),0,by kernel_rfl,?_⟩
 intro S alts e S' h10 h2
 have h1:sLam S=some alts:=h10
 clear h10
 unfold sLam at h1
 repeat with_reducible first|replace h1:=yc h1;obtain ⟨_,_,_,rfl,h1⟩:=h1|(first|replace h1:=wB h1|replace h1:=ye h1|replace h1:=wL h1|replace h1:=dCq h1);obtain ⟨_,_,rfl,h1⟩:=h1|(first|replace h1:=dLq h1|replace h1:=dEq h1);obtain ⟨rfl,h1⟩:=h1|replace h1:=dDq h1;obtain ⟨_,rfl,h1⟩:=h1
 cases h1
 rcases yx h2 with ⟨hc0,rfl,rfl⟩ | h2
 · exact ⟨FU+40,(ze rfl).trans (lLam FU 40 FU _ _ _ _ _ (yS hc0))⟩
 obtain ⟨hc1,rfl,rfl⟩:=zt h2
 exact ⟨FU+40,(ze rfl).trans (lLam FU 40 FU _ _ _ _ _ (yw (zf hc1)))⟩
noncomputable def o90:OrcT:=o89
noncomputable def t90:TellT:=((12,0),sLam)::t89
noncomputable abbrev tn90:FuncId→TAn:=zh base o90 t90
theorem ok90:TnOk Try.prog tn90 (mkA base) dOk:=by
 have h0:TnOk Try.prog (tn89) (mkA base) dOk:=ok89
 have h1:=zD h0 h0 (p:=((12,0),sLam)) wLam
 exact h1
noncomputable def v12 (x0:(List Int)) (x1:(List (List Int))) (x2:(List Int)):Option Bool:=(cond (isL (Lam FU 0 x0 x1 x2)) (some (zN (Lam FU 0 x0 x1 x2))) (cond (ok (zL (Lam FU 0 x0 x1 x2))) (cond (decide ((x0.length:Int)≤(20:Int))) (cond (decide ((x1.length:Int)≤(20:Int))) (some (decide ((x2.length:Int)≤(40:Int)))) (some (false))) (some (false))) none))
theorem ev12 (x0:(List Int)) (x1:(List (List Int))) (x2:(List Int)):zo Try.prog (tn90 12) (TM.evF Try.prog (tn90) dOk 40) dOk 40 12 [.agg [.d 3 (.int .i64) (x0),.d 22 (.list 3 (.int .i64)) (x1),.d 3 (.int .i64) (x2)]] []=(v12 x0 x1 x2).bind fun r=>some ([.sc (.bool (r))],[]):=by
 refine Eq.trans (b:=(cond (isL (Lam FU 0 x0 x1 x2)) (some ([.sc (.bool (zN (Lam FU 0 x0 x1 x2)))],[])) (cond (ok (zL (Lam FU 0 x0 x1 x2))) (cond (decide ((x0.length:Int)≤(20:Int))) (cond (decide ((x1.length:Int)≤(20:Int))) (some ([.sc (.bool (decide ((x2.length:Int)≤(40:Int))))],[])) (some ([.sc (.bool (false))],[]))) (some ([.sc (.bool (false))],[]))) none))) (by kernel_rfl) ?_
 unfold v12
 refine za ?_ ?_
 rfl
 refine za ?_ ?_
 refine za ?_ ?_
 refine za ?_ ?_
 rfl
 rfl
 rfl
 rfl
noncomputable def sv12:OrcS:=fun al H=>dC al fun y1 l2=>dA y1 fun y3=>dC y3 fun y4 l5=>dD 3 (.int .i64) y4 fun x0=>dC l5 fun y6 l7=>dD 22 (.list 3 (.int .i64)) y6 fun x1=>dC l7 fun y8 l9=>dD 3 (.int .i64) y8 fun x2=>dE l9<|dE l2<|dE H <|  some [(ok (v12 x0 x1 x2),[.sc (.bool ((val (v12 x0 x1 x2))))],[])]
theorem wv12:zm Try.prog dOk base o90 t90 (12,sv12):=by
 intro al H q hq0 rs H2 h2
 have hq:sv12 al H=some q:=hq0
 clear hq0
 unfold sv12 at hq
 repeat with_reducible first|replace hq:=dCq hq;obtain ⟨_,_,rfl,hq⟩:=hq|(first|replace hq:=dAq hq|replace hq:=dDq hq);obtain ⟨_,rfl,hq⟩:=hq|replace hq:=dEq hq;obtain ⟨rfl,hq⟩:=hq
 cases hq
 obtain ⟨hc0,rfl,rfl⟩:=zg h2
 exact ⟨41,(zu (by kernel_rfl)).trans ((ev12 _ _ _).trans (zl (zf hc0)))⟩
noncomputable def o91:OrcT:=(12,sv12)::o90
noncomputable def t91:TellT:=t90
noncomputable abbrev tn91:FuncId→TAn:=zh base o91 t91
theorem ok91:TnOk Try.prog tn91 (mkA base) dOk:=by
 have h0:TnOk Try.prog (tn90) (mkA base) dOk:=ok90
 have h1:=zn h0 h0 (p:=(12,sv12)) wv12
 exact h1
noncomputable def LaK:Nat→Int→Int→(List Int)→(List (List Int))→(List Int)→(List Int)→(List (List Int))→(List Int)→Option ((List (List Int))×(List Int))
 | 0,_,_,_,_,_,_,_,_=>none
 | n+1,x0,x1,x2,x3,x4,x5,x6,x7=>(cond (decide (x1 < x0)) (cond (decide (List.length x6+List.length [[0]]≤nat_lit 2147483648)) (cond (decide (List.length x7+List.length [0]≤nat_lit 2147483648)) (LaK n x0 (IntKind.wrap IntKind.i64 (x1+(1:Int))) x2 x3 x4 x5 (x6++[[0]]) (x7++[0])) none) none) (some (x6,x7)))
theorem qLaK:type_of% @LaK.eq_2:=@LaK.eq_2
noncomputable def xLaK (x0 x1:Int) (x2:(List Int)) (x3:(List (List Int))) (x4:(List Int)) (x5:(List Int)) (x6:(List (List Int))) (x7:(List Int)):((List (List Int))×(List Int))→Ex×CS:=fun r=>((.exit 0),{ sl:=[(4,.l 4 0),(5,.l 5 0)],lo:=[(4,[.g 0,.g 1,.g 2]),(5,[.g 3,.g 4,.g 5])],h:=[.row 3 (.int .i64) (x2),.row 22 (.list 3 (.int .i64)) (x3),.row 3 (.int .i64) (x4),.row 3 (.int .i64) (x5),.row 22 (.list 3 (.int .i64)) (r.1:List (List Int)),.row 3 (.int .i64) (r.2:List Int)],n0:=0,w:=false })
theorem bLaK (k:Nat) (cN:CS→Option (Ex×CS)) (cX:Ex→CS→Option (Ex×CS)) (x0 x1:Int) (x2:(List Int)) (x3:(List (List Int))) (x4:(List Int)) (x5:(List Int)) (x6:(List (List Int))) (x7:(List Int)):zq Try.prog (tn91 19) (TM.evF Try.prog (tn91) dOk (k+40)) dOk (k+40) (zc Try.prog (tn0 19) 19 0) 0 0 { sl:=[(4,.l 4 0),(5,.l 5 0),(9,.v (.sc (I4 x0))),(10,.v (.sc (I4 x1)))],lo:=[(4,[.g 0,.g 1,.g 2]),(5,[.g 3,.g 4,.g 5])],h:=[.row 3 (.int .i64) (x2),.row 22 (.list 3 (.int .i64)) (x3),.row 3 (.int .i64) (x4),.row 3 (.int .i64) (x5),.row 22 (.list 3 (.int .i64)) (x6),.row 3 (.int .i64) (x7)],n0:=0,w:=false } cN cX=(cond (decide (x1 < x0)) (cond (decide (List.length x6+List.length [[0]]≤nat_lit 2147483648)) (cond (decide (List.length x7+List.length [0]≤nat_lit 2147483648)) (cN { sl:=[(4,.l 4 0),(5,.l 5 0),(9,.v (.sc (I4 x0))),(10,.v (.sc (I4 (IntKind.wrap IntKind.i64 (x1+(1:Int))))))],lo:=[(4,[.g 0,.g 1,.g 2]),(5,[.g 3,.g 4,.g 5])],h:=[.row 3 (.int .i64) (x2),.row 22 (.list 3 (.int .i64)) (x3),.row 3 (.int .i64) (x4),.row 3 (.int .i64) (x5),.row 22 (.list 3 (.int .i64)) (x6++[[0]]:List (List Int)),.row 3 (.int .i64) (x7++[0]:List Int)],n0:=0,w:=false }) none) none) (cX (.exit 0) { sl:=[(4,.l 4 0),(5,.l 5 0)],lo:=[(4,[.g 0,.g 1,.g 2]),(5,[.g 3,.g 4,.g 5])],h:=[.row 3 (.int .i64) (x2),.row 22 (.list 3 (.int .i64)) (x3),.row 3 (.int .i64) (x4),.row 3 (.int .i64) (x5),.row 22 (.list 3 (.int .i64)) (x6),.row 3 (.int .i64) (x7)],n0:=0,w:=false })):=by kernel_rfl
theorem lLaK (k m:Nat):∀ (n:Nat) (x0 x1:Int) (x2:(List Int)) (x3:(List (List Int))) (x4:(List Int)) (x5:(List Int)) (x6:(List (List Int))) (x7:(List Int)) (r:((List (List Int))×(List Int))),LaK n x0 x1 x2 x3 x4 x5 x6 x7=some r→zM Try.prog (tn91 19) (TM.evF Try.prog (tn91) dOk (k+40)) dOk (k+40) (zc Try.prog (tn0 19) 19 0) 0 0 (n+m) { sl:=[(4,.l 4 0),(5,.l 5 0),(9,.v (.sc (I4 x0))),(10,.v (.sc (I4 x1)))],lo:=[(4,[.g 0,.g 1,.g 2]),(5,[.g 3,.g 4,.g 5])],h:=[.row 3 (.int .i64) (x2),.row 22 (.list 3 (.int .i64)) (x3),.row 3 (.int .i64) (x4),.row 3 (.int .i64) (x5),.row 22 (.list 3 (.int .i64)) (x6),.row 3 (.int .i64) (x7)],n0:=0,w:=false }=some (xLaK x0 x1 x2 x3 x4 x5 x6 x7 r):=by
 intro n
 induction n with
 | zero=>intro _ _ _ _ _ _ _ _ r h;cases h
 | succ n ih=>
  intro x0 x1 x2 x3 x4 x5 x6 x7 r
  rw [show n+1+m=n+m+1 by omega,zp,bLaK,qLaK]
  refine zb ?_ ?_
  refine zb ?_ ?_
  refine zb ?_ ?_
  exact ih _ _ _ _ _ _ _ _ r
  intro h;cases h
  intro h;cases h
  intro h;cases h;rfl
noncomputable def sLaK:TellS:=fun S=>dCS 0 S fun y1 y2 y3=>dSt 4 y1 fun y5 l4=>dL 4 0 y5<|dSt 5 l4 fun y7 l6=>dL 5 0 y7<|dSI 9 .i64 l6 fun x0 l8=>dSI 10 .i64 l8 fun x1 l9=>dE l9<|dLo 4 y2 fun y10 l11=>dC y10 fun y12 l13=>dG 0 y12<|dC l13 fun y14 l15=>dG 1 y14<|dC l15 fun y16 l17=>dG 2 y16<|dE l17<|dLo 5 l11 fun y18 l19=>dC y18 fun y20 l21=>dG 3 y20<|dC l21 fun y22 l23=>dG 4 y22<|dC l23 fun y24 l25=>dG 5 y24<|dE l25<|dE l19<|dHR 3 (.int .i64) y3 fun x2 l26=>dHR 22 (.list 3 (.int .i64)) l26 fun x3 l27=>dHR 3 (.int .i64) l27 fun x4 l28=>dHR 3 (.int .i64) l28 fun x5 l29=>dHR 22 (.list 3 (.int .i64)) l29 fun x6 l30=>dHR 3 (.int .i64) l30 fun x7 l31=>dE l31 <|  some [(ok (LaK FU x0 x1 x2 x3 x4 x5 x6 x7),(.exit 0),{ sl:=[(4,.l 4 0),(5,.l 5 0)],lo:=[(4,[.g 0,.g 1,.g 2]),(5,[.g 3,.g 4,.g 5])],h:=[.row 3 (.int .i64) (x2),.row 22 (.list 3 (.int .i64)) (x3),.row 3 (.int .i64) (x4),.row 3 (.int .i64) (x5),.row 22 (.list 3 (.int .i64)) ((val (LaK FU x0 x1 x2 x3 x4 x5 x6 x7)).1:List (List Int)),.row 3 (.int .i64) ((val (LaK FU x0 x1 x2 x3 x4 x5 x6 x7)).2:List Int)],n0:=0,w:=false })]
theorem wLaK:zB Try.prog dOk base o91 t91 ((19,0),sLaK):=by
 refine ⟨.loop (zc Try.prog (tn0 19) 19 0),0,by kernel_rfl,?_⟩
 intro S alts e S' h10 h2
 have h1:sLaK S=some alts:=h10
 clear h10
 unfold sLaK at h1
 repeat with_reducible first|replace h1:=yc h1;obtain ⟨_,_,_,rfl,h1⟩:=h1|(first|replace h1:=wB h1|replace h1:=ye h1|replace h1:=wL h1|replace h1:=dCq h1|replace h1:=zY h1);obtain ⟨_,_,rfl,h1⟩:=h1|(first|replace h1:=dLq h1|replace h1:=dEq h1|replace h1:=dGq h1);obtain ⟨rfl,h1⟩:=h1
 cases h1
 obtain ⟨hc0,rfl,rfl⟩:=zt h2
 exact ⟨FU+40,(ze rfl).trans (lLaK FU 40 FU _ _ _ _ _ _ _ _ _ (zf hc0))⟩
noncomputable def o92:OrcT:=o91
noncomputable def t92:TellT:=((19,0),sLaK)::t91
noncomputable abbrev tn92:FuncId→TAn:=zh base o92 t92
theorem ok92:TnOk Try.prog tn92 (mkA base) dOk:=by
 have h0:TnOk Try.prog (tn91) (mkA base) dOk:=ok91
 have h1:=zD h0 h0 (p:=((19,0),sLaK)) wLaK
 exact h1
noncomputable def v19 (x0 x1:Int):Option ((List Int)×(List (List Int))×(List Int)):=(cond (ok (LaK FU x1 0 [] [] [] [x0] [] [])) (some ([x0],(val (LaK FU x1 0 [] [] [] [x0] [] [])).1,(val (LaK FU x1 0 [] [] [] [x0] [] [])).2)) none)
theorem ev19 (x0 x1:Int):zo Try.prog (tn92 19) (TM.evF Try.prog (tn92) dOk 40) dOk 40 19 [.sc (I4 x0),.sc (I4 x1)] []=(v19 x0 x1).bind fun r=>some ([.agg [.d 3 (.int .i64) (r.1:List Int),.d 22 (.list 3 (.int .i64)) (r.2.1:List (List Int)),.d 3 (.int .i64) (r.2.2:List Int)]],[]):=by
 refine Eq.trans (b:=(cond (ok (LaK FU x1 0 [] [] [] [x0] [] [])) (some ([.agg [.d 3 (.int .i64) ([x0]:List Int),.d 22 (.list 3 (.int .i64)) ((val (LaK FU x1 0 [] [] [] [x0] [] [])).1:List (List Int)),.d 3 (.int .i64) ((val (LaK FU x1 0 [] [] [] [x0] [] [])).2:List Int)]],[])) none)) (by kernel_rfl) ?_
 unfold v19
 refine za ?_ ?_
 rfl
 rfl
noncomputable def sv19:OrcS:=fun al H=>dC al fun y1 l2=>dS y1 fun y3=>xd .i64 y3 fun x0=>dC l2 fun y4 l5=>dS y4 fun y6=>xd .i64 y6 fun x1=>dE l5<|dE H <|  some [(ok (v19 x0 x1),[.agg [.d 3 (.int .i64) ((val (v19 x0 x1)).1:List Int),.d 22 (.list 3 (.int .i64)) ((val (v19 x0 x1)).2.1:List (List Int)),.d 3 (.int .i64) ((val (v19 x0 x1)).2.2:List Int)]],[])]
theorem wv19:zm Try.prog dOk base o92 t92 (19,sv19):=by
 intro al H q hq0 rs H2 h2
 have hq:sv19 al H=some q:=hq0
 clear hq0
 unfold sv19 at hq
 repeat with_reducible first|replace hq:=dCq hq;obtain ⟨_,_,rfl,hq⟩:=hq|(first|replace hq:=dSq hq|replace hq:=xu hq);obtain ⟨_,rfl,hq⟩:=hq|replace hq:=dEq hq;obtain ⟨rfl,hq⟩:=hq
 cases hq
 obtain ⟨hc0,rfl,rfl⟩:=zg h2
 exact ⟨41,(zu (by kernel_rfl)).trans ((ev19 _ _).trans (zl (zf hc0)))⟩
noncomputable def o93:OrcT:=(19,sv19)::o92
noncomputable def t93:TellT:=t92
noncomputable abbrev tn93:FuncId→TAn:=zh base o93 t93
theorem ok93:TnOk Try.prog tn93 (mkA base) dOk:=by
 have h0:TnOk Try.prog (tn92) (mkA base) dOk:=ok92
 have h1:=zn h0 h0 (p:=(19,sv19)) wv19
 exact h1
noncomputable def Lak:Nat→(List Int)→(List Int)→Int→Option (Bool ⊕ Unit)
 | 0,_,_,_=>none
 | n+1,x0,x1,x2=>(cond (decide (x2 < (x0.length:Int))) (cond (decide (0≤x2)) (cond (decide (x2 < (x1.length:Int))) (cond (List.getD x0 x2.toNat 0 != List.getD x1 x2.toNat 0) (some (.inl (false))) (Lak n x0 x1 (IntKind.wrap IntKind.i64 (x2+(1:Int))))) none) none) (some (.inr ())))
theorem qLak:type_of% @Lak.eq_2:=@Lak.eq_2
noncomputable def xLak (x0:(List Int)) (x1:(List Int)) (x2:Int):(Bool ⊕ Unit)→Ex×CS:=fun r=>match r with | .inl a0=>(.ret,{ sl:=[(4,.v (.sc (.bool (a0))))],lo:=[],h:=[],n0:=0,w:=true }) | .inr b0=>((.exit 0),{ sl:=[],lo:=[],h:=[],n0:=0,w:=false })
theorem bLak (k:Nat) (cN:CS→Option (Ex×CS)) (cX:Ex→CS→Option (Ex×CS)) (x0:(List Int)) (x1:(List Int)) (x2:Int):zq Try.prog (tn93 20) (TM.evF Try.prog (tn93) dOk (k+40)) dOk (k+40) (zc Try.prog (tn0 20) 20 0) 0 0 { sl:=[(0,.v (.sc (.d 3 (.int .i64) x0))),(1,.v (.sc (.d 3 (.int .i64) x1))),(5,.v (.sc (I4 x2)))],lo:=[],h:=[],n0:=0,w:=false } cN cX=(cond (decide (x2 < (x0.length:Int))) (cond (decide (0≤x2)) (cond (decide (x2 < (x0.length:Int))) (cond (decide (0≤x2)) (cond (decide (x2 < (x1.length:Int))) (cond (List.getD x0 x2.toNat 0 != List.getD x1 x2.toNat 0) (cX .ret { sl:=[(4,.v (.sc (.bool (false))))],lo:=[],h:=[],n0:=0,w:=true }) (cN { sl:=[(0,.v (.sc (.d 3 (.int .i64) x0))),(1,.v (.sc (.d 3 (.int .i64) x1))),(5,.v (.sc (I4 (IntKind.wrap IntKind.i64 (x2+(1:Int))))))],lo:=[],h:=[],n0:=0,w:=false })) none) none) none) none) (cX (.exit 0) { sl:=[],lo:=[],h:=[],n0:=0,w:=false })):=by kernel_rfl
theorem lLak (k m:Nat):∀ (n:Nat) (x0:(List Int)) (x1:(List Int)) (x2:Int) (r:(Bool ⊕ Unit)),Lak n x0 x1 x2=some r→zM Try.prog (tn93 20) (TM.evF Try.prog (tn93) dOk (k+40)) dOk (k+40) (zc Try.prog (tn0 20) 20 0) 0 0 (n+m) { sl:=[(0,.v (.sc (.d 3 (.int .i64) x0))),(1,.v (.sc (.d 3 (.int .i64) x1))),(5,.v (.sc (I4 x2)))],lo:=[],h:=[],n0:=0,w:=false }=some (xLak x0 x1 x2 r):=by
 intro n
 induction n with
 | zero=>intro _ _ _ r h;cases h
 | succ n ih=>
  intro x0 x1 x2 r
  rw [show n+1+m=n+m+1 by omega,zp,bLak,qLak]
  cases (decide (x2 < (x0.length:Int))) with
  | true=>
   cases (decide (0≤x2)) with
   | true=>
    cases (decide (x2 < (x1.length:Int))) with
    | true=>
     cases (List.getD x0 x2.toNat 0 != List.getD x1 x2.toNat 0) with
     | true=>
      intro h;cases h;rfl
     | false=>
      exact ih _ _ _ r
    | false=>
     intro h;cases h
   | false=>
    intro h;cases h
  | false=>
   intro h;cases h;rfl
noncomputable def sLak:TellS:=fun S=>dCS 0 S fun y1 y2 y3=>dSs 0 y1 fun y5 l4=>dD 3 (.int .i64) y5 fun x0=>dSs 1 l4 fun y7 l6=>dD 3 (.int .i64) y7 fun x1=>dSI 5 .i64 l6 fun x2 l8=>dE l8<|dE y2<|dE y3 <|  some [(isL (Lak FU x0 x1 x2),.ret,{ sl:=[(4,.v (.sc (.bool ((zN (Lak FU x0 x1 x2))))))],lo:=[],h:=[],n0:=0,w:=true }),(ok (zL (Lak FU x0 x1 x2)),(.exit 0),{ sl:=[],lo:=[],h:=[],n0:=0,w:=false })]
theorem wLak:zB Try.prog dOk base o93 t93 ((20,0),sLak):=by
 refine ⟨.loop (zc Try.prog (tn0 20) 20 0),0,by kernel_rfl,?_⟩
 intro S alts e S' h10 h2
 have h1:sLak S=some alts:=h10
 clear h10
 unfold sLak at h1
 repeat with_reducible first|replace h1:=yc h1;obtain ⟨_,_,_,rfl,h1⟩:=h1|(first|replace h1:=zX h1|replace h1:=ye h1);obtain ⟨_,_,rfl,h1⟩:=h1|replace h1:=dDq h1;obtain ⟨_,rfl,h1⟩:=h1|replace h1:=dEq h1;obtain ⟨rfl,h1⟩:=h1
 cases h1
 rcases yx h2 with ⟨hc0,rfl,rfl⟩ | h2
 · exact ⟨FU+40,(ze rfl).trans (lLak FU 40 FU _ _ _ _ (yS hc0))⟩
 obtain ⟨hc1,rfl,rfl⟩:=zt h2
 exact ⟨FU+40,(ze rfl).trans (lLak FU 40 FU _ _ _ _ (yw (zf hc1)))⟩
noncomputable def o94:OrcT:=o93
noncomputable def t94:TellT:=((20,0),sLak)::t93
noncomputable abbrev tn94:FuncId→TAn:=zh base o94 t94
theorem ok94:TnOk Try.prog tn94 (mkA base) dOk:=by
 have h0:TnOk Try.prog (tn93) (mkA base) dOk:=ok93
 have h1:=zD h0 h0 (p:=((20,0),sLak)) wLak
 exact h1
noncomputable def v20 (x0:(List Int)) (x1:(List Int)):Option Bool:=(cond ((x0.length:Int) != (x1.length:Int)) (some (false)) (cond (isL (Lak FU x0 x1 0)) (some (zN (Lak FU x0 x1 0))) (cond (ok (zL (Lak FU x0 x1 0))) (some (true)) none)))
theorem ev20 (x0:(List Int)) (x1:(List Int)):zo Try.prog (tn94 20) (TM.evF Try.prog (tn94) dOk 40) dOk 40 20 [.sc (.d 3 (.int .i64) x0),.sc (.d 3 (.int .i64) x1)] []=(v20 x0 x1).bind fun r=>some ([.sc (.bool (r))],[]):=by
 refine Eq.trans (b:=(cond ((x0.length:Int) != (x1.length:Int)) (some ([.sc (.bool (false))],[])) (cond (isL (Lak FU x0 x1 0)) (some ([.sc (.bool (zN (Lak FU x0 x1 0)))],[])) (cond (ok (zL (Lak FU x0 x1 0))) (some ([.sc (.bool (true))],[])) none)))) (by kernel_rfl) ?_
 unfold v20
 refine za ?_ ?_
 rfl
 refine za ?_ ?_
 rfl
 refine za ?_ ?_
 rfl
 rfl
noncomputable def sv20:OrcS:=fun al H=>dC al fun y1 l2=>dS y1 fun y3=>dD 3 (.int .i64) y3 fun x0=>dC l2 fun y4 l5=>dS y4 fun y6=>dD 3 (.int .i64) y6 fun x1=>dE l5<|dE H <|  some [(ok (v20 x0 x1),[.sc (.bool ((val (v20 x0 x1))))],[])]
theorem wv20:zm Try.prog dOk base o94 t94 (20,sv20):=by
 intro al H q hq0 rs H2 h2
 have hq:sv20 al H=some q:=hq0
 clear hq0
 unfold sv20 at hq
 repeat with_reducible first|replace hq:=dCq hq;obtain ⟨_,_,rfl,hq⟩:=hq|(first|replace hq:=dSq hq|replace hq:=dDq hq);obtain ⟨_,rfl,hq⟩:=hq|replace hq:=dEq hq;obtain ⟨rfl,hq⟩:=hq
 cases hq
 obtain ⟨hc0,rfl,rfl⟩:=zg h2
 exact ⟨41,(zu (by kernel_rfl)).trans ((ev20 _ _).trans (zl (zf hc0)))⟩
noncomputable def o95:OrcT:=(20,sv20)::o94
noncomputable def t95:TellT:=t94
noncomputable abbrev tn95:FuncId→TAn:=zh base o95 t95
theorem ok95:TnOk Try.prog tn95 (mkA base) dOk:=by
 have h0:TnOk Try.prog (tn94) (mkA base) dOk:=ok94
 have h1:=zn h0 h0 (p:=(20,sv20)) wv20
 exact h1
noncomputable def Lai:Nat→Int→(List (List Int))→(List Int)→Int→(List (List Int))→(List Int)→Int→Option (Bool ⊕ Unit)
 | 0,_,_,_,_,_,_,_=>none
 | n+1,x0,x1,x2,x3,x4,x5,x6=>(cond (decide (x0 < (x1.length:Int))) (cond (decide (0≤x0)) (cond (decide (x0 < (x4.length:Int))) (cond (ok (v20 (List.getD x1 x0.toNat []) (List.getD x4 x0.toNat []))) (cond (!val (v20 (List.getD x1 x0.toNat []) (List.getD x4 x0.toNat []))) (some (.inl (false))) (Lai n (IntKind.wrap IntKind.i64 (x0+(1:Int))) x1 x2 x3 x4 x5 x6)) none) none) none) (some (.inr ())))
theorem qLai:type_of% @Lai.eq_2:=@Lai.eq_2
noncomputable def xLai (x0:Int) (x1:(List (List Int))) (x2:(List Int)) (x3:Int) (x4:(List (List Int))) (x5:(List Int)) (x6:Int):(Bool ⊕ Unit)→Ex×CS:=fun r=>match r with | .inl a0=>(.ret,{ sl:=[(4,.v (.sc (.bool (a0))))],lo:=[],h:=[],n0:=0,w:=true }) | .inr b0=>((.exit 0),{ sl:=[(2,.l 2 0),(3,.l 3 0),(29,.l 2 0)],lo:=[],h:=[],n0:=0,w:=false })
theorem bLai (k:Nat) (cN:CS→Option (Ex×CS)) (cX:Ex→CS→Option (Ex×CS)) (x0:Int) (x1:(List (List Int))) (x2:(List Int)) (x3:Int) (x4:(List (List Int))) (x5:(List Int)) (x6:Int):zq Try.prog (tn95 15) (TM.evF Try.prog (tn95) dOk (k+40)) dOk (k+40) (zc Try.prog (tn0 15) 15 0) 0 0 { sl:=[(2,.l 2 0),(3,.l 3 0),(5,.v (.sc (I4 x0)))],lo:=[(2,[.d 22 (.list 3 (.int .i64)) (x1),.d 3 (.int .i64) (x2),I4 (x3)]),(3,[.d 22 (.list 3 (.int .i64)) (x4),.d 3 (.int .i64) (x5),I4 (x6)])],h:=[],n0:=0,w:=false } cN cX=(cond (decide (x0 < (x1.length:Int))) (cond (decide (0≤x0)) (cond (decide (x0 < (x1.length:Int))) (cond (decide (0≤x0)) (cond (decide (x0 < (x4.length:Int))) (cond (ok (v20 (List.getD x1 x0.toNat []) (List.getD x4 x0.toNat []))) (cond (!val (v20 (List.getD x1 x0.toNat []) (List.getD x4 x0.toNat []))) (cX .ret { sl:=[(4,.v (.sc (.bool (false))))],lo:=[],h:=[],n0:=0,w:=true }) (cN { sl:=[(2,.l 2 0),(3,.l 3 0),(5,.v (.sc (I4 (IntKind.wrap IntKind.i64 (x0+(1:Int))))))],lo:=[(2,[.d 22 (.list 3 (.int .i64)) (x1),.d 3 (.int .i64) (x2),I4 (x3)]),(3,[.d 22 (.list 3 (.int .i64)) (x4),.d 3 (.int .i64) (x5),I4 (x6)])],h:=[],n0:=0,w:=false })) none) none) none) none) none) (cX (.exit 0) { sl:=[(2,.l 2 0),(3,.l 3 0),(29,.l 2 0)],lo:=[],h:=[],n0:=0,w:=false })):=by kernel_rfl
theorem lLai (k m:Nat):∀ (n:Nat) (x0:Int) (x1:(List (List Int))) (x2:(List Int)) (x3:Int) (x4:(List (List Int))) (x5:(List Int)) (x6:Int) (r:(Bool ⊕ Unit)),Lai n x0 x1 x2 x3 x4 x5 x6=some r→zM Try.prog (tn95 15) (TM.evF Try.prog (tn95) dOk (k+40)) dOk (k+40) (zc Try.prog (tn0 15) 15 0) 0 0 (n+m) { sl:=[(2,.l 2 0),(3,.l 3 0),(5,.v (.sc (I4 x0)))],lo:=[(2,[.d 22 (.list 3 (.int .i64)) (x1),.d 3 (.int .i64) (x2),I4 (x3)]),(3,[.d 22 (.list 3 (.int .i64)) (x4),.d 3 (.int .i64) (x5),I4 (x6)])],h:=[],n0:=0,w:=false }=some (xLai x0 x1 x2 x3 x4 x5 x6 r):=by
 intro n
 induction n with
 | zero=>intro _ _ _ _ _ _ _ r h;cases h
 | succ n ih=>
  intro x0 x1 x2 x3 x4 x5 x6 r
  rw [show n+1+m=n+m+1 by omega,zp,bLai,qLai]
  cases (decide (x0 < (x1.length:Int))) with
  | true=>
   cases (decide (0≤x0)) with
   | true=>
    cases (decide (x0 < (x4.length:Int))) with
    | true=>
     cases (ok (v20 (List.getD x1 x0.toNat []) (List.getD x4 x0.toNat []))) with
     | true=>
      cases (!val (v20 (List.getD x1 x0.toNat []) (List.getD x4 x0.toNat []))) with
      | true=>
       intro h;cases h;rfl
      | false=>
       exact ih _ _ _ _ _ _ _ r
     | false=>
      intro h;cases h
    | false=>
     intro h;cases h
   | false=>
    intro h;cases h
  | false=>
   intro h;cases h;rfl
noncomputable def sLai:TellS:=fun S=>dCS 0 S fun y1 y2 y3=>dSt 2 y1 fun y5 l4=>dL 2 0 y5<|dSt 3 l4 fun y7 l6=>dL 3 0 y7<|dSI 5 .i64 l6 fun x0 l8=>dE l8<|dLo 2 y2 fun y9 l10=>dC y9 fun y11 l12=>dD 22 (.list 3 (.int .i64)) y11 fun x1=>dC l12 fun y13 l14=>dD 3 (.int .i64) y13 fun x2=>dK l14 fun x3 l15=>dE l15<|dLo 3 l10 fun y16 l17=>dC y16 fun y18 l19=>dD 22 (.list 3 (.int .i64)) y18 fun x4=>dC l19 fun y20 l21=>dD 3 (.int .i64) y20 fun x5=>dK l21 fun x6 l22=>dE l22<|dE l17<|dE y3 <|  some [(isL (Lai FU x0 x1 x2 x3 x4 x5 x6),.ret,{ sl:=[(4,.v (.sc (.bool ((zN (Lai FU x0 x1 x2 x3 x4 x5 x6))))))],lo:=[],h:=[],n0:=0,w:=true }),(ok (zL (Lai FU x0 x1 x2 x3 x4 x5 x6)),(.exit 0),{ sl:=[(2,.l 2 0),(3,.l 3 0),(29,.l 2 0)],lo:=[],h:=[],n0:=0,w:=false })]
theorem wLai:zB Try.prog dOk base o95 t95 ((15,0),sLai):=by
 refine ⟨.loop (zc Try.prog (tn0 15) 15 0),0,by kernel_rfl,?_⟩
 intro S alts e S' h10 h2
 have h1:sLai S=some alts:=h10
 clear h10
 unfold sLai at h1
 repeat with_reducible first|replace h1:=yc h1;obtain ⟨_,_,_,rfl,h1⟩:=h1|(first|replace h1:=wB h1|replace h1:=ye h1|replace h1:=wL h1|replace h1:=dCq h1|replace h1:=zJ h1);obtain ⟨_,_,rfl,h1⟩:=h1|(first|replace h1:=dLq h1|replace h1:=dEq h1);obtain ⟨rfl,h1⟩:=h1|replace h1:=dDq h1;obtain ⟨_,rfl,h1⟩:=h1
 cases h1
 rcases yx h2 with ⟨hc0,rfl,rfl⟩ | h2
 · exact ⟨FU+40,(ze rfl).trans (lLai FU 40 FU _ _ _ _ _ _ _ _ (yS hc0))⟩
 obtain ⟨hc1,rfl,rfl⟩:=zt h2
 exact ⟨FU+40,(ze rfl).trans (lLai FU 40 FU _ _ _ _ _ _ _ _ (yw (zf hc1)))⟩
noncomputable def o96:OrcT:=o95
noncomputable def t96:TellT:=((15,0),sLai)::t95
noncomputable abbrev tn96:FuncId→TAn:=zh base o96 t96
theorem ok96:TnOk Try.prog tn96 (mkA base) dOk:=by
 have h0:TnOk Try.prog (tn95) (mkA base) dOk:=ok95
 have h1:=zD h0 h0 (p:=((15,0),sLai)) wLai
 exact h1
noncomputable def v15 (x0:(List (List Int))) (x1:(List Int)) (x2:Int) (x3:(List (List Int))) (x4:(List Int)) (x5:Int):Option Bool:=(cond (x2 != x5) (some (false)) (cond ((x0.length:Int) != (x3.length:Int)) (some (false)) (cond (ok (v20 x1 x4)) (cond (!val (v20 x1 x4)) (some (false)) (cond (isL (Lai FU 0 x0 x1 x2 x3 x4 x5)) (some (zN (Lai FU 0 x0 x1 x2 x3 x4 x5))) (cond (ok (zL (Lai FU 0 x0 x1 x2 x3 x4 x5))) (some (true)) none))) none)))
theorem ev15 (x0:(List (List Int))) (x1:(List Int)) (x2:Int) (x3:(List (List Int))) (x4:(List Int)) (x5:Int):zo Try.prog (tn96 15) (TM.evF Try.prog (tn96) dOk 40) dOk 40 15 [.agg [.d 22 (.list 3 (.int .i64)) (x0),.d 3 (.int .i64) (x1),I4 (x2)],.agg [.d 22 (.list 3 (.int .i64)) (x3),.d 3 (.int .i64) (x4),I4 (x5)]] []=(v15 x0 x1 x2 x3 x4 x5).bind fun r=>some ([.sc (.bool (r))],[]):=by
 refine Eq.trans (b:=(cond (x2 != x5) (some ([.sc (.bool (false))],[])) (cond ((x0.length:Int) != (x3.length:Int)) (some ([.sc (.bool (false))],[])) (cond (ok (v20 x1 x4)) (cond (!val (v20 x1 x4)) (some ([.sc (.bool (false))],[])) (cond (isL (Lai FU 0 x0 x1 x2 x3 x4 x5)) (some ([.sc (.bool (zN (Lai FU 0 x0 x1 x2 x3 x4 x5)))],[])) (cond (ok (zL (Lai FU 0 x0 x1 x2 x3 x4 x5))) (some ([.sc (.bool (true))],[])) none))) none)))) (by kernel_rfl) ?_
 unfold v15
 refine za ?_ ?_
 rfl
 refine za ?_ ?_
 rfl
 refine za ?_ ?_
 refine za ?_ ?_
 rfl
 refine za ?_ ?_
 rfl
 refine za ?_ ?_
 rfl
 rfl
 rfl
noncomputable def sv15:OrcS:=fun al H=>dC al fun y1 l2=>dA y1 fun y3=>dC y3 fun y4 l5=>dD 22 (.list 3 (.int .i64)) y4 fun x0=>dC l5 fun y6 l7=>dD 3 (.int .i64) y6 fun x1=>dK l7 fun x2 l8=>dE l8<|dC l2 fun y9 l10=>dA y9 fun y11=>dC y11 fun y12 l13=>dD 22 (.list 3 (.int .i64)) y12 fun x3=>dC l13 fun y14 l15=>dD 3 (.int .i64) y14 fun x4=>dK l15 fun x5 l16=>dE l16<|dE l10<|dE H <|  some [(ok (v15 x0 x1 x2 x3 x4 x5),[.sc (.bool ((val (v15 x0 x1 x2 x3 x4 x5))))],[])]
theorem wv15:zm Try.prog dOk base o96 t96 (15,sv15):=by
 intro al H q hq0 rs H2 h2
 have hq:sv15 al H=some q:=hq0
 clear hq0
 unfold sv15 at hq
 repeat with_reducible first|(first|replace hq:=dCq hq|replace hq:=zJ hq);obtain ⟨_,_,rfl,hq⟩:=hq|(first|replace hq:=dAq hq|replace hq:=dDq hq);obtain ⟨_,rfl,hq⟩:=hq|replace hq:=dEq hq;obtain ⟨rfl,hq⟩:=hq
 cases hq
 obtain ⟨hc0,rfl,rfl⟩:=zg h2
 exact ⟨41,(zu (by kernel_rfl)).trans ((ev15 _ _ _ _ _ _).trans (zl (zf hc0)))⟩
noncomputable def o97:OrcT:=(15,sv15)::o96
noncomputable def t97:TellT:=t96
noncomputable abbrev tn97:FuncId→TAn:=zh base o97 t97
theorem ok97:TnOk Try.prog tn97 (mkA base) dOk:=by
 have h0:TnOk Try.prog (tn96) (mkA base) dOk:=ok96
 have h1:=zn h0 h0 (p:=(15,sv15)) wv15
 exact h1
noncomputable def v11:Option Bool:=(some (true))
theorem ev11:zo Try.prog (tn97 11) (TM.evF Try.prog (tn97) dOk 40) dOk 40 11 [] []=(v11).bind fun r=>some ([.sc (.bool (r))],[]):=by
 refine Eq.trans (b:=(some ([.sc (.bool (true))],[]))) (by kernel_rfl) ?_
 unfold v11
 rfl
noncomputable def sv11:OrcS:=fun al H=>dE al<|dE H <|  some [(ok (v11),[.sc (.bool ((val (v11))))],[])]
theorem wv11:zm Try.prog dOk base o97 t97 (11,sv11):=by
 intro al H q hq0 rs H2 h2
 have hq:sv11 al H=some q:=hq0
 clear hq0
 unfold sv11 at hq
 obtain ⟨rfl,g1⟩:=dEq hq
 obtain ⟨rfl,g2⟩:=dEq g1
 cases g2
 obtain ⟨hc0,rfl,rfl⟩:=zg h2
 exact ⟨41,(zu (by kernel_rfl)).trans ((ev11 ).trans (zl (zf hc0)))⟩
noncomputable def o98:OrcT:=(11,sv11)::o97
noncomputable def t98:TellT:=t97
noncomputable abbrev tn98:FuncId→TAn:=zh base o98 t98
theorem ok98:TnOk Try.prog tn98 (mkA base) dOk:=by
 have h0:TnOk Try.prog (tn97) (mkA base) dOk:=ok97
 have h1:=zn h0 h0 (p:=(11,sv11)) wv11
 exact h1
noncomputable def v22 (x0:(List Int)) (x1:(List (List (List Int)))) (x2:(List (List Int))) (x3:(List Int)) (x4:Int):Option Bool:=(cond (ok (v21 x0 x1 x2 x3)) (cond ((val (v21 x0 x1 x2 x3)).2==0) (cond (ok (v39 x4 (val (v21 x0 x1 x2 x3)).1 (1000000000000:Int))) (some (val (v39 x4 (val (v21 x0 x1 x2 x3)).1 (1000000000000:Int)))) none) (some (false))) none)
theorem ev22 (x0:(List Int)) (x1:(List (List (List Int)))) (x2:(List (List Int))) (x3:(List Int)) (x4:Int):zo Try.prog (tn98 22) (TM.evF Try.prog (tn98) dOk 40) dOk 40 22 [.agg [.d 3 (.int .i64) (x0),.d 23 (.list 22 (.list 3 (.int .i64))) (x1)],.agg [.d 22 (.list 3 (.int .i64)) (x2),.d 3 (.int .i64) (x3),I4 (x4)]] []=(v22 x0 x1 x2 x3 x4).bind fun r=>some ([.sc (.bool (r))],[]):=by
 refine Eq.trans (b:=(cond (ok (v21 x0 x1 x2 x3)) (cond ((val (v21 x0 x1 x2 x3)).2==0) (cond (ok (v39 x4 (val (v21 x0 x1 x2 x3)).1 (1000000000000:Int))) (some ([.sc (.bool (val (v39 x4 (val (v21 x0 x1 x2 x3)).1 (1000000000000:Int))))],[])) none) (some ([.sc (.bool (false))],[]))) none)) (by kernel_rfl) ?_
 unfold v22
 refine za ?_ ?_
 refine za ?_ ?_
 refine za ?_ ?_
 rfl
 rfl
 rfl
 rfl
noncomputable def sv22:OrcS:=fun al H=>dC al fun y1 l2=>dA y1 fun y3=>dC y3 fun y4 l5=>dD 3 (.int .i64) y4 fun x0=>dC l5 fun y6 l7=>dD 23 (.list 22 (.list 3 (.int .i64))) y6 fun x1=>dE l7<|dC l2 fun y8 l9=>dA y8 fun y10=>dC y10 fun y11 l12=>dD 22 (.list 3 (.int .i64)) y11 fun x2=>dC l12 fun y13 l14=>dD 3 (.int .i64) y13 fun x3=>dK l14 fun x4 l15=>dE l15<|dE l9<|dE H <|  some [(ok (v22 x0 x1 x2 x3 x4),[.sc (.bool ((val (v22 x0 x1 x2 x3 x4))))],[])]
theorem wv22:zm Try.prog dOk base o98 t98 (22,sv22):=by
 intro al H q hq0 rs H2 h2
 have hq:sv22 al H=some q:=hq0
 clear hq0
 unfold sv22 at hq
 repeat with_reducible first|(first|replace hq:=dCq hq|replace hq:=zJ hq);obtain ⟨_,_,rfl,hq⟩:=hq|(first|replace hq:=dAq hq|replace hq:=dDq hq);obtain ⟨_,rfl,hq⟩:=hq|replace hq:=dEq hq;obtain ⟨rfl,hq⟩:=hq
 cases hq
 obtain ⟨hc0,rfl,rfl⟩:=zg h2
 exact ⟨41,(zu (by kernel_rfl)).trans ((ev22 _ _ _ _ _).trans (zl (zf hc0)))⟩
noncomputable def o99:OrcT:=(22,sv22)::o98
noncomputable def t99:TellT:=t98
noncomputable abbrev tn99:FuncId→TAn:=zh base o99 t99
theorem ok99:TnOk Try.prog tn99 (mkA base) dOk:=by
 have h0:TnOk Try.prog (tn98) (mkA base) dOk:=ok98
 have h1:=zn h0 h0 (p:=(22,sv22)) wv22
 exact h1
noncomputable def LaG:Nat→Int→(List Int)→(List (List Int))→(List Int)→(List Int)→(List Int)→(List (List (List Int)))→(List (List (List Int)))→Option (List (List (List Int)))
 | 0,_,_,_,_,_,_,_,_=>none
 | n+1,x0,x1,x2,x3,x4,x5,x6,x7=>(cond (decide (x0 < (x2.length:Int))) (cond (decide (0≤x0)) (cond (decide (List.length x7+List.length [[List.getD x2 x0.toNat []]]≤nat_lit 2147483648)) (LaG n (IntKind.wrap IntKind.i64 (x0+(1:Int))) x1 x2 x3 x4 x5 x6 (x7++[[List.getD x2 x0.toNat []]])) none) none) (some x7))
theorem qLaG:type_of% @LaG.eq_2:=@LaG.eq_2
noncomputable def xLaG (x0:Int) (x1:(List Int)) (x2:(List (List Int))) (x3:(List Int)) (x4:(List Int)) (x5:(List Int)) (x6:(List (List (List Int)))) (x7:(List (List (List Int)))):(List (List (List Int)))→Ex×CS:=fun r=>((.exit 0),{ sl:=[(1,.l 1 0),(2,.l 2 0),(3,.l 3 0),(9,.l 1 1)],lo:=[(2,[.g 0,.g 1]),(3,[.d 3 (.int .i64) (x4),.g 2])],h:=[.row 3 (.int .i64) (x5),.row 23 (.list 22 (.list 3 (.int .i64))) (x6),.row 23 (.list 22 (.list 3 (.int .i64))) (r:List (List (List Int)))],n0:=0,w:=false })
theorem bLaG (k:Nat) (cN:CS→Option (Ex×CS)) (cX:Ex→CS→Option (Ex×CS)) (x0:Int) (x1:(List Int)) (x2:(List (List Int))) (x3:(List Int)) (x4:(List Int)) (x5:(List Int)) (x6:(List (List (List Int)))) (x7:(List (List (List Int)))):zq Try.prog (tn99 17) (TM.evF Try.prog (tn99) dOk (k+40)) dOk (k+40) (zc Try.prog (tn0 17) 17 0) 0 0 { sl:=[(1,.l 1 0),(2,.l 2 0),(3,.l 3 0),(4,.v (.sc (I4 x0)))],lo:=[(1,[.d 3 (.int .i64) (x1),.d 22 (.list 3 (.int .i64)) (x2),.d 3 (.int .i64) (x3)]),(2,[.g 0,.g 1]),(3,[.d 3 (.int .i64) (x4),.g 2])],h:=[.row 3 (.int .i64) (x5),.row 23 (.list 22 (.list 3 (.int .i64))) (x6),.row 23 (.list 22 (.list 3 (.int .i64))) (x7)],n0:=0,w:=false } cN cX=(cond (decide (x0 < (x2.length:Int))) (cond (decide (0≤x0)) (cond (decide (x0 < (x2.length:Int))) (cond (decide (List.length x7+List.length [[List.getD x2 x0.toNat []]]≤nat_lit 2147483648)) (cN { sl:=[(1,.l 1 0),(2,.l 2 0),(3,.l 3 0),(4,.v (.sc (I4 (IntKind.wrap IntKind.i64 (x0+(1:Int))))))],lo:=[(1,[.d 3 (.int .i64) (x1),.d 22 (.list 3 (.int .i64)) (x2),.d 3 (.int .i64) (x3)]),(2,[.g 0,.g 1]),(3,[.d 3 (.int .i64) (x4),.g 2])],h:=[.row 3 (.int .i64) (x5),.row 23 (.list 22 (.list 3 (.int .i64))) (x6),.row 23 (.list 22 (.list 3 (.int .i64))) (x7++[[List.getD x2 x0.toNat []]]:List (List (List Int)))],n0:=0,w:=false }) none) none) none) (cX (.exit 0) { sl:=[(1,.l 1 0),(2,.l 2 0),(3,.l 3 0),(9,.l 1 1)],lo:=[(2,[.g 0,.g 1]),(3,[.d 3 (.int .i64) (x4),.g 2])],h:=[.row 3 (.int .i64) (x5),.row 23 (.list 22 (.list 3 (.int .i64))) (x6),.row 23 (.list 22 (.list 3 (.int .i64))) (x7)],n0:=0,w:=false })):=by kernel_rfl
theorem lLaG (k m:Nat):∀ (n:Nat) (x0:Int) (x1:(List Int)) (x2:(List (List Int))) (x3:(List Int)) (x4:(List Int)) (x5:(List Int)) (x6:(List (List (List Int)))) (x7:(List (List (List Int)))) (r:(List (List (List Int)))),LaG n x0 x1 x2 x3 x4 x5 x6 x7=some r→zM Try.prog (tn99 17) (TM.evF Try.prog (tn99) dOk (k+40)) dOk (k+40) (zc Try.prog (tn0 17) 17 0) 0 0 (n+m) { sl:=[(1,.l 1 0),(2,.l 2 0),(3,.l 3 0),(4,.v (.sc (I4 x0)))],lo:=[(1,[.d 3 (.int .i64) (x1),.d 22 (.list 3 (.int .i64)) (x2),.d 3 (.int .i64) (x3)]),(2,[.g 0,.g 1]),(3,[.d 3 (.int .i64) (x4),.g 2])],h:=[.row 3 (.int .i64) (x5),.row 23 (.list 22 (.list 3 (.int .i64))) (x6),.row 23 (.list 22 (.list 3 (.int .i64))) (x7)],n0:=0,w:=false }=some (xLaG x0 x1 x2 x3 x4 x5 x6 x7 r):=by
 intro n
 induction n with
 | zero=>intro _ _ _ _ _ _ _ _ r h;cases h
 | succ n ih=>
  intro x0 x1 x2 x3 x4 x5 x6 x7 r
  rw [show n+1+m=n+m+1 by omega,zp,bLaG,qLaG]
  cases (decide (x0 < (x2.length:Int))) with
  | true=>
   cases (decide (0≤x0)) with
   | true=>
    cases (decide (List.length x7+List.length [[List.getD x2 x0.toNat []]]≤nat_lit 2147483648)) with
    | true=>
     exact ih _ _ _ _ _ _ _ _ r
    | false=>
     intro h;cases h
   | false=>
    intro h;cases h
  | false=>
   intro h;cases h;rfl
noncomputable def sLaG:TellS:=fun S=>dCS 0 S fun y1 y2 y3=>dSt 1 y1 fun y5 l4=>dL 1 0 y5<|dSt 2 l4 fun y7 l6=>dL 2 0 y7<|dSt 3 l6 fun y9 l8=>dL 3 0 y9<|dSI 4 .i64 l8 fun x0 l10=>dE l10<|dLo 1 y2 fun y11 l12=>dC y11 fun y13 l14=>dD 3 (.int .i64) y13 fun x1=>dC l14 fun y15 l16=>dD 22 (.list 3 (.int .i64)) y15 fun x2=>dC l16 fun y17 l18=>dD 3 (.int .i64) y17 fun x3=>dE l18<|dLo 2 l12 fun y19 l20=>dC y19 fun y21 l22=>dG 0 y21<|dC l22 fun y23 l24=>dG 1 y23<|dE l24<|dLo 3 l20 fun y25 l26=>dC y25 fun y27 l28=>dD 3 (.int .i64) y27 fun x4=>dC l28 fun y29 l30=>dG 2 y29<|dE l30<|dE l26<|dHR 3 (.int .i64) y3 fun x5 l31=>dHR 23 (.list 22 (.list 3 (.int .i64))) l31 fun x6 l32=>dHR 23 (.list 22 (.list 3 (.int .i64))) l32 fun x7 l33=>dE l33 <|  some [(ok (LaG FU x0 x1 x2 x3 x4 x5 x6 x7),(.exit 0),{ sl:=[(1,.l 1 0),(2,.l 2 0),(3,.l 3 0),(9,.l 1 1)],lo:=[(2,[.g 0,.g 1]),(3,[.d 3 (.int .i64) (x4),.g 2])],h:=[.row 3 (.int .i64) (x5),.row 23 (.list 22 (.list 3 (.int .i64))) (x6),.row 23 (.list 22 (.list 3 (.int .i64))) ((val (LaG FU x0 x1 x2 x3 x4 x5 x6 x7)):List (List (List Int)))],n0:=0,w:=false })]
theorem wLaG:zB Try.prog dOk base o99 t99 ((17,0),sLaG):=by
 refine ⟨.loop (zc Try.prog (tn0 17) 17 0),0,by kernel_rfl,?_⟩
 intro S alts e S' h10 h2
 have h1:sLaG S=some alts:=h10
 clear h10
 unfold sLaG at h1
 repeat with_reducible first|replace h1:=yc h1;obtain ⟨_,_,_,rfl,h1⟩:=h1|(first|replace h1:=wB h1|replace h1:=ye h1|replace h1:=wL h1|replace h1:=dCq h1|replace h1:=zY h1);obtain ⟨_,_,rfl,h1⟩:=h1|(first|replace h1:=dLq h1|replace h1:=dEq h1|replace h1:=dGq h1);obtain ⟨rfl,h1⟩:=h1|replace h1:=dDq h1;obtain ⟨_,rfl,h1⟩:=h1
 cases h1
 obtain ⟨hc0,rfl,rfl⟩:=zt h2
 exact ⟨FU+40,(ze rfl).trans (lLaG FU 40 FU _ _ _ _ _ _ _ _ _ (zf hc0))⟩
noncomputable def o100:OrcT:=o99
noncomputable def t100:TellT:=((17,0),sLaG)::t99
noncomputable abbrev tn100:FuncId→TAn:=zh base o100 t100
theorem ok100:TnOk Try.prog tn100 (mkA base) dOk:=by
 have h0:TnOk Try.prog (tn99) (mkA base) dOk:=ok99
 have h1:=zD h0 h0 (p:=((17,0),sLaG)) wLaG
 exact h1
noncomputable def v17 (x0:(List Int)) (x1:(List (List Int))) (x2:(List Int)):Option (List (List (List Int))):=(cond (ok (LaG FU 0 x0 x1 x2 x0 [] [] [])) (some (val (LaG FU 0 x0 x1 x2 x0 [] [] []))) none)
theorem ev17 (x0:(List Int)) (x1:(List (List Int))) (x2:(List Int)):zo Try.prog (tn100 17) (TM.evF Try.prog (tn100) dOk 40) dOk 40 17 [.agg [.d 3 (.int .i64) (x0),.d 22 (.list 3 (.int .i64)) (x1),.d 3 (.int .i64) (x2)]] []=(v17 x0 x1 x2).bind fun r=>some ([.agg [.d 3 (.int .i64) (x0),.d 23 (.list 22 (.list 3 (.int .i64))) (r:List (List (List Int)))]],[]):=by
 refine Eq.trans (b:=(cond (ok (LaG FU 0 x0 x1 x2 x0 [] [] [])) (some ([.agg [.d 3 (.int .i64) (x0),.d 23 (.list 22 (.list 3 (.int .i64))) (val (LaG FU 0 x0 x1 x2 x0 [] [] []):List (List (List Int)))]],[])) none)) (by kernel_rfl) ?_
 unfold v17
 refine za ?_ ?_
 rfl
 rfl
noncomputable def sv17:OrcS:=fun al H=>dC al fun y1 l2=>dA y1 fun y3=>dC y3 fun y4 l5=>dD 3 (.int .i64) y4 fun x0=>dC l5 fun y6 l7=>dD 22 (.list 3 (.int .i64)) y6 fun x1=>dC l7 fun y8 l9=>dD 3 (.int .i64) y8 fun x2=>dE l9<|dE l2<|dE H <|  some [(ok (v17 x0 x1 x2),[.agg [.d 3 (.int .i64) (x0),.d 23 (.list 22 (.list 3 (.int .i64))) ((val (v17 x0 x1 x2)):List (List (List Int)))]],[])]
theorem wv17:zm Try.prog dOk base o100 t100 (17,sv17):=by
 intro al H q hq0 rs H2 h2
 have hq:sv17 al H=some q:=hq0
 clear hq0
 unfold sv17 at hq
 repeat with_reducible first|replace hq:=dCq hq;obtain ⟨_,_,rfl,hq⟩:=hq|(first|replace hq:=dAq hq|replace hq:=dDq hq);obtain ⟨_,rfl,hq⟩:=hq|replace hq:=dEq hq;obtain ⟨rfl,hq⟩:=hq
 cases hq
 obtain ⟨hc0,rfl,rfl⟩:=zg h2
 exact ⟨41,(zu (by kernel_rfl)).trans ((ev17 _ _ _).trans (zl (zf hc0)))⟩
noncomputable def o101:OrcT:=(17,sv17)::o100
noncomputable def t101:TellT:=t100
noncomputable abbrev tn101:FuncId→TAn:=zh base o101 t101
theorem ok101:TnOk Try.prog tn101 (mkA base) dOk:=by
 have h0:TnOk Try.prog (tn100) (mkA base) dOk:=ok100
 have h1:=zn h0 h0 (p:=(17,sv17)) wv17
 exact h1
noncomputable def LaN (x0:Bool) (x1:(List Int)) (x2:(List (List Int))) (x3:(List Int)) (x4:(List (List Int))) (x5:(List Int)) (x6:Int) (x7:(List (List Int))) (x8:(List Int)) (x9:Int):Option Bool:=(cond (ok (v17 x1 x2 x3)) (cond (ok (v21 x1 (val (v17 x1 x2 x3)) x4 x5)) (cond x0 (cond (ok (v22 x1 (val (v17 x1 x2 x3)) x4 x5 x6)) (cond (val (v22 x1 (val (v17 x1 x2 x3)) x4 x5 x6)) (cond (ok (v22 x1 (val (v17 x1 x2 x3)) x7 x8 x9)) (cond (!val (v22 x1 (val (v17 x1 x2 x3)) x7 x8 x9)) (cond ((val (v21 x1 (val (v17 x1 x2 x3)) x4 x5)).2==0) (some ((val (v21 x1 (val (v17 x1 x2 x3)) x4 x5)).1==x6)) (some (false))) (some (false))) none) (some (false))) none) (some (false))) none) none)
noncomputable def xLaN (x0:Bool) (x1:(List Int)) (x2:(List (List Int))) (x3:(List Int)) (x4:(List (List Int))) (x5:(List Int)) (x6:Int) (x7:(List (List Int))) (x8:(List Int)) (x9:Int):Bool→Ex×CS:=fun r=>(.ret,{ sl:=[(4,.v (.sc (.bool (r))))],lo:=[],h:=[],n0:=0,w:=true })
theorem bLaN (k:Nat) (cX:Ex→CS→Option (Ex×CS)) (x0:Bool) (x1:(List Int)) (x2:(List (List Int))) (x3:(List Int)) (x4:(List (List Int))) (x5:(List Int)) (x6:Int) (x7:(List (List Int))) (x8:(List Int)) (x9:Int):WE Try.prog (tn101 10) (TM.evF Try.prog (tn101) dOk (k+40)) dOk (k+40) (zc Try.prog (tn0 10) 10 76) 0 76 { sl:=[(2,.l 2 0),(5,.v (.sc (.bool x0))),(6,.l 6 0),(8,.l 8 0)],lo:=[(2,[.d 3 (.int .i64) (x1),.d 22 (.list 3 (.int .i64)) (x2),.d 3 (.int .i64) (x3)]),(6,[.d 22 (.list 3 (.int .i64)) (x4),.d 3 (.int .i64) (x5),I4 (x6)]),(8,[.d 22 (.list 3 (.int .i64)) (x7),.d 3 (.int .i64) (x8),I4 (x9)])],h:=[],n0:=0,w:=false } cX=(cond (ok (v17 x1 x2 x3)) (cond (ok (v21 x1 (val (v17 x1 x2 x3)) x4 x5)) (cond x0 (cond (ok (v17 x1 x2 x3)) (cond (ok (v22 x1 (val (v17 x1 x2 x3)) x4 x5 x6)) (cond (val (v22 x1 (val (v17 x1 x2 x3)) x4 x5 x6)) (cond (ok (v17 x1 x2 x3)) (cond (ok (v22 x1 (val (v17 x1 x2 x3)) x7 x8 x9)) (cond (!val (v22 x1 (val (v17 x1 x2 x3)) x7 x8 x9)) (cond ((val (v21 x1 (val (v17 x1 x2 x3)) x4 x5)).2==0) (cX .ret { sl:=[(4,.v (.sc (.bool ((val (v21 x1 (val (v17 x1 x2 x3)) x4 x5)).1==x6))))],lo:=[],h:=[],n0:=0,w:=true }) (cX .ret { sl:=[(4,.v (.sc (.bool (false))))],lo:=[],h:=[],n0:=0,w:=true })) (cX .ret { sl:=[(4,.v (.sc (.bool (false))))],lo:=[],h:=[],n0:=0,w:=true })) none) none) (cX .ret { sl:=[(4,.v (.sc (.bool (false))))],lo:=[],h:=[],n0:=0,w:=true })) none) none) (cX .ret { sl:=[(4,.v (.sc (.bool (false))))],lo:=[],h:=[],n0:=0,w:=true })) none) none):=by kernel_rfl
theorem lLaN (k:Nat) (x0:Bool) (x1:(List Int)) (x2:(List (List Int))) (x3:(List Int)) (x4:(List (List Int))) (x5:(List Int)) (x6:Int) (x7:(List (List Int))) (x8:(List Int)) (x9:Int) (r:Bool):LaN x0 x1 x2 x3 x4 x5 x6 x7 x8 x9=some r→WE Try.prog (tn101 10) (TM.evF Try.prog (tn101) dOk (k+40)) dOk (k+40) (zc Try.prog (tn0 10) 10 76) 0 76 { sl:=[(2,.l 2 0),(5,.v (.sc (.bool x0))),(6,.l 6 0),(8,.l 8 0)],lo:=[(2,[.d 3 (.int .i64) (x1),.d 22 (.list 3 (.int .i64)) (x2),.d 3 (.int .i64) (x3)]),(6,[.d 22 (.list 3 (.int .i64)) (x4),.d 3 (.int .i64) (x5),I4 (x6)]),(8,[.d 22 (.list 3 (.int .i64)) (x7),.d 3 (.int .i64) (x8),I4 (x9)])],h:=[],n0:=0,w:=false } (fun e s=>some (e,s))=some (xLaN x0 x1 x2 x3 x4 x5 x6 x7 x8 x9 r):=by
 rw [bLaN]
 unfold LaN
 cases (ok (v17 x1 x2 x3)) with
 | true=>
  cases (ok (v21 x1 (val (v17 x1 x2 x3)) x4 x5)) with
  | true=>
   cases x0 with
   | true=>
    cases (ok (v22 x1 (val (v17 x1 x2 x3)) x4 x5 x6)) with
    | true=>
     cases (val (v22 x1 (val (v17 x1 x2 x3)) x4 x5 x6)) with
     | true=>
      cases (ok (v22 x1 (val (v17 x1 x2 x3)) x7 x8 x9)) with
      | true=>
       cases (!val (v22 x1 (val (v17 x1 x2 x3)) x7 x8 x9)) with
       | true=>
        cases ((val (v21 x1 (val (v17 x1 x2 x3)) x4 x5)).2==0) with
        | true=>
         intro h;cases h;rfl
        | false=>
         intro h;cases h;rfl
       | false=>
        intro h;cases h;rfl
      | false=>
       intro h;cases h
     | false=>
      intro h;cases h;rfl
    | false=>
     intro h;cases h
   | false=>
    intro h;cases h;rfl
  | false=>
   intro h;cases h
 | false=>
  intro h;cases h
noncomputable def sLaN:TellS:=fun S=>dCS 0 S fun y1 y2 y3=>dSt 2 y1 fun y5 l4=>dL 2 0 y5<|dSs 5 l4 fun y7 l6=>Zm y7 fun x0=>dSt 6 l6 fun y9 l8=>dL 6 0 y9<|dSt 8 l8 fun y11 l10=>dL 8 0 y11<|dE l10<|dLo 2 y2 fun y12 l13=>dC y12 fun y14 l15=>dD 3 (.int .i64) y14 fun x1=>dC l15 fun y16 l17=>dD 22 (.list 3 (.int .i64)) y16 fun x2=>dC l17 fun y18 l19=>dD 3 (.int .i64) y18 fun x3=>dE l19<|dLo 6 l13 fun y20 l21=>dC y20 fun y22 l23=>dD 22 (.list 3 (.int .i64)) y22 fun x4=>dC l23 fun y24 l25=>dD 3 (.int .i64) y24 fun x5=>dK l25 fun x6 l26=>dE l26<|dLo 8 l21 fun y27 l28=>dC y27 fun y29 l30=>dD 22 (.list 3 (.int .i64)) y29 fun x7=>dC l30 fun y31 l32=>dD 3 (.int .i64) y31 fun x8=>dK l32 fun x9 l33=>dE l33<|dE l28<|dE y3 <|  some [(ok (LaN x0 x1 x2 x3 x4 x5 x6 x7 x8 x9),.ret,{ sl:=[(4,.v (.sc (.bool ((val (LaN x0 x1 x2 x3 x4 x5 x6 x7 x8 x9))))))],lo:=[],h:=[],n0:=0,w:=true })]
theorem wLaN:zB Try.prog dOk base o101 t101 ((10,76),sLaN):=by
 refine ⟨(zc Try.prog (tn0 10) 10 76),0,by kernel_rfl,?_⟩
 intro S alts e S' h10 h2
 have h1:sLaN S=some alts:=h10
 clear h10
 unfold sLaN at h1
 repeat with_reducible first|replace h1:=yc h1;obtain ⟨_,_,_,rfl,h1⟩:=h1|(first|replace h1:=wB h1|replace h1:=zX h1|replace h1:=wL h1|replace h1:=dCq h1|replace h1:=zJ h1);obtain ⟨_,_,rfl,h1⟩:=h1|(first|replace h1:=dLq h1|replace h1:=dEq h1);obtain ⟨rfl,h1⟩:=h1|(first|replace h1:=wV h1|replace h1:=dDq h1);obtain ⟨_,rfl,h1⟩:=h1
 cases h1
 obtain ⟨hc0,rfl,rfl⟩:=zt h2
 exact ⟨0+40,(evPiece_code rfl).trans (lLaN 0 _ _ _ _ _ _ _ _ _ _ _ (zf hc0))⟩
noncomputable def o102:OrcT:=o101
noncomputable def t102:TellT:=((10,76),sLaN)::t101
noncomputable abbrev tn102:FuncId→TAn:=zh base o102 t102
theorem ok102:TnOk Try.prog tn102 (mkA base) dOk:=by
 have h0:TnOk Try.prog (tn101) (mkA base) dOk:=ok101
 have h1:=zD h0 h0 (p:=((10,76),sLaN)) wLaN
 exact h1
noncomputable def LaO (x0:Int) (x1:Bool) (x2:(List Int)) (x3:(List (List Int))) (x4:(List Int)):Option Bool:=(cond (ok (v13 x2 x3 x4 (Int.tmod (IntKind.wrap IntKind.i64 x0) (31:Int)))) (cond ((val (v13 x2 x3 x4 (Int.tmod (IntKind.wrap IntKind.i64 x0) (31:Int)))).2.2.2 != 0) (cond x1 (cond (ok (v15 (val (v13 x2 x3 x4 (Int.tmod (IntKind.wrap IntKind.i64 x0) (31:Int)))).1 (val (v13 x2 x3 x4 (Int.tmod (IntKind.wrap IntKind.i64 x0) (31:Int)))).2.1 (val (v13 x2 x3 x4 (Int.tmod (IntKind.wrap IntKind.i64 x0) (31:Int)))).2.2.1 [] [] 0)) (some (val (v15 (val (v13 x2 x3 x4 (Int.tmod (IntKind.wrap IntKind.i64 x0) (31:Int)))).1 (val (v13 x2 x3 x4 (Int.tmod (IntKind.wrap IntKind.i64 x0) (31:Int)))).2.1 (val (v13 x2 x3 x4 (Int.tmod (IntKind.wrap IntKind.i64 x0) (31:Int)))).2.2.1 [] [] 0))) none) (some (false))) (cond (ok (LaN x1 x2 x3 x4 (val (v13 x2 x3 x4 (Int.tmod (IntKind.wrap IntKind.i64 x0) (31:Int)))).1 (val (v13 x2 x3 x4 (Int.tmod (IntKind.wrap IntKind.i64 x0) (31:Int)))).2.1 (val (v13 x2 x3 x4 (Int.tmod (IntKind.wrap IntKind.i64 x0) (31:Int)))).2.2.1 (val (v13 x2 x3 x4 (Int.tmod (IntKind.wrap IntKind.i64 x0) (31:Int)))).1 (val (v13 x2 x3 x4 (Int.tmod (IntKind.wrap IntKind.i64 x0) (31:Int)))).2.1 (IntKind.wrap IntKind.i64 ((val (v13 x2 x3 x4 (Int.tmod (IntKind.wrap IntKind.i64 x0) (31:Int)))).2.2.1 - (1:Int))))) (some (val (LaN x1 x2 x3 x4 (val (v13 x2 x3 x4 (Int.tmod (IntKind.wrap IntKind.i64 x0) (31:Int)))).1 (val (v13 x2 x3 x4 (Int.tmod (IntKind.wrap IntKind.i64 x0) (31:Int)))).2.1 (val (v13 x2 x3 x4 (Int.tmod (IntKind.wrap IntKind.i64 x0) (31:Int)))).2.2.1 (val (v13 x2 x3 x4 (Int.tmod (IntKind.wrap IntKind.i64 x0) (31:Int)))).1 (val (v13 x2 x3 x4 (Int.tmod (IntKind.wrap IntKind.i64 x0) (31:Int)))).2.1 (IntKind.wrap IntKind.i64 ((val (v13 x2 x3 x4 (Int.tmod (IntKind.wrap IntKind.i64 x0) (31:Int)))).2.2.1 - (1:Int)))))) none)) none)
noncomputable def xLaO (x0:Int) (x1:Bool) (x2:(List Int)) (x3:(List (List Int))) (x4:(List Int)):Bool→Ex×CS:=fun r=>(.ret,{ sl:=[(4,.v (.sc (.bool (r))))],lo:=[],h:=[],n0:=0,w:=true })
theorem bLaO (k:Nat) (cX:Ex→CS→Option (Ex×CS)) (x0:Int) (x1:Bool) (x2:(List Int)) (x3:(List (List Int))) (x4:(List Int)):WE Try.prog (tn102 10) (TM.evF Try.prog (tn102) dOk (k+40)) dOk (k+40) (zc Try.prog (tn0 10) 10 36) 0 36 { sl:=[(1,.v (.sc (.int .u8 x0))),(2,.l 2 0),(5,.v (.sc (.bool x1)))],lo:=[(2,[.d 3 (.int .i64) (x2),.d 22 (.list 3 (.int .i64)) (x3),.d 3 (.int .i64) (x4)])],h:=[],n0:=0,w:=false } cX=(cond (ok (v13 x2 x3 x4 (Int.tmod (IntKind.wrap IntKind.i64 x0) (31:Int)))) (cond ((val (v13 x2 x3 x4 (Int.tmod (IntKind.wrap IntKind.i64 x0) (31:Int)))).2.2.2 != 0) (cond x1 (cond (ok (v15 (val (v13 x2 x3 x4 (Int.tmod (IntKind.wrap IntKind.i64 x0) (31:Int)))).1 (val (v13 x2 x3 x4 (Int.tmod (IntKind.wrap IntKind.i64 x0) (31:Int)))).2.1 (val (v13 x2 x3 x4 (Int.tmod (IntKind.wrap IntKind.i64 x0) (31:Int)))).2.2.1 [] [] 0)) (cX .ret { sl:=[(4,.v (.sc (.bool (val (v15 (val (v13 x2 x3 x4 (Int.tmod (IntKind.wrap IntKind.i64 x0) (31:Int)))).1 (val (v13 x2 x3 x4 (Int.tmod (IntKind.wrap IntKind.i64 x0) (31:Int)))).2.1 (val (v13 x2 x3 x4 (Int.tmod (IntKind.wrap IntKind.i64 x0) (31:Int)))).2.2.1 [] [] 0)))))],lo:=[],h:=[],n0:=0,w:=true }) none) (cX .ret { sl:=[(4,.v (.sc (.bool (false))))],lo:=[],h:=[],n0:=0,w:=true })) (cond (ok (LaN x1 x2 x3 x4 (val (v13 x2 x3 x4 (Int.tmod (IntKind.wrap IntKind.i64 x0) (31:Int)))).1 (val (v13 x2 x3 x4 (Int.tmod (IntKind.wrap IntKind.i64 x0) (31:Int)))).2.1 (val (v13 x2 x3 x4 (Int.tmod (IntKind.wrap IntKind.i64 x0) (31:Int)))).2.2.1 (val (v13 x2 x3 x4 (Int.tmod (IntKind.wrap IntKind.i64 x0) (31:Int)))).1 (val (v13 x2 x3 x4 (Int.tmod (IntKind.wrap IntKind.i64 x0) (31:Int)))).2.1 (IntKind.wrap IntKind.i64 ((val (v13 x2 x3 x4 (Int.tmod (IntKind.wrap IntKind.i64 x0) (31:Int)))).2.2.1 - (1:Int))))) (cX .ret { sl:=[(4,.v (.sc (.bool (val (LaN x1 x2 x3 x4 (val (v13 x2 x3 x4 (Int.tmod (IntKind.wrap IntKind.i64 x0) (31:Int)))).1 (val (v13 x2 x3 x4 (Int.tmod (IntKind.wrap IntKind.i64 x0) (31:Int)))).2.1 (val (v13 x2 x3 x4 (Int.tmod (IntKind.wrap IntKind.i64 x0) (31:Int)))).2.2.1 (val (v13 x2 x3 x4 (Int.tmod (IntKind.wrap IntKind.i64 x0) (31:Int)))).1 (val (v13 x2 x3 x4 (Int.tmod (IntKind.wrap IntKind.i64 x0) (31:Int)))).2.1 (IntKind.wrap IntKind.i64 ((val (v13 x2 x3 x4 (Int.tmod (IntKind.wrap IntKind.i64 x0) (31:Int)))).2.2.1 - (1:Int))))))))],lo:=[],h:=[],n0:=0,w:=true }) none)) none):=by kernel_rfl
theorem lLaO (k:Nat) (x0:Int) (x1:Bool) (x2:(List Int)) (x3:(List (List Int))) (x4:(List Int)) (r:Bool):LaO x0 x1 x2 x3 x4=some r→WE Try.prog (tn102 10) (TM.evF Try.prog (tn102) dOk (k+40)) dOk (k+40) (zc Try.prog (tn0 10) 10 36) 0 36 { sl:=[(1,.v (.sc (.int .u8 x0))),(2,.l 2 0),(5,.v (.sc (.bool x1)))],lo:=[(2,[.d 3 (.int .i64) (x2),.d 22 (.list 3 (.int .i64)) (x3),.d 3 (.int .i64) (x4)])],h:=[],n0:=0,w:=false } (fun e s=>some (e,s))=some (xLaO x0 x1 x2 x3 x4 r):=by
 rw [bLaO]
 unfold LaO
 refine zb ?_ ?_
 refine zb ?_ ?_
 refine zb ?_ ?_
 refine zb ?_ ?_
 intro h;cases h;rfl
 intro h;cases h
 intro h;cases h;rfl
 refine zb ?_ ?_
 intro h;cases h;rfl
 intro h;cases h
 intro h;cases h
noncomputable def sLaO:TellS:=fun S=>dCS 0 S fun y1 y2 y3=>dSI 1 .u8 y1 fun x0 l4=>dSt 2 l4 fun y6 l5=>dL 2 0 y6<|dSs 5 l5 fun y8 l7=>Zm y8 fun x1=>dE l7<|dLo 2 y2 fun y9 l10=>dC y9 fun y11 l12=>dD 3 (.int .i64) y11 fun x2=>dC l12 fun y13 l14=>dD 22 (.list 3 (.int .i64)) y13 fun x3=>dC l14 fun y15 l16=>dD 3 (.int .i64) y15 fun x4=>dE l16<|dE l10<|dE y3 <|  some [(ok (LaO x0 x1 x2 x3 x4),.ret,{ sl:=[(4,.v (.sc (.bool ((val (LaO x0 x1 x2 x3 x4))))))],lo:=[],h:=[],n0:=0,w:=true })]
theorem wLaO:zB Try.prog dOk base o102 t102 ((10,36),sLaO):=by
 refine ⟨(zc Try.prog (tn0 10) 10 36),0,by kernel_rfl,?_⟩
 intro S alts e S' h10 h2
 have h1:sLaO S=some alts:=h10
 clear h10
 unfold sLaO at h1
 repeat with_reducible first|replace h1:=yc h1;obtain ⟨_,_,_,rfl,h1⟩:=h1|(first|replace h1:=ye h1|replace h1:=wB h1|replace h1:=zX h1|replace h1:=wL h1|replace h1:=dCq h1);obtain ⟨_,_,rfl,h1⟩:=h1|(first|replace h1:=dLq h1|replace h1:=dEq h1);obtain ⟨rfl,h1⟩:=h1|(first|replace h1:=wV h1|replace h1:=dDq h1);obtain ⟨_,rfl,h1⟩:=h1
 cases h1
 obtain ⟨hc0,rfl,rfl⟩:=zt h2
 exact ⟨0+40,(evPiece_code rfl).trans (lLaO 0 _ _ _ _ _ _ (zf hc0))⟩
noncomputable def o103:OrcT:=o102
noncomputable def t103:TellT:=((10,36),sLaO)::t102
noncomputable abbrev tn103:FuncId→TAn:=zh base o103 t103
theorem ok103:TnOk Try.prog tn103 (mkA base) dOk:=by
 have h0:TnOk Try.prog (tn102) (mkA base) dOk:=ok102
 have h1:=zD h0 h0 (p:=((10,36),sLaO)) wLaO
 exact h1
noncomputable def v10 (x0:(List Int)) (x1:(List (List Int))) (x2:(List Int)) (x3:Int):Option Bool:=(cond (ok (v12 x0 x1 x2)) (cond (!val (v12 x0 x1 x2)) (some (true)) (cond (ok (LaO x3 (val v11) x0 x1 x2)) (some (val (LaO x3 (val v11) x0 x1 x2))) none)) none)
theorem ev10 (x0:(List Int)) (x1:(List (List Int))) (x2:(List Int)) (x3:Int):zo Try.prog (tn103 10) (TM.evF Try.prog (tn103) dOk 40) dOk 40 10 [.agg [.d 3 (.int .i64) (x0),.d 22 (.list 3 (.int .i64)) (x1),.d 3 (.int .i64) (x2)],.sc (.int .u8 x3)] []=(v10 x0 x1 x2 x3).bind fun r=>some ([.sc (.bool (r))],[]):=by
 refine Eq.trans (b:=(cond (ok (v12 x0 x1 x2)) (cond (!val (v12 x0 x1 x2)) (some ([.sc (.bool (true))],[])) (cond (ok (LaO x3 (val v11) x0 x1 x2)) (some ([.sc (.bool (val (LaO x3 (val v11) x0 x1 x2)))],[])) none)) none)) (by kernel_rfl) ?_
 unfold v10
 refine za ?_ ?_
 refine za ?_ ?_
 rfl
 refine za ?_ ?_
 rfl
 rfl
 rfl
noncomputable def sv10:OrcS:=fun al H=>dC al fun y1 l2=>dA y1 fun y3=>dC y3 fun y4 l5=>dD 3 (.int .i64) y4 fun x0=>dC l5 fun y6 l7=>dD 22 (.list 3 (.int .i64)) y6 fun x1=>dC l7 fun y8 l9=>dD 3 (.int .i64) y8 fun x2=>dE l9<|dC l2 fun y10 l11=>dS y10 fun y12=>xd .u8 y12 fun x3=>dE l11<|dE H <|  some [(ok (v10 x0 x1 x2 x3),[.sc (.bool ((val (v10 x0 x1 x2 x3))))],[])]
noncomputable def o104:OrcT:=(10,sv10)::o103
noncomputable def t104:TellT:=t103
noncomputable abbrev tn104:FuncId→TAn:=zh base o104 t104
end Go.Proofs.Ytgmebdomopdgmaa
