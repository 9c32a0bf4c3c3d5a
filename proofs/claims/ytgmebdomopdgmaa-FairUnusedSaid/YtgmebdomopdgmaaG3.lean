/- What some functions and loops come to: printed and checked. Written by a program of ours. -/
import Derived.Test.YtgmebdomopdgmaaG2
set_option linter.all false
set_option maxRecDepth 1000000
set_option maxHeartbeats 4000000
namespace Go.Proofs.Ytgmebdomopdgmaa
open Go Go.AM Go.TM Go.Proofs
noncomputable def Lad:Nat→Int→Int→Int→(List (List Int))→(List Int)→Int→(List Int)→(List (List Int))→(List Int)→(List Int)→(List Int)→(List (List Int))→(List Int)→Option ((List (List Int))×(List Int)×Int)
 | 0,_,_,_,_,_,_,_,_,_,_,_,_,_=>none
 | n+1,x0,x1,x2,x3,x4,x5,x6,x7,x8,x9,A,B,C=>(cond (decide (x1 < x0)) (cond (ok (v29 x6 x7 x8 x9 A)) (cond (ok (v28 x6 x7 x8 (val (v29 x6 x7 x8 x9 A)).1 (val (v29 x6 x7 x8 x9 A)).2)) (cond (val (v28 x6 x7 x8 (val (v29 x6 x7 x8 x9 A)).1 (val (v29 x6 x7 x8 x9 A)).2)).2.2.2 (cond (decide ((val (v28 x6 x7 x8 (val (v29 x6 x7 x8 x9 A)).1 (val (v29 x6 x7 x8 x9 A)).2)).2.2.1 < x5)) (Lad n x0 (IntKind.wrap IntKind.i64 (x1+(1:Int))) x2 (val (v28 x6 x7 x8 (val (v29 x6 x7 x8 x9 A)).1 (val (v29 x6 x7 x8 x9 A)).2)).1 (val (v28 x6 x7 x8 (val (v29 x6 x7 x8 x9 A)).1 (val (v29 x6 x7 x8 x9 A)).2)).2.1 (val (v28 x6 x7 x8 (val (v29 x6 x7 x8 x9 A)).1 (val (v29 x6 x7 x8 x9 A)).2)).2.2.1 x6 x7 x8 (val (v29 x6 x7 x8 x9 A)).1 (val (v29 x6 x7 x8 x9 A)).2 B C) (Lad n x0 (IntKind.wrap IntKind.i64 (x1+(1:Int))) x2 x3 x4 x5 x6 x7 x8 (val (v29 x6 x7 x8 x9 A)).1 (val (v29 x6 x7 x8 x9 A)).2 B C)) (Lad n x0 (IntKind.wrap IntKind.i64 (x1+(1:Int))) x2 x3 x4 x5 x6 x7 x8 (val (v29 x6 x7 x8 x9 A)).1 (val (v29 x6 x7 x8 x9 A)).2 B C)) none) none) (some (x3,x4,x5)))
theorem qLad:type_of% @Lad.eq_2:=@Lad.eq_2
noncomputable def xLad (x0 x1 x2:Int) (x3:(List (List Int))) (x4:(List Int)) (x5:Int) (x6:(List Int)) (x7:(List (List Int))) (x8:(List Int)) (x9:(List Int)) (A:(List Int)) (B:(List (List Int))) (C:(List Int)):((List (List Int))×(List Int)×Int)→Ex×CS:=fun r=>((.exit 0),{ sl:=[(4,.l 4 0),(9,.l 9 0)],lo:=[(4,[.g 0,.g 1,I4 (x2)]),(9,[.d 22 (.list 3 (.int .i64)) (r.1:List (List Int)),.d 3 (.int .i64) (r.2.1:List Int),I4 (r.2.2)])],h:=[.row 22 (.list 3 (.int .i64)) (B),.row 3 (.int .i64) (C)],n0:=0,w:=false })
theorem bLad (k:Nat) (cN:CS→Option (Ex×CS)) (cX:Ex→CS→Option (Ex×CS)) (x0 x1 x2:Int) (x3:(List (List Int))) (x4:(List Int)) (x5:Int) (x6:(List Int)) (x7:(List (List Int))) (x8:(List Int)) (x9:(List Int)) (A:(List Int)) (B:(List (List Int))) (C:(List Int)):zq Try.prog (tn87 13) (TM.evF Try.prog (tn87) dOk (k+40)) dOk (k+40) (zc Try.prog (tn0 13) 13 0) 0 0 { sl:=[(4,.l 4 0),(7,.v (.sc (.ptr 0 0))),(9,.l 9 0),(54,.v (.sc (I4 x0))),(55,.v (.sc (I4 x1)))],lo:=[(4,[.g 3,.g 4,I4 (x2)]),(9,[.d 22 (.list 3 (.int .i64)) (x3),.d 3 (.int .i64) (x4),I4 (x5)])],h:=[.box 73 [.d 3 (.int .i64) (x6),.d 22 (.list 3 (.int .i64)) (x7),.d 3 (.int .i64) (x8),.g 1,.g 2],.row 3 (.int .i64) (x9),.row 3 (.int .i64) (A),.row 22 (.list 3 (.int .i64)) (B),.row 3 (.int .i64) (C)],n0:=0,w:=false } cN cX=(cond (decide (x1 < x0)) (cond (ok (v29 x6 x7 x8 x9 A)) (cond (ok (v28 x6 x7 x8 (val (v29 x6 x7 x8 x9 A)).1 (val (v29 x6 x7 x8 x9 A)).2)) (cond (val (v28 x6 x7 x8 (val (v29 x6 x7 x8 x9 A)).1 (val (v29 x6 x7 x8 x9 A)).2)).2.2.2 (cond (decide ((val (v28 x6 x7 x8 (val (v29 x6 x7 x8 x9 A)).1 (val (v29 x6 x7 x8 x9 A)).2)).2.2.1 < x5)) (cN { sl:=[(4,.l 4 0),(7,.v (.sc (.ptr 0 0))),(9,.l 9 0),(54,.v (.sc (I4 x0))),(55,.v (.sc (I4 (IntKind.wrap IntKind.i64 (x1+(1:Int))))))],lo:=[(4,[.g 3,.g 4,I4 (x2)]),(9,[.d 22 (.list 3 (.int .i64)) ((val (v28 x6 x7 x8 (val (v29 x6 x7 x8 x9 A)).1 (val (v29 x6 x7 x8 x9 A)).2)).1:List (List Int)),.d 3 (.int .i64) ((val (v28 x6 x7 x8 (val (v29 x6 x7 x8 x9 A)).1 (val (v29 x6 x7 x8 x9 A)).2)).2.1:List Int),I4 (val (v28 x6 x7 x8 (val (v29 x6 x7 x8 x9 A)).1 (val (v29 x6 x7 x8 x9 A)).2)).2.2.1])],h:=[.box 73 [.d 3 (.int .i64) (x6),.d 22 (.list 3 (.int .i64)) (x7),.d 3 (.int .i64) (x8),.g 1,.g 2],.row 3 (.int .i64) ((val (v29 x6 x7 x8 x9 A)).1:List Int),.row 3 (.int .i64) ((val (v29 x6 x7 x8 x9 A)).2:List Int),.row 22 (.list 3 (.int .i64)) (B),.row 3 (.int .i64) (C)],n0:=0,w:=false }) (cN { sl:=[(4,.l 4 0),(7,.v (.sc (.ptr 0 0))),(9,.l 9 0),(54,.v (.sc (I4 x0))),(55,.v (.sc (I4 (IntKind.wrap IntKind.i64 (x1+(1:Int))))))],lo:=[(4,[.g 3,.g 4,I4 (x2)]),(9,[.d 22 (.list 3 (.int .i64)) (x3),.d 3 (.int .i64) (x4),I4 (x5)])],h:=[.box 73 [.d 3 (.int .i64) (x6),.d 22 (.list 3 (.int .i64)) (x7),.d 3 (.int .i64) (x8),.g 1,.g 2],.row 3 (.int .i64) ((val (v29 x6 x7 x8 x9 A)).1:List Int),.row 3 (.int .i64) ((val (v29 x6 x7 x8 x9 A)).2:List Int),.row 22 (.list 3 (.int .i64)) (B),.row 3 (.int .i64) (C)],n0:=0,w:=false })) (cN { sl:=[(4,.l 4 0),(7,.v (.sc (.ptr 0 0))),(9,.l 9 0),(54,.v (.sc (I4 x0))),(55,.v (.sc (I4 (IntKind.wrap IntKind.i64 (x1+(1:Int))))))],lo:=[(4,[.g 3,.g 4,I4 (x2)]),(9,[.d 22 (.list 3 (.int .i64)) (x3),.d 3 (.int .i64) (x4),I4 (x5)])],h:=[.box 73 [.d 3 (.int .i64) (x6),.d 22 (.list 3 (.int .i64)) (x7),.d 3 (.int .i64) (x8),.g 1,.g 2],.row 3 (.int .i64) ((val (v29 x6 x7 x8 x9 A)).1:List Int),.row 3 (.int .i64) ((val (v29 x6 x7 x8 x9 A)).2:List Int),.row 22 (.list 3 (.int .i64)) (B),.row 3 (.int .i64) (C)],n0:=0,w:=false })) none) none) (cX (.exit 0) { sl:=[(4,.l 4 0),(9,.l 9 0)],lo:=[(4,[.g 0,.g 1,I4 (x2)]),(9,[.d 22 (.list 3 (.int .i64)) (x3),.d 3 (.int .i64) (x4),I4 (x5)])],h:=[.row 22 (.list 3 (.int .i64)) (B),.row 3 (.int .i64) (C)],n0:=0,w:=false })):=by kernel_rfl
theorem lLad (k m:Nat):∀ (n:Nat) (x0 x1 x2:Int) (x3:(List (List Int))) (x4:(List Int)) (x5:Int) (x6:(List Int)) (x7:(List (List Int))) (x8:(List Int)) (x9:(List Int)) (A:(List Int)) (B:(List (List Int))) (C:(List Int)) (r:((List (List Int))×(List Int)×Int)),Lad n x0 x1 x2 x3 x4 x5 x6 x7 x8 x9 A B C=some r→zM Try.prog (tn87 13) (TM.evF Try.prog (tn87) dOk (k+40)) dOk (k+40) (zc Try.prog (tn0 13) 13 0) 0 0 (n+m) { sl:=[(4,.l 4 0),(7,.v (.sc (.ptr 0 0))),(9,.l 9 0),(54,.v (.sc (I4 x0))),(55,.v (.sc (I4 x1)))],lo:=[(4,[.g 3,.g 4,I4 (x2)]),(9,[.d 22 (.list 3 (.int .i64)) (x3),.d 3 (.int .i64) (x4),I4 (x5)])],h:=[.box 73 [.d 3 (.int .i64) (x6),.d 22 (.list 3 (.int .i64)) (x7),.d 3 (.int .i64) (x8),.g 1,.g 2],.row 3 (.int .i64) (x9),.row 3 (.int .i64) (A),.row 22 (.list 3 (.int .i64)) (B),.row 3 (.int .i64) (C)],n0:=0,w:=false }=some (xLad x0 x1 x2 x3 x4 x5 x6 x7 x8 x9 A B C r):=by
 intro n
 induction n with
 | zero=>intro _ _ _ _ _ _ _ _ _ _ _ _ _ r h;cases h
 | succ n ih=>
  intro x0 x1 x2 x3 x4 x5 x6 x7 x8 x9 A B C r
  rw [show n+1+m=n+m+1 by omega,zp,bLad,qLad]
  refine zb ?_ ?_
  refine zb ?_ ?_
  refine zb ?_ ?_
  refine zb ?_ ?_
  refine zb ?_ ?_
  exact ih _ _ _ _ _ _ _ _ _ _ _ _ _ r
  exact ih _ _ _ _ _ _ _ _ _ _ _ _ _ r
  exact ih _ _ _ _ _ _ _ _ _ _ _ _ _ r
  intro h;cases h
  intro h;cases h
  intro h;cases h;rfl
noncomputable def sLad:TellS:=fun S=>dCS 0 S fun y1 y2 y3=>dSt 4 y1 fun y5 l4=>dL 4 0 y5<|dSs 7 l4 fun y7 l6=>zi 0 0 y7<|dSt 9 l6 fun y9 l8=>dL 9 0 y9<|dSI 54 .i64 l8 fun x0 l10=>dSI 55 .i64 l10 fun x1 l11=>dE l11<|dLo 4 y2 fun y12 l13=>dC y12 fun y14 l15=>dG 3 y14<|dC l15 fun y16 l17=>dG 4 y16<|dK l17 fun x2 l18=>dE l18<|dLo 9 l13 fun y19 l20=>dC y19 fun y21 l22=>dD 22 (.list 3 (.int .i64)) y21 fun x3=>dC l22 fun y23 l24=>dD 3 (.int .i64) y23 fun x4=>dK l24 fun x5 l25=>dE l25<|dE l20<|dHB 73 y3 fun y27 l26=>dC y27 fun y28 l29=>dD 3 (.int .i64) y28 fun x6=>dC l29 fun y30 l31=>dD 22 (.list 3 (.int .i64)) y30 fun x7=>dC l31 fun y32 l33=>dD 3 (.int .i64) y32 fun x8=>dC l33 fun y34 l35=>dG 1 y34<|dC l35 fun y36 l37=>dG 2 y36<|dE l37<|dHR 3 (.int .i64) l26 fun x9 l38=>dHR 3 (.int .i64) l38 fun A l39=>dHR 22 (.list 3 (.int .i64)) l39 fun B l40=>dHR 3 (.int .i64) l40 fun C l41=>dE l41 <|  some [(ok (Lad FU x0 x1 x2 x3 x4 x5 x6 x7 x8 x9 A B C),(.exit 0),{ sl:=[(4,.l 4 0),(9,.l 9 0)],lo:=[(4,[.g 0,.g 1,I4 (x2)]),(9,[.d 22 (.list 3 (.int .i64)) ((val (Lad FU x0 x1 x2 x3 x4 x5 x6 x7 x8 x9 A B C)).1:List (List Int)),.d 3 (.int .i64) ((val (Lad FU x0 x1 x2 x3 x4 x5 x6 x7 x8 x9 A B C)).2.1:List Int),I4 ((val (Lad FU x0 x1 x2 x3 x4 x5 x6 x7 x8 x9 A B C)).2.2)])],h:=[.row 22 (.list 3 (.int .i64)) (B),.row 3 (.int .i64) (C)],n0:=0,w:=false })]
theorem wLad:zB Try.prog dOk base o87 t87 ((13,0),sLad):=by
 refine ⟨.loop (zc Try.prog (tn0 13) 13 0),0,by kernel_rfl,?_⟩
 intro S alts e S' h10 h2
 have h1:sLad S=some alts:=h10
 clear h10
 unfold sLad at h1
 repeat with_reducible first|replace h1:=yc h1;obtain ⟨_,_,_,rfl,h1⟩:=h1|(first|replace h1:=wB h1|replace h1:=zX h1|replace h1:=ye h1|replace h1:=wL h1|replace h1:=dCq h1|replace h1:=zJ h1|replace h1:=zG h1|replace h1:=zY h1);obtain ⟨_,_,rfl,h1⟩:=h1|(first|replace h1:=dLq h1|replace h1:=zr h1|replace h1:=dEq h1|replace h1:=dGq h1);obtain ⟨rfl,h1⟩:=h1|replace h1:=dDq h1;obtain ⟨_,rfl,h1⟩:=h1
 cases h1
 obtain ⟨hc0,rfl,rfl⟩:=zt h2
 exact ⟨FU+40,(ze rfl).trans (lLad FU 40 FU _ _ _ _ _ _ _ _ _ _ _ _ _ _ (zf hc0))⟩
noncomputable def o88:OrcT:=o87
noncomputable def t88:TellT:=((13,0),sLad)::t87
noncomputable abbrev tn88:FuncId→TAn:=zh base o88 t88
theorem ok88:TnOk Try.prog tn88 (mkA base) dOk:=by
 have h0:TnOk Try.prog (tn87) (mkA base) dOk:=ok87
 have h1:=zD h0 h0 (p:=((13,0),sLad)) wLad
 exact h1
noncomputable def v13 (x0:(List Int)) (x1:(List (List Int))) (x2:(List Int)) (x3:Int):Option ((List (List Int))×(List Int)×Int×Int):=(cond (ok (v23_3 x2)) (cond (ok (v26 x0 x1 x2)) (cond (ok (v25 x0 (val (v26 x0 x1 x2)))) (cond (!val (v25 x0 (val (v26 x0 x1 x2)))) (some ([],[],0,(1:Int))) (cond ((x2.length:Int) != (x1.length:Int)) (some ([],[],0,(1:Int))) (cond (val (v23_3 x2)) (some ([],[],0,(1:Int))) (cond (decide (x3 < 0)) (some ([],[],0,(1:Int))) (cond (decide (x3 > (1000:Int))) (some ([],[],0,(1:Int))) (cond (ok (v27 x0 x1 x2)) (cond (!(val (v27 x0 x1 x2)).1) (some ([],[],0,(4:Int))) (cond (ok (v28 x0 x1 x2 (val (v27 x0 x1 x2)).2.1 (val (v27 x0 x1 x2)).2.2)) (cond (ok (Lad FU x3 0 0 (val (v28 x0 x1 x2 (val (v27 x0 x1 x2)).2.1 (val (v27 x0 x1 x2)).2.2)).1 (val (v28 x0 x1 x2 (val (v27 x0 x1 x2)).2.1 (val (v27 x0 x1 x2)).2.2)).2.1 (val (v28 x0 x1 x2 (val (v27 x0 x1 x2)).2.1 (val (v27 x0 x1 x2)).2.2)).2.2.1 x0 x1 x2 (val (v27 x0 x1 x2)).2.1 (val (v27 x0 x1 x2)).2.2 [] [])) (some ((val (Lad FU x3 0 0 (val (v28 x0 x1 x2 (val (v27 x0 x1 x2)).2.1 (val (v27 x0 x1 x2)).2.2)).1 (val (v28 x0 x1 x2 (val (v27 x0 x1 x2)).2.1 (val (v27 x0 x1 x2)).2.2)).2.1 (val (v28 x0 x1 x2 (val (v27 x0 x1 x2)).2.1 (val (v27 x0 x1 x2)).2.2)).2.2.1 x0 x1 x2 (val (v27 x0 x1 x2)).2.1 (val (v27 x0 x1 x2)).2.2 [] [])).1,(val (Lad FU x3 0 0 (val (v28 x0 x1 x2 (val (v27 x0 x1 x2)).2.1 (val (v27 x0 x1 x2)).2.2)).1 (val (v28 x0 x1 x2 (val (v27 x0 x1 x2)).2.1 (val (v27 x0 x1 x2)).2.2)).2.1 (val (v28 x0 x1 x2 (val (v27 x0 x1 x2)).2.1 (val (v27 x0 x1 x2)).2.2)).2.2.1 x0 x1 x2 (val (v27 x0 x1 x2)).2.1 (val (v27 x0 x1 x2)).2.2 [] [])).2.1,(val (Lad FU x3 0 0 (val (v28 x0 x1 x2 (val (v27 x0 x1 x2)).2.1 (val (v27 x0 x1 x2)).2.2)).1 (val (v28 x0 x1 x2 (val (v27 x0 x1 x2)).2.1 (val (v27 x0 x1 x2)).2.2)).2.1 (val (v28 x0 x1 x2 (val (v27 x0 x1 x2)).2.1 (val (v27 x0 x1 x2)).2.2)).2.2.1 x0 x1 x2 (val (v27 x0 x1 x2)).2.1 (val (v27 x0 x1 x2)).2.2 [] [])).2.2,0)) none) none)) none)))))) none) none) none)
theorem ev13 (x0:(List Int)) (x1:(List (List Int))) (x2:(List Int)) (x3:Int):zo Try.prog (tn88 13) (TM.evF Try.prog (tn88) dOk 40) dOk 40 13 [.agg [.d 3 (.int .i64) (x0),.d 22 (.list 3 (.int .i64)) (x1),.d 3 (.int .i64) (x2)],.sc (I4 x3)] []=(v13 x0 x1 x2 x3).bind fun r=>some ([.agg [.d 22 (.list 3 (.int .i64)) (r.1:List (List Int)),.d 3 (.int .i64) (r.2.1:List Int),I4 (r.2.2.1)],.sc (I4 (r.2.2.2))],[]):=by
 refine Eq.trans (b:=(cond (ok (v23_3 x2)) (cond (ok (v26 x0 x1 x2)) (cond (ok (v25 x0 (val (v26 x0 x1 x2)))) (cond (!val (v25 x0 (val (v26 x0 x1 x2)))) (some ([.agg [.d 22 (.list 3 (.int .i64)) ([]:List (List Int)),.d 3 (.int .i64) ([]:List Int),I4 (0)],.sc (I4 ((1:Int)))],[])) (cond ((x2.length:Int) != (x1.length:Int)) (some ([.agg [.d 22 (.list 3 (.int .i64)) ([]:List (List Int)),.d 3 (.int .i64) ([]:List Int),I4 (0)],.sc (I4 ((1:Int)))],[])) (cond (val (v23_3 x2)) (some ([.agg [.d 22 (.list 3 (.int .i64)) ([]:List (List Int)),.d 3 (.int .i64) ([]:List Int),I4 (0)],.sc (I4 ((1:Int)))],[])) (cond (decide (x3 < 0)) (some ([.agg [.d 22 (.list 3 (.int .i64)) ([]:List (List Int)),.d 3 (.int .i64) ([]:List Int),I4 (0)],.sc (I4 ((1:Int)))],[])) (cond (decide (x3 > (1000:Int))) (some ([.agg [.d 22 (.list 3 (.int .i64)) ([]:List (List Int)),.d 3 (.int .i64) ([]:List Int),I4 (0)],.sc (I4 ((1:Int)))],[])) (cond (ok (v27 x0 x1 x2)) (cond (!(val (v27 x0 x1 x2)).1) (some ([.agg [.d 22 (.list 3 (.int .i64)) ([]:List (List Int)),.d 3 (.int .i64) ([]:List Int),I4 (0)],.sc (I4 ((4:Int)))],[])) (cond (ok (v28 x0 x1 x2 (val (v27 x0 x1 x2)).2.1 (val (v27 x0 x1 x2)).2.2)) (cond (ok (Lad FU x3 0 0 (val (v28 x0 x1 x2 (val (v27 x0 x1 x2)).2.1 (val (v27 x0 x1 x2)).2.2)).1 (val (v28 x0 x1 x2 (val (v27 x0 x1 x2)).2.1 (val (v27 x0 x1 x2)).2.2)).2.1 (val (v28 x0 x1 x2 (val (v27 x0 x1 x2)).2.1 (val (v27 x0 x1 x2)).2.2)).2.2.1 x0 x1 x2 (val (v27 x0 x1 x2)).2.1 (val (v27 x0 x1 x2)).2.2 [] [])) (some ([.agg [.d 22 (.list 3 (.int .i64)) ((val (Lad FU x3 0 0 (val (v28 x0 x1 x2 (val (v27 x0 x1 x2)).2.1 (val (v27 x0 x1 x2)).2.2)).1 (val (v28 x0 x1 x2 (val (v27 x0 x1 x2)).2.1 (val (v27 x0 x1 x2)).2.2)).2.1 (val (v28 x0 x1 x2 (val (v27 x0 x1 x2)).2.1 (val (v27 x0 x1 x2)).2.2)).2.2.1 x0 x1 x2 (val (v27 x0 x1 x2)).2.1 (val (v27 x0 x1 x2)).2.2 [] [])).1:List (List Int)),.d 3 (.int .i64) ((val (Lad FU x3 0 0 (val (v28 x0 x1 x2 (val (v27 x0 x1 x2)).2.1 (val (v27 x0 x1 x2)).2.2)).1 (val (v28 x0 x1 x2 (val (v27 x0 x1 x2)).2.1 (val (v27 x0 x1 x2)).2.2)).2.1 (val (v28 x0 x1 x2 (val (v27 x0 x1 x2)).2.1 (val (v27 x0 x1 x2)).2.2)).2.2.1 x0 x1 x2 (val (v27 x0 x1 x2)).2.1 (val (v27 x0 x1 x2)).2.2 [] [])).2.1:List Int),I4 (val (Lad FU x3 0 0 (val (v28 x0 x1 x2 (val (v27 x0 x1 x2)).2.1 (val (v27 x0 x1 x2)).2.2)).1 (val (v28 x0 x1 x2 (val (v27 x0 x1 x2)).2.1 (val (v27 x0 x1 x2)).2.2)).2.1 (val (v28 x0 x1 x2 (val (v27 x0 x1 x2)).2.1 (val (v27 x0 x1 x2)).2.2)).2.2.1 x0 x1 x2 (val (v27 x0 x1 x2)).2.1 (val (v27 x0 x1 x2)).2.2 [] [])).2.2],.sc (I4 (0))],[])) none) none)) none)))))) none) none) none)) (by kernel_rfl) ?_
 unfold v13
 refine za ?_ ?_
 refine za ?_ ?_
 refine za ?_ ?_
 refine za ?_ ?_
 rfl
 refine za ?_ ?_
 rfl
 refine za ?_ ?_
 rfl
 refine za ?_ ?_
 rfl
 refine za ?_ ?_
 rfl
 refine za ?_ ?_
 refine za ?_ ?_
 rfl
 refine za ?_ ?_
 refine za ?_ ?_
 rfl
 rfl
 rfl
 rfl
 rfl
 rfl
 rfl
noncomputable def sv13:OrcS:=fun al H=>dC al fun y1 l2=>dA y1 fun y3=>dC y3 fun y4 l5=>dD 3 (.int .i64) y4 fun x0=>dC l5 fun y6 l7=>dD 22 (.list 3 (.int .i64)) y6 fun x1=>dC l7 fun y8 l9=>dD 3 (.int .i64) y8 fun x2=>dE l9<|dC l2 fun y10 l11=>dS y10 fun y12=>xd .i64 y12 fun x3=>dE l11<|dE H <|  some [(ok (v13 x0 x1 x2 x3),[.agg [.d 22 (.list 3 (.int .i64)) ((val (v13 x0 x1 x2 x3)).1:List (List Int)),.d 3 (.int .i64) ((val (v13 x0 x1 x2 x3)).2.1:List Int),I4 ((val (v13 x0 x1 x2 x3)).2.2.1)],.sc (I4 ((val (v13 x0 x1 x2 x3)).2.2.2))],[])]
theorem wv13:zm Try.prog dOk base o88 t88 (13,sv13):=by
 intro al H q hq0 rs H2 h2
 have hq:sv13 al H=some q:=hq0
 clear hq0
 unfold sv13 at hq
 repeat with_reducible first|replace hq:=dCq hq;obtain ⟨_,_,rfl,hq⟩:=hq|(first|replace hq:=dAq hq|replace hq:=dDq hq|replace hq:=dSq hq|replace hq:=xu hq);obtain ⟨_,rfl,hq⟩:=hq|replace hq:=dEq hq;obtain ⟨rfl,hq⟩:=hq
 cases hq
 obtain ⟨hc0,rfl,rfl⟩:=zg h2
 exact ⟨41,(zu (by kernel_rfl)).trans ((ev13 _ _ _ _).trans (zl (zf hc0)))⟩
noncomputable def o89:OrcT:=(13,sv13)::o88
noncomputable def t89:TellT:=t88
noncomputable abbrev tn89:FuncId→TAn:=zh base o89 t89
theorem ok89:TnOk Try.prog tn89 (mkA base) dOk:=by
 have h0:TnOk Try.prog (tn88) (mkA base) dOk:=ok88
 have h1:=zn h0 h0 (p:=(13,sv13)) wv13
 exact h1
noncomputable def Lak:Nat→Int→(List Int)→(List (List Int))→(List Int)→Option (Bool ⊕ Unit)
 | 0,_,_,_,_=>none
 | n+1,x0,x1,x2,x3=>(cond (decide (x0 < (x2.length:Int))) (cond (decide (0≤x0)) (cond (decide ((↑(List.length (List.getD x2 x0.toNat [])):Int) > (20:Int))) (some (.inl (false))) (Lak n (IntKind.wrap IntKind.i64 (x0+(1:Int))) x1 x2 x3)) none) (some (.inr ())))
theorem qLak:type_of% @Lak.eq_2:=@Lak.eq_2
noncomputable def xLak (x0:Int) (x1:(List Int)) (x2:(List (List Int))) (x3:(List Int)):(Bool ⊕ Unit)→Ex×CS:=fun r=>match r with | .inl a0=>(.ret,{ sl:=[(2,.v (.sc (.bool (a0))))],lo:=[],h:=[],n0:=0,w:=true }) | .inr b0=>((.exit 0),{ sl:=[(1,.l 1 0),(5,.l 1 1)],lo:=[(1,[.d 3 (.int .i64) (x1),.d 22 (.list 3 (.int .i64)) (x2),.d 3 (.int .i64) (x3)])],h:=[],n0:=0,w:=false })
theorem bLak (k:Nat) (cN:CS→Option (Ex×CS)) (cX:Ex→CS→Option (Ex×CS)) (x0:Int) (x1:(List Int)) (x2:(List (List Int))) (x3:(List Int)):zq Try.prog (tn89 12) (TM.evF Try.prog (tn89) dOk (k+40)) dOk (k+40) (zc Try.prog (tn0 12) 12 0) 0 0 { sl:=[(1,.l 1 0),(3,.v (.sc (I4 x0)))],lo:=[(1,[.d 3 (.int .i64) (x1),.d 22 (.list 3 (.int .i64)) (x2),.d 3 (.int .i64) (x3)])],h:=[],n0:=0,w:=false } cN cX=(cond (decide (x0 < (x2.length:Int))) (cond (decide (0≤x0)) (cond (decide (x0 < (x2.length:Int))) (cond (decide ((↑(List.length (List.getD x2 x0.toNat [])):Int) > (20:Int))) (cX .ret { sl:=[(2,.v (.sc (.bool (false))))],lo:=[],h:=[],n0:=0,w:=true }) (cN { sl:=[(1,.l 1 0),(3,.v (.sc (I4 (IntKind.wrap IntKind.i64 (x0+(1:Int))))))],lo:=[(1,[.d 3 (.int .i64) (x1),.d 22 (.list 3 (.int .i64)) (x2),.d 3 (.int .i64) (x3)])],h:=[],n0:=0,w:=false })) none) none) (cX (.exit 0) { sl:=[(1,.l 1 0),(5,.l 1 1)],lo:=[(1,[.d 3 (.int .i64) (x1),.d 22 (.list 3 (.int .i64)) (x2),.d 3 (.int .i64) (x3)])],h:=[],n0:=0,w:=false })):=by kernel_rfl
theorem lLak (k m:Nat):∀ (n:Nat) (x0:Int) (x1:(List Int)) (x2:(List (List Int))) (x3:(List Int)) (r:(Bool ⊕ Unit)),Lak n x0 x1 x2 x3=some r→zM Try.prog (tn89 12) (TM.evF Try.prog (tn89) dOk (k+40)) dOk (k+40) (zc Try.prog (tn0 12) 12 0) 0 0 (n+m) { sl:=[(1,.l 1 0),(3,.v (.sc (I4 x0)))],lo:=[(1,[.d 3 (.int .i64) (x1),.d 22 (.list 3 (.int .i64)) (x2),.d 3 (.int .i64) (x3)])],h:=[],n0:=0,w:=false }=some (xLak x0 x1 x2 x3 r):=by
 intro n
 induction n with
 | zero=>intro _ _ _ _ r h;cases h
 | succ n ih=>
  intro x0 x1 x2 x3 r
  rw [show n+1+m=n+m+1 by omega,zp,bLak,qLak]
  cases (decide (x0 < (x2.length:Int))) with
  | true=>
   cases (decide (0≤x0)) with
   | true=>
    cases (decide ((↑(List.length (List.getD x2 x0.toNat [])):Int) > (20:Int))) with
    | true=>
     intro h;cases h;rfl
    | false=>
     exact ih _ _ _ _ r
   | false=>
    intro h;cases h
  | false=>
   intro h;cases h;rfl
noncomputable def sLak:TellS:=fun S=>dCS 0 S fun y1 y2 y3=>dSt 1 y1 fun y5 l4=>dL 1 0 y5<|dSI 3 .i64 l4 fun x0 l6=>dE l6<|dLo 1 y2 fun y7 l8=>dC y7 fun y9 l10=>dD 3 (.int .i64) y9 fun x1=>dC l10 fun y11 l12=>dD 22 (.list 3 (.int .i64)) y11 fun x2=>dC l12 fun y13 l14=>dD 3 (.int .i64) y13 fun x3=>dE l14<|dE l8<|dE y3 <|  some [(isL (Lak FU x0 x1 x2 x3),.ret,{ sl:=[(2,.v (.sc (.bool ((zN (Lak FU x0 x1 x2 x3))))))],lo:=[],h:=[],n0:=0,w:=true }),(ok (zL (Lak FU x0 x1 x2 x3)),(.exit 0),{ sl:=[(1,.l 1 0),(5,.l 1 1)],lo:=[(1,[.d 3 (.int .i64) (x1),.d 22 (.list 3 (.int .i64)) (x2),.d 3 (.int .i64) (x3)])],h:=[],n0:=0,w:=false })]
theorem wLak:zB Try.prog dOk base o89 t89 ((12,0),sLak):=by
 refine ⟨.loop (zc Try.prog (tn0 12) 12 0),0,by kernel_rfl,?_⟩
 intro S alts e S' h10 h2
 have h1:sLak S=some alts:=h10
 clear h10
 unfold sLak at h1
 repeat with_reducible first|replace h1:=yc h1;obtain ⟨_,_,_,rfl,h1⟩:=h1|(first|replace h1:=wB h1|replace h1:=ye h1|replace h1:=wL h1|replace h1:=dCq h1);obtain ⟨_,_,rfl,h1⟩:=h1|(first|replace h1:=dLq h1|replace h1:=dEq h1);obtain ⟨rfl,h1⟩:=h1|replace h1:=dDq h1;obtain ⟨_,rfl,h1⟩:=h1
 cases h1
 rcases yx h2 with ⟨hc0,rfl,rfl⟩ | h2
 · exact ⟨FU+40,(ze rfl).trans (lLak FU 40 FU _ _ _ _ _ (yS hc0))⟩
 obtain ⟨hc1,rfl,rfl⟩:=zt h2
 exact ⟨FU+40,(ze rfl).trans (lLak FU 40 FU _ _ _ _ _ (yw (zf hc1)))⟩
noncomputable def o90:OrcT:=o89
noncomputable def t90:TellT:=((12,0),sLak)::t89
noncomputable abbrev tn90:FuncId→TAn:=zh base o90 t90
theorem ok90:TnOk Try.prog tn90 (mkA base) dOk:=by
 have h0:TnOk Try.prog (tn89) (mkA base) dOk:=ok89
 have h1:=zD h0 h0 (p:=((12,0),sLak)) wLak
 exact h1
noncomputable def v12 (x0:(List Int)) (x1:(List (List Int))) (x2:(List Int)):Option Bool:=(cond (isL (Lak FU 0 x0 x1 x2)) (some (zN (Lak FU 0 x0 x1 x2))) (cond (ok (zL (Lak FU 0 x0 x1 x2))) (cond (decide ((x0.length:Int)≤(20:Int))) (cond (decide ((x1.length:Int)≤(20:Int))) (some (decide ((x2.length:Int)≤(40:Int)))) (some (false))) (some (false))) none))
theorem ev12 (x0:(List Int)) (x1:(List (List Int))) (x2:(List Int)):zo Try.prog (tn90 12) (TM.evF Try.prog (tn90) dOk 40) dOk 40 12 [.agg [.d 3 (.int .i64) (x0),.d 22 (.list 3 (.int .i64)) (x1),.d 3 (.int .i64) (x2)]] []=(v12 x0 x1 x2).bind fun r=>some ([.sc (.bool (r))],[]):=by
 refine Eq.trans (b:=(cond (isL (Lak FU 0 x0 x1 x2)) (some ([.sc (.bool (zN (Lak FU 0 x0 x1 x2)))],[])) (cond (ok (zL (Lak FU 0 x0 x1 x2))) (cond (decide ((x0.length:Int)≤(20:Int))) (cond (decide ((x1.length:Int)≤(20:Int))) (some ([.sc (.bool (decide ((x2.length:Int)≤(40:Int))))],[])) (some ([.sc (.bool (false))],[]))) (some ([.sc (.bool (false))],[]))) none))) (by kernel_rfl) ?_
 unfold v12
 refine za ?_ ?_
 rfl
 refine za ?_ ?_
 refine za ?_ ?_
 refine za ?_ ?_
 rfl
 rfl
 rfl
 rfl
noncomputable def sv12:OrcS:=fun al H=>dC al fun y1 l2=>dA y1 fun y3=>dC y3 fun y4 l5=>dD 3 (.int .i64) y4 fun x0=>dC l5 fun y6 l7=>dD 22 (.list 3 (.int .i64)) y6 fun x1=>dC l7 fun y8 l9=>dD 3 (.int .i64) y8 fun x2=>dE l9<|dE l2<|dE H <|  some [(ok (v12 x0 x1 x2),[.sc (.bool ((val (v12 x0 x1 x2))))],[])]
theorem wv12:zm Try.prog dOk base o90 t90 (12,sv12):=by
 intro al H q hq0 rs H2 h2
 have hq:sv12 al H=some q:=hq0
 clear hq0
 unfold sv12 at hq
 repeat with_reducible first|replace hq:=dCq hq;obtain ⟨_,_,rfl,hq⟩:=hq|(first|replace hq:=dAq hq|replace hq:=dDq hq);obtain ⟨_,rfl,hq⟩:=hq|replace hq:=dEq hq;obtain ⟨rfl,hq⟩:=hq
 cases hq
 obtain ⟨hc0,rfl,rfl⟩:=zg h2
 exact ⟨41,(zu (by kernel_rfl)).trans ((ev12 _ _ _).trans (zl (zf hc0)))⟩
noncomputable def o91:OrcT:=(12,sv12)::o90
noncomputable def t91:TellT:=t90
noncomputable abbrev tn91:FuncId→TAn:=zh base o91 t91
theorem ok91:TnOk Try.prog tn91 (mkA base) dOk:=by
 have h0:TnOk Try.prog (tn90) (mkA base) dOk:=ok90
 have h1:=zn h0 h0 (p:=(12,sv12)) wv12
 exact h1
noncomputable def LaJ:Nat→Int→Int→(List Int)→(List (List Int))→(List Int)→(List Int)→(List (List Int))→(List Int)→Option ((List (List Int))×(List Int))
 | 0,_,_,_,_,_,_,_,_=>none
 | n+1,x0,x1,x2,x3,x4,x5,x6,x7=>(cond (decide (x1 < x0)) (cond (decide (List.length x6+List.length [[0]]≤nat_lit 2147483648)) (cond (decide (List.length x7+List.length [0]≤nat_lit 2147483648)) (LaJ n x0 (IntKind.wrap IntKind.i64 (x1+(1:Int))) x2 x3 x4 x5 (x6++[[0]]) (x7++[0])) none) none) (some (x6,x7)))
theorem qLaJ:type_of% @LaJ.eq_2:=@LaJ.eq_2
noncomputable def xLaJ (x0 x1:Int) (x2:(List Int)) (x3:(List (List Int))) (x4:(List Int)) (x5:(List Int)) (x6:(List (List Int))) (x7:(List Int)):((List (List Int))×(List Int))→Ex×CS:=fun r=>((.exit 0),{ sl:=[(4,.l 4 0),(5,.l 5 0)],lo:=[(4,[.g 0,.g 1,.g 2]),(5,[.g 3,.g 4,.g 5])],h:=[.row 3 (.int .i64) (x2),.row 22 (.list 3 (.int .i64)) (x3),.row 3 (.int .i64) (x4),.row 3 (.int .i64) (x5),.row 22 (.list 3 (.int .i64)) (r.1:List (List Int)),.row 3 (.int .i64) (r.2:List Int)],n0:=0,w:=false })
theorem bLaJ (k:Nat) (cN:CS→Option (Ex×CS)) (cX:Ex→CS→Option (Ex×CS)) (x0 x1:Int) (x2:(List Int)) (x3:(List (List Int))) (x4:(List Int)) (x5:(List Int)) (x6:(List (List Int))) (x7:(List Int)):zq Try.prog (tn91 19) (TM.evF Try.prog (tn91) dOk (k+40)) dOk (k+40) (zc Try.prog (tn0 19) 19 0) 0 0 { sl:=[(4,.l 4 0),(5,.l 5 0),(9,.v (.sc (I4 x0))),(10,.v (.sc (I4 x1)))],lo:=[(4,[.g 0,.g 1,.g 2]),(5,[.g 3,.g 4,.g 5])],h:=[.row 3 (.int .i64) (x2),.row 22 (.list 3 (.int .i64)) (x3),.row 3 (.int .i64) (x4),.row 3 (.int .i64) (x5),.row 22 (.list 3 (.int .i64)) (x6),.row 3 (.int .i64) (x7)],n0:=0,w:=false } cN cX=(cond (decide (x1 < x0)) (cond (decide (List.length x6+List.length [[0]]≤nat_lit 2147483648)) (cond (decide (List.length x7+List.length [0]≤nat_lit 2147483648)) (cN { sl:=[(4,.l 4 0),(5,.l 5 0),(9,.v (.sc (I4 x0))),(10,.v (.sc (I4 (IntKind.wrap IntKind.i64 (x1+(1:Int))))))],lo:=[(4,[.g 0,.g 1,.g 2]),(5,[.g 3,.g 4,.g 5])],h:=[.row 3 (.int .i64) (x2),.row 22 (.list 3 (.int .i64)) (x3),.row 3 (.int .i64) (x4),.row 3 (.int .i64) (x5),.row 22 (.list 3 (.int .i64)) (x6++[[0]]:List (List Int)),.row 3 (.int .i64) (x7++[0]:List Int)],n0:=0,w:=false }) none) none) (cX (.exit 0) { sl:=[(4,.l 4 0),(5,.l 5 0)],lo:=[(4,[.g 0,.g 1,.g 2]),(5,[.g 3,.g 4,.g 5])],h:=[.row 3 (.int .i64) (x2),.row 22 (.list 3 (.int .i64)) (x3),.row 3 (.int .i64) (x4),.row 3 (.int .i64) (x5),.row 22 (.list 3 (.int .i64)) (x6),.row 3 (.int .i64) (x7)],n0:=0,w:=false })):=by kernel_rfl
theorem lLaJ (k m:Nat):∀ (n:Nat) (x0 x1:Int) (x2:(List Int)) (x3:(List (List Int))) (x4:(List Int)) (x5:(List Int)) (x6:(List (List Int))) (x7:(List Int)) (r:((List (List Int))×(List Int))),LaJ n x0 x1 x2 x3 x4 x5 x6 x7=some r→zM Try.prog (tn91 19) (TM.evF Try.prog (tn91) dOk (k+40)) dOk (k+40) (zc Try.prog (tn0 19) 19 0) 0 0 (n+m) { sl:=[(4,.l 4 0),(5,.l 5 0),(9,.v (.sc (I4 x0))),(10,.v (.sc (I4 x1)))],lo:=[(4,[.g 0,.g 1,.g 2]),(5,[.g 3,.g 4,.g 5])],h:=[.row 3 (.int .i64) (x2),.row 22 (.list 3 (.int .i64)) (x3),.row 3 (.int .i64) (x4),.row 3 (.int .i64) (x5),.row 22 (.list 3 (.int .i64)) (x6),.row 3 (.int .i64) (x7)],n0:=0,w:=false }=some (xLaJ x0 x1 x2 x3 x4 x5 x6 x7 r):=by
 intro n
 induction n with
 | zero=>intro _ _ _ _ _ _ _ _ r h;cases h
 | succ n ih=>
  intro x0 x1 x2 x3 x4 x5 x6 x7 r
  rw [show n+1+m=n+m+1 by omega,zp,bLaJ,qLaJ]
  refine zb ?_ ?_
  refine zb ?_ ?_
  refine zb ?_ ?_
  exact ih _ _ _ _ _ _ _ _ r
  intro h;cases h
  intro h;cases h
  intro h;cases h;rfl
noncomputable def sLaJ:TellS:=fun S=>dCS 0 S fun y1 y2 y3=>dSt 4 y1 fun y5 l4=>dL 4 0 y5<|dSt 5 l4 fun y7 l6=>dL 5 0 y7<|dSI 9 .i64 l6 fun x0 l8=>dSI 10 .i64 l8 fun x1 l9=>dE l9<|dLo 4 y2 fun y10 l11=>dC y10 fun y12 l13=>dG 0 y12<|dC l13 fun y14 l15=>dG 1 y14<|dC l15 fun y16 l17=>dG 2 y16<|dE l17<|dLo 5 l11 fun y18 l19=>dC y18 fun y20 l21=>dG 3 y20<|dC l21 fun y22 l23=>dG 4 y22<|dC l23 fun y24 l25=>dG 5 y24<|dE l25<|dE l19<|dHR 3 (.int .i64) y3 fun x2 l26=>dHR 22 (.list 3 (.int .i64)) l26 fun x3 l27=>dHR 3 (.int .i64) l27 fun x4 l28=>dHR 3 (.int .i64) l28 fun x5 l29=>dHR 22 (.list 3 (.int .i64)) l29 fun x6 l30=>dHR 3 (.int .i64) l30 fun x7 l31=>dE l31 <|  some [(ok (LaJ FU x0 x1 x2 x3 x4 x5 x6 x7),(.exit 0),{ sl:=[(4,.l 4 0),(5,.l 5 0)],lo:=[(4,[.g 0,.g 1,.g 2]),(5,[.g 3,.g 4,.g 5])],h:=[.row 3 (.int .i64) (x2),.row 22 (.list 3 (.int .i64)) (x3),.row 3 (.int .i64) (x4),.row 3 (.int .i64) (x5),.row 22 (.list 3 (.int .i64)) ((val (LaJ FU x0 x1 x2 x3 x4 x5 x6 x7)).1:List (List Int)),.row 3 (.int .i64) ((val (LaJ FU x0 x1 x2 x3 x4 x5 x6 x7)).2:List Int)],n0:=0,w:=false })]
theorem wLaJ:zB Try.prog dOk base o91 t91 ((19,0),sLaJ):=by
 refine ⟨.loop (zc Try.prog (tn0 19) 19 0),0,by kernel_rfl,?_⟩
 intro S alts e S' h10 h2
 have h1:sLaJ S=some alts:=h10
 clear h10
 unfold sLaJ at h1
 repeat with_reducible first|replace h1:=yc h1;obtain ⟨_,_,_,rfl,h1⟩:=h1|(first|replace h1:=wB h1|replace h1:=ye h1|replace h1:=wL h1|replace h1:=dCq h1|replace h1:=zY h1);obtain ⟨_,_,rfl,h1⟩:=h1|(first|replace h1:=dLq h1|replace h1:=dEq h1|replace h1:=dGq h1);obtain ⟨rfl,h1⟩:=h1
 cases h1
 obtain ⟨hc0,rfl,rfl⟩:=zt h2
 exact ⟨FU+40,(ze rfl).trans (lLaJ FU 40 FU _ _ _ _ _ _ _ _ _ (zf hc0))⟩
noncomputable def o92:OrcT:=o91
noncomputable def t92:TellT:=((19,0),sLaJ)::t91
noncomputable abbrev tn92:FuncId→TAn:=zh base o92 t92
theorem ok92:TnOk Try.prog tn92 (mkA base) dOk:=by
 have h0:TnOk Try.prog (tn91) (mkA base) dOk:=ok91
 have h1:=zD h0 h0 (p:=((19,0),sLaJ)) wLaJ
 exact h1
noncomputable def v19 (x0 x1:Int):Option ((List Int)×(List (List Int))×(List Int)):=(cond (ok (LaJ FU x1 0 [] [] [] [x0] [] [])) (some ([x0],(val (LaJ FU x1 0 [] [] [] [x0] [] [])).1,(val (LaJ FU x1 0 [] [] [] [x0] [] [])).2)) none)
theorem ev19 (x0 x1:Int):zo Try.prog (tn92 19) (TM.evF Try.prog (tn92) dOk 40) dOk 40 19 [.sc (I4 x0),.sc (I4 x1)] []=(v19 x0 x1).bind fun r=>some ([.agg [.d 3 (.int .i64) (r.1:List Int),.d 22 (.list 3 (.int .i64)) (r.2.1:List (List Int)),.d 3 (.int .i64) (r.2.2:List Int)]],[]):=by
 refine Eq.trans (b:=(cond (ok (LaJ FU x1 0 [] [] [] [x0] [] [])) (some ([.agg [.d 3 (.int .i64) ([x0]:List Int),.d 22 (.list 3 (.int .i64)) ((val (LaJ FU x1 0 [] [] [] [x0] [] [])).1:List (List Int)),.d 3 (.int .i64) ((val (LaJ FU x1 0 [] [] [] [x0] [] [])).2:List Int)]],[])) none)) (by kernel_rfl) ?_
 unfold v19
 refine za ?_ ?_
 rfl
 rfl
noncomputable def sv19:OrcS:=fun al H=>dC al fun y1 l2=>dS y1 fun y3=>xd .i64 y3 fun x0=>dC l2 fun y4 l5=>dS y4 fun y6=>xd .i64 y6 fun x1=>dE l5<|dE H <|  some [(ok (v19 x0 x1),[.agg [.d 3 (.int .i64) ((val (v19 x0 x1)).1:List Int),.d 22 (.list 3 (.int .i64)) ((val (v19 x0 x1)).2.1:List (List Int)),.d 3 (.int .i64) ((val (v19 x0 x1)).2.2:List Int)]],[])]
theorem wv19:zm Try.prog dOk base o92 t92 (19,sv19):=by
 intro al H q hq0 rs H2 h2
 have hq:sv19 al H=some q:=hq0
 clear hq0
 unfold sv19 at hq
 repeat with_reducible first|replace hq:=dCq hq;obtain ⟨_,_,rfl,hq⟩:=hq|(first|replace hq:=dSq hq|replace hq:=xu hq);obtain ⟨_,rfl,hq⟩:=hq|replace hq:=dEq hq;obtain ⟨rfl,hq⟩:=hq
 cases hq
 obtain ⟨hc0,rfl,rfl⟩:=zg h2
 exact ⟨41,(zu (by kernel_rfl)).trans ((ev19 _ _).trans (zl (zf hc0)))⟩
noncomputable def o93:OrcT:=(19,sv19)::o92
noncomputable def t93:TellT:=t92
noncomputable abbrev tn93:FuncId→TAn:=zh base o93 t93
theorem ok93:TnOk Try.prog tn93 (mkA base) dOk:=by
 have h0:TnOk Try.prog (tn92) (mkA base) dOk:=ok92
 have h1:=zn h0 h0 (p:=(19,sv19)) wv19
 exact h1
noncomputable def Lal:Nat→(List Int)→(List Int)→Int→Option (Bool ⊕ Unit)
 | 0,_,_,_=>none
 | n+1,x0,x1,x2=>(cond (decide (x2 < (x0.length:Int))) (cond (decide (0≤x2)) (cond (decide (x2 < (x1.length:Int))) (cond (List.getD x0 x2.toNat 0 != List.getD x1 x2.toNat 0) (some (.inl (false))) (Lal n x0 x1 (IntKind.wrap IntKind.i64 (x2+(1:Int))))) none) none) (some (.inr ())))
theorem qLal:type_of% @Lal.eq_2:=@Lal.eq_2
noncomputable def xLal (x0:(List Int)) (x1:(List Int)) (x2:Int):(Bool ⊕ Unit)→Ex×CS:=fun r=>match r with | .inl a0=>(.ret,{ sl:=[(4,.v (.sc (.bool (a0))))],lo:=[],h:=[],n0:=0,w:=true }) | .inr b0=>((.exit 0),{ sl:=[],lo:=[],h:=[],n0:=0,w:=false })
theorem bLal (k:Nat) (cN:CS→Option (Ex×CS)) (cX:Ex→CS→Option (Ex×CS)) (x0:(List Int)) (x1:(List Int)) (x2:Int):zq Try.prog (tn93 20) (TM.evF Try.prog (tn93) dOk (k+40)) dOk (k+40) (zc Try.prog (tn0 20) 20 0) 0 0 { sl:=[(0,.v (.sc (.d 3 (.int .i64) x0))),(1,.v (.sc (.d 3 (.int .i64) x1))),(5,.v (.sc (I4 x2)))],lo:=[],h:=[],n0:=0,w:=false } cN cX=(cond (decide (x2 < (x0.length:Int))) (cond (decide (0≤x2)) (cond (decide (x2 < (x0.length:Int))) (cond (decide (0≤x2)) (cond (decide (x2 < (x1.length:Int))) (cond (List.getD x0 x2.toNat 0 != List.getD x1 x2.toNat 0) (cX .ret { sl:=[(4,.v (.sc (.bool (false))))],lo:=[],h:=[],n0:=0,w:=true }) (cN { sl:=[(0,.v (.sc (.d 3 (.int .i64) x0))),(1,.v (.sc (.d 3 (.int .i64) x1))),(5,.v (.sc (I4 (IntKind.wrap IntKind.i64 (x2+(1:Int))))))],lo:=[],h:=[],n0:=0,w:=false })) none) none) none) none) (cX (.exit 0) { sl:=[],lo:=[],h:=[],n0:=0,w:=false })):=by kernel_rfl
theorem lLal (k m:Nat):∀ (n:Nat) (x0:(List Int)) (x1:(List Int)) (x2:Int) (r:(Bool ⊕ Unit)),Lal n x0 x1 x2=some r→zM Try.prog (tn93 20) (TM.evF Try.prog (tn93) dOk (k+40)) dOk (k+40) (zc Try.prog (tn0 20) 20 0) 0 0 (n+m) { sl:=[(0,.v (.sc (.d 3 (.int .i64) x0))),(1,.v (.sc (.d 3 (.int .i64) x1))),(5,.v (.sc (I4 x2)))],lo:=[],h:=[],n0:=0,w:=false }=some (xLal x0 x1 x2 r):=by
 intro n
 induction n with
 | zero=>intro _ _ _ r h;cases h
 | succ n ih=>
  intro x0 x1 x2 r
  rw [show n+1+m=n+m+1 by omega,zp,bLal,qLal]
  cases (decide (x2 < (x0.length:Int))) with
  | true=>
   cases (decide (0≤x2)) with
   | true=>
    cases (decide (x2 < (x1.length:Int))) with
    | true=>
     cases (List.getD x0 x2.toNat 0 != List.getD x1 x2.toNat 0) with
     | true=>
      intro h;cases h;rfl
     | false=>
      exact ih _ _ _ r
    | false=>
     intro h;cases h
   | false=>
    intro h;cases h
  | false=>
   intro h;cases h;rfl
noncomputable def sLal:TellS:=fun S=>dCS 0 S fun y1 y2 y3=>dSs 0 y1 fun y5 l4=>dD 3 (.int .i64) y5 fun x0=>dSs 1 l4 fun y7 l6=>dD 3 (.int .i64) y7 fun x1=>dSI 5 .i64 l6 fun x2 l8=>dE l8<|dE y2<|dE y3 <|  some [(isL (Lal FU x0 x1 x2),.ret,{ sl:=[(4,.v (.sc (.bool ((zN (Lal FU x0 x1 x2))))))],lo:=[],h:=[],n0:=0,w:=true }),(ok (zL (Lal FU x0 x1 x2)),(.exit 0),{ sl:=[],lo:=[],h:=[],n0:=0,w:=false })]
theorem wLal:zB Try.prog dOk base o93 t93 ((20,0),sLal):=by
 refine ⟨.loop (zc Try.prog (tn0 20) 20 0),0,by kernel_rfl,?_⟩
 intro S alts e S' h10 h2
 have h1:sLal S=some alts:=h10
 clear h10
 unfold sLal at h1
 repeat with_reducible first|replace h1:=yc h1;obtain ⟨_,_,_,rfl,h1⟩:=h1|(first|replace h1:=zX h1|replace h1:=ye h1);obtain ⟨_,_,rfl,h1⟩:=h1|replace h1:=dDq h1;obtain ⟨_,rfl,h1⟩:=h1|replace h1:=dEq h1;obtain ⟨rfl,h1⟩:=h1
 cases h1
 rcases yx h2 with ⟨hc0,rfl,rfl⟩ | h2
 · exact ⟨FU+40,(ze rfl).trans (lLal FU 40 FU _ _ _ _ (yS hc0))⟩
 obtain ⟨hc1,rfl,rfl⟩:=zt h2
 exact ⟨FU+40,(ze rfl).trans (lLal FU 40 FU _ _ _ _ (yw (zf hc1)))⟩
noncomputable def o94:OrcT:=o93
noncomputable def t94:TellT:=((20,0),sLal)::t93
noncomputable abbrev tn94:FuncId→TAn:=zh base o94 t94
theorem ok94:TnOk Try.prog tn94 (mkA base) dOk:=by
 have h0:TnOk Try.prog (tn93) (mkA base) dOk:=ok93
 have h1:=zD h0 h0 (p:=((20,0),sLal)) wLal
 exact h1
noncomputable def v20 (x0:(List Int)) (x1:(List Int)):Option Bool:=(cond ((x0.length:Int) != (x1.length:Int)) (some (false)) (cond (isL (Lal FU x0 x1 0)) (some (zN (Lal FU x0 x1 0))) (cond (ok (zL (Lal FU x0 x1 0))) (some (true)) none)))
theorem ev20 (x0:(List Int)) (x1:(List Int)):zo Try.prog (tn94 20) (TM.evF Try.prog (tn94) dOk 40) dOk 40 20 [.sc (.d 3 (.int .i64) x0),.sc (.d 3 (.int .i64) x1)] []=(v20 x0 x1).bind fun r=>some ([.sc (.bool (r))],[]):=by
 refine Eq.trans (b:=(cond ((x0.length:Int) != (x1.length:Int)) (some ([.sc (.bool (false))],[])) (cond (isL (Lal FU x0 x1 0)) (some ([.sc (.bool (zN (Lal FU x0 x1 0)))],[])) (cond (ok (zL (Lal FU x0 x1 0))) (some ([.sc (.bool (true))],[])) none)))) (by kernel_rfl) ?_
 unfold v20
 refine za ?_ ?_
 rfl
 refine za ?_ ?_
 rfl
 refine za ?_ ?_
 rfl
 rfl
noncomputable def sv20:OrcS:=fun al H=>dC al fun y1 l2=>dS y1 fun y3=>dD 3 (.int .i64) y3 fun x0=>dC l2 fun y4 l5=>dS y4 fun y6=>dD 3 (.int .i64) y6 fun x1=>dE l5<|dE H <|  some [(ok (v20 x0 x1),[.sc (.bool ((val (v20 x0 x1))))],[])]
theorem wv20:zm Try.prog dOk base o94 t94 (20,sv20):=by
 intro al H q hq0 rs H2 h2
 have hq:sv20 al H=some q:=hq0
 clear hq0
 unfold sv20 at hq
 repeat with_reducible first|replace hq:=dCq hq;obtain ⟨_,_,rfl,hq⟩:=hq|(first|replace hq:=dSq hq|replace hq:=dDq hq);obtain ⟨_,rfl,hq⟩:=hq|replace hq:=dEq hq;obtain ⟨rfl,hq⟩:=hq
 cases hq
 obtain ⟨hc0,rfl,rfl⟩:=zg h2
 exact ⟨41,(zu (by kernel_rfl)).trans ((ev20 _ _).trans (zl (zf hc0)))⟩
noncomputable def o95:OrcT:=(20,sv20)::o94
noncomputable def t95:TellT:=t94
noncomputable abbrev tn95:FuncId→TAn:=zh base o95 t95
theorem ok95:TnOk Try.prog tn95 (mkA base) dOk:=by
 have h0:TnOk Try.prog (tn94) (mkA base) dOk:=ok94
 have h1:=zn h0 h0 (p:=(20,sv20)) wv20
 exact h1
noncomputable def Lai:Nat→Int→(List (List Int))→(List Int)→Int→(List (List Int))→(List Int)→Int→Option (Bool ⊕ Unit)
 | 0,_,_,_,_,_,_,_=>none
 | n+1,x0,x1,x2,x3,x4,x5,x6=>(cond (decide (x0 < (x1.length:Int))) (cond (decide (0≤x0)) (cond (decide (x0 < (x4.length:Int))) (cond (ok (v20 (List.getD x1 x0.toNat []) (List.getD x4 x0.toNat []))) (cond (!val (v20 (List.getD x1 x0.toNat []) (List.getD x4 x0.toNat []))) (some (.inl (false))) (Lai n (IntKind.wrap IntKind.i64 (x0+(1:Int))) x1 x2 x3 x4 x5 x6)) none) none) none) (some (.inr ())))
theorem qLai:type_of% @Lai.eq_2:=@Lai.eq_2
noncomputable def xLai (x0:Int) (x1:(List (List Int))) (x2:(List Int)) (x3:Int) (x4:(List (List Int))) (x5:(List Int)) (x6:Int):(Bool ⊕ Unit)→Ex×CS:=fun r=>match r with | .inl a0=>(.ret,{ sl:=[(4,.v (.sc (.bool (a0))))],lo:=[],h:=[],n0:=0,w:=true }) | .inr b0=>((.exit 0),{ sl:=[(2,.l 2 0),(3,.l 3 0),(29,.l 2 0)],lo:=[],h:=[],n0:=0,w:=false })
theorem bLai (k:Nat) (cN:CS→Option (Ex×CS)) (cX:Ex→CS→Option (Ex×CS)) (x0:Int) (x1:(List (List Int))) (x2:(List Int)) (x3:Int) (x4:(List (List Int))) (x5:(List Int)) (x6:Int):zq Try.prog (tn95 15) (TM.evF Try.prog (tn95) dOk (k+40)) dOk (k+40) (zc Try.prog (tn0 15) 15 0) 0 0 { sl:=[(2,.l 2 0),(3,.l 3 0),(5,.v (.sc (I4 x0)))],lo:=[(2,[.d 22 (.list 3 (.int .i64)) (x1),.d 3 (.int .i64) (x2),I4 (x3)]),(3,[.d 22 (.list 3 (.int .i64)) (x4),.d 3 (.int .i64) (x5),I4 (x6)])],h:=[],n0:=0,w:=false } cN cX=(cond (decide (x0 < (x1.length:Int))) (cond (decide (0≤x0)) (cond (decide (x0 < (x1.length:Int))) (cond (decide (0≤x0)) (cond (decide (x0 < (x4.length:Int))) (cond (ok (v20 (List.getD x1 x0.toNat []) (List.getD x4 x0.toNat []))) (cond (!val (v20 (List.getD x1 x0.toNat []) (List.getD x4 x0.toNat []))) (cX .ret { sl:=[(4,.v (.sc (.bool (false))))],lo:=[],h:=[],n0:=0,w:=true }) (cN { sl:=[(2,.l 2 0),(3,.l 3 0),(5,.v (.sc (I4 (IntKind.wrap IntKind.i64 (x0+(1:Int))))))],lo:=[(2,[.d 22 (.list 3 (.int .i64)) (x1),.d 3 (.int .i64) (x2),I4 (x3)]),(3,[.d 22 (.list 3 (.int .i64)) (x4),.d 3 (.int .i64) (x5),I4 (x6)])],h:=[],n0:=0,w:=false })) none) none) none) none) none) (cX (.exit 0) { sl:=[(2,.l 2 0),(3,.l 3 0),(29,.l 2 0)],lo:=[],h:=[],n0:=0,w:=false })):=by kernel_rfl
theorem lLai (k m:Nat):∀ (n:Nat) (x0:Int) (x1:(List (List Int))) (x2:(List Int)) (x3:Int) (x4:(List (List Int))) (x5:(List Int)) (x6:Int) (r:(Bool ⊕ Unit)),Lai n x0 x1 x2 x3 x4 x5 x6=some r→zM Try.prog (tn95 15) (TM.evF Try.prog (tn95) dOk (k+40)) dOk (k+40) (zc Try.prog (tn0 15) 15 0) 0 0 (n+m) { sl:=[(2,.l 2 0),(3,.l 3 0),(5,.v (.sc (I4 x0)))],lo:=[(2,[.d 22 (.list 3 (.int .i64)) (x1),.d 3 (.int .i64) (x2),I4 (x3)]),(3,[.d 22 (.list 3 (.int .i64)) (x4),.d 3 (.int .i64) (x5),I4 (x6)])],h:=[],n0:=0,w:=false }=some (xLai x0 x1 x2 x3 x4 x5 x6 r):=by
 intro n
 induction n with
 | zero=>intro _ _ _ _ _ _ _ r h;cases h
 | succ n ih=>
  intro x0 x1 x2 x3 x4 x5 x6 r
  rw [show n+1+m=n+m+1 by omega,zp,bLai,qLai]
  cases (decide (x0 < (x1.length:Int))) with
  | true=>
   cases (decide (0≤x0)) with
   | true=>
    cases (decide (x0 < (x4.length:Int))) with
    | true=>
     cases (ok (v20 (List.getD x1 x0.toNat []) (List.getD x4 x0.toNat []))) with
     | true=>
      cases (!val (v20 (List.getD x1 x0.toNat []) (List.getD x4 x0.toNat []))) with
      | true=>
       intro h;cases h;rfl
      | false=>
       exact ih _ _ _ _ _ _ _ r
     | false=>
      intro h;cases h
    | false=>
     intro h;cases h
   | false=>
    intro h;cases h
  | false=>
   intro h;cases h;rfl
noncomputable def sLai:TellS:=fun S=>dCS 0 S fun y1 y2 y3=>dSt 2 y1 fun y5 l4=>dL 2 0 y5<|dSt 3 l4 fun y7 l6=>dL 3 0 y7<|dSI 5 .i64 l6 fun x0 l8=>dE l8<|dLo 2 y2 fun y9 l10=>dC y9 fun y11 l12=>dD 22 (.list 3 (.int .i64)) y11 fun x1=>dC l12 fun y13 l14=>dD 3 (.int .i64) y13 fun x2=>dK l14 fun x3 l15=>dE l15<|dLo 3 l10 fun y16 l17=>dC y16 fun y18 l19=>dD 22 (.list 3 (.int .i64)) y18 fun x4=>dC l19 fun y20 l21=>dD 3 (.int .i64) y20 fun x5=>dK l21 fun x6 l22=>dE l22<|dE l17<|dE y3 <|  some [(isL (Lai FU x0 x1 x2 x3 x4 x5 x6),.ret,{ sl:=[(4,.v (.sc (.bool ((zN (Lai FU x0 x1 x2 x3 x4 x5 x6))))))],lo:=[],h:=[],n0:=0,w:=true }),(ok (zL (Lai FU x0 x1 x2 x3 x4 x5 x6)),(.exit 0),{ sl:=[(2,.l 2 0),(3,.l 3 0),(29,.l 2 0)],lo:=[],h:=[],n0:=0,w:=false })]
theorem wLai:zB Try.prog dOk base o95 t95 ((15,0),sLai):=by
 refine ⟨.loop (zc Try.prog (tn0 15) 15 0),0,by kernel_rfl,?_⟩
 intro S alts e S' h10 h2
 have h1:sLai S=some alts:=h10
 clear h10
 unfold sLai at h1
 repeat with_reducible first|replace h1:=yc h1;obtain ⟨_,_,_,rfl,h1⟩:=h1|(first|replace h1:=wB h1|replace h1:=ye h1|replace h1:=wL h1|replace h1:=dCq h1|replace h1:=zJ h1);obtain ⟨_,_,rfl,h1⟩:=h1|(first|replace h1:=dLq h1|replace h1:=dEq h1);obtain ⟨rfl,h1⟩:=h1|replace h1:=dDq h1;obtain ⟨_,rfl,h1⟩:=h1
 cases h1
 rcases yx h2 with ⟨hc0,rfl,rfl⟩ | h2
 · exact ⟨FU+40,(ze rfl).trans (lLai FU 40 FU _ _ _ _ _ _ _ _ (yS hc0))⟩
 obtain ⟨hc1,rfl,rfl⟩:=zt h2
 exact ⟨FU+40,(ze rfl).trans (lLai FU 40 FU _ _ _ _ _ _ _ _ (yw (zf hc1)))⟩
noncomputable def o96:OrcT:=o95
noncomputable def t96:TellT:=((15,0),sLai)::t95
noncomputable abbrev tn96:FuncId→TAn:=zh base o96 t96
theorem ok96:TnOk Try.prog tn96 (mkA base) dOk:=by
 have h0:TnOk Try.prog (tn95) (mkA base) dOk:=ok95
 have h1:=zD h0 h0 (p:=((15,0),sLai)) wLai
 exact h1
noncomputable def v15 (x0:(List (List Int))) (x1:(List Int)) (x2:Int) (x3:(List (List Int))) (x4:(List Int)) (x5:Int):Option Bool:=(cond (x2 != x5) (some (false)) (cond ((x0.length:Int) != (x3.length:Int)) (some (false)) (cond (ok (v20 x1 x4)) (cond (!val (v20 x1 x4)) (some (false)) (cond (isL (Lai FU 0 x0 x1 x2 x3 x4 x5)) (some (zN (Lai FU 0 x0 x1 x2 x3 x4 x5))) (cond (ok (zL (Lai FU 0 x0 x1 x2 x3 x4 x5))) (some (true)) none))) none)))
theorem ev15 (x0:(List (List Int))) (x1:(List Int)) (x2:Int) (x3:(List (List Int))) (x4:(List Int)) (x5:Int):zo Try.prog (tn96 15) (TM.evF Try.prog (tn96) dOk 40) dOk 40 15 [.agg [.d 22 (.list 3 (.int .i64)) (x0),.d 3 (.int .i64) (x1),I4 (x2)],.agg [.d 22 (.list 3 (.int .i64)) (x3),.d 3 (.int .i64) (x4),I4 (x5)]] []=(v15 x0 x1 x2 x3 x4 x5).bind fun r=>some ([.sc (.bool (r))],[]):=by
 refine Eq.trans (b:=(cond (x2 != x5) (some ([.sc (.bool (false))],[])) (cond ((x0.length:Int) != (x3.length:Int)) (some ([.sc (.bool (false))],[])) (cond (ok (v20 x1 x4)) (cond (!val (v20 x1 x4)) (some ([.sc (.bool (false))],[])) (cond (isL (Lai FU 0 x0 x1 x2 x3 x4 x5)) (some ([.sc (.bool (zN (Lai FU 0 x0 x1 x2 x3 x4 x5)))],[])) (cond (ok (zL (Lai FU 0 x0 x1 x2 x3 x4 x5))) (some ([.sc (.bool (true))],[])) none))) none)))) (by kernel_rfl) ?_
 unfold v15
 refine za ?_ ?_
 rfl
 refine za ?_ ?_
 rfl
 refine za ?_ ?_
 refine za ?_ ?_
 rfl
 refine za ?_ ?_
 rfl
 refine za ?_ ?_
 rfl
 rfl
 rfl
noncomputable def sv15:OrcS:=fun al H=>dC al fun y1 l2=>dA y1 fun y3=>dC y3 fun y4 l5=>dD 22 (.list 3 (.int .i64)) y4 fun x0=>dC l5 fun y6 l7=>dD 3 (.int .i64) y6 fun x1=>dK l7 fun x2 l8=>dE l8<|dC l2 fun y9 l10=>dA y9 fun y11=>dC y11 fun y12 l13=>dD 22 (.list 3 (.int .i64)) y12 fun x3=>dC l13 fun y14 l15=>dD 3 (.int .i64) y14 fun x4=>dK l15 fun x5 l16=>dE l16<|dE l10<|dE H <|  some [(ok (v15 x0 x1 x2 x3 x4 x5),[.sc (.bool ((val (v15 x0 x1 x2 x3 x4 x5))))],[])]
theorem wv15:zm Try.prog dOk base o96 t96 (15,sv15):=by
 intro al H q hq0 rs H2 h2
 have hq:sv15 al H=some q:=hq0
 clear hq0
 unfold sv15 at hq
 repeat with_reducible first|(first|replace hq:=dCq hq|replace hq:=zJ hq);obtain ⟨_,_,rfl,hq⟩:=hq|(first|replace hq:=dAq hq|replace hq:=dDq hq);obtain ⟨_,rfl,hq⟩:=hq|replace hq:=dEq hq;obtain ⟨rfl,hq⟩:=hq
 cases hq
 obtain ⟨hc0,rfl,rfl⟩:=zg h2
 exact ⟨41,(zu (by kernel_rfl)).trans ((ev15 _ _ _ _ _ _).trans (zl (zf hc0)))⟩
noncomputable def o97:OrcT:=(15,sv15)::o96
noncomputable def t97:TellT:=t96
noncomputable abbrev tn97:FuncId→TAn:=zh base o97 t97
theorem ok97:TnOk Try.prog tn97 (mkA base) dOk:=by
 have h0:TnOk Try.prog (tn96) (mkA base) dOk:=ok96
 have h1:=zn h0 h0 (p:=(15,sv15)) wv15
 exact h1
noncomputable def v11:Option Bool:=(some (true))
theorem ev11:zo Try.prog (tn97 11) (TM.evF Try.prog (tn97) dOk 40) dOk 40 11 [] []=(v11).bind fun r=>some ([.sc (.bool (r))],[]):=by
 refine Eq.trans (b:=(some ([.sc (.bool (true))],[]))) (by kernel_rfl) ?_
 unfold v11
 rfl
noncomputable def sv11:OrcS:=fun al H=>dE al<|dE H <|  some [(ok (v11),[.sc (.bool ((val (v11))))],[])]
theorem wv11:zm Try.prog dOk base o97 t97 (11,sv11):=by
 intro al H q hq0 rs H2 h2
 have hq:sv11 al H=some q:=hq0
 clear hq0
 unfold sv11 at hq
 obtain ⟨rfl,g1⟩:=dEq hq
 obtain ⟨rfl,g2⟩:=dEq g1
 cases g2
 obtain ⟨hc0,rfl,rfl⟩:=zg h2
 exact ⟨41,(zu (by kernel_rfl)).trans ((ev11 ).trans (zl (zf hc0)))⟩
noncomputable def o98:OrcT:=(11,sv11)::o97
noncomputable def t98:TellT:=t97
noncomputable abbrev tn98:FuncId→TAn:=zh base o98 t98
theorem ok98:TnOk Try.prog tn98 (mkA base) dOk:=by
 have h0:TnOk Try.prog (tn97) (mkA base) dOk:=ok97
 have h1:=zn h0 h0 (p:=(11,sv11)) wv11
 exact h1
noncomputable def LaM (x0 x1:Int) (x2:Bool) (x3:(List Int)) (x4:(List (List Int))) (x5:(List Int)) (x6:(List (List Int))) (x7:(List Int)) (x8:Int) (x9:(List Int)) (A:(List (List Int))) (B:(List Int)):Option Bool:=(cond (decide (List.length x3≤nat_lit 2147483648)) (cond (decide (List.length x3+List.length [Int.tmod (IntKind.wrap IntKind.i64 x1) (1001:Int)]≤nat_lit 2147483648)) (cond (ok (v13 (x3++[Int.tmod (IntKind.wrap IntKind.i64 x1) (1001:Int)]) A B (Int.tmod (IntKind.wrap IntKind.i64 x0) (31:Int)))) (cond (decide (List.length x7≤nat_lit 2147483648)) (cond (decide (List.length x7+List.length [0]≤nat_lit 2147483648)) (cond x2 (cond ((val (v13 (x3++[Int.tmod (IntKind.wrap IntKind.i64 x1) (1001:Int)]) A B (Int.tmod (IntKind.wrap IntKind.i64 x0) (31:Int)))).2.2.2==0) (cond (ok (v15 x6 (x7++[0]) x8 (val (v13 (x3++[Int.tmod (IntKind.wrap IntKind.i64 x1) (1001:Int)]) A B (Int.tmod (IntKind.wrap IntKind.i64 x0) (31:Int)))).1 (val (v13 (x3++[Int.tmod (IntKind.wrap IntKind.i64 x1) (1001:Int)]) A B (Int.tmod (IntKind.wrap IntKind.i64 x0) (31:Int)))).2.1 (val (v13 (x3++[Int.tmod (IntKind.wrap IntKind.i64 x1) (1001:Int)]) A B (Int.tmod (IntKind.wrap IntKind.i64 x0) (31:Int)))).2.2.1)) (some (val (v15 x6 (x7++[0]) x8 (val (v13 (x3++[Int.tmod (IntKind.wrap IntKind.i64 x1) (1001:Int)]) A B (Int.tmod (IntKind.wrap IntKind.i64 x0) (31:Int)))).1 (val (v13 (x3++[Int.tmod (IntKind.wrap IntKind.i64 x1) (1001:Int)]) A B (Int.tmod (IntKind.wrap IntKind.i64 x0) (31:Int)))).2.1 (val (v13 (x3++[Int.tmod (IntKind.wrap IntKind.i64 x1) (1001:Int)]) A B (Int.tmod (IntKind.wrap IntKind.i64 x0) (31:Int)))).2.2.1))) none) (some (false))) (some (false))) none) none) none) none) none)
noncomputable def xLaM (x0 x1:Int) (x2:Bool) (x3:(List Int)) (x4:(List (List Int))) (x5:(List Int)) (x6:(List (List Int))) (x7:(List Int)) (x8:Int) (x9:(List Int)) (A:(List (List Int))) (B:(List Int)):Bool→Ex×CS:=fun r=>(.ret,{ sl:=[(6,.v (.sc (.bool (r))))],lo:=[],h:=[],n0:=0,w:=true })
theorem bLaM (k:Nat) (cX:Ex→CS→Option (Ex×CS)) (x0 x1:Int) (x2:Bool) (x3:(List Int)) (x4:(List (List Int))) (x5:(List Int)) (x6:(List (List Int))) (x7:(List Int)) (x8:Int) (x9:(List Int)) (A:(List (List Int))) (B:(List Int)):WE Try.prog (tn98 9) (TM.evF Try.prog (tn98) dOk (k+40)) dOk (k+40) (zc Try.prog (tn0 9) 9 68) 0 68 { sl:=[(1,.v (.sc (.int .u8 x0))),(2,.v (.sc (.int .u16 x1))),(3,.l 3 0),(7,.v (.sc (.bool x2))),(8,.l 8 0),(10,.l 10 0)],lo:=[(3,[.d 3 (.int .i64) (x3),.d 22 (.list 3 (.int .i64)) (x4),.d 3 (.int .i64) (x5)]),(8,[.d 22 (.list 3 (.int .i64)) (x6),.d 3 (.int .i64) (x7),I4 (x8)]),(10,[.d 3 (.int .i64) (x9),.d 22 (.list 3 (.int .i64)) (A),.d 3 (.int .i64) (B)])],h:=[],n0:=0,w:=false } cX=(cond (decide (List.length x3≤nat_lit 2147483648)) (cond (decide (List.length x3+List.length [Int.tmod (IntKind.wrap IntKind.i64 x1) (1001:Int)]≤nat_lit 2147483648)) (cond (ok (v13 (x3++[Int.tmod (IntKind.wrap IntKind.i64 x1) (1001:Int)]) A B (Int.tmod (IntKind.wrap IntKind.i64 x0) (31:Int)))) (cond (decide (List.length x7≤nat_lit 2147483648)) (cond (decide (List.length x7+List.length [0]≤nat_lit 2147483648)) (cond x2 (cond ((val (v13 (x3++[Int.tmod (IntKind.wrap IntKind.i64 x1) (1001:Int)]) A B (Int.tmod (IntKind.wrap IntKind.i64 x0) (31:Int)))).2.2.2==0) (cond (ok (v15 x6 (x7++[0]) x8 (val (v13 (x3++[Int.tmod (IntKind.wrap IntKind.i64 x1) (1001:Int)]) A B (Int.tmod (IntKind.wrap IntKind.i64 x0) (31:Int)))).1 (val (v13 (x3++[Int.tmod (IntKind.wrap IntKind.i64 x1) (1001:Int)]) A B (Int.tmod (IntKind.wrap IntKind.i64 x0) (31:Int)))).2.1 (val (v13 (x3++[Int.tmod (IntKind.wrap IntKind.i64 x1) (1001:Int)]) A B (Int.tmod (IntKind.wrap IntKind.i64 x0) (31:Int)))).2.2.1)) (cX .ret { sl:=[(6,.v (.sc (.bool (val (v15 x6 (x7++[0]) x8 (val (v13 (x3++[Int.tmod (IntKind.wrap IntKind.i64 x1) (1001:Int)]) A B (Int.tmod (IntKind.wrap IntKind.i64 x0) (31:Int)))).1 (val (v13 (x3++[Int.tmod (IntKind.wrap IntKind.i64 x1) (1001:Int)]) A B (Int.tmod (IntKind.wrap IntKind.i64 x0) (31:Int)))).2.1 (val (v13 (x3++[Int.tmod (IntKind.wrap IntKind.i64 x1) (1001:Int)]) A B (Int.tmod (IntKind.wrap IntKind.i64 x0) (31:Int)))).2.2.1)))))],lo:=[],h:=[],n0:=0,w:=true }) none) (cX .ret { sl:=[(6,.v (.sc (.bool (false))))],lo:=[],h:=[],n0:=0,w:=true })) (cX .ret { sl:=[(6,.v (.sc (.bool (false))))],lo:=[],h:=[],n0:=0,w:=true })) none) none) none) none) none):=by kernel_rfl
theorem lLaM (k:Nat) (x0 x1:Int) (x2:Bool) (x3:(List Int)) (x4:(List (List Int))) (x5:(List Int)) (x6:(List (List Int))) (x7:(List Int)) (x8:Int) (x9:(List Int)) (A:(List (List Int))) (B:(List Int)) (r:Bool):LaM x0 x1 x2 x3 x4 x5 x6 x7 x8 x9 A B=some r→WE Try.prog (tn98 9) (TM.evF Try.prog (tn98) dOk (k+40)) dOk (k+40) (zc Try.prog (tn0 9) 9 68) 0 68 { sl:=[(1,.v (.sc (.int .u8 x0))),(2,.v (.sc (.int .u16 x1))),(3,.l 3 0),(7,.v (.sc (.bool x2))),(8,.l 8 0),(10,.l 10 0)],lo:=[(3,[.d 3 (.int .i64) (x3),.d 22 (.list 3 (.int .i64)) (x4),.d 3 (.int .i64) (x5)]),(8,[.d 22 (.list 3 (.int .i64)) (x6),.d 3 (.int .i64) (x7),I4 (x8)]),(10,[.d 3 (.int .i64) (x9),.d 22 (.list 3 (.int .i64)) (A),.d 3 (.int .i64) (B)])],h:=[],n0:=0,w:=false } (fun e s=>some (e,s))=some (xLaM x0 x1 x2 x3 x4 x5 x6 x7 x8 x9 A B r):=by
 rw [bLaM]
 unfold LaM
 refine zb ?_ ?_
 refine zb ?_ ?_
 refine zb ?_ ?_
 refine zb ?_ ?_
 refine zb ?_ ?_
 refine zb ?_ ?_
 refine zb ?_ ?_
 refine zb ?_ ?_
 intro h;cases h;rfl
 intro h;cases h
 intro h;cases h;rfl
 intro h;cases h;rfl
 intro h;cases h
 intro h;cases h
 intro h;cases h
 intro h;cases h
 intro h;cases h
noncomputable def sLaM:TellS:=fun S=>dCS 0 S fun y1 y2 y3=>dSI 1 .u8 y1 fun x0 l4=>dSI 2 .u16 l4 fun x1 l5=>dSt 3 l5 fun y7 l6=>dL 3 0 y7<|dSs 7 l6 fun y9 l8=>Zm y9 fun x2=>dSt 8 l8 fun y11 l10=>dL 8 0 y11<|dSt 10 l10 fun y13 l12=>dL 10 0 y13<|dE l12<|dLo 3 y2 fun y14 l15=>dC y14 fun y16 l17=>dD 3 (.int .i64) y16 fun x3=>dC l17 fun y18 l19=>dD 22 (.list 3 (.int .i64)) y18 fun x4=>dC l19 fun y20 l21=>dD 3 (.int .i64) y20 fun x5=>dE l21<|dLo 8 l15 fun y22 l23=>dC y22 fun y24 l25=>dD 22 (.list 3 (.int .i64)) y24 fun x6=>dC l25 fun y26 l27=>dD 3 (.int .i64) y26 fun x7=>dK l27 fun x8 l28=>dE l28<|dLo 10 l23 fun y29 l30=>dC y29 fun y31 l32=>dD 3 (.int .i64) y31 fun x9=>dC l32 fun y33 l34=>dD 22 (.list 3 (.int .i64)) y33 fun A=>dC l34 fun y35 l36=>dD 3 (.int .i64) y35 fun B=>dE l36<|dE l30<|dE y3 <|  some [(ok (LaM x0 x1 x2 x3 x4 x5 x6 x7 x8 x9 A B),.ret,{ sl:=[(6,.v (.sc (.bool ((val (LaM x0 x1 x2 x3 x4 x5 x6 x7 x8 x9 A B))))))],lo:=[],h:=[],n0:=0,w:=true })]
theorem wLaM:zB Try.prog dOk base o98 t98 ((9,68),sLaM):=by
 refine ⟨(zc Try.prog (tn0 9) 9 68),0,by kernel_rfl,?_⟩
 intro S alts e S' h10 h2
 have h1:sLaM S=some alts:=h10
 clear h10
 unfold sLaM at h1
 repeat with_reducible first|replace h1:=yc h1;obtain ⟨_,_,_,rfl,h1⟩:=h1|(first|replace h1:=ye h1|replace h1:=wB h1|replace h1:=zX h1|replace h1:=wL h1|replace h1:=dCq h1|replace h1:=zJ h1);obtain ⟨_,_,rfl,h1⟩:=h1|(first|replace h1:=dLq h1|replace h1:=dEq h1);obtain ⟨rfl,h1⟩:=h1|(first|replace h1:=wV h1|replace h1:=dDq h1);obtain ⟨_,rfl,h1⟩:=h1
 cases h1
 obtain ⟨hc0,rfl,rfl⟩:=zt h2
 exact ⟨0+40,(evPiece_code rfl).trans (lLaM 0 _ _ _ _ _ _ _ _ _ _ _ _ _ (zf hc0))⟩
noncomputable def o99:OrcT:=o98
noncomputable def t99:TellT:=((9,68),sLaM)::t98
noncomputable abbrev tn99:FuncId→TAn:=zh base o99 t99
theorem ok99:TnOk Try.prog tn99 (mkA base) dOk:=by
 have h0:TnOk Try.prog (tn98) (mkA base) dOk:=ok98
 have h1:=zD h0 h0 (p:=((9,68),sLaM)) wLaM
 exact h1
noncomputable def LaN (x0 x1:Int) (x2:Bool) (x3:(List Int)) (x4:(List (List Int))) (x5:(List Int)):Option Bool:=(cond (ok (v13 x3 x4 x5 (Int.tmod (IntKind.wrap IntKind.i64 x0) (31:Int)))) (cond ((val (v13 x3 x4 x5 (Int.tmod (IntKind.wrap IntKind.i64 x0) (31:Int)))).2.2.2 != 0) (some x2) (cond (ok (LaM x0 x1 x2 x3 x4 x5 (val (v13 x3 x4 x5 (Int.tmod (IntKind.wrap IntKind.i64 x0) (31:Int)))).1 (val (v13 x3 x4 x5 (Int.tmod (IntKind.wrap IntKind.i64 x0) (31:Int)))).2.1 (val (v13 x3 x4 x5 (Int.tmod (IntKind.wrap IntKind.i64 x0) (31:Int)))).2.2.1 x3 x4 x5)) (some (val (LaM x0 x1 x2 x3 x4 x5 (val (v13 x3 x4 x5 (Int.tmod (IntKind.wrap IntKind.i64 x0) (31:Int)))).1 (val (v13 x3 x4 x5 (Int.tmod (IntKind.wrap IntKind.i64 x0) (31:Int)))).2.1 (val (v13 x3 x4 x5 (Int.tmod (IntKind.wrap IntKind.i64 x0) (31:Int)))).2.2.1 x3 x4 x5))) none)) none)
noncomputable def xLaN (x0 x1:Int) (x2:Bool) (x3:(List Int)) (x4:(List (List Int))) (x5:(List Int)):Bool→Ex×CS:=fun r=>(.ret,{ sl:=[(6,.v (.sc (.bool (r))))],lo:=[],h:=[],n0:=0,w:=true })
theorem bLaN (k:Nat) (cX:Ex→CS→Option (Ex×CS)) (x0 x1:Int) (x2:Bool) (x3:(List Int)) (x4:(List (List Int))) (x5:(List Int)):WE Try.prog (tn99 9) (TM.evF Try.prog (tn99) dOk (k+40)) dOk (k+40) (zc Try.prog (tn0 9) 9 36) 0 36 { sl:=[(1,.v (.sc (.int .u8 x0))),(2,.v (.sc (.int .u16 x1))),(3,.l 3 0),(7,.v (.sc (.bool x2)))],lo:=[(3,[.d 3 (.int .i64) (x3),.d 22 (.list 3 (.int .i64)) (x4),.d 3 (.int .i64) (x5)])],h:=[],n0:=0,w:=false } cX=(cond (ok (v13 x3 x4 x5 (Int.tmod (IntKind.wrap IntKind.i64 x0) (31:Int)))) (cond ((val (v13 x3 x4 x5 (Int.tmod (IntKind.wrap IntKind.i64 x0) (31:Int)))).2.2.2 != 0) (cX .ret { sl:=[(6,.v (.sc (.bool x2)))],lo:=[],h:=[],n0:=0,w:=true }) (cond (ok (LaM x0 x1 x2 x3 x4 x5 (val (v13 x3 x4 x5 (Int.tmod (IntKind.wrap IntKind.i64 x0) (31:Int)))).1 (val (v13 x3 x4 x5 (Int.tmod (IntKind.wrap IntKind.i64 x0) (31:Int)))).2.1 (val (v13 x3 x4 x5 (Int.tmod (IntKind.wrap IntKind.i64 x0) (31:Int)))).2.2.1 x3 x4 x5)) (cX .ret { sl:=[(6,.v (.sc (.bool (val (LaM x0 x1 x2 x3 x4 x5 (val (v13 x3 x4 x5 (Int.tmod (IntKind.wrap IntKind.i64 x0) (31:Int)))).1 (val (v13 x3 x4 x5 (Int.tmod (IntKind.wrap IntKind.i64 x0) (31:Int)))).2.1 (val (v13 x3 x4 x5 (Int.tmod (IntKind.wrap IntKind.i64 x0) (31:Int)))).2.2.1 x3 x4 x5)))))],lo:=[],h:=[],n0:=0,w:=true }) none)) none):=by kernel_rfl
theorem lLaN (k:Nat) (x0 x1:Int) (x2:Bool) (x3:(List Int)) (x4:(List (List Int))) (x5:(List Int)) (r:Bool):LaN x0 x1 x2 x3 x4 x5=some r→WE Try.prog (tn99 9) (TM.evF Try.prog (tn99) dOk (k+40)) dOk (k+40) (zc Try.prog (tn0 9) 9 36) 0 36 { sl:=[(1,.v (.sc (.int .u8 x0))),(2,.v (.sc (.int .u16 x1))),(3,.l 3 0),(7,.v (.sc (.bool x2)))],lo:=[(3,[.d 3 (.int .i64) (x3),.d 22 (.list 3 (.int .i64)) (x4),.d 3 (.int .i64) (x5)])],h:=[],n0:=0,w:=false } (fun e s=>some (e,s))=some (xLaN x0 x1 x2 x3 x4 x5 r):=by
 rw [bLaN]
 unfold LaN
 refine zb ?_ ?_
 refine zb ?_ ?_
 intro h;cases h;rfl
 refine zb ?_ ?_
 intro h;cases h;rfl
 intro h;cases h
 intro h;cases h
noncomputable def sLaN:TellS:=fun S=>dCS 0 S fun y1 y2 y3=>dSI 1 .u8 y1 fun x0 l4=>dSI 2 .u16 l4 fun x1 l5=>dSt 3 l5 fun y7 l6=>dL 3 0 y7<|dSs 7 l6 fun y9 l8=>Zm y9 fun x2=>dE l8<|dLo 3 y2 fun y10 l11=>dC y10 fun y12 l13=>dD 3 (.int .i64) y12 fun x3=>dC l13 fun y14 l15=>dD 22 (.list 3 (.int .i64)) y14 fun x4=>dC l15 fun y16 l17=>dD 3 (.int .i64) y16 fun x5=>dE l17<|dE l11<|dE y3 <|  some [(ok (LaN x0 x1 x2 x3 x4 x5),.ret,{ sl:=[(6,.v (.sc (.bool ((val (LaN x0 x1 x2 x3 x4 x5))))))],lo:=[],h:=[],n0:=0,w:=true })]
theorem wLaN:zB Try.prog dOk base o99 t99 ((9,36),sLaN):=by
 refine ⟨(zc Try.prog (tn0 9) 9 36),0,by kernel_rfl,?_⟩
 intro S alts e S' h10 h2
 have h1:sLaN S=some alts:=h10
 clear h10
 unfold sLaN at h1
 repeat with_reducible first|replace h1:=yc h1;obtain ⟨_,_,_,rfl,h1⟩:=h1|(first|replace h1:=ye h1|replace h1:=wB h1|replace h1:=zX h1|replace h1:=wL h1|replace h1:=dCq h1);obtain ⟨_,_,rfl,h1⟩:=h1|(first|replace h1:=dLq h1|replace h1:=dEq h1);obtain ⟨rfl,h1⟩:=h1|(first|replace h1:=wV h1|replace h1:=dDq h1);obtain ⟨_,rfl,h1⟩:=h1
 cases h1
 obtain ⟨hc0,rfl,rfl⟩:=zt h2
 exact ⟨0+40,(evPiece_code rfl).trans (lLaN 0 _ _ _ _ _ _ _ (zf hc0))⟩
noncomputable def o100:OrcT:=o99
noncomputable def t100:TellT:=((9,36),sLaN)::t99
noncomputable abbrev tn100:FuncId→TAn:=zh base o100 t100
theorem ok100:TnOk Try.prog tn100 (mkA base) dOk:=by
 have h0:TnOk Try.prog (tn99) (mkA base) dOk:=ok99
 have h1:=zD h0 h0 (p:=((9,36),sLaN)) wLaN
 exact h1
noncomputable def v9 (x0:(List Int)) (x1:(List (List Int))) (x2:(List Int)) (x3 x4:Int):Option Bool:=(cond (ok (v12 x0 x1 x2)) (cond (!val (v12 x0 x1 x2)) (some (true)) (cond (decide ((x0.length:Int)≥(8:Int))) (some (true)) (cond (ok (LaN x3 x4 (val v11) x0 x1 x2)) (some (val (LaN x3 x4 (val v11) x0 x1 x2))) none))) none)
theorem ev9 (x0:(List Int)) (x1:(List (List Int))) (x2:(List Int)) (x3 x4:Int):zo Try.prog (tn100 9) (TM.evF Try.prog (tn100) dOk 40) dOk 40 9 [.agg [.d 3 (.int .i64) (x0),.d 22 (.list 3 (.int .i64)) (x1),.d 3 (.int .i64) (x2)],.sc (.int .u8 x3),.sc (.int .u16 x4)] []=(v9 x0 x1 x2 x3 x4).bind fun r=>some ([.sc (.bool (r))],[]):=by
 refine Eq.trans (b:=(cond (ok (v12 x0 x1 x2)) (cond (!val (v12 x0 x1 x2)) (some ([.sc (.bool (true))],[])) (cond (decide ((x0.length:Int)≥(8:Int))) (some ([.sc (.bool (true))],[])) (cond (ok (LaN x3 x4 (val v11) x0 x1 x2)) (some ([.sc (.bool (val (LaN x3 x4 (val v11) x0 x1 x2)))],[])) none))) none)) (by kernel_rfl) ?_
 unfold v9
 refine za ?_ ?_
 refine za ?_ ?_
 rfl
 refine za ?_ ?_
 rfl
 refine za ?_ ?_
 rfl
 rfl
 rfl
noncomputable def sv9:OrcS:=fun al H=>dC al fun y1 l2=>dA y1 fun y3=>dC y3 fun y4 l5=>dD 3 (.int .i64) y4 fun x0=>dC l5 fun y6 l7=>dD 22 (.list 3 (.int .i64)) y6 fun x1=>dC l7 fun y8 l9=>dD 3 (.int .i64) y8 fun x2=>dE l9<|dC l2 fun y10 l11=>dS y10 fun y12=>xd .u8 y12 fun x3=>dC l11 fun y13 l14=>dS y13 fun y15=>xd .u16 y15 fun x4=>dE l14<|dE H <|  some [(ok (v9 x0 x1 x2 x3 x4),[.sc (.bool ((val (v9 x0 x1 x2 x3 x4))))],[])]
noncomputable def o101:OrcT:=(9,sv9)::o100
noncomputable def t101:TellT:=t100
noncomputable abbrev tn101:FuncId→TAn:=zh base o101 t101
end Go.Proofs.Ytgmebdomopdgmaa
