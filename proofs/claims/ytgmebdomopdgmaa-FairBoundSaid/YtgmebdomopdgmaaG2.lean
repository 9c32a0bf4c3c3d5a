/- What some functions and loops come to: printed and checked. Written by a program of ours. -/
import Derived.Test.YtgmebdomopdgmaaG1
set_option linter.all false
set_option maxRecDepth 1000000
set_option maxHeartbeats 4000000
namespace Go.Proofs.Ytgmebdomopdgmaa
open Go Go.AM Go.TM Go.Proofs
noncomputable def v48 (x0:(List Int)) (x1:(List (List Int))) (x2:(List Int)) (x3:(List Int)):Option (List Int):=(cond (decide ((x3.length:Int)≤(x3.length:Int))) (cond (decide ((x3.length:Int)≤(↑(nat_lit 2147483648):Int))) (cond (ok (LaD FU x1 (x1.length:Int) 0 x0 x1 x2 x3 (List.replicate (x3.length:Int).toNat 0))) (some (val (LaD FU x1 (x1.length:Int) 0 x0 x1 x2 x3 (List.replicate (x3.length:Int).toNat 0)))) none) none) none)
theorem ev48 (x0:(List Int)) (x1:(List (List Int))) (x2:(List Int)) (x3:(List Int)):zo Try.prog (tn62 48) (TM.evF Try.prog (tn62) dOk 40) dOk 40 48 [.sc (.ptr 0 0)] [.box 73 [.d 3 (.int .i64) (x0),.d 22 (.list 3 (.int .i64)) (x1),.d 3 (.int .i64) (x2),.g 1,.nil],.row 3 (.int .i64) (x3)]=(v48 x0 x1 x2 x3).bind fun r=>some ([],[.box 73 [.d 3 (.int .i64) (x0),.d 22 (.list 3 (.int .i64)) (x1),.d 3 (.int .i64) (x2),.g 1,.g 2],.row 3 (.int .i64) (x3),.row 3 (.int .i64) (r:List Int)]):=by
 refine Eq.trans (b:=(cond (decide ((x3.length:Int)≤(x3.length:Int))) (cond (decide ((x3.length:Int)≤(↑(nat_lit 2147483648):Int))) (cond (ok (LaD FU x1 (x1.length:Int) 0 x0 x1 x2 x3 (List.replicate (x3.length:Int).toNat 0))) (some ([],[.box 73 [.d 3 (.int .i64) (x0),.d 22 (.list 3 (.int .i64)) (x1),.d 3 (.int .i64) (x2),.g 1,.g 2],.row 3 (.int .i64) (x3),.row 3 (.int .i64) (val (LaD FU x1 (x1.length:Int) 0 x0 x1 x2 x3 (List.replicate (x3.length:Int).toNat 0)):List Int)])) none) none) none)) (by kernel_rfl) ?_
 unfold v48
 refine za ?_ ?_
 refine za ?_ ?_
 refine za ?_ ?_
 rfl
 rfl
 rfl
 rfl
noncomputable def sv48:OrcS:=fun al H=>dC al fun y1 l2=>dS y1 fun y3=>zi 0 0 y3<|dE l2<|dHB 73 H fun y5 l4=>dC y5 fun y6 l7=>dD 3 (.int .i64) y6 fun x0=>dC l7 fun y8 l9=>dD 22 (.list 3 (.int .i64)) y8 fun x1=>dC l9 fun y10 l11=>dD 3 (.int .i64) y10 fun x2=>dC l11 fun y12 l13=>dG 1 y12<|dC l13 fun y14 l15=>dNil y14<|dE l15<|dHR 3 (.int .i64) l4 fun x3 l16=>dE l16 <|  some [(ok (v48 x0 x1 x2 x3),[],[.box 73 [.d 3 (.int .i64) (x0),.d 22 (.list 3 (.int .i64)) (x1),.d 3 (.int .i64) (x2),.g 1,.g 2],.row 3 (.int .i64) (x3),.row 3 (.int .i64) ((val (v48 x0 x1 x2 x3)):List Int)])]
theorem wv48:zm Try.prog dOk base o62 t62 (48,sv48):=by
 intro al H q hq0 rs H2 h2
 have hq:sv48 al H=some q:=hq0
 clear hq0
 unfold sv48 at hq
 repeat with_reducible first|(first|replace hq:=dCq hq|replace hq:=zG hq|replace hq:=zY hq);obtain ⟨_,_,rfl,hq⟩:=hq|(first|replace hq:=dSq hq|replace hq:=dDq hq);obtain ⟨_,rfl,hq⟩:=hq|(first|replace hq:=zr hq|replace hq:=dEq hq|replace hq:=dGq hq|replace hq:=dNilq hq);obtain ⟨rfl,hq⟩:=hq
 cases hq
 obtain ⟨hc0,rfl,rfl⟩:=zg h2
 exact ⟨41,(zu (by kernel_rfl)).trans ((ev48 _ _ _ _).trans (zl (zf hc0)))⟩
noncomputable def o63:OrcT:=(48,sv48)::o62
noncomputable def t63:TellT:=t62
noncomputable abbrev tn63:FuncId→TAn:=zh base o63 t63
theorem ok63:TnOk Try.prog tn63 (mkA base) dOk:=by
 have h0:TnOk Try.prog (tn62) (mkA base) dOk:=ok62
 have h1:=zn h0 h0 (p:=(48,sv48)) wv48
 exact h1
noncomputable def v27 (x0:(List Int)) (x1:(List (List Int))) (x2:(List Int)):Option (Bool×(List Int)×(List Int)):=(cond (decide ((x0.length:Int)≤(x0.length:Int))) (cond (decide ((x0.length:Int)≤(↑(nat_lit 2147483648):Int))) (cond (ok (Lag FU true x1 (x1.length:Int) 0 x0 x1 x2 x0 x1 x2 (List.replicate (x0.length:Int).toNat 0))) (cond (ok (v48 x0 x1 x2 (val (Lag FU true x1 (x1.length:Int) 0 x0 x1 x2 x0 x1 x2 (List.replicate (x0.length:Int).toNat 0))).2)) (some ((val (Lag FU true x1 (x1.length:Int) 0 x0 x1 x2 x0 x1 x2 (List.replicate (x0.length:Int).toNat 0))).1,(val (Lag FU true x1 (x1.length:Int) 0 x0 x1 x2 x0 x1 x2 (List.replicate (x0.length:Int).toNat 0))).2,val (v48 x0 x1 x2 (val (Lag FU true x1 (x1.length:Int) 0 x0 x1 x2 x0 x1 x2 (List.replicate (x0.length:Int).toNat 0))).2))) none) none) none) none)
theorem ev27 (x0:(List Int)) (x1:(List (List Int))) (x2:(List Int)):zo Try.prog (tn63 27) (TM.evF Try.prog (tn63) dOk 40) dOk 40 27 [.agg [.d 3 (.int .i64) (x0),.d 22 (.list 3 (.int .i64)) (x1),.d 3 (.int .i64) (x2)]] []=(v27 x0 x1 x2).bind fun r=>some ([.sc (.ptr 0 0),.sc (.bool (r.1))],[.box 73 [.d 3 (.int .i64) (x0),.d 22 (.list 3 (.int .i64)) (x1),.d 3 (.int .i64) (x2),.g 1,.g 2],.row 3 (.int .i64) (r.2.1:List Int),.row 3 (.int .i64) (r.2.2:List Int)]):=by
 refine Eq.trans (b:=(cond (decide ((x0.length:Int)≤(x0.length:Int))) (cond (decide ((x0.length:Int)≤(↑(nat_lit 2147483648):Int))) (cond (ok (Lag FU true x1 (x1.length:Int) 0 x0 x1 x2 x0 x1 x2 (List.replicate (x0.length:Int).toNat 0))) (cond (ok (v48 x0 x1 x2 (val (Lag FU true x1 (x1.length:Int) 0 x0 x1 x2 x0 x1 x2 (List.replicate (x0.length:Int).toNat 0))).2)) (some ([.sc (.ptr 0 0),.sc (.bool (val (Lag FU true x1 (x1.length:Int) 0 x0 x1 x2 x0 x1 x2 (List.replicate (x0.length:Int).toNat 0))).1)],[.box 73 [.d 3 (.int .i64) (x0),.d 22 (.list 3 (.int .i64)) (x1),.d 3 (.int .i64) (x2),.g 1,.g 2],.row 3 (.int .i64) ((val (Lag FU true x1 (x1.length:Int) 0 x0 x1 x2 x0 x1 x2 (List.replicate (x0.length:Int).toNat 0))).2:List Int),.row 3 (.int .i64) (val (v48 x0 x1 x2 (val (Lag FU true x1 (x1.length:Int) 0 x0 x1 x2 x0 x1 x2 (List.replicate (x0.length:Int).toNat 0))).2):List Int)])) none) none) none) none)) (by kernel_rfl) ?_
 unfold v27
 refine za ?_ ?_
 refine za ?_ ?_
 refine za ?_ ?_
 refine za ?_ ?_
 rfl
 rfl
 rfl
 rfl
 rfl
noncomputable def sv27:OrcS:=fun al H=>dC al fun y1 l2=>dA y1 fun y3=>dC y3 fun y4 l5=>dD 3 (.int .i64) y4 fun x0=>dC l5 fun y6 l7=>dD 22 (.list 3 (.int .i64)) y6 fun x1=>dC l7 fun y8 l9=>dD 3 (.int .i64) y8 fun x2=>dE l9<|dE l2<|dE H <|  some [(ok (v27 x0 x1 x2),[.sc (.ptr 0 0),.sc (.bool ((val (v27 x0 x1 x2)).1))],[.box 73 [.d 3 (.int .i64) (x0),.d 22 (.list 3 (.int .i64)) (x1),.d 3 (.int .i64) (x2),.g 1,.g 2],.row 3 (.int .i64) ((val (v27 x0 x1 x2)).2.1:List Int),.row 3 (.int .i64) ((val (v27 x0 x1 x2)).2.2:List Int)])]
theorem wv27:zm Try.prog dOk base o63 t63 (27,sv27):=by
 intro al H q hq0 rs H2 h2
 have hq:sv27 al H=some q:=hq0
 clear hq0
 unfold sv27 at hq
 repeat with_reducible first|replace hq:=dCq hq;obtain ⟨_,_,rfl,hq⟩:=hq|(first|replace hq:=dAq hq|replace hq:=dDq hq);obtain ⟨_,rfl,hq⟩:=hq|replace hq:=dEq hq;obtain ⟨rfl,hq⟩:=hq
 cases hq
 obtain ⟨hc0,rfl,rfl⟩:=zg h2
 exact ⟨41,(zu (by kernel_rfl)).trans ((ev27 _ _ _).trans (zl (zf hc0)))⟩
noncomputable def o64:OrcT:=(27,sv27)::o63
noncomputable def t64:TellT:=t63
noncomputable abbrev tn64:FuncId→TAn:=zh base o64 t64
theorem ok64:TnOk Try.prog tn64 (mkA base) dOk:=by
 have h0:TnOk Try.prog (tn63) (mkA base) dOk:=ok63
 have h1:=zn h0 h0 (p:=(27,sv27)) wv27
 exact h1
noncomputable def v24 (x0:Int):Option Bool:=(some (x0 != 0))
theorem ev24 (x0:Int):zo Try.prog (tn64 24) (TM.evF Try.prog (tn64) dOk 40) dOk 40 24 [.sc (I4 x0)] []=(v24 x0).bind fun r=>some ([.sc (.bool (r))],[]):=by
 refine Eq.trans (b:=(some ([.sc (.bool (x0 != 0))],[]))) (by kernel_rfl) ?_
 unfold v24
 rfl
noncomputable def sv24:OrcS:=fun al H=>dC al fun y1 l2=>dS y1 fun y3=>xd .i64 y3 fun x0=>dE l2<|dE H <|  some [(ok (v24 x0),[.sc (.bool ((val (v24 x0))))],[])]
theorem wv24:zm Try.prog dOk base o64 t64 (24,sv24):=by
 intro al H q hq0 rs H2 h2
 have hq:sv24 al H=some q:=hq0
 clear hq0
 unfold sv24 at hq
 obtain ⟨_,_,rfl,g1⟩:=dCq hq
 obtain ⟨_,rfl,g2⟩:=dSq g1
 obtain ⟨_,rfl,g3⟩:=xu g2
 obtain ⟨rfl,g4⟩:=dEq g3
 obtain ⟨rfl,g5⟩:=dEq g4
 cases g5
 obtain ⟨hc0,rfl,rfl⟩:=zg h2
 exact ⟨41,(zu (by kernel_rfl)).trans ((ev24 _).trans (zl (zf hc0)))⟩
noncomputable def o65:OrcT:=(24,sv24)::o64
noncomputable def t65:TellT:=t64
noncomputable abbrev tn65:FuncId→TAn:=zh base o65 t65
theorem ok65:TnOk Try.prog tn65 (mkA base) dOk:=by
 have h0:TnOk Try.prog (tn64) (mkA base) dOk:=ok64
 have h1:=zn h0 h0 (p:=(24,sv24)) wv24
 exact h1
noncomputable def Laz:Nat→(List Int)→Int→Int→Option (Int ⊕ Unit)
 | 0,_,_,_=>none
 | n+1,x0,x1,x2=>(cond (decide (x2 < x1)) (cond (decide (0≤x2)) (cond (decide (x2 < (x0.length:Int))) (cond (val (v24 (List.getD x0 x2.toNat 0))) (some (.inl x2)) (Laz n x0 x1 (IntKind.wrap IntKind.i64 (x2+(1:Int))))) none) none) (some (.inr ())))
theorem qLaz:type_of% @Laz.eq_2:=@Laz.eq_2
noncomputable def xLaz (x0:(List Int)) (x1 x2:Int):(Int ⊕ Unit)→Ex×CS:=fun r=>match r with | .inl a0=>(.ret,{ sl:=[(4,.v (.sc (I4 (a0))))],lo:=[],h:=[],n0:=0,w:=true }) | .inr b0=>((.exit 0),{ sl:=[],lo:=[],h:=[],n0:=0,w:=false })
theorem bLaz (k:Nat) (cN:CS→Option (Ex×CS)) (cX:Ex→CS→Option (Ex×CS)) (x0:(List Int)) (x1 x2:Int):zq Try.prog (tn65 40) (TM.evF Try.prog (tn65) dOk (k+40)) dOk (k+40) (zc Try.prog (tn0 40) 40 0) 0 0 { sl:=[(0,.v (.sc (.d 3 (.int .i64) x0))),(1,.v (.sc (.fn 24 0 [] []))),(7,.v (.sc (I4 x1))),(8,.v (.sc (I4 x2)))],lo:=[],h:=[],n0:=0,w:=false } cN cX=(cond (decide (x2 < x1)) (cond (decide (0≤x2)) (cond (decide (x2 < (x0.length:Int))) (cond (val (v24 (List.getD x0 x2.toNat 0))) (cX .ret { sl:=[(4,.v (.sc (I4 x2)))],lo:=[],h:=[],n0:=0,w:=true }) (cN { sl:=[(0,.v (.sc (.d 3 (.int .i64) x0))),(1,.v (.sc (.fn 24 0 [] []))),(7,.v (.sc (I4 x1))),(8,.v (.sc (I4 (IntKind.wrap IntKind.i64 (x2+(1:Int))))))],lo:=[],h:=[],n0:=0,w:=false })) none) none) (cX (.exit 0) { sl:=[],lo:=[],h:=[],n0:=0,w:=false })):=by kernel_rfl
theorem lLaz (k m:Nat):∀ (n:Nat) (x0:(List Int)) (x1 x2:Int) (r:(Int ⊕ Unit)),Laz n x0 x1 x2=some r→zM Try.prog (tn65 40) (TM.evF Try.prog (tn65) dOk (k+40)) dOk (k+40) (zc Try.prog (tn0 40) 40 0) 0 0 (n+m) { sl:=[(0,.v (.sc (.d 3 (.int .i64) x0))),(1,.v (.sc (.fn 24 0 [] []))),(7,.v (.sc (I4 x1))),(8,.v (.sc (I4 x2)))],lo:=[],h:=[],n0:=0,w:=false }=some (xLaz x0 x1 x2 r):=by
 intro n
 induction n with
 | zero=>intro _ _ _ r h;cases h
 | succ n ih=>
  intro x0 x1 x2 r
  rw [show n+1+m=n+m+1 by omega,zp,bLaz,qLaz]
  refine zb ?_ ?_
  refine zb ?_ ?_
  refine zb ?_ ?_
  refine zb ?_ ?_
  intro h;cases h;rfl
  exact ih _ _ _ r
  intro h;cases h
  intro h;cases h
  intro h;cases h;rfl
noncomputable def sLaz:TellS:=fun S=>dCS 0 S fun y1 y2 y3=>dSs 0 y1 fun y5 l4=>dD 3 (.int .i64) y5 fun x0=>dSs 1 l4 fun y7 l6=>dFn 24 0 [] y7 fun y8=>dE y8<|dSI 7 .i64 l6 fun x1 l9=>dSI 8 .i64 l9 fun x2 l10=>dE l10<|dE y2<|dE y3 <|  some [(isL (Laz FU x0 x1 x2),.ret,{ sl:=[(4,.v (.sc (I4 ((zN (Laz FU x0 x1 x2))))))],lo:=[],h:=[],n0:=0,w:=true }),(ok (zL (Laz FU x0 x1 x2)),(.exit 0),{ sl:=[],lo:=[],h:=[],n0:=0,w:=false })]
theorem wLaz:zB Try.prog dOk base o65 t65 ((40,0),sLaz):=by
 refine ⟨.loop (zc Try.prog (tn0 40) 40 0),0,by kernel_rfl,?_⟩
 intro S alts e S' h10 h2
 have h1:sLaz S=some alts:=h10
 clear h10
 unfold sLaz at h1
 repeat with_reducible first|replace h1:=yc h1;obtain ⟨_,_,_,rfl,h1⟩:=h1|(first|replace h1:=zX h1|replace h1:=ye h1);obtain ⟨_,_,rfl,h1⟩:=h1|(first|replace h1:=dDq h1|replace h1:=yo h1);obtain ⟨_,rfl,h1⟩:=h1|replace h1:=dEq h1;obtain ⟨rfl,h1⟩:=h1
 cases h1
 rcases yx h2 with ⟨hc0,rfl,rfl⟩ | h2
 · exact ⟨FU+40,(ze rfl).trans (lLaz FU 40 FU _ _ _ _ (yS hc0))⟩
 obtain ⟨hc1,rfl,rfl⟩:=zt h2
 exact ⟨FU+40,(ze rfl).trans (lLaz FU 40 FU _ _ _ _ (yw (zf hc1)))⟩
noncomputable def o66:OrcT:=o65
noncomputable def t66:TellT:=((40,0),sLaz)::t65
noncomputable abbrev tn66:FuncId→TAn:=zh base o66 t66
theorem ok66:TnOk Try.prog tn66 (mkA base) dOk:=by
 have h0:TnOk Try.prog (tn65) (mkA base) dOk:=ok65
 have h1:=zD h0 h0 (p:=((40,0),sLaz)) wLaz
 exact h1
noncomputable def v40_3 (x0:(List Int)):Option Int:=(cond (isL (Laz FU x0 (x0.length:Int) 0)) (some (zN (Laz FU x0 (x0.length:Int) 0))) (cond (ok (zL (Laz FU x0 (x0.length:Int) 0))) (some ((-1:Int))) none))
theorem ev40_3 (x0:(List Int)):zo Try.prog (tn66 40) (TM.evF Try.prog (tn66) dOk 40) dOk 40 40 [.sc (.d 3 (.int .i64) x0),.sc (.fn 24 0 [] [])] []=(v40_3 x0).bind fun r=>some ([.sc (I4 (r))],[]):=by
 refine Eq.trans (b:=(cond (isL (Laz FU x0 (x0.length:Int) 0)) (some ([.sc (I4 (zN (Laz FU x0 (x0.length:Int) 0)))],[])) (cond (ok (zL (Laz FU x0 (x0.length:Int) 0))) (some ([.sc (I4 ((-1:Int)))],[])) none))) (by kernel_rfl) ?_
 unfold v40_3
 refine za ?_ ?_
 rfl
 refine za ?_ ?_
 rfl
 rfl
noncomputable def sv40_3:OrcS:=fun al H=>dC al fun y1 l2=>dS y1 fun y3=>dD 3 (.int .i64) y3 fun x0=>dC l2 fun y4 l5=>dS y4 fun y6=>dFn 24 0 [] y6 fun y7=>dE y7<|dE l5<|dE H <|  some [(ok (v40_3 x0),[.sc (I4 ((val (v40_3 x0))))],[])]
theorem wv40_3:zm Try.prog dOk base o66 t66 (40,sv40_3):=by
 intro al H q hq0 rs H2 h2
 have hq:sv40_3 al H=some q:=hq0
 clear hq0
 unfold sv40_3 at hq
 repeat with_reducible first|replace hq:=dCq hq;obtain ⟨_,_,rfl,hq⟩:=hq|(first|replace hq:=dSq hq|replace hq:=dDq hq|replace hq:=yo hq);obtain ⟨_,rfl,hq⟩:=hq|replace hq:=dEq hq;obtain ⟨rfl,hq⟩:=hq
 cases hq
 obtain ⟨hc0,rfl,rfl⟩:=zg h2
 exact ⟨41,(zu (by kernel_rfl)).trans ((ev40_3 _).trans (zl (zf hc0)))⟩
noncomputable def o67:OrcT:=(40,sv40_3)::o66
noncomputable def t67:TellT:=t66
noncomputable abbrev tn67:FuncId→TAn:=zh base o67 t67
theorem ok67:TnOk Try.prog tn67 (mkA base) dOk:=by
 have h0:TnOk Try.prog (tn66) (mkA base) dOk:=ok66
 have h1:=zn h0 h0 (p:=(40,sv40_3)) wv40_3
 exact h1
noncomputable def v23_3 (x0:(List Int)):Option Bool:=(cond (ok (v40_3 x0)) (some (decide (val (v40_3 x0)≥0))) none)
theorem ev23_3 (x0:(List Int)):zo Try.prog (tn67 23) (TM.evF Try.prog (tn67) dOk 40) dOk 40 23 [.sc (.d 3 (.int .i64) x0),.sc (.fn 24 0 [] [])] []=(v23_3 x0).bind fun r=>some ([.sc (.bool (r))],[]):=by
 refine Eq.trans (b:=(cond (ok (v40_3 x0)) (some ([.sc (.bool (decide (val (v40_3 x0)≥0)))],[])) none)) (by kernel_rfl) ?_
 unfold v23_3
 refine za ?_ ?_
 rfl
 rfl
noncomputable def sv23_3:OrcS:=fun al H=>dC al fun y1 l2=>dS y1 fun y3=>dD 3 (.int .i64) y3 fun x0=>dC l2 fun y4 l5=>dS y4 fun y6=>dFn 24 0 [] y6 fun y7=>dE y7<|dE l5<|dE H <|  some [(ok (v23_3 x0),[.sc (.bool ((val (v23_3 x0))))],[])]
theorem wv23_3:zm Try.prog dOk base o67 t67 (23,sv23_3):=by
 intro al H q hq0 rs H2 h2
 have hq:sv23_3 al H=some q:=hq0
 clear hq0
 unfold sv23_3 at hq
 repeat with_reducible first|replace hq:=dCq hq;obtain ⟨_,_,rfl,hq⟩:=hq|(first|replace hq:=dSq hq|replace hq:=dDq hq|replace hq:=yo hq);obtain ⟨_,rfl,hq⟩:=hq|replace hq:=dEq hq;obtain ⟨rfl,hq⟩:=hq
 cases hq
 obtain ⟨hc0,rfl,rfl⟩:=zg h2
 exact ⟨41,(zu (by kernel_rfl)).trans ((ev23_3 _).trans (zl (zf hc0)))⟩
noncomputable def o68:OrcT:=(23,sv23_3)::o67
noncomputable def t68:TellT:=t67
noncomputable abbrev tn68:FuncId→TAn:=zh base o68 t68
theorem ok68:TnOk Try.prog tn68 (mkA base) dOk:=by
 have h0:TnOk Try.prog (tn67) (mkA base) dOk:=ok67
 have h1:=zn h0 h0 (p:=(23,sv23_3)) wv23_3
 exact h1
noncomputable def v69 (x0 x1:Int) (x2:(List Int)) (x3:(List (List Int))) (x4:(List Int)) (x5:(List Int)) (x6:(List Int)):Option Int:=(cond (decide (0≤x0)) (cond (decide (x0 < (x2.length:Int))) (cond (decide (x0 < (x6.length:Int))) (cond (decide (x0.toNat < List.length x6)) (cond (decide (List.getD x6 x0.toNat 0≠0)) (some (IntKind.wrap IntKind.i64 (Int.tdiv (IntKind.wrap IntKind.i64 (IntKind.wrap IntKind.i64 (x1*List.getD x2 x0.toNat 0)*(1000000:Int))) (List.getD x6 x0.toNat 0)))) none) none) none) none) none)
theorem ev69 (x0 x1:Int) (x2:(List Int)) (x3:(List (List Int))) (x4:(List Int)) (x5:(List Int)) (x6:(List Int)):zo Try.prog (tn68 69) (TM.evF Try.prog (tn68) dOk 40) dOk 40 69 [.sc (I4 x0),.sc (.ptr 0 0),.sc (.ptr 1 0)] [.box 3 [I4 (x1)],.box 54 [.ptr 2 0],.box 73 [.d 3 (.int .i64) (x2),.d 22 (.list 3 (.int .i64)) (x3),.d 3 (.int .i64) (x4),.g 3,.g 4],.row 3 (.int .i64) (x5),.row 3 (.int .i64) (x6)]=(v69 x0 x1 x2 x3 x4 x5 x6).bind fun r=>some ([.sc (I4 (r))],[.box 3 [I4 (x1)],.box 54 [.ptr 2 0],.box 73 [.d 3 (.int .i64) (x2),.d 22 (.list 3 (.int .i64)) (x3),.d 3 (.int .i64) (x4),.g 3,.g 4],.row 3 (.int .i64) (x5),.row 3 (.int .i64) (x6)]):=by
 refine Eq.trans (b:=(cond (decide (0≤x0)) (cond (decide (x0 < (x2.length:Int))) (cond (decide (0≤x0)) (cond (decide (x0 < (x6.length:Int))) (cond (decide (x0.toNat < List.length x6)) (cond (decide (List.getD x6 x0.toNat 0≠0)) (some ([.sc (I4 (IntKind.wrap IntKind.i64 (Int.tdiv (IntKind.wrap IntKind.i64 (IntKind.wrap IntKind.i64 (x1*List.getD x2 x0.toNat 0)*(1000000:Int))) (List.getD x6 x0.toNat 0))))],[.box 3 [I4 (x1)],.box 54 [.ptr 2 0],.box 73 [.d 3 (.int .i64) (x2),.d 22 (.list 3 (.int .i64)) (x3),.d 3 (.int .i64) (x4),.g 3,.g 4],.row 3 (.int .i64) (x5),.row 3 (.int .i64) (x6)])) none) none) none) none) none) none)) (by kernel_rfl) ?_
 unfold v69
 cases (decide (0≤x0)) with
 | true=>
  cases (decide (x0 < (x2.length:Int))) with
  | true=>
   cases (decide (x0 < (x6.length:Int))) with
   | true=>
    cases (decide (x0.toNat < List.length x6)) with
    | true=>
     cases (decide (List.getD x6 x0.toNat 0≠0)) with
     | true=>
      rfl
     | false=>
      rfl
    | false=>
     rfl
   | false=>
    rfl
  | false=>
   rfl
 | false=>
  rfl
noncomputable def sv69:OrcS:=fun al H=>dC al fun y1 l2=>dS y1 fun y3=>xd .i64 y3 fun x0=>dC l2 fun y4 l5=>dS y4 fun y6=>zi 0 0 y6<|dC l5 fun y7 l8=>dS y7 fun y9=>zi 1 0 y9<|dE l8<|dHB 3 H fun y11 l10=>dK y11 fun x1 l12=>dE l12<|dHB 54 l10 fun y14 l13=>dC y14 fun y15 l16=>zi 2 0 y15<|dE l16<|dHB 73 l13 fun y18 l17=>dC y18 fun y19 l20=>dD 3 (.int .i64) y19 fun x2=>dC l20 fun y21 l22=>dD 22 (.list 3 (.int .i64)) y21 fun x3=>dC l22 fun y23 l24=>dD 3 (.int .i64) y23 fun x4=>dC l24 fun y25 l26=>dG 3 y25<|dC l26 fun y27 l28=>dG 4 y27<|dE l28<|dHR 3 (.int .i64) l17 fun x5 l29=>dHR 3 (.int .i64) l29 fun x6 l30=>dE l30 <|  some [(ok (v69 x0 x1 x2 x3 x4 x5 x6),[.sc (I4 ((val (v69 x0 x1 x2 x3 x4 x5 x6))))],[.box 3 [I4 (x1)],.box 54 [.ptr 2 0],.box 73 [.d 3 (.int .i64) (x2),.d 22 (.list 3 (.int .i64)) (x3),.d 3 (.int .i64) (x4),.g 3,.g 4],.row 3 (.int .i64) (x5),.row 3 (.int .i64) (x6)])]
theorem wv69:zm Try.prog dOk base o68 t68 (69,sv69):=by
 intro al H q hq0 rs H2 h2
 have hq:sv69 al H=some q:=hq0
 clear hq0
 unfold sv69 at hq
 repeat with_reducible first|(first|replace hq:=dCq hq|replace hq:=zG hq|replace hq:=zJ hq|replace hq:=zY hq);obtain ⟨_,_,rfl,hq⟩:=hq|(first|replace hq:=dSq hq|replace hq:=xu hq|replace hq:=dDq hq);obtain ⟨_,rfl,hq⟩:=hq|(first|replace hq:=zr hq|replace hq:=dEq hq|replace hq:=dGq hq);obtain ⟨rfl,hq⟩:=hq
 cases hq
 obtain ⟨hc0,rfl,rfl⟩:=zg h2
 exact ⟨41,(zu (by kernel_rfl)).trans ((ev69 _ _ _ _ _ _ _).trans (zl (zf hc0)))⟩
noncomputable def o69:OrcT:=(69,sv69)::o68
noncomputable def t69:TellT:=t68
noncomputable abbrev tn69:FuncId→TAn:=zh base o69 t69
theorem ok69:TnOk Try.prog tn69 (mkA base) dOk:=by
 have h0:TnOk Try.prog (tn68) (mkA base) dOk:=ok68
 have h1:=zn h0 h0 (p:=(69,sv69)) wv69
 exact h1
noncomputable def LaH:Nat→Int→(List Int)→Int→Int→Int→(List Int)→(List (List Int))→(List Int)→(List Int)→(List Int)→Option Int
 | 0,_,_,_,_,_,_,_,_,_,_=>none
 | n+1,x0,x1,x2,x3,x4,x5,x6,x7,x8,x9=>(cond (decide (x3 < x2)) (cond (decide (0≤x3)) (cond (decide (x3 < (x1.length:Int))) (cond (ok (v69 (List.getD x1 x3.toNat 0) x4 x5 x6 x7 x8 x9)) (LaH n (min x0 (val (v69 (List.getD x1 x3.toNat 0) x4 x5 x6 x7 x8 x9))) x1 x2 (IntKind.wrap IntKind.i64 (x3+(1:Int))) x4 x5 x6 x7 x8 x9) none) none) none) (some x0))
theorem qLaH:type_of% @LaH.eq_2:=@LaH.eq_2
noncomputable def xLaH (x0:Int) (x1:(List Int)) (x2 x3 x4:Int) (x5:(List Int)) (x6:(List (List Int))) (x7:(List Int)) (x8:(List Int)) (x9:(List Int)):Int→Ex×CS:=fun r=>((.exit 0),{ sl:=[(5,.v (.sc (I4 (r))))],lo:=[],h:=[.box 3 [I4 (x4)],.box 54 [.ptr 2 0],.box 73 [.d 3 (.int .i64) (x5),.d 22 (.list 3 (.int .i64)) (x6),.d 3 (.int .i64) (x7),.g 3,.g 4],.row 3 (.int .i64) (x8),.row 3 (.int .i64) (x9)],n0:=5,w:=false })
theorem bLaH (k:Nat) (cN:CS→Option (Ex×CS)) (cX:Ex→CS→Option (Ex×CS)) (x0:Int) (x1:(List Int)) (x2 x3 x4:Int) (x5:(List Int)) (x6:(List (List Int))) (x7:(List Int)) (x8:(List Int)) (x9:(List Int)):zq Try.prog (tn69 68) (TM.evF Try.prog (tn69) dOk (k+40)) dOk (k+40) (zc Try.prog (tn0 68) 68 0) 0 0 { sl:=[(1,.v (.sc (.fn 69 0 [none,none] [.ptr 0 0,.ptr 1 0]))),(5,.v (.sc (I4 x0))),(14,.v (.sc (.d 3 (.int .i64) x1))),(15,.v (.sc (I4 x2))),(16,.v (.sc (I4 x3)))],lo:=[],h:=[.box 3 [I4 (x4)],.box 54 [.ptr 2 0],.box 73 [.d 3 (.int .i64) (x5),.d 22 (.list 3 (.int .i64)) (x6),.d 3 (.int .i64) (x7),.g 3,.g 4],.row 3 (.int .i64) (x8),.row 3 (.int .i64) (x9)],n0:=5,w:=false } cN cX=(cond (decide (x3 < x2)) (cond (decide (0≤x3)) (cond (decide (x3 < (x1.length:Int))) (cond (ok (v69 (List.getD x1 x3.toNat 0) x4 x5 x6 x7 x8 x9)) (cN { sl:=[(1,.v (.sc (.fn 69 0 [none,none] [.ptr 0 0,.ptr 1 0]))),(5,.v (.sc (I4 (min x0 (val (v69 (List.getD x1 x3.toNat 0) x4 x5 x6 x7 x8 x9)))))),(14,.v (.sc (.d 3 (.int .i64) x1))),(15,.v (.sc (I4 x2))),(16,.v (.sc (I4 (IntKind.wrap IntKind.i64 (x3+(1:Int))))))],lo:=[],h:=[.box 3 [I4 (x4)],.box 54 [.ptr 2 0],.box 73 [.d 3 (.int .i64) (x5),.d 22 (.list 3 (.int .i64)) (x6),.d 3 (.int .i64) (x7),.g 3,.g 4],.row 3 (.int .i64) (x8),.row 3 (.int .i64) (x9)],n0:=5,w:=false }) none) none) none) (cX (.exit 0) { sl:=[(5,.v (.sc (I4 x0)))],lo:=[],h:=[.box 3 [I4 (x4)],.box 54 [.ptr 2 0],.box 73 [.d 3 (.int .i64) (x5),.d 22 (.list 3 (.int .i64)) (x6),.d 3 (.int .i64) (x7),.g 3,.g 4],.row 3 (.int .i64) (x8),.row 3 (.int .i64) (x9)],n0:=5,w:=false })):=by kernel_rfl
theorem lLaH (k m:Nat):∀ (n:Nat) (x0:Int) (x1:(List Int)) (x2 x3 x4:Int) (x5:(List Int)) (x6:(List (List Int))) (x7:(List Int)) (x8:(List Int)) (x9:(List Int)) (r:Int),LaH n x0 x1 x2 x3 x4 x5 x6 x7 x8 x9=some r→zM Try.prog (tn69 68) (TM.evF Try.prog (tn69) dOk (k+40)) dOk (k+40) (zc Try.prog (tn0 68) 68 0) 0 0 (n+m) { sl:=[(1,.v (.sc (.fn 69 0 [none,none] [.ptr 0 0,.ptr 1 0]))),(5,.v (.sc (I4 x0))),(14,.v (.sc (.d 3 (.int .i64) x1))),(15,.v (.sc (I4 x2))),(16,.v (.sc (I4 x3)))],lo:=[],h:=[.box 3 [I4 (x4)],.box 54 [.ptr 2 0],.box 73 [.d 3 (.int .i64) (x5),.d 22 (.list 3 (.int .i64)) (x6),.d 3 (.int .i64) (x7),.g 3,.g 4],.row 3 (.int .i64) (x8),.row 3 (.int .i64) (x9)],n0:=5,w:=false }=some (xLaH x0 x1 x2 x3 x4 x5 x6 x7 x8 x9 r):=by
 intro n
 induction n with
 | zero=>intro _ _ _ _ _ _ _ _ _ _ r h;cases h
 | succ n ih=>
  intro x0 x1 x2 x3 x4 x5 x6 x7 x8 x9 r
  rw [show n+1+m=n+m+1 by omega,zp,bLaH,qLaH]
  refine zb ?_ ?_
  refine zb ?_ ?_
  refine zb ?_ ?_
  refine zb ?_ ?_
  exact ih _ _ _ _ _ _ _ _ _ _ r
  intro h;cases h
  intro h;cases h
  intro h;cases h
  intro h;cases h;rfl
noncomputable def sLaH:TellS:=fun S=>dCS 5 S fun y1 y2 y3=>dSs 1 y1 fun y5 l4=>dFn 69 0 [none,none] y5 fun y6=>dC y6 fun y7 l8=>zi 0 0 y7<|dC l8 fun y9 l10=>zi 1 0 y9<|dE l10<|dSI 5 .i64 l4 fun x0 l11=>dSs 14 l11 fun y13 l12=>dD 3 (.int .i64) y13 fun x1=>dSI 15 .i64 l12 fun x2 l14=>dSI 16 .i64 l14 fun x3 l15=>dE l15<|dE y2<|dHB 3 y3 fun y17 l16=>dK y17 fun x4 l18=>dE l18<|dHB 54 l16 fun y20 l19=>dC y20 fun y21 l22=>zi 2 0 y21<|dE l22<|dHB 73 l19 fun y24 l23=>dC y24 fun y25 l26=>dD 3 (.int .i64) y25 fun x5=>dC l26 fun y27 l28=>dD 22 (.list 3 (.int .i64)) y27 fun x6=>dC l28 fun y29 l30=>dD 3 (.int .i64) y29 fun x7=>dC l30 fun y31 l32=>dG 3 y31<|dC l32 fun y33 l34=>dG 4 y33<|dE l34<|dHR 3 (.int .i64) l23 fun x8 l35=>dHR 3 (.int .i64) l35 fun x9 l36=>dE l36 <|  some [(ok (LaH FU x0 x1 x2 x3 x4 x5 x6 x7 x8 x9),(.exit 0),{ sl:=[(5,.v (.sc (I4 ((val (LaH FU x0 x1 x2 x3 x4 x5 x6 x7 x8 x9))))))],lo:=[],h:=[.box 3 [I4 (x4)],.box 54 [.ptr 2 0],.box 73 [.d 3 (.int .i64) (x5),.d 22 (.list 3 (.int .i64)) (x6),.d 3 (.int .i64) (x7),.g 3,.g 4],.row 3 (.int .i64) (x8),.row 3 (.int .i64) (x9)],n0:=5,w:=false })]
theorem wLaH:zB Try.prog dOk base o69 t69 ((68,0),sLaH):=by
 refine ⟨.loop (zc Try.prog (tn0 68) 68 0),0,by kernel_rfl,?_⟩
 intro S alts e S' h10 h2
 have h1:sLaH S=some alts:=h10
 clear h10
 unfold sLaH at h1
 repeat with_reducible first|replace h1:=yc h1;obtain ⟨_,_,_,rfl,h1⟩:=h1|(first|replace h1:=zX h1|replace h1:=dCq h1|replace h1:=ye h1|replace h1:=zG h1|replace h1:=zJ h1|replace h1:=zY h1);obtain ⟨_,_,rfl,h1⟩:=h1|(first|replace h1:=yo h1|replace h1:=dDq h1);obtain ⟨_,rfl,h1⟩:=h1|(first|replace h1:=zr h1|replace h1:=dEq h1|replace h1:=dGq h1);obtain ⟨rfl,h1⟩:=h1
 cases h1
 obtain ⟨hc0,rfl,rfl⟩:=zt h2
 exact ⟨FU+40,(ze rfl).trans (lLaH FU 40 FU _ _ _ _ _ _ _ _ _ _ _ (zf hc0))⟩
noncomputable def o70:OrcT:=o69
noncomputable def t70:TellT:=((68,0),sLaH)::t69
noncomputable abbrev tn70:FuncId→TAn:=zh base o70 t70
theorem ok70:TnOk Try.prog tn70 (mkA base) dOk:=by
 have h0:TnOk Try.prog (tn69) (mkA base) dOk:=ok69
 have h1:=zD h0 h0 (p:=((68,0),sLaH)) wLaH
 exact h1
noncomputable def v68 (x0:(List Int)) (x1:Int) (x2:(List Int)) (x3:(List (List Int))) (x4:(List Int)) (x5:(List Int)) (x6:(List Int)):Option Int:=(cond (decide (0 < (x0.length:Int))) (cond (ok (v69 (List.getD x0 (Int.toNat 0) 0) x1 x2 x3 x4 x5 x6)) (cond (decide (Int.toNat (1:Int)≤List.length x0)) (cond (decide (List.length x0≤List.length x0)) (cond (ok (LaH FU (val (v69 (List.getD x0 (Int.toNat 0) 0) x1 x2 x3 x4 x5 x6)) (List.drop (Int.toNat (1:Int)) (List.take (List.length x0) x0)) (↑(List.length (List.drop (Int.toNat (1:Int)) (List.take (List.length x0) x0))):Int) 0 x1 x2 x3 x4 x5 x6)) (some (val (LaH FU (val (v69 (List.getD x0 (Int.toNat 0) 0) x1 x2 x3 x4 x5 x6)) (List.drop (Int.toNat (1:Int)) (List.take (List.length x0) x0)) (↑(List.length (List.drop (Int.toNat (1:Int)) (List.take (List.length x0) x0))):Int) 0 x1 x2 x3 x4 x5 x6))) none) none) none) none) none)
theorem ev68 (x0:(List Int)) (x1:Int) (x2:(List Int)) (x3:(List (List Int))) (x4:(List Int)) (x5:(List Int)) (x6:(List Int)):zo Try.prog (tn70 68) (TM.evF Try.prog (tn70) dOk 40) dOk 40 68 [.sc (.d 3 (.int .i64) x0),.sc (.fn 69 0 [none,none] [.ptr 0 0,.ptr 1 0])] [.box 3 [I4 (x1)],.box 54 [.ptr 2 0],.box 73 [.d 3 (.int .i64) (x2),.d 22 (.list 3 (.int .i64)) (x3),.d 3 (.int .i64) (x4),.g 3,.g 4],.row 3 (.int .i64) (x5),.row 3 (.int .i64) (x6)]=(v68 x0 x1 x2 x3 x4 x5 x6).bind fun r=>some ([.sc (I4 (r))],[.box 3 [I4 (x1)],.box 54 [.ptr 2 0],.box 73 [.d 3 (.int .i64) (x2),.d 22 (.list 3 (.int .i64)) (x3),.d 3 (.int .i64) (x4),.g 3,.g 4],.row 3 (.int .i64) (x5),.row 3 (.int .i64) (x6)]):=by
 refine Eq.trans (b:=(cond (decide (0 < (x0.length:Int))) (cond (ok (v69 (List.getD x0 (Int.toNat 0) 0) x1 x2 x3 x4 x5 x6)) (cond (decide (Int.toNat (1:Int)≤List.length x0)) (cond (decide (List.length x0≤List.length x0)) (cond (decide (List.length x0≤List.length x0)) (cond (ok (LaH FU (val (v69 (List.getD x0 (Int.toNat 0) 0) x1 x2 x3 x4 x5 x6)) (List.drop (Int.toNat (1:Int)) (List.take (List.length x0) x0)) (↑(List.length (List.drop (Int.toNat (1:Int)) (List.take (List.length x0) x0))):Int) 0 x1 x2 x3 x4 x5 x6)) (some ([.sc (I4 (val (LaH FU (val (v69 (List.getD x0 (Int.toNat 0) 0) x1 x2 x3 x4 x5 x6)) (List.drop (Int.toNat (1:Int)) (List.take (List.length x0) x0)) (↑(List.length (List.drop (Int.toNat (1:Int)) (List.take (List.length x0) x0))):Int) 0 x1 x2 x3 x4 x5 x6)))],[.box 3 [I4 (x1)],.box 54 [.ptr 2 0],.box 73 [.d 3 (.int .i64) (x2),.d 22 (.list 3 (.int .i64)) (x3),.d 3 (.int .i64) (x4),.g 3,.g 4],.row 3 (.int .i64) (x5),.row 3 (.int .i64) (x6)])) none) none) none) none) none) none)) (by kernel_rfl) ?_
 unfold v68
 cases (decide (0 < (x0.length:Int))) with
 | true=>
  cases (ok (v69 (List.getD x0 (Int.toNat 0) 0) x1 x2 x3 x4 x5 x6)) with
  | true=>
   cases (decide (Int.toNat (1:Int)≤List.length x0)) with
   | true=>
    cases (decide (List.length x0≤List.length x0)) with
    | true=>
     cases (ok (LaH FU (val (v69 (List.getD x0 (Int.toNat 0) 0) x1 x2 x3 x4 x5 x6)) (List.drop (Int.toNat (1:Int)) (List.take (List.length x0) x0)) (↑(List.length (List.drop (Int.toNat (1:Int)) (List.take (List.length x0) x0))):Int) 0 x1 x2 x3 x4 x5 x6)) with
     | true=>
      rfl
     | false=>
      rfl
    | false=>
     rfl
   | false=>
    rfl
  | false=>
   rfl
 | false=>
  rfl
noncomputable def sv68:OrcS:=fun al H=>dC al fun y1 l2=>dS y1 fun y3=>dD 3 (.int .i64) y3 fun x0=>dC l2 fun y4 l5=>dS y4 fun y6=>dFn 69 0 [none,none] y6 fun y7=>dC y7 fun y8 l9=>zi 0 0 y8<|dC l9 fun y10 l11=>zi 1 0 y10<|dE l11<|dE l5<|dHB 3 H fun y13 l12=>dK y13 fun x1 l14=>dE l14<|dHB 54 l12 fun y16 l15=>dC y16 fun y17 l18=>zi 2 0 y17<|dE l18<|dHB 73 l15 fun y20 l19=>dC y20 fun y21 l22=>dD 3 (.int .i64) y21 fun x2=>dC l22 fun y23 l24=>dD 22 (.list 3 (.int .i64)) y23 fun x3=>dC l24 fun y25 l26=>dD 3 (.int .i64) y25 fun x4=>dC l26 fun y27 l28=>dG 3 y27<|dC l28 fun y29 l30=>dG 4 y29<|dE l30<|dHR 3 (.int .i64) l19 fun x5 l31=>dHR 3 (.int .i64) l31 fun x6 l32=>dE l32 <|  some [(ok (v68 x0 x1 x2 x3 x4 x5 x6),[.sc (I4 ((val (v68 x0 x1 x2 x3 x4 x5 x6))))],[.box 3 [I4 (x1)],.box 54 [.ptr 2 0],.box 73 [.d 3 (.int .i64) (x2),.d 22 (.list 3 (.int .i64)) (x3),.d 3 (.int .i64) (x4),.g 3,.g 4],.row 3 (.int .i64) (x5),.row 3 (.int .i64) (x6)])]
theorem wv68:zm Try.prog dOk base o70 t70 (68,sv68):=by
 intro al H q hq0 rs H2 h2
 have hq:sv68 al H=some q:=hq0
 clear hq0
 unfold sv68 at hq
 repeat with_reducible first|(first|replace hq:=dCq hq|replace hq:=zG hq|replace hq:=zJ hq|replace hq:=zY hq);obtain ⟨_,_,rfl,hq⟩:=hq|(first|replace hq:=dSq hq|replace hq:=dDq hq|replace hq:=yo hq);obtain ⟨_,rfl,hq⟩:=hq|(first|replace hq:=zr hq|replace hq:=dEq hq|replace hq:=dGq hq);obtain ⟨rfl,hq⟩:=hq
 cases hq
 obtain ⟨hc0,rfl,rfl⟩:=zg h2
 exact ⟨41,(zu (by kernel_rfl)).trans ((ev68 _ _ _ _ _ _ _).trans (zl (zf hc0)))⟩
noncomputable def o71:OrcT:=(68,sv68)::o70
noncomputable def t71:TellT:=t70
noncomputable abbrev tn71:FuncId→TAn:=zh base o71 t71
theorem ok71:TnOk Try.prog tn71 (mkA base) dOk:=by
 have h0:TnOk Try.prog (tn70) (mkA base) dOk:=ok70
 have h1:=zn h0 h0 (p:=(68,sv68)) wv68
 exact h1
noncomputable def v49 (x0:(List Int)) (x1:(List Int)) (x2:(List (List Int))) (x3:(List Int)) (x4:(List Int)) (x5:(List Int)):Option Int:=(cond (ok (v52 x0 x1 x2 x3 x4 x5)) (cond (decide (val (v52 x0 x1 x2 x3 x4 x5)≠0)) (cond (ok (v68 x0 (IntKind.wrap IntKind.i64 (Int.tdiv (1000000000:Int) (val (v52 x0 x1 x2 x3 x4 x5)))) x1 x2 x3 x4 x5)) (some (val (v68 x0 (IntKind.wrap IntKind.i64 (Int.tdiv (1000000000:Int) (val (v52 x0 x1 x2 x3 x4 x5)))) x1 x2 x3 x4 x5))) none) none) none)
theorem ev49 (x0:(List Int)) (x1:(List Int)) (x2:(List (List Int))) (x3:(List Int)) (x4:(List Int)) (x5:(List Int)):zo Try.prog (tn71 49) (TM.evF Try.prog (tn71) dOk 40) dOk 40 49 [.sc (.ptr 0 0),.sc (.d 3 (.int .i64) x0)] [.box 73 [.d 3 (.int .i64) (x1),.d 22 (.list 3 (.int .i64)) (x2),.d 3 (.int .i64) (x3),.g 1,.g 2],.row 3 (.int .i64) (x4),.row 3 (.int .i64) (x5)]=(v49 x0 x1 x2 x3 x4 x5).bind fun r=>some ([.sc (I4 (r))],[.box 73 [.d 3 (.int .i64) (x1),.d 22 (.list 3 (.int .i64)) (x2),.d 3 (.int .i64) (x3),.g 1,.g 2],.row 3 (.int .i64) (x4),.row 3 (.int .i64) (x5)]):=by
 refine Eq.trans (b:=(cond (ok (v52 x0 x1 x2 x3 x4 x5)) (cond (decide (val (v52 x0 x1 x2 x3 x4 x5)≠0)) (cond (ok (v68 x0 (IntKind.wrap IntKind.i64 (Int.tdiv (1000000000:Int) (val (v52 x0 x1 x2 x3 x4 x5)))) x1 x2 x3 x4 x5)) (some ([.sc (I4 (val (v68 x0 (IntKind.wrap IntKind.i64 (Int.tdiv (1000000000:Int) (val (v52 x0 x1 x2 x3 x4 x5)))) x1 x2 x3 x4 x5)))],[.box 73 [.d 3 (.int .i64) (x1),.d 22 (.list 3 (.int .i64)) (x2),.d 3 (.int .i64) (x3),.g 1,.g 2],.row 3 (.int .i64) (x4),.row 3 (.int .i64) (x5)])) none) none) none)) (by kernel_rfl) ?_
 unfold v49
 refine za ?_ ?_
 refine za ?_ ?_
 refine za ?_ ?_
 rfl
 rfl
 rfl
 rfl
noncomputable def sv49:OrcS:=fun al H=>dC al fun y1 l2=>dS y1 fun y3=>zi 0 0 y3<|dC l2 fun y4 l5=>dS y4 fun y6=>dD 3 (.int .i64) y6 fun x0=>dE l5<|dHB 73 H fun y8 l7=>dC y8 fun y9 l10=>dD 3 (.int .i64) y9 fun x1=>dC l10 fun y11 l12=>dD 22 (.list 3 (.int .i64)) y11 fun x2=>dC l12 fun y13 l14=>dD 3 (.int .i64) y13 fun x3=>dC l14 fun y15 l16=>dG 1 y15<|dC l16 fun y17 l18=>dG 2 y17<|dE l18<|dHR 3 (.int .i64) l7 fun x4 l19=>dHR 3 (.int .i64) l19 fun x5 l20=>dE l20 <|  some [(ok (v49 x0 x1 x2 x3 x4 x5),[.sc (I4 ((val (v49 x0 x1 x2 x3 x4 x5))))],[.box 73 [.d 3 (.int .i64) (x1),.d 22 (.list 3 (.int .i64)) (x2),.d 3 (.int .i64) (x3),.g 1,.g 2],.row 3 (.int .i64) (x4),.row 3 (.int .i64) (x5)])]
theorem wv49:zm Try.prog dOk base o71 t71 (49,sv49):=by
 intro al H q hq0 rs H2 h2
 have hq:sv49 al H=some q:=hq0
 clear hq0
 unfold sv49 at hq
 repeat with_reducible first|(first|replace hq:=dCq hq|replace hq:=zG hq|replace hq:=zY hq);obtain ⟨_,_,rfl,hq⟩:=hq|(first|replace hq:=dSq hq|replace hq:=dDq hq);obtain ⟨_,rfl,hq⟩:=hq|(first|replace hq:=zr hq|replace hq:=dEq hq|replace hq:=dGq hq);obtain ⟨rfl,hq⟩:=hq
 cases hq
 obtain ⟨hc0,rfl,rfl⟩:=zg h2
 exact ⟨41,(zu (by kernel_rfl)).trans ((ev49 _ _ _ _ _ _).trans (zl (zf hc0)))⟩
noncomputable def o72:OrcT:=(49,sv49)::o71
noncomputable def t72:TellT:=t71
noncomputable abbrev tn72:FuncId→TAn:=zh base o72 t72
theorem ok72:TnOk Try.prog tn72 (mkA base) dOk:=by
 have h0:TnOk Try.prog (tn71) (mkA base) dOk:=ok71
 have h1:=zn h0 h0 (p:=(49,sv49)) wv49
 exact h1
noncomputable def Lac:Nat→(List (List Int))→Int→Int→Int→Int→(List Int)→(List (List Int))→(List Int)→(List Int)→(List Int)→(List (List Int))→(List Int)→(List (List Int))→(List Int)→Option (List (List Int))
 | 0,_,_,_,_,_,_,_,_,_,_,_,_,_,_=>none
 | n+1,x0,x1,x2,x3,x4,x5,x6,x7,x8,x9,A,B,C,D=>(cond (decide (x2 < x1)) (cond (decide (0≤x2)) (cond (decide (x2 < (x0.length:Int))) (cond (ok (v49 (List.getD x0 x2.toNat []) x5 x6 x7 x8 x9)) (cond (decide (List.length A+List.length [[val (v49 (List.getD x0 x2.toNat []) x5 x6 x7 x8 x9)]]≤nat_lit 2147483648)) (Lac n x0 x1 (IntKind.wrap IntKind.i64 (x2+(1:Int))) x3 x4 x5 x6 x7 x8 x9 (A++[[val (v49 (List.getD x0 x2.toNat []) x5 x6 x7 x8 x9)]]) B C D) none) none) none) none) (some A))
theorem qLac:type_of% @Lac.eq_2:=@Lac.eq_2
noncomputable def xLac (x0:(List (List Int))) (x1 x2 x3 x4:Int) (x5:(List Int)) (x6:(List (List Int))) (x7:(List Int)) (x8:(List Int)) (x9:(List Int)) (A:(List (List Int))) (B:(List Int)) (C:(List (List Int))) (D:(List Int)):(List (List Int))→Ex×CS:=fun r=>((.exit 0),{ sl:=[(1,.v (.sc (.ptr 3 0))),(2,.l 2 0),(4,.l 4 0),(5,.v (.sc (.ptr 4 0)))],lo:=[(2,[.g 7,.g 8,I4 (x3)]),(4,[.g 5,.g 6,I4 (x4)])],h:=[.box 73 [.d 3 (.int .i64) (x5),.d 22 (.list 3 (.int .i64)) (x6),.d 3 (.int .i64) (x7),.g 1,.g 2],.row 3 (.int .i64) (x8),.row 3 (.int .i64) (x9),.box 54 [.ptr 0 0],.box 74 [.fn 49 1 [none] [.ptr 0 0]],.row 22 (.list 3 (.int .i64)) (r:List (List Int)),.row 3 (.int .i64) (B),.row 22 (.list 3 (.int .i64)) (C),.row 3 (.int .i64) (D)],n0:=3,w:=false })
theorem bLac (k:Nat) (cN:CS→Option (Ex×CS)) (cX:Ex→CS→Option (Ex×CS)) (x0:(List (List Int))) (x1 x2 x3 x4:Int) (x5:(List Int)) (x6:(List (List Int))) (x7:(List Int)) (x8:(List Int)) (x9:(List Int)) (A:(List (List Int))) (B:(List Int)) (C:(List (List Int))) (D:(List Int)):zq Try.prog (tn72 28) (TM.evF Try.prog (tn72) dOk (k+40)) dOk (k+40) (zc Try.prog (tn0 28) 28 0) 0 0 { sl:=[(1,.v (.sc (.ptr 3 0))),(2,.l 2 0),(4,.l 4 0),(5,.v (.sc (.ptr 4 0))),(19,.v (.sc (.d 22 (.list 3 (.int .i64)) x0))),(20,.v (.sc (I4 x1))),(21,.v (.sc (I4 x2)))],lo:=[(2,[.g 7,.g 8,I4 (x3)]),(4,[.g 5,.g 6,I4 (x4)])],h:=[.box 73 [.d 3 (.int .i64) (x5),.d 22 (.list 3 (.int .i64)) (x6),.d 3 (.int .i64) (x7),.g 1,.g 2],.row 3 (.int .i64) (x8),.row 3 (.int .i64) (x9),.box 54 [.ptr 0 0],.box 74 [.fn 49 1 [none] [.ptr 0 0]],.row 22 (.list 3 (.int .i64)) (A),.row 3 (.int .i64) (B),.row 22 (.list 3 (.int .i64)) (C),.row 3 (.int .i64) (D)],n0:=3,w:=false } cN cX=(cond (decide (x2 < x1)) (cond (decide (0≤x2)) (cond (decide (x2 < (x0.length:Int))) (cond (ok (v49 (List.getD x0 x2.toNat []) x5 x6 x7 x8 x9)) (cond (decide (List.length A+List.length [[val (v49 (List.getD x0 x2.toNat []) x5 x6 x7 x8 x9)]]≤nat_lit 2147483648)) (cN { sl:=[(1,.v (.sc (.ptr 3 0))),(2,.l 2 0),(4,.l 4 0),(5,.v (.sc (.ptr 4 0))),(19,.v (.sc (.d 22 (.list 3 (.int .i64)) x0))),(20,.v (.sc (I4 x1))),(21,.v (.sc (I4 (IntKind.wrap IntKind.i64 (x2+(1:Int))))))],lo:=[(2,[.g 7,.g 8,I4 (x3)]),(4,[.g 5,.g 6,I4 (x4)])],h:=[.box 73 [.d 3 (.int .i64) (x5),.d 22 (.list 3 (.int .i64)) (x6),.d 3 (.int .i64) (x7),.g 1,.g 2],.row 3 (.int .i64) (x8),.row 3 (.int .i64) (x9),.box 54 [.ptr 0 0],.box 74 [.fn 49 1 [none] [.ptr 0 0]],.row 22 (.list 3 (.int .i64)) (A++[[val (v49 (List.getD x0 x2.toNat []) x5 x6 x7 x8 x9)]]:List (List Int)),.row 3 (.int .i64) (B),.row 22 (.list 3 (.int .i64)) (C),.row 3 (.int .i64) (D)],n0:=3,w:=false }) none) none) none) none) (cX (.exit 0) { sl:=[(1,.v (.sc (.ptr 3 0))),(2,.l 2 0),(4,.l 4 0),(5,.v (.sc (.ptr 4 0)))],lo:=[(2,[.g 7,.g 8,I4 (x3)]),(4,[.g 5,.g 6,I4 (x4)])],h:=[.box 73 [.d 3 (.int .i64) (x5),.d 22 (.list 3 (.int .i64)) (x6),.d 3 (.int .i64) (x7),.g 1,.g 2],.row 3 (.int .i64) (x8),.row 3 (.int .i64) (x9),.box 54 [.ptr 0 0],.box 74 [.fn 49 1 [none] [.ptr 0 0]],.row 22 (.list 3 (.int .i64)) (A),.row 3 (.int .i64) (B),.row 22 (.list 3 (.int .i64)) (C),.row 3 (.int .i64) (D)],n0:=3,w:=false })):=by kernel_rfl
theorem lLac (k m:Nat):∀ (n:Nat) (x0:(List (List Int))) (x1 x2 x3 x4:Int) (x5:(List Int)) (x6:(List (List Int))) (x7:(List Int)) (x8:(List Int)) (x9:(List Int)) (A:(List (List Int))) (B:(List Int)) (C:(List (List Int))) (D:(List Int)) (r:(List (List Int))),Lac n x0 x1 x2 x3 x4 x5 x6 x7 x8 x9 A B C D=some r→zM Try.prog (tn72 28) (TM.evF Try.prog (tn72) dOk (k+40)) dOk (k+40) (zc Try.prog (tn0 28) 28 0) 0 0 (n+m) { sl:=[(1,.v (.sc (.ptr 3 0))),(2,.l 2 0),(4,.l 4 0),(5,.v (.sc (.ptr 4 0))),(19,.v (.sc (.d 22 (.list 3 (.int .i64)) x0))),(20,.v (.sc (I4 x1))),(21,.v (.sc (I4 x2)))],lo:=[(2,[.g 7,.g 8,I4 (x3)]),(4,[.g 5,.g 6,I4 (x4)])],h:=[.box 73 [.d 3 (.int .i64) (x5),.d 22 (.list 3 (.int .i64)) (x6),.d 3 (.int .i64) (x7),.g 1,.g 2],.row 3 (.int .i64) (x8),.row 3 (.int .i64) (x9),.box 54 [.ptr 0 0],.box 74 [.fn 49 1 [none] [.ptr 0 0]],.row 22 (.list 3 (.int .i64)) (A),.row 3 (.int .i64) (B),.row 22 (.list 3 (.int .i64)) (C),.row 3 (.int .i64) (D)],n0:=3,w:=false }=some (xLac x0 x1 x2 x3 x4 x5 x6 x7 x8 x9 A B C D r):=by
 intro n
 induction n with
 | zero=>intro _ _ _ _ _ _ _ _ _ _ _ _ _ _ r h;cases h
 | succ n ih=>
  intro x0 x1 x2 x3 x4 x5 x6 x7 x8 x9 A B C D r
  rw [show n+1+m=n+m+1 by omega,zp,bLac,qLac]
  refine zb ?_ ?_
  refine zb ?_ ?_
  refine zb ?_ ?_
  refine zb ?_ ?_
  refine zb ?_ ?_
  exact ih _ _ _ _ _ _ _ _ _ _ _ _ _ _ r
  intro h;cases h
  intro h;cases h
  intro h;cases h
  intro h;cases h
  intro h;cases h;rfl
noncomputable def sLac:TellS:=fun S=>dCS 3 S fun y1 y2 y3=>dSs 1 y1 fun y5 l4=>zi 3 0 y5<|dSt 2 l4 fun y7 l6=>dL 2 0 y7<|dSt 4 l6 fun y9 l8=>dL 4 0 y9<|dSs 5 l8 fun y11 l10=>zi 4 0 y11<|dSs 19 l10 fun y13 l12=>dD 22 (.list 3 (.int .i64)) y13 fun x0=>dSI 20 .i64 l12 fun x1 l14=>dSI 21 .i64 l14 fun x2 l15=>dE l15<|dLo 2 y2 fun y16 l17=>dC y16 fun y18 l19=>dG 7 y18<|dC l19 fun y20 l21=>dG 8 y20<|dK l21 fun x3 l22=>dE l22<|dLo 4 l17 fun y23 l24=>dC y23 fun y25 l26=>dG 5 y25<|dC l26 fun y27 l28=>dG 6 y27<|dK l28 fun x4 l29=>dE l29<|dE l24<|dHB 73 y3 fun y31 l30=>dC y31 fun y32 l33=>dD 3 (.int .i64) y32 fun x5=>dC l33 fun y34 l35=>dD 22 (.list 3 (.int .i64)) y34 fun x6=>dC l35 fun y36 l37=>dD 3 (.int .i64) y36 fun x7=>dC l37 fun y38 l39=>dG 1 y38<|dC l39 fun y40 l41=>dG 2 y40<|dE l41<|dHR 3 (.int .i64) l30 fun x8 l42=>dHR 3 (.int .i64) l42 fun x9 l43=>dHB 54 l43 fun y45 l44=>dC y45 fun y46 l47=>zi 0 0 y46<|dE l47<|dHB 74 l44 fun y49 l48=>dC y49 fun y50 l51=>dFn 49 1 [none] y50 fun y52=>dC y52 fun y53 l54=>zi 0 0 y53<|dE l54<|dE l51<|dHR 22 (.list 3 (.int .i64)) l48 fun A l55=>dHR 3 (.int .i64) l55 fun B l56=>dHR 22 (.list 3 (.int .i64)) l56 fun C l57=>dHR 3 (.int .i64) l57 fun D l58=>dE l58 <|  some [(ok (Lac FU x0 x1 x2 x3 x4 x5 x6 x7 x8 x9 A B C D),(.exit 0),{ sl:=[(1,.v (.sc (.ptr 3 0))),(2,.l 2 0),(4,.l 4 0),(5,.v (.sc (.ptr 4 0)))],lo:=[(2,[.g 7,.g 8,I4 (x3)]),(4,[.g 5,.g 6,I4 (x4)])],h:=[.box 73 [.d 3 (.int .i64) (x5),.d 22 (.list 3 (.int .i64)) (x6),.d 3 (.int .i64) (x7),.g 1,.g 2],.row 3 (.int .i64) (x8),.row 3 (.int .i64) (x9),.box 54 [.ptr 0 0],.box 74 [.fn 49 1 [none] [.ptr 0 0]],.row 22 (.list 3 (.int .i64)) ((val (Lac FU x0 x1 x2 x3 x4 x5 x6 x7 x8 x9 A B C D)):List (List Int)),.row 3 (.int .i64) (B),.row 22 (.list 3 (.int .i64)) (C),.row 3 (.int .i64) (D)],n0:=3,w:=false })]
theorem wLac:zB Try.prog dOk base o72 t72 ((28,0),sLac):=by
 refine ⟨.loop (zc Try.prog (tn0 28) 28 0),0,by kernel_rfl,?_⟩
 intro S alts e S' h10 h2
 have h1:sLac S=some alts:=h10
 clear h10
 unfold sLac at h1
 repeat with_reducible first|replace h1:=yc h1;obtain ⟨_,_,_,rfl,h1⟩:=h1|(first|replace h1:=zX h1|replace h1:=wB h1|replace h1:=ye h1|replace h1:=wL h1|replace h1:=dCq h1|replace h1:=zJ h1|replace h1:=zG h1|replace h1:=zY h1);obtain ⟨_,_,rfl,h1⟩:=h1|(first|replace h1:=zr h1|replace h1:=dLq h1|replace h1:=dEq h1|replace h1:=dGq h1);obtain ⟨rfl,h1⟩:=h1|(first|replace h1:=dDq h1|replace h1:=yo h1);obtain ⟨_,rfl,h1⟩:=h1
 cases h1
 obtain ⟨hc0,rfl,rfl⟩:=zt h2
 exact ⟨FU+40,(ze rfl).trans (lLac FU 40 FU _ _ _ _ _ _ _ _ _ _ _ _ _ _ _ (zf hc0))⟩
noncomputable def o73:OrcT:=o72
noncomputable def t73:TellT:=((28,0),sLac)::t72
noncomputable abbrev tn73:FuncId→TAn:=zh base o73 t73
theorem ok73:TnOk Try.prog tn73 (mkA base) dOk:=by
 have h0:TnOk Try.prog (tn72) (mkA base) dOk:=ok72
 have h1:=zD h0 h0 (p:=((28,0),sLac)) wLac
 exact h1
noncomputable def v51 (x0:(List Int)) (x1:(List Int)) (x2:(List (List Int))) (x3:(List Int)) (x4:(List Int)) (x5:(List Int)):Option Int:=(cond (ok (v52 x0 x1 x2 x3 x4 x5)) (cond (ok (v49 x0 x1 x2 x3 x4 x5)) (some (IntKind.wrap IntKind.i64 (val (v52 x0 x1 x2 x3 x4 x5)*val (v49 x0 x1 x2 x3 x4 x5)))) none) none)
theorem ev51 (x0:(List Int)) (x1:(List Int)) (x2:(List (List Int))) (x3:(List Int)) (x4:(List Int)) (x5:(List Int)):zo Try.prog (tn73 51) (TM.evF Try.prog (tn73) dOk 40) dOk 40 51 [.sc (.d 3 (.int .i64) x0),.sc (.ptr 0 0),.sc (.ptr 4 0)] [.box 54 [.ptr 1 0],.box 73 [.d 3 (.int .i64) (x1),.d 22 (.list 3 (.int .i64)) (x2),.d 3 (.int .i64) (x3),.g 2,.g 3],.row 3 (.int .i64) (x4),.row 3 (.int .i64) (x5),.box 74 [.fn 49 1 [none] [.ptr 1 0]]]=(v51 x0 x1 x2 x3 x4 x5).bind fun r=>some ([.sc (I4 (r))],[.box 54 [.ptr 1 0],.box 73 [.d 3 (.int .i64) (x1),.d 22 (.list 3 (.int .i64)) (x2),.d 3 (.int .i64) (x3),.g 2,.g 3],.row 3 (.int .i64) (x4),.row 3 (.int .i64) (x5),.box 74 [.fn 49 1 [none] [.ptr 1 0]]]):=by
 refine Eq.trans (b:=(cond (ok (v52 x0 x1 x2 x3 x4 x5)) (cond (ok (v49 x0 x1 x2 x3 x4 x5)) (some ([.sc (I4 (IntKind.wrap IntKind.i64 (val (v52 x0 x1 x2 x3 x4 x5)*val (v49 x0 x1 x2 x3 x4 x5))))],[.box 54 [.ptr 1 0],.box 73 [.d 3 (.int .i64) (x1),.d 22 (.list 3 (.int .i64)) (x2),.d 3 (.int .i64) (x3),.g 2,.g 3],.row 3 (.int .i64) (x4),.row 3 (.int .i64) (x5),.box 74 [.fn 49 1 [none] [.ptr 1 0]]])) none) none)) (by kernel_rfl) ?_
 unfold v51
 refine za ?_ ?_
 refine za ?_ ?_
 rfl
 rfl
 rfl
noncomputable def sv51:OrcS:=fun al H=>dC al fun y1 l2=>dS y1 fun y3=>dD 3 (.int .i64) y3 fun x0=>dC l2 fun y4 l5=>dS y4 fun y6=>zi 0 0 y6<|dC l5 fun y7 l8=>dS y7 fun y9=>zi 4 0 y9<|dE l8<|dHB 54 H fun y11 l10=>dC y11 fun y12 l13=>zi 1 0 y12<|dE l13<|dHB 73 l10 fun y15 l14=>dC y15 fun y16 l17=>dD 3 (.int .i64) y16 fun x1=>dC l17 fun y18 l19=>dD 22 (.list 3 (.int .i64)) y18 fun x2=>dC l19 fun y20 l21=>dD 3 (.int .i64) y20 fun x3=>dC l21 fun y22 l23=>dG 2 y22<|dC l23 fun y24 l25=>dG 3 y24<|dE l25<|dHR 3 (.int .i64) l14 fun x4 l26=>dHR 3 (.int .i64) l26 fun x5 l27=>dHB 74 l27 fun y29 l28=>dC y29 fun y30 l31=>dFn 49 1 [none] y30 fun y32=>dC y32 fun y33 l34=>zi 1 0 y33<|dE l34<|dE l31<|dE l28 <|  some [(ok (v51 x0 x1 x2 x3 x4 x5),[.sc (I4 ((val (v51 x0 x1 x2 x3 x4 x5))))],[.box 54 [.ptr 1 0],.box 73 [.d 3 (.int .i64) (x1),.d 22 (.list 3 (.int .i64)) (x2),.d 3 (.int .i64) (x3),.g 2,.g 3],.row 3 (.int .i64) (x4),.row 3 (.int .i64) (x5),.box 74 [.fn 49 1 [none] [.ptr 1 0]]])]
theorem wv51:zm Try.prog dOk base o73 t73 (51,sv51):=by
 intro al H q hq0 rs H2 h2
 have hq:sv51 al H=some q:=hq0
 clear hq0
 unfold sv51 at hq
 repeat with_reducible first|(first|replace hq:=dCq hq|replace hq:=zG hq|replace hq:=zY hq);obtain ⟨_,_,rfl,hq⟩:=hq|(first|replace hq:=dSq hq|replace hq:=dDq hq|replace hq:=yo hq);obtain ⟨_,rfl,hq⟩:=hq|(first|replace hq:=zr hq|replace hq:=dEq hq|replace hq:=dGq hq);obtain ⟨rfl,hq⟩:=hq
 cases hq
 obtain ⟨hc0,rfl,rfl⟩:=zg h2
 exact ⟨41,(zu (by kernel_rfl)).trans ((ev51 _ _ _ _ _ _).trans (zl (zf hc0)))⟩
noncomputable def o74:OrcT:=(51,sv51)::o73
noncomputable def t74:TellT:=t73
noncomputable abbrev tn74:FuncId→TAn:=zh base o74 t74
theorem ok74:TnOk Try.prog tn74 (mkA base) dOk:=by
 have h0:TnOk Try.prog (tn73) (mkA base) dOk:=ok73
 have h1:=zn h0 h0 (p:=(51,sv51)) wv51
 exact h1
noncomputable def LaI:Nat→Int→(List (List Int))→Int→Int→(List Int)→(List (List Int))→(List Int)→(List Int)→(List Int)→Option Int
 | 0,_,_,_,_,_,_,_,_,_=>none
 | n+1,x0,x1,x2,x3,x4,x5,x6,x7,x8=>(cond (decide (x3 < x2)) (cond (decide (0≤x3)) (cond (decide (x3 < (x1.length:Int))) (cond (ok (v51 (List.getD x1 x3.toNat []) x4 x5 x6 x7 x8)) (LaI n (min x0 (val (v51 (List.getD x1 x3.toNat []) x4 x5 x6 x7 x8))) x1 x2 (IntKind.wrap IntKind.i64 (x3+(1:Int))) x4 x5 x6 x7 x8) none) none) none) (some x0))
theorem qLaI:type_of% @LaI.eq_2:=@LaI.eq_2
noncomputable def xLaI (x0:Int) (x1:(List (List Int))) (x2 x3:Int) (x4:(List Int)) (x5:(List (List Int))) (x6:(List Int)) (x7:(List Int)) (x8:(List Int)):Int→Ex×CS:=fun r=>((.exit 0),{ sl:=[(5,.v (.sc (I4 (r))))],lo:=[],h:=[.box 54 [.ptr 1 0],.box 73 [.d 3 (.int .i64) (x4),.d 22 (.list 3 (.int .i64)) (x5),.d 3 (.int .i64) (x6),.g 2,.g 3],.row 3 (.int .i64) (x7),.row 3 (.int .i64) (x8),.box 74 [.fn 49 1 [none] [.ptr 1 0]]],n0:=5,w:=false })
theorem bLaI (k:Nat) (cN:CS→Option (Ex×CS)) (cX:Ex→CS→Option (Ex×CS)) (x0:Int) (x1:(List (List Int))) (x2 x3:Int) (x4:(List Int)) (x5:(List (List Int))) (x6:(List Int)) (x7:(List Int)) (x8:(List Int)):zq Try.prog (tn74 50) (TM.evF Try.prog (tn74) dOk (k+40)) dOk (k+40) (zc Try.prog (tn0 50) 50 0) 0 0 { sl:=[(1,.v (.sc (.fn 51 0 [none,none] [.ptr 0 0,.ptr 4 0]))),(5,.v (.sc (I4 x0))),(14,.v (.sc (.d 22 (.list 3 (.int .i64)) x1))),(15,.v (.sc (I4 x2))),(16,.v (.sc (I4 x3)))],lo:=[],h:=[.box 54 [.ptr 1 0],.box 73 [.d 3 (.int .i64) (x4),.d 22 (.list 3 (.int .i64)) (x5),.d 3 (.int .i64) (x6),.g 2,.g 3],.row 3 (.int .i64) (x7),.row 3 (.int .i64) (x8),.box 74 [.fn 49 1 [none] [.ptr 1 0]]],n0:=5,w:=false } cN cX=(cond (decide (x3 < x2)) (cond (decide (0≤x3)) (cond (decide (x3 < (x1.length:Int))) (cond (ok (v51 (List.getD x1 x3.toNat []) x4 x5 x6 x7 x8)) (cN { sl:=[(1,.v (.sc (.fn 51 0 [none,none] [.ptr 0 0,.ptr 4 0]))),(5,.v (.sc (I4 (min x0 (val (v51 (List.getD x1 x3.toNat []) x4 x5 x6 x7 x8)))))),(14,.v (.sc (.d 22 (.list 3 (.int .i64)) x1))),(15,.v (.sc (I4 x2))),(16,.v (.sc (I4 (IntKind.wrap IntKind.i64 (x3+(1:Int))))))],lo:=[],h:=[.box 54 [.ptr 1 0],.box 73 [.d 3 (.int .i64) (x4),.d 22 (.list 3 (.int .i64)) (x5),.d 3 (.int .i64) (x6),.g 2,.g 3],.row 3 (.int .i64) (x7),.row 3 (.int .i64) (x8),.box 74 [.fn 49 1 [none] [.ptr 1 0]]],n0:=5,w:=false }) none) none) none) (cX (.exit 0) { sl:=[(5,.v (.sc (I4 x0)))],lo:=[],h:=[.box 54 [.ptr 1 0],.box 73 [.d 3 (.int .i64) (x4),.d 22 (.list 3 (.int .i64)) (x5),.d 3 (.int .i64) (x6),.g 2,.g 3],.row 3 (.int .i64) (x7),.row 3 (.int .i64) (x8),.box 74 [.fn 49 1 [none] [.ptr 1 0]]],n0:=5,w:=false })):=by kernel_rfl
theorem lLaI (k m:Nat):∀ (n:Nat) (x0:Int) (x1:(List (List Int))) (x2 x3:Int) (x4:(List Int)) (x5:(List (List Int))) (x6:(List Int)) (x7:(List Int)) (x8:(List Int)) (r:Int),LaI n x0 x1 x2 x3 x4 x5 x6 x7 x8=some r→zM Try.prog (tn74 50) (TM.evF Try.prog (tn74) dOk (k+40)) dOk (k+40) (zc Try.prog (tn0 50) 50 0) 0 0 (n+m) { sl:=[(1,.v (.sc (.fn 51 0 [none,none] [.ptr 0 0,.ptr 4 0]))),(5,.v (.sc (I4 x0))),(14,.v (.sc (.d 22 (.list 3 (.int .i64)) x1))),(15,.v (.sc (I4 x2))),(16,.v (.sc (I4 x3)))],lo:=[],h:=[.box 54 [.ptr 1 0],.box 73 [.d 3 (.int .i64) (x4),.d 22 (.list 3 (.int .i64)) (x5),.d 3 (.int .i64) (x6),.g 2,.g 3],.row 3 (.int .i64) (x7),.row 3 (.int .i64) (x8),.box 74 [.fn 49 1 [none] [.ptr 1 0]]],n0:=5,w:=false }=some (xLaI x0 x1 x2 x3 x4 x5 x6 x7 x8 r):=by
 intro n
 induction n with
 | zero=>intro _ _ _ _ _ _ _ _ _ r h;cases h
 | succ n ih=>
  intro x0 x1 x2 x3 x4 x5 x6 x7 x8 r
  rw [show n+1+m=n+m+1 by omega,zp,bLaI,qLaI]
  refine zb ?_ ?_
  refine zb ?_ ?_
  refine zb ?_ ?_
  refine zb ?_ ?_
  exact ih _ _ _ _ _ _ _ _ _ r
  intro h;cases h
  intro h;cases h
  intro h;cases h
  intro h;cases h;rfl
noncomputable def sLaI:TellS:=fun S=>dCS 5 S fun y1 y2 y3=>dSs 1 y1 fun y5 l4=>dFn 51 0 [none,none] y5 fun y6=>dC y6 fun y7 l8=>zi 0 0 y7<|dC l8 fun y9 l10=>zi 4 0 y9<|dE l10<|dSI 5 .i64 l4 fun x0 l11=>dSs 14 l11 fun y13 l12=>dD 22 (.list 3 (.int .i64)) y13 fun x1=>dSI 15 .i64 l12 fun x2 l14=>dSI 16 .i64 l14 fun x3 l15=>dE l15<|dE y2<|dHB 54 y3 fun y17 l16=>dC y17 fun y18 l19=>zi 1 0 y18<|dE l19<|dHB 73 l16 fun y21 l20=>dC y21 fun y22 l23=>dD 3 (.int .i64) y22 fun x4=>dC l23 fun y24 l25=>dD 22 (.list 3 (.int .i64)) y24 fun x5=>dC l25 fun y26 l27=>dD 3 (.int .i64) y26 fun x6=>dC l27 fun y28 l29=>dG 2 y28<|dC l29 fun y30 l31=>dG 3 y30<|dE l31<|dHR 3 (.int .i64) l20 fun x7 l32=>dHR 3 (.int .i64) l32 fun x8 l33=>dHB 74 l33 fun y35 l34=>dC y35 fun y36 l37=>dFn 49 1 [none] y36 fun y38=>dC y38 fun y39 l40=>zi 1 0 y39<|dE l40<|dE l37<|dE l34 <|  some [(ok (LaI FU x0 x1 x2 x3 x4 x5 x6 x7 x8),(.exit 0),{ sl:=[(5,.v (.sc (I4 ((val (LaI FU x0 x1 x2 x3 x4 x5 x6 x7 x8))))))],lo:=[],h:=[.box 54 [.ptr 1 0],.box 73 [.d 3 (.int .i64) (x4),.d 22 (.list 3 (.int .i64)) (x5),.d 3 (.int .i64) (x6),.g 2,.g 3],.row 3 (.int .i64) (x7),.row 3 (.int .i64) (x8),.box 74 [.fn 49 1 [none] [.ptr 1 0]]],n0:=5,w:=false })]
theorem wLaI:zB Try.prog dOk base o74 t74 ((50,0),sLaI):=by
 refine ⟨.loop (zc Try.prog (tn0 50) 50 0),0,by kernel_rfl,?_⟩
 intro S alts e S' h10 h2
 have h1:sLaI S=some alts:=h10
 clear h10
 unfold sLaI at h1
 repeat with_reducible first|replace h1:=yc h1;obtain ⟨_,_,_,rfl,h1⟩:=h1|(first|replace h1:=zX h1|replace h1:=dCq h1|replace h1:=ye h1|replace h1:=zG h1|replace h1:=zY h1);obtain ⟨_,_,rfl,h1⟩:=h1|(first|replace h1:=yo h1|replace h1:=dDq h1);obtain ⟨_,rfl,h1⟩:=h1|(first|replace h1:=zr h1|replace h1:=dEq h1|replace h1:=dGq h1);obtain ⟨rfl,h1⟩:=h1
 cases h1
 obtain ⟨hc0,rfl,rfl⟩:=zt h2
 exact ⟨FU+40,(ze rfl).trans (lLaI FU 40 FU _ _ _ _ _ _ _ _ _ _ (zf hc0))⟩
noncomputable def o75:OrcT:=o74
noncomputable def t75:TellT:=((50,0),sLaI)::t74
noncomputable abbrev tn75:FuncId→TAn:=zh base o75 t75
theorem ok75:TnOk Try.prog tn75 (mkA base) dOk:=by
 have h0:TnOk Try.prog (tn74) (mkA base) dOk:=ok74
 have h1:=zD h0 h0 (p:=((50,0),sLaI)) wLaI
 exact h1
noncomputable def v50 (x0:(List (List Int))) (x1:(List Int)) (x2:(List (List Int))) (x3:(List Int)) (x4:(List Int)) (x5:(List Int)):Option Int:=(cond (decide (0 < (x0.length:Int))) (cond (ok (v51 (List.getD x0 (Int.toNat 0) []) x1 x2 x3 x4 x5)) (cond (decide (Int.toNat (1:Int)≤List.length x0)) (cond (decide (List.length x0≤List.length x0)) (cond (ok (LaI FU (val (v51 (List.getD x0 (Int.toNat 0) []) x1 x2 x3 x4 x5)) (List.drop (Int.toNat (1:Int)) (List.take (List.length x0) x0)) (↑(List.length (List.drop (Int.toNat (1:Int)) (List.take (List.length x0) x0))):Int) 0 x1 x2 x3 x4 x5)) (some (val (LaI FU (val (v51 (List.getD x0 (Int.toNat 0) []) x1 x2 x3 x4 x5)) (List.drop (Int.toNat (1:Int)) (List.take (List.length x0) x0)) (↑(List.length (List.drop (Int.toNat (1:Int)) (List.take (List.length x0) x0))):Int) 0 x1 x2 x3 x4 x5))) none) none) none) none) none)
theorem ev50 (x0:(List (List Int))) (x1:(List Int)) (x2:(List (List Int))) (x3:(List Int)) (x4:(List Int)) (x5:(List Int)):zo Try.prog (tn75 50) (TM.evF Try.prog (tn75) dOk 40) dOk 40 50 [.sc (.d 22 (.list 3 (.int .i64)) x0),.sc (.fn 51 0 [none,none] [.ptr 0 0,.ptr 4 0])] [.box 54 [.ptr 1 0],.box 73 [.d 3 (.int .i64) (x1),.d 22 (.list 3 (.int .i64)) (x2),.d 3 (.int .i64) (x3),.g 2,.g 3],.row 3 (.int .i64) (x4),.row 3 (.int .i64) (x5),.box 74 [.fn 49 1 [none] [.ptr 1 0]]]=(v50 x0 x1 x2 x3 x4 x5).bind fun r=>some ([.sc (I4 (r))],[.box 54 [.ptr 1 0],.box 73 [.d 3 (.int .i64) (x1),.d 22 (.list 3 (.int .i64)) (x2),.d 3 (.int .i64) (x3),.g 2,.g 3],.row 3 (.int .i64) (x4),.row 3 (.int .i64) (x5),.box 74 [.fn 49 1 [none] [.ptr 1 0]]]):=by
 refine Eq.trans (b:=(cond (decide (0 < (x0.length:Int))) (cond (ok (v51 (List.getD x0 (Int.toNat 0) []) x1 x2 x3 x4 x5)) (cond (decide (Int.toNat (1:Int)≤List.length x0)) (cond (decide (List.length x0≤List.length x0)) (cond (decide (List.length x0≤List.length x0)) (cond (ok (LaI FU (val (v51 (List.getD x0 (Int.toNat 0) []) x1 x2 x3 x4 x5)) (List.drop (Int.toNat (1:Int)) (List.take (List.length x0) x0)) (↑(List.length (List.drop (Int.toNat (1:Int)) (List.take (List.length x0) x0))):Int) 0 x1 x2 x3 x4 x5)) (some ([.sc (I4 (val (LaI FU (val (v51 (List.getD x0 (Int.toNat 0) []) x1 x2 x3 x4 x5)) (List.drop (Int.toNat (1:Int)) (List.take (List.length x0) x0)) (↑(List.length (List.drop (Int.toNat (1:Int)) (List.take (List.length x0) x0))):Int) 0 x1 x2 x3 x4 x5)))],[.box 54 [.ptr 1 0],.box 73 [.d 3 (.int .i64) (x1),.d 22 (.list 3 (.int .i64)) (x2),.d 3 (.int .i64) (x3),.g 2,.g 3],.row 3 (.int .i64) (x4),.row 3 (.int .i64) (x5),.box 74 [.fn 49 1 [none] [.ptr 1 0]]])) none) none) none) none) none) none)) (by kernel_rfl) ?_
 unfold v50
 cases (decide (0 < (x0.length:Int))) with
 | true=>
  cases (ok (v51 (List.getD x0 (Int.toNat 0) []) x1 x2 x3 x4 x5)) with
  | true=>
   cases (decide (Int.toNat (1:Int)≤List.length x0)) with
   | true=>
    cases (decide (List.length x0≤List.length x0)) with
    | true=>
     cases (ok (LaI FU (val (v51 (List.getD x0 (Int.toNat 0) []) x1 x2 x3 x4 x5)) (List.drop (Int.toNat (1:Int)) (List.take (List.length x0) x0)) (↑(List.length (List.drop (Int.toNat (1:Int)) (List.take (List.length x0) x0))):Int) 0 x1 x2 x3 x4 x5)) with
     | true=>
      rfl
     | false=>
      rfl
    | false=>
     rfl
   | false=>
    rfl
  | false=>
   rfl
 | false=>
  rfl
noncomputable def sv50:OrcS:=fun al H=>dC al fun y1 l2=>dS y1 fun y3=>dD 22 (.list 3 (.int .i64)) y3 fun x0=>dC l2 fun y4 l5=>dS y4 fun y6=>dFn 51 0 [none,none] y6 fun y7=>dC y7 fun y8 l9=>zi 0 0 y8<|dC l9 fun y10 l11=>zi 4 0 y10<|dE l11<|dE l5<|dHB 54 H fun y13 l12=>dC y13 fun y14 l15=>zi 1 0 y14<|dE l15<|dHB 73 l12 fun y17 l16=>dC y17 fun y18 l19=>dD 3 (.int .i64) y18 fun x1=>dC l19 fun y20 l21=>dD 22 (.list 3 (.int .i64)) y20 fun x2=>dC l21 fun y22 l23=>dD 3 (.int .i64) y22 fun x3=>dC l23 fun y24 l25=>dG 2 y24<|dC l25 fun y26 l27=>dG 3 y26<|dE l27<|dHR 3 (.int .i64) l16 fun x4 l28=>dHR 3 (.int .i64) l28 fun x5 l29=>dHB 74 l29 fun y31 l30=>dC y31 fun y32 l33=>dFn 49 1 [none] y32 fun y34=>dC y34 fun y35 l36=>zi 1 0 y35<|dE l36<|dE l33<|dE l30 <|  some [(ok (v50 x0 x1 x2 x3 x4 x5),[.sc (I4 ((val (v50 x0 x1 x2 x3 x4 x5))))],[.box 54 [.ptr 1 0],.box 73 [.d 3 (.int .i64) (x1),.d 22 (.list 3 (.int .i64)) (x2),.d 3 (.int .i64) (x3),.g 2,.g 3],.row 3 (.int .i64) (x4),.row 3 (.int .i64) (x5),.box 74 [.fn 49 1 [none] [.ptr 1 0]]])]
theorem wv50:zm Try.prog dOk base o75 t75 (50,sv50):=by
 intro al H q hq0 rs H2 h2
 have hq:sv50 al H=some q:=hq0
 clear hq0
 unfold sv50 at hq
 repeat with_reducible first|(first|replace hq:=dCq hq|replace hq:=zG hq|replace hq:=zY hq);obtain ⟨_,_,rfl,hq⟩:=hq|(first|replace hq:=dSq hq|replace hq:=dDq hq|replace hq:=yo hq);obtain ⟨_,rfl,hq⟩:=hq|(first|replace hq:=zr hq|replace hq:=dEq hq|replace hq:=dGq hq);obtain ⟨rfl,hq⟩:=hq
 cases hq
 obtain ⟨hc0,rfl,rfl⟩:=zg h2
 exact ⟨41,(zu (by kernel_rfl)).trans ((ev50 _ _ _ _ _ _).trans (zl (zf hc0)))⟩
noncomputable def o76:OrcT:=(50,sv50)::o75
noncomputable def t76:TellT:=t75
noncomputable abbrev tn76:FuncId→TAn:=zh base o76 t76
theorem ok76:TnOk Try.prog tn76 (mkA base) dOk:=by
 have h0:TnOk Try.prog (tn75) (mkA base) dOk:=ok75
 have h1:=zn h0 h0 (p:=(50,sv50)) wv50
 exact h1
noncomputable def Laj:Nat→Int→Int→Int→Int→Int→(List Int)→(List (List Int))→(List Int)→(List Int)→(List Int)→(List (List Int))→(List Int)→(List (List Int))→(List Int)→Option (List Int)
 | 0,_,_,_,_,_,_,_,_,_,_,_,_,_,_=>none
 | n+1,x0,x1,x2,x3,x4,x5,x6,x7,x8,x9,A,B,C,D=>(cond (decide (x2 < x1)) (cond (decide (0≤x2)) (cond (decide (x2 < (x8.length:Int))) (cond (decide (x2.toNat < List.length x8)) (cond (decide (x0≠0)) (cond (decide (List.length B+List.length [IntKind.wrap IntKind.i64 (Int.tdiv (IntKind.wrap IntKind.i64 (IntKind.wrap IntKind.i64 (IntKind.wrap IntKind.i64 (List.getD x8 x2.toNat 0*(1000000000000:Int))+x0) - (1:Int))) x0)]≤nat_lit 2147483648)) (Laj n x0 x1 (IntKind.wrap IntKind.i64 (x2+(1:Int))) x3 x4 x5 x6 x7 x8 x9 A (B++[IntKind.wrap IntKind.i64 (Int.tdiv (IntKind.wrap IntKind.i64 (IntKind.wrap IntKind.i64 (IntKind.wrap IntKind.i64 (List.getD x8 x2.toNat 0*(1000000000000:Int))+x0) - (1:Int))) x0)]) C D) none) none) none) none) none) (some B))
theorem qLaj:type_of% @Laj.eq_2:=@Laj.eq_2
noncomputable def xLaj (x0 x1 x2 x3 x4:Int) (x5:(List Int)) (x6:(List (List Int))) (x7:(List Int)) (x8:(List Int)) (x9:(List Int)) (A:(List (List Int))) (B:(List Int)) (C:(List (List Int))) (D:(List Int)):(List Int)→Ex×CS:=fun r=>((.exit 2),{ sl:=[(1,.v (.sc (.ptr 3 0))),(2,.l 2 0),(4,.l 4 0)],lo:=[(2,[.g 6,.g 7,I4 (x3)]),(4,[.g 4,.g 5,I4 (x4)])],h:=[.box 73 [.d 3 (.int .i64) (x5),.d 22 (.list 3 (.int .i64)) (x6),.d 3 (.int .i64) (x7),.g 1,.g 2],.row 3 (.int .i64) (x8),.row 3 (.int .i64) (x9),.box 54 [.ptr 0 0],.row 22 (.list 3 (.int .i64)) (A),.row 3 (.int .i64) (r:List Int),.row 22 (.list 3 (.int .i64)) (C),.row 3 (.int .i64) (D)],n0:=3,w:=false })
theorem bLaj (k:Nat) (cN:CS→Option (Ex×CS)) (cX:Ex→CS→Option (Ex×CS)) (x0 x1 x2 x3 x4:Int) (x5:(List Int)) (x6:(List (List Int))) (x7:(List Int)) (x8:(List Int)) (x9:(List Int)) (A:(List (List Int))) (B:(List Int)) (C:(List (List Int))) (D:(List Int)):zq Try.prog (tn76 28) (TM.evF Try.prog (tn76) dOk (k+40)) dOk (k+40) (zc Try.prog (tn0 28) 28 16) 2 16 { sl:=[(1,.v (.sc (.ptr 3 0))),(2,.l 2 0),(4,.l 4 0),(8,.v (.sc (I4 x0))),(48,.v (.sc (.g 1))),(49,.v (.sc (I4 x1))),(50,.v (.sc (I4 x2)))],lo:=[(2,[.g 6,.g 7,I4 (x3)]),(4,[.g 4,.g 5,I4 (x4)])],h:=[.box 73 [.d 3 (.int .i64) (x5),.d 22 (.list 3 (.int .i64)) (x6),.d 3 (.int .i64) (x7),.g 1,.g 2],.row 3 (.int .i64) (x8),.row 3 (.int .i64) (x9),.box 54 [.ptr 0 0],.row 22 (.list 3 (.int .i64)) (A),.row 3 (.int .i64) (B),.row 22 (.list 3 (.int .i64)) (C),.row 3 (.int .i64) (D)],n0:=3,w:=false } cN cX=(cond (decide (x2 < x1)) (cond (decide (0≤x2)) (cond (decide (x2 < (x8.length:Int))) (cond (decide (x2.toNat < List.length x8)) (cond (decide (x0≠0)) (cond (decide (List.length B+List.length [IntKind.wrap IntKind.i64 (Int.tdiv (IntKind.wrap IntKind.i64 (IntKind.wrap IntKind.i64 (IntKind.wrap IntKind.i64 (List.getD x8 x2.toNat 0*(1000000000000:Int))+x0) - (1:Int))) x0)]≤nat_lit 2147483648)) (cN { sl:=[(1,.v (.sc (.ptr 3 0))),(2,.l 2 0),(4,.l 4 0),(8,.v (.sc (I4 x0))),(48,.v (.sc (.g 1))),(49,.v (.sc (I4 x1))),(50,.v (.sc (I4 (IntKind.wrap IntKind.i64 (x2+(1:Int))))))],lo:=[(2,[.g 6,.g 7,I4 (x3)]),(4,[.g 4,.g 5,I4 (x4)])],h:=[.box 73 [.d 3 (.int .i64) (x5),.d 22 (.list 3 (.int .i64)) (x6),.d 3 (.int .i64) (x7),.g 1,.g 2],.row 3 (.int .i64) (x8),.row 3 (.int .i64) (x9),.box 54 [.ptr 0 0],.row 22 (.list 3 (.int .i64)) (A),.row 3 (.int .i64) (B++[IntKind.wrap IntKind.i64 (Int.tdiv (IntKind.wrap IntKind.i64 (IntKind.wrap IntKind.i64 (IntKind.wrap IntKind.i64 (List.getD x8 x2.toNat 0*(1000000000000:Int))+x0) - (1:Int))) x0)]:List Int),.row 22 (.list 3 (.int .i64)) (C),.row 3 (.int .i64) (D)],n0:=3,w:=false }) none) none) none) none) none) (cX (.exit 2) { sl:=[(1,.v (.sc (.ptr 3 0))),(2,.l 2 0),(4,.l 4 0)],lo:=[(2,[.g 6,.g 7,I4 (x3)]),(4,[.g 4,.g 5,I4 (x4)])],h:=[.box 73 [.d 3 (.int .i64) (x5),.d 22 (.list 3 (.int .i64)) (x6),.d 3 (.int .i64) (x7),.g 1,.g 2],.row 3 (.int .i64) (x8),.row 3 (.int .i64) (x9),.box 54 [.ptr 0 0],.row 22 (.list 3 (.int .i64)) (A),.row 3 (.int .i64) (B),.row 22 (.list 3 (.int .i64)) (C),.row 3 (.int .i64) (D)],n0:=3,w:=false })):=by kernel_rfl
theorem lLaj (k m:Nat):∀ (n:Nat) (x0 x1 x2 x3 x4:Int) (x5:(List Int)) (x6:(List (List Int))) (x7:(List Int)) (x8:(List Int)) (x9:(List Int)) (A:(List (List Int))) (B:(List Int)) (C:(List (List Int))) (D:(List Int)) (r:(List Int)),Laj n x0 x1 x2 x3 x4 x5 x6 x7 x8 x9 A B C D=some r→zM Try.prog (tn76 28) (TM.evF Try.prog (tn76) dOk (k+40)) dOk (k+40) (zc Try.prog (tn0 28) 28 16) 2 16 (n+m) { sl:=[(1,.v (.sc (.ptr 3 0))),(2,.l 2 0),(4,.l 4 0),(8,.v (.sc (I4 x0))),(48,.v (.sc (.g 1))),(49,.v (.sc (I4 x1))),(50,.v (.sc (I4 x2)))],lo:=[(2,[.g 6,.g 7,I4 (x3)]),(4,[.g 4,.g 5,I4 (x4)])],h:=[.box 73 [.d 3 (.int .i64) (x5),.d 22 (.list 3 (.int .i64)) (x6),.d 3 (.int .i64) (x7),.g 1,.g 2],.row 3 (.int .i64) (x8),.row 3 (.int .i64) (x9),.box 54 [.ptr 0 0],.row 22 (.list 3 (.int .i64)) (A),.row 3 (.int .i64) (B),.row 22 (.list 3 (.int .i64)) (C),.row 3 (.int .i64) (D)],n0:=3,w:=false }=some (xLaj x0 x1 x2 x3 x4 x5 x6 x7 x8 x9 A B C D r):=by
 intro n
 induction n with
 | zero=>intro _ _ _ _ _ _ _ _ _ _ _ _ _ _ r h;cases h
 | succ n ih=>
  intro x0 x1 x2 x3 x4 x5 x6 x7 x8 x9 A B C D r
  rw [show n+1+m=n+m+1 by omega,zp,bLaj,qLaj]
  refine zb ?_ ?_
  refine zb ?_ ?_
  refine zb ?_ ?_
  refine zb ?_ ?_
  refine zb ?_ ?_
  refine zb ?_ ?_
  exact ih _ _ _ _ _ _ _ _ _ _ _ _ _ _ r
  intro h;cases h
  intro h;cases h
  intro h;cases h
  intro h;cases h
  intro h;cases h
  intro h;cases h;rfl
noncomputable def sLaj:TellS:=fun S=>dCS 3 S fun y1 y2 y3=>dSs 1 y1 fun y5 l4=>zi 3 0 y5<|dSt 2 l4 fun y7 l6=>dL 2 0 y7<|dSt 4 l6 fun y9 l8=>dL 4 0 y9<|dSI 8 .i64 l8 fun x0 l10=>dSs 48 l10 fun y12 l11=>dG 1 y12<|dSI 49 .i64 l11 fun x1 l13=>dSI 50 .i64 l13 fun x2 l14=>dE l14<|dLo 2 y2 fun y15 l16=>dC y15 fun y17 l18=>dG 6 y17<|dC l18 fun y19 l20=>dG 7 y19<|dK l20 fun x3 l21=>dE l21<|dLo 4 l16 fun y22 l23=>dC y22 fun y24 l25=>dG 4 y24<|dC l25 fun y26 l27=>dG 5 y26<|dK l27 fun x4 l28=>dE l28<|dE l23<|dHB 73 y3 fun y30 l29=>dC y30 fun y31 l32=>dD 3 (.int .i64) y31 fun x5=>dC l32 fun y33 l34=>dD 22 (.list 3 (.int .i64)) y33 fun x6=>dC l34 fun y35 l36=>dD 3 (.int .i64) y35 fun x7=>dC l36 fun y37 l38=>dG 1 y37<|dC l38 fun y39 l40=>dG 2 y39<|dE l40<|dHR 3 (.int .i64) l29 fun x8 l41=>dHR 3 (.int .i64) l41 fun x9 l42=>dHB 54 l42 fun y44 l43=>dC y44 fun y45 l46=>zi 0 0 y45<|dE l46<|dHR 22 (.list 3 (.int .i64)) l43 fun A l47=>dHR 3 (.int .i64) l47 fun B l48=>dHR 22 (.list 3 (.int .i64)) l48 fun C l49=>dHR 3 (.int .i64) l49 fun D l50=>dE l50 <|  some [(ok (Laj FU x0 x1 x2 x3 x4 x5 x6 x7 x8 x9 A B C D),(.exit 2),{ sl:=[(1,.v (.sc (.ptr 3 0))),(2,.l 2 0),(4,.l 4 0)],lo:=[(2,[.g 6,.g 7,I4 (x3)]),(4,[.g 4,.g 5,I4 (x4)])],h:=[.box 73 [.d 3 (.int .i64) (x5),.d 22 (.list 3 (.int .i64)) (x6),.d 3 (.int .i64) (x7),.g 1,.g 2],.row 3 (.int .i64) (x8),.row 3 (.int .i64) (x9),.box 54 [.ptr 0 0],.row 22 (.list 3 (.int .i64)) (A),.row 3 (.int .i64) ((val (Laj FU x0 x1 x2 x3 x4 x5 x6 x7 x8 x9 A B C D)):List Int),.row 22 (.list 3 (.int .i64)) (C),.row 3 (.int .i64) (D)],n0:=3,w:=false })]
theorem wLaj:zB Try.prog dOk base o76 t76 ((28,16),sLaj):=by
 refine ⟨.loop (zc Try.prog (tn0 28) 28 16),2,by kernel_rfl,?_⟩
 intro S alts e S' h10 h2
 have h1:sLaj S=some alts:=h10
 clear h10
 unfold sLaj at h1
 repeat with_reducible first|replace h1:=yc h1;obtain ⟨_,_,_,rfl,h1⟩:=h1|(first|replace h1:=zX h1|replace h1:=wB h1|replace h1:=ye h1|replace h1:=wL h1|replace h1:=dCq h1|replace h1:=zJ h1|replace h1:=zG h1|replace h1:=zY h1);obtain ⟨_,_,rfl,h1⟩:=h1|(first|replace h1:=zr h1|replace h1:=dLq h1|replace h1:=dGq h1|replace h1:=dEq h1);obtain ⟨rfl,h1⟩:=h1|replace h1:=dDq h1;obtain ⟨_,rfl,h1⟩:=h1
 cases h1
 obtain ⟨hc0,rfl,rfl⟩:=zt h2
 exact ⟨FU+40,(ze rfl).trans (lLaj FU 40 FU _ _ _ _ _ _ _ _ _ _ _ _ _ _ _ (zf hc0))⟩
noncomputable def o77:OrcT:=o76
noncomputable def t77:TellT:=((28,16),sLaj)::t76
noncomputable abbrev tn77:FuncId→TAn:=zh base o77 t77
theorem ok77:TnOk Try.prog tn77 (mkA base) dOk:=by
 have h0:TnOk Try.prog (tn76) (mkA base) dOk:=ok76
 have h1:=zD h0 h0 (p:=((28,16),sLaj)) wLaj
 exact h1
noncomputable def v28 (x0:(List Int)) (x1:(List (List Int))) (x2:(List Int)) (x3:(List Int)) (x4:(List Int)):Option ((List (List Int))×(List Int)×Int×Bool):=(cond (ok (Lac FU x1 (x1.length:Int) 0 0 0 x0 x1 x2 x3 x4 [] [] [] [])) (cond (ok (v50 x1 x0 x1 x2 x3 x4)) (cond (val (v50 x1 x0 x1 x2 x3 x4)==0) (some ([],[],0,false)) (cond (ok (Laj FU (val (v50 x1 x0 x1 x2 x3 x4)) (x3.length:Int) 0 0 0 x0 x1 x2 x3 x4 (val (Lac FU x1 (x1.length:Int) 0 0 0 x0 x1 x2 x3 x4 [] [] [] [])) [] [] [])) (cond (ok (v26 x0 x1 x2)) (cond (ok (v21 x0 (val (v26 x0 x1 x2)) (val (Lac FU x1 (x1.length:Int) 0 0 0 x0 x1 x2 x3 x4 [] [] [] [])) (val (Laj FU (val (v50 x1 x0 x1 x2 x3 x4)) (x3.length:Int) 0 0 0 x0 x1 x2 x3 x4 (val (Lac FU x1 (x1.length:Int) 0 0 0 x0 x1 x2 x3 x4 [] [] [] [])) [] [] [])))) (some (val (Lac FU x1 (x1.length:Int) 0 0 0 x0 x1 x2 x3 x4 [] [] [] []),val (Laj FU (val (v50 x1 x0 x1 x2 x3 x4)) (x3.length:Int) 0 0 0 x0 x1 x2 x3 x4 (val (Lac FU x1 (x1.length:Int) 0 0 0 x0 x1 x2 x3 x4 [] [] [] [])) [] [] []),(val (v21 x0 (val (v26 x0 x1 x2)) (val (Lac FU x1 (x1.length:Int) 0 0 0 x0 x1 x2 x3 x4 [] [] [] [])) (val (Laj FU (val (v50 x1 x0 x1 x2 x3 x4)) (x3.length:Int) 0 0 0 x0 x1 x2 x3 x4 (val (Lac FU x1 (x1.length:Int) 0 0 0 x0 x1 x2 x3 x4 [] [] [] [])) [] [] [])))).1,(val (v21 x0 (val (v26 x0 x1 x2)) (val (Lac FU x1 (x1.length:Int) 0 0 0 x0 x1 x2 x3 x4 [] [] [] [])) (val (Laj FU (val (v50 x1 x0 x1 x2 x3 x4)) (x3.length:Int) 0 0 0 x0 x1 x2 x3 x4 (val (Lac FU x1 (x1.length:Int) 0 0 0 x0 x1 x2 x3 x4 [] [] [] [])) [] [] [])))).2==0)) none) none) none)) none) none)
theorem ev28 (x0:(List Int)) (x1:(List (List Int))) (x2:(List Int)) (x3:(List Int)) (x4:(List Int)):zo Try.prog (tn77 28) (TM.evF Try.prog (tn77) dOk 40) dOk 40 28 [.sc (.ptr 0 0)] [.box 73 [.d 3 (.int .i64) (x0),.d 22 (.list 3 (.int .i64)) (x1),.d 3 (.int .i64) (x2),.g 1,.g 2],.row 3 (.int .i64) (x3),.row 3 (.int .i64) (x4)]=(v28 x0 x1 x2 x3 x4).bind fun r=>some ([.agg [.d 22 (.list 3 (.int .i64)) (r.1:List (List Int)),.d 3 (.int .i64) (r.2.1:List Int),I4 (r.2.2.1)],.sc (.bool (r.2.2.2))],[.box 73 [.d 3 (.int .i64) (x0),.d 22 (.list 3 (.int .i64)) (x1),.d 3 (.int .i64) (x2),.g 1,.g 2],.row 3 (.int .i64) (x3),.row 3 (.int .i64) (x4)]):=by
 refine Eq.trans (b:=(cond (ok (Lac FU x1 (x1.length:Int) 0 0 0 x0 x1 x2 x3 x4 [] [] [] [])) (cond (ok (v50 x1 x0 x1 x2 x3 x4)) (cond (val (v50 x1 x0 x1 x2 x3 x4)==0) (some ([.agg [.d 22 (.list 3 (.int .i64)) ([]:List (List Int)),.d 3 (.int .i64) ([]:List Int),I4 (0)],.sc (.bool (false))],[.box 73 [.d 3 (.int .i64) (x0),.d 22 (.list 3 (.int .i64)) (x1),.d 3 (.int .i64) (x2),.g 1,.g 2],.row 3 (.int .i64) (x3),.row 3 (.int .i64) (x4)])) (cond (ok (Laj FU (val (v50 x1 x0 x1 x2 x3 x4)) (x3.length:Int) 0 0 0 x0 x1 x2 x3 x4 (val (Lac FU x1 (x1.length:Int) 0 0 0 x0 x1 x2 x3 x4 [] [] [] [])) [] [] [])) (cond (ok (v26 x0 x1 x2)) (cond (ok (v21 x0 (val (v26 x0 x1 x2)) (val (Lac FU x1 (x1.length:Int) 0 0 0 x0 x1 x2 x3 x4 [] [] [] [])) (val (Laj FU (val (v50 x1 x0 x1 x2 x3 x4)) (x3.length:Int) 0 0 0 x0 x1 x2 x3 x4 (val (Lac FU x1 (x1.length:Int) 0 0 0 x0 x1 x2 x3 x4 [] [] [] [])) [] [] [])))) (some ([.agg [.d 22 (.list 3 (.int .i64)) (val (Lac FU x1 (x1.length:Int) 0 0 0 x0 x1 x2 x3 x4 [] [] [] []):List (List Int)),.d 3 (.int .i64) (val (Laj FU (val (v50 x1 x0 x1 x2 x3 x4)) (x3.length:Int) 0 0 0 x0 x1 x2 x3 x4 (val (Lac FU x1 (x1.length:Int) 0 0 0 x0 x1 x2 x3 x4 [] [] [] [])) [] [] []):List Int),I4 (val (v21 x0 (val (v26 x0 x1 x2)) (val (Lac FU x1 (x1.length:Int) 0 0 0 x0 x1 x2 x3 x4 [] [] [] [])) (val (Laj FU (val (v50 x1 x0 x1 x2 x3 x4)) (x3.length:Int) 0 0 0 x0 x1 x2 x3 x4 (val (Lac FU x1 (x1.length:Int) 0 0 0 x0 x1 x2 x3 x4 [] [] [] [])) [] [] [])))).1],.sc (.bool ((val (v21 x0 (val (v26 x0 x1 x2)) (val (Lac FU x1 (x1.length:Int) 0 0 0 x0 x1 x2 x3 x4 [] [] [] [])) (val (Laj FU (val (v50 x1 x0 x1 x2 x3 x4)) (x3.length:Int) 0 0 0 x0 x1 x2 x3 x4 (val (Lac FU x1 (x1.length:Int) 0 0 0 x0 x1 x2 x3 x4 [] [] [] [])) [] [] [])))).2==0))],[.box 73 [.d 3 (.int .i64) (x0),.d 22 (.list 3 (.int .i64)) (x1),.d 3 (.int .i64) (x2),.g 1,.g 2],.row 3 (.int .i64) (x3),.row 3 (.int .i64) (x4)])) none) none) none)) none) none)) (by kernel_rfl) ?_
 unfold v28
 refine za ?_ ?_
 refine za ?_ ?_
 refine za ?_ ?_
 rfl
 refine za ?_ ?_
 refine za ?_ ?_
 refine za ?_ ?_
 rfl
 rfl
 rfl
 rfl
 rfl
 rfl
noncomputable def sv28:OrcS:=fun al H=>dC al fun y1 l2=>dS y1 fun y3=>zi 0 0 y3<|dE l2<|dHB 73 H fun y5 l4=>dC y5 fun y6 l7=>dD 3 (.int .i64) y6 fun x0=>dC l7 fun y8 l9=>dD 22 (.list 3 (.int .i64)) y8 fun x1=>dC l9 fun y10 l11=>dD 3 (.int .i64) y10 fun x2=>dC l11 fun y12 l13=>dG 1 y12<|dC l13 fun y14 l15=>dG 2 y14<|dE l15<|dHR 3 (.int .i64) l4 fun x3 l16=>dHR 3 (.int .i64) l16 fun x4 l17=>dE l17 <|  some [(ok (v28 x0 x1 x2 x3 x4),[.agg [.d 22 (.list 3 (.int .i64)) ((val (v28 x0 x1 x2 x3 x4)).1:List (List Int)),.d 3 (.int .i64) ((val (v28 x0 x1 x2 x3 x4)).2.1:List Int),I4 ((val (v28 x0 x1 x2 x3 x4)).2.2.1)],.sc (.bool ((val (v28 x0 x1 x2 x3 x4)).2.2.2))],[.box 73 [.d 3 (.int .i64) (x0),.d 22 (.list 3 (.int .i64)) (x1),.d 3 (.int .i64) (x2),.g 1,.g 2],.row 3 (.int .i64) (x3),.row 3 (.int .i64) (x4)])]
theorem wv28:zm Try.prog dOk base o77 t77 (28,sv28):=by
 intro al H q hq0 rs H2 h2
 have hq:sv28 al H=some q:=hq0
 clear hq0
 unfold sv28 at hq
 repeat with_reducible first|(first|replace hq:=dCq hq|replace hq:=zG hq|replace hq:=zY hq);obtain ⟨_,_,rfl,hq⟩:=hq|(first|replace hq:=dSq hq|replace hq:=dDq hq);obtain ⟨_,rfl,hq⟩:=hq|(first|replace hq:=zr hq|replace hq:=dEq hq|replace hq:=dGq hq);obtain ⟨rfl,hq⟩:=hq
 cases hq
 obtain ⟨hc0,rfl,rfl⟩:=zg h2
 exact ⟨41,(zu (by kernel_rfl)).trans ((ev28 _ _ _ _ _).trans (zl (zf hc0)))⟩
noncomputable def o78:OrcT:=(28,sv28)::o77
noncomputable def t78:TellT:=t77
noncomputable abbrev tn78:FuncId→TAn:=zh base o78 t78
theorem ok78:TnOk Try.prog tn78 (mkA base) dOk:=by
 have h0:TnOk Try.prog (tn77) (mkA base) dOk:=ok77
 have h1:=zn h0 h0 (p:=(28,sv28)) wv28
 exact h1
noncomputable def Laa:Nat→Int→Int→Int→(List Int)→(List (List Int))→(List Int)→(List Int)→(List Int)→Option Int
 | 0,_,_,_,_,_,_,_,_=>none
 | n+1,x0,x1,x2,x3,x4,x5,x6,x7=>(cond (decide (x2 < x1)) (cond (decide (0≤x2)) (cond (decide (x2 < (x6.length:Int))) (cond (decide (x2.toNat < List.length x6)) (cond (decide (List.getD x6 x2.toNat 0 > 0)) (cond (decide (x0 < 0)) (Laa n x2 x1 (IntKind.wrap IntKind.i64 (x2+(1:Int))) x3 x4 x5 x6 x7) (cond (decide (x2 < (x7.length:Int))) (cond (decide (x2.toNat < List.length x7)) (cond (decide (0≤x0)) (cond (decide (x0 < (x3.length:Int))) (cond (decide (x0 < (x7.length:Int))) (cond (decide (x0.toNat < List.length x7)) (cond (decide (x2 < (x3.length:Int))) (cond (decide (IntKind.wrap IntKind.i64 (List.getD x7 x2.toNat 0*List.getD x3 x0.toNat 0) > IntKind.wrap IntKind.i64 (List.getD x7 x0.toNat 0*List.getD x3 x2.toNat 0))) (Laa n x2 x1 (IntKind.wrap IntKind.i64 (x2+(1:Int))) x3 x4 x5 x6 x7) (Laa n x0 x1 (IntKind.wrap IntKind.i64 (x2+(1:Int))) x3 x4 x5 x6 x7)) none) none) none) none) none) none) none)) (Laa n x0 x1 (IntKind.wrap IntKind.i64 (x2+(1:Int))) x3 x4 x5 x6 x7)) none) none) none) (some x0))
theorem qLaa:type_of% @Laa.eq_2:=@Laa.eq_2
noncomputable def xLaa (x0 x1 x2:Int) (x3:(List Int)) (x4:(List (List Int))) (x5:(List Int)) (x6:(List Int)) (x7:(List Int)):Int→Ex×CS:=fun r=>((.exit 0),{ sl:=[(0,.v (.sc (.ptr 0 0))),(2,.v (.sc (I4 (r))))],lo:=[],h:=[.box 73 [.d 3 (.int .i64) (x3),.d 22 (.list 3 (.int .i64)) (x4),.d 3 (.int .i64) (x5),.g 1,.g 2],.row 3 (.int .i64) (x6),.row 3 (.int .i64) (x7)],n0:=3,w:=false })
theorem bLaa (k:Nat) (cN:CS→Option (Ex×CS)) (cX:Ex→CS→Option (Ex×CS)) (x0 x1 x2:Int) (x3:(List Int)) (x4:(List (List Int))) (x5:(List Int)) (x6:(List Int)) (x7:(List Int)):zq Try.prog (tn78 29) (TM.evF Try.prog (tn78) dOk (k+40)) dOk (k+40) (zc Try.prog (tn0 29) 29 0) 0 0 { sl:=[(0,.v (.sc (.ptr 0 0))),(2,.v (.sc (I4 x0))),(15,.v (.sc (.g 1))),(16,.v (.sc (I4 x1))),(17,.v (.sc (I4 x2)))],lo:=[],h:=[.box 73 [.d 3 (.int .i64) (x3),.d 22 (.list 3 (.int .i64)) (x4),.d 3 (.int .i64) (x5),.g 1,.g 2],.row 3 (.int .i64) (x6),.row 3 (.int .i64) (x7)],n0:=3,w:=false } cN cX=(cond (decide (x2 < x1)) (cond (decide (0≤x2)) (cond (decide (x2 < (x6.length:Int))) (cond (decide (x2.toNat < List.length x6)) (cond (decide (List.getD x6 x2.toNat 0 > 0)) (cond (decide (x0 < 0)) (cN { sl:=[(0,.v (.sc (.ptr 0 0))),(2,.v (.sc (I4 x2))),(15,.v (.sc (.g 1))),(16,.v (.sc (I4 x1))),(17,.v (.sc (I4 (IntKind.wrap IntKind.i64 (x2+(1:Int))))))],lo:=[],h:=[.box 73 [.d 3 (.int .i64) (x3),.d 22 (.list 3 (.int .i64)) (x4),.d 3 (.int .i64) (x5),.g 1,.g 2],.row 3 (.int .i64) (x6),.row 3 (.int .i64) (x7)],n0:=3,w:=false }) (cond (decide (0≤x2)) (cond (decide (x2 < (x7.length:Int))) (cond (decide (x2.toNat < List.length x7)) (cond (decide (0≤x0)) (cond (decide (x0 < (x3.length:Int))) (cond (decide (0≤x0)) (cond (decide (x0 < (x7.length:Int))) (cond (decide (x0.toNat < List.length x7)) (cond (decide (0≤x2)) (cond (decide (x2 < (x3.length:Int))) (cond (decide (IntKind.wrap IntKind.i64 (List.getD x7 x2.toNat 0*List.getD x3 x0.toNat 0) > IntKind.wrap IntKind.i64 (List.getD x7 x0.toNat 0*List.getD x3 x2.toNat 0))) (cN { sl:=[(0,.v (.sc (.ptr 0 0))),(2,.v (.sc (I4 x2))),(15,.v (.sc (.g 1))),(16,.v (.sc (I4 x1))),(17,.v (.sc (I4 (IntKind.wrap IntKind.i64 (x2+(1:Int))))))],lo:=[],h:=[.box 73 [.d 3 (.int .i64) (x3),.d 22 (.list 3 (.int .i64)) (x4),.d 3 (.int .i64) (x5),.g 1,.g 2],.row 3 (.int .i64) (x6),.row 3 (.int .i64) (x7)],n0:=3,w:=false }) (cN { sl:=[(0,.v (.sc (.ptr 0 0))),(2,.v (.sc (I4 x0))),(15,.v (.sc (.g 1))),(16,.v (.sc (I4 x1))),(17,.v (.sc (I4 (IntKind.wrap IntKind.i64 (x2+(1:Int))))))],lo:=[],h:=[.box 73 [.d 3 (.int .i64) (x3),.d 22 (.list 3 (.int .i64)) (x4),.d 3 (.int .i64) (x5),.g 1,.g 2],.row 3 (.int .i64) (x6),.row 3 (.int .i64) (x7)],n0:=3,w:=false })) none) none) none) none) none) none) none) none) none) none)) (cN { sl:=[(0,.v (.sc (.ptr 0 0))),(2,.v (.sc (I4 x0))),(15,.v (.sc (.g 1))),(16,.v (.sc (I4 x1))),(17,.v (.sc (I4 (IntKind.wrap IntKind.i64 (x2+(1:Int))))))],lo:=[],h:=[.box 73 [.d 3 (.int .i64) (x3),.d 22 (.list 3 (.int .i64)) (x4),.d 3 (.int .i64) (x5),.g 1,.g 2],.row 3 (.int .i64) (x6),.row 3 (.int .i64) (x7)],n0:=3,w:=false })) none) none) none) (cX (.exit 0) { sl:=[(0,.v (.sc (.ptr 0 0))),(2,.v (.sc (I4 x0)))],lo:=[],h:=[.box 73 [.d 3 (.int .i64) (x3),.d 22 (.list 3 (.int .i64)) (x4),.d 3 (.int .i64) (x5),.g 1,.g 2],.row 3 (.int .i64) (x6),.row 3 (.int .i64) (x7)],n0:=3,w:=false })):=by kernel_rfl
theorem lLaa (k m:Nat):∀ (n:Nat) (x0 x1 x2:Int) (x3:(List Int)) (x4:(List (List Int))) (x5:(List Int)) (x6:(List Int)) (x7:(List Int)) (r:Int),Laa n x0 x1 x2 x3 x4 x5 x6 x7=some r→zM Try.prog (tn78 29) (TM.evF Try.prog (tn78) dOk (k+40)) dOk (k+40) (zc Try.prog (tn0 29) 29 0) 0 0 (n+m) { sl:=[(0,.v (.sc (.ptr 0 0))),(2,.v (.sc (I4 x0))),(15,.v (.sc (.g 1))),(16,.v (.sc (I4 x1))),(17,.v (.sc (I4 x2)))],lo:=[],h:=[.box 73 [.d 3 (.int .i64) (x3),.d 22 (.list 3 (.int .i64)) (x4),.d 3 (.int .i64) (x5),.g 1,.g 2],.row 3 (.int .i64) (x6),.row 3 (.int .i64) (x7)],n0:=3,w:=false }=some (xLaa x0 x1 x2 x3 x4 x5 x6 x7 r):=by
 intro n
 induction n with
 | zero=>intro _ _ _ _ _ _ _ _ r h;cases h
 | succ n ih=>
  intro x0 x1 x2 x3 x4 x5 x6 x7 r
  rw [show n+1+m=n+m+1 by omega,zp,bLaa,qLaa]
  cases (decide (x2 < x1)) with
  | true=>
   cases (decide (0≤x2)) with
   | true=>
    cases (decide (x2 < (x6.length:Int))) with
    | true=>
     cases (decide (x2.toNat < List.length x6)) with
     | true=>
      cases (decide (List.getD x6 x2.toNat 0 > 0)) with
      | true=>
       cases (decide (x0 < 0)) with
       | true=>
        exact ih _ _ _ _ _ _ _ _ r
       | false=>
        cases (decide (x2 < (x7.length:Int))) with
        | true=>
         cases (decide (x2.toNat < List.length x7)) with
         | true=>
          cases (decide (0≤x0)) with
          | true=>
           cases (decide (x0 < (x3.length:Int))) with
           | true=>
            cases (decide (x0 < (x7.length:Int))) with
            | true=>
             cases (decide (x0.toNat < List.length x7)) with
             | true=>
              cases (decide (x2 < (x3.length:Int))) with
              | true=>
               cases (decide (IntKind.wrap IntKind.i64 (List.getD x7 x2.toNat 0*List.getD x3 x0.toNat 0) > IntKind.wrap IntKind.i64 (List.getD x7 x0.toNat 0*List.getD x3 x2.toNat 0))) with
               | true=>
                exact ih _ _ _ _ _ _ _ _ r
               | false=>
                exact ih _ _ _ _ _ _ _ _ r
              | false=>
               intro h;cases h
             | false=>
              intro h;cases h
            | false=>
             intro h;cases h
           | false=>
            intro h;cases h
          | false=>
           intro h;cases h
         | false=>
          intro h;cases h
        | false=>
         intro h;cases h
      | false=>
       exact ih _ _ _ _ _ _ _ _ r
     | false=>
      intro h;cases h
    | false=>
     intro h;cases h
   | false=>
    intro h;cases h
  | false=>
   intro h;cases h;rfl
noncomputable def sLaa:TellS:=fun S=>dCS 3 S fun y1 y2 y3=>dSs 0 y1 fun y5 l4=>zi 0 0 y5<|dSI 2 .i64 l4 fun x0 l6=>dSs 15 l6 fun y8 l7=>dG 1 y8<|dSI 16 .i64 l7 fun x1 l9=>dSI 17 .i64 l9 fun x2 l10=>dE l10<|dE y2<|dHB 73 y3 fun y12 l11=>dC y12 fun y13 l14=>dD 3 (.int .i64) y13 fun x3=>dC l14 fun y15 l16=>dD 22 (.list 3 (.int .i64)) y15 fun x4=>dC l16 fun y17 l18=>dD 3 (.int .i64) y17 fun x5=>dC l18 fun y19 l20=>dG 1 y19<|dC l20 fun y21 l22=>dG 2 y21<|dE l22<|dHR 3 (.int .i64) l11 fun x6 l23=>dHR 3 (.int .i64) l23 fun x7 l24=>dE l24 <|  some [(ok (Laa FU x0 x1 x2 x3 x4 x5 x6 x7),(.exit 0),{ sl:=[(0,.v (.sc (.ptr 0 0))),(2,.v (.sc (I4 ((val (Laa FU x0 x1 x2 x3 x4 x5 x6 x7))))))],lo:=[],h:=[.box 73 [.d 3 (.int .i64) (x3),.d 22 (.list 3 (.int .i64)) (x4),.d 3 (.int .i64) (x5),.g 1,.g 2],.row 3 (.int .i64) (x6),.row 3 (.int .i64) (x7)],n0:=3,w:=false })]
theorem wLaa:zB Try.prog dOk base o78 t78 ((29,0),sLaa):=by
 refine ⟨.loop (zc Try.prog (tn0 29) 29 0),0,by kernel_rfl,?_⟩
 intro S alts e S' h10 h2
 have h1:sLaa S=some alts:=h10
 clear h10
 unfold sLaa at h1
 repeat with_reducible first|replace h1:=yc h1;obtain ⟨_,_,_,rfl,h1⟩:=h1|(first|replace h1:=zX h1|replace h1:=ye h1|replace h1:=zG h1|replace h1:=dCq h1|replace h1:=zY h1);obtain ⟨_,_,rfl,h1⟩:=h1|(first|replace h1:=zr h1|replace h1:=dGq h1|replace h1:=dEq h1);obtain ⟨rfl,h1⟩:=h1|replace h1:=dDq h1;obtain ⟨_,rfl,h1⟩:=h1
 cases h1
 obtain ⟨hc0,rfl,rfl⟩:=zt h2
 exact ⟨FU+40,(ze rfl).trans (lLaa FU 40 FU _ _ _ _ _ _ _ _ _ (zf hc0))⟩
noncomputable def o79:OrcT:=o78
noncomputable def t79:TellT:=((29,0),sLaa)::t78
noncomputable abbrev tn79:FuncId→TAn:=zh base o79 t79
theorem ok79:TnOk Try.prog tn79 (mkA base) dOk:=by
 have h0:TnOk Try.prog (tn78) (mkA base) dOk:=ok78
 have h1:=zD h0 h0 (p:=((29,0),sLaa)) wLaa
 exact h1
noncomputable def Lab:Nat→Int→Int→Int→Int→(List Int)→(List (List Int))→(List Int)→(List Int)→(List Int)→(List Int)→Option (List Int)
 | 0,_,_,_,_,_,_,_,_,_,_=>none
 | n+1,x0,x1,x2,x3,x4,x5,x6,x7,x8,x9=>(cond (decide (x3 < x2)) (cond (decide (0≤x3)) (cond (decide (x3 < (x7.length:Int))) (cond (decide (x3.toNat < List.length x7)) (cond (List.getD x7 x3.toNat 0==0) (Lab n x0 x1 x2 (IntKind.wrap IntKind.i64 (x3+(1:Int))) x4 x5 x6 x7 x8 x9) (cond (decide (x3 < (x4.length:Int))) (cond (decide (x3 < (x8.length:Int))) (cond (decide (x3.toNat < List.length x8)) (cond (decide (IntKind.wrap IntKind.i64 (IntKind.wrap IntKind.i64 ((2:Int)*List.getD x4 x3.toNat 0)*x1)≠0)) (cond (decide (x3 < (x9.length:Int))) (cond (decide (x3.toNat < List.length x9)) (Lab n x0 x1 x2 (IntKind.wrap IntKind.i64 (x3+(1:Int))) x4 x5 x6 x7 x8 (List.set x9 x3.toNat (max (1:Int) (IntKind.wrap IntKind.i64 (Int.tdiv (IntKind.wrap IntKind.i64 (List.getD x7 x3.toNat 0*IntKind.wrap IntKind.i64 (IntKind.wrap IntKind.i64 (List.getD x8 x3.toNat 0*x0)+IntKind.wrap IntKind.i64 (List.getD x4 x3.toNat 0*x1)))) (IntKind.wrap IntKind.i64 (IntKind.wrap IntKind.i64 ((2:Int)*List.getD x4 x3.toNat 0)*x1))))))) none) none) none) none) none) none)) none) none) none) (some x9))
theorem qLab:type_of% @Lab.eq_2:=@Lab.eq_2
noncomputable def xLab (x0 x1 x2 x3:Int) (x4:(List Int)) (x5:(List (List Int))) (x6:(List Int)) (x7:(List Int)) (x8:(List Int)) (x9:(List Int)):(List Int)→Ex×CS:=fun r=>((.exit 2),{ sl:=[(0,.v (.sc (.ptr 0 0))),(7,.v (.sc (.g 3)))],lo:=[],h:=[.box 73 [.d 3 (.int .i64) (x4),.d 22 (.list 3 (.int .i64)) (x5),.d 3 (.int .i64) (x6),.g 1,.g 2],.row 3 (.int .i64) (x7),.row 3 (.int .i64) (x8),.row 3 (.int .i64) (r:List Int)],n0:=3,w:=false })
theorem bLab (k:Nat) (cN:CS→Option (Ex×CS)) (cX:Ex→CS→Option (Ex×CS)) (x0 x1 x2 x3:Int) (x4:(List Int)) (x5:(List (List Int))) (x6:(List Int)) (x7:(List Int)) (x8:(List Int)) (x9:(List Int)):zq Try.prog (tn79 29) (TM.evF Try.prog (tn79) dOk (k+40)) dOk (k+40) (zc Try.prog (tn0 29) 29 16) 2 16 { sl:=[(0,.v (.sc (.ptr 0 0))),(5,.v (.sc (I4 x0))),(6,.v (.sc (I4 x1))),(7,.v (.sc (.g 3))),(89,.v (.sc (.g 1))),(90,.v (.sc (I4 x2))),(91,.v (.sc (I4 x3)))],lo:=[],h:=[.box 73 [.d 3 (.int .i64) (x4),.d 22 (.list 3 (.int .i64)) (x5),.d 3 (.int .i64) (x6),.g 1,.g 2],.row 3 (.int .i64) (x7),.row 3 (.int .i64) (x8),.row 3 (.int .i64) (x9)],n0:=3,w:=false } cN cX=(cond (decide (x3 < x2)) (cond (decide (0≤x3)) (cond (decide (x3 < (x7.length:Int))) (cond (decide (x3.toNat < List.length x7)) (cond (List.getD x7 x3.toNat 0==0) (cN { sl:=[(0,.v (.sc (.ptr 0 0))),(5,.v (.sc (I4 x0))),(6,.v (.sc (I4 x1))),(7,.v (.sc (.g 3))),(89,.v (.sc (.g 1))),(90,.v (.sc (I4 x2))),(91,.v (.sc (I4 (IntKind.wrap IntKind.i64 (x3+(1:Int))))))],lo:=[],h:=[.box 73 [.d 3 (.int .i64) (x4),.d 22 (.list 3 (.int .i64)) (x5),.d 3 (.int .i64) (x6),.g 1,.g 2],.row 3 (.int .i64) (x7),.row 3 (.int .i64) (x8),.row 3 (.int .i64) (x9)],n0:=3,w:=false }) (cond (decide (0≤x3)) (cond (decide (x3 < (x4.length:Int))) (cond (decide (0≤x3)) (cond (decide (x3 < (x8.length:Int))) (cond (decide (x3.toNat < List.length x8)) (cond (decide (IntKind.wrap IntKind.i64 (IntKind.wrap IntKind.i64 ((2:Int)*List.getD x4 x3.toNat 0)*x1)≠0)) (cond (decide (0≤x3)) (cond (decide (x3 < (x9.length:Int))) (cond (decide (x3.toNat < List.length x9)) (cN { sl:=[(0,.v (.sc (.ptr 0 0))),(5,.v (.sc (I4 x0))),(6,.v (.sc (I4 x1))),(7,.v (.sc (.g 3))),(89,.v (.sc (.g 1))),(90,.v (.sc (I4 x2))),(91,.v (.sc (I4 (IntKind.wrap IntKind.i64 (x3+(1:Int))))))],lo:=[],h:=[.box 73 [.d 3 (.int .i64) (x4),.d 22 (.list 3 (.int .i64)) (x5),.d 3 (.int .i64) (x6),.g 1,.g 2],.row 3 (.int .i64) (x7),.row 3 (.int .i64) (x8),.row 3 (.int .i64) (List.set x9 x3.toNat (max (1:Int) (IntKind.wrap IntKind.i64 (Int.tdiv (IntKind.wrap IntKind.i64 (List.getD x7 x3.toNat 0*IntKind.wrap IntKind.i64 (IntKind.wrap IntKind.i64 (List.getD x8 x3.toNat 0*x0)+IntKind.wrap IntKind.i64 (List.getD x4 x3.toNat 0*x1)))) (IntKind.wrap IntKind.i64 (IntKind.wrap IntKind.i64 ((2:Int)*List.getD x4 x3.toNat 0)*x1))))):List Int)],n0:=3,w:=false }) none) none) none) none) none) none) none) none) none)) none) none) none) (cX (.exit 2) { sl:=[(0,.v (.sc (.ptr 0 0))),(7,.v (.sc (.g 3)))],lo:=[],h:=[.box 73 [.d 3 (.int .i64) (x4),.d 22 (.list 3 (.int .i64)) (x5),.d 3 (.int .i64) (x6),.g 1,.g 2],.row 3 (.int .i64) (x7),.row 3 (.int .i64) (x8),.row 3 (.int .i64) (x9)],n0:=3,w:=false })):=by kernel_rfl
theorem lLab (k m:Nat):∀ (n:Nat) (x0 x1 x2 x3:Int) (x4:(List Int)) (x5:(List (List Int))) (x6:(List Int)) (x7:(List Int)) (x8:(List Int)) (x9:(List Int)) (r:(List Int)),Lab n x0 x1 x2 x3 x4 x5 x6 x7 x8 x9=some r→zM Try.prog (tn79 29) (TM.evF Try.prog (tn79) dOk (k+40)) dOk (k+40) (zc Try.prog (tn0 29) 29 16) 2 16 (n+m) { sl:=[(0,.v (.sc (.ptr 0 0))),(5,.v (.sc (I4 x0))),(6,.v (.sc (I4 x1))),(7,.v (.sc (.g 3))),(89,.v (.sc (.g 1))),(90,.v (.sc (I4 x2))),(91,.v (.sc (I4 x3)))],lo:=[],h:=[.box 73 [.d 3 (.int .i64) (x4),.d 22 (.list 3 (.int .i64)) (x5),.d 3 (.int .i64) (x6),.g 1,.g 2],.row 3 (.int .i64) (x7),.row 3 (.int .i64) (x8),.row 3 (.int .i64) (x9)],n0:=3,w:=false }=some (xLab x0 x1 x2 x3 x4 x5 x6 x7 x8 x9 r):=by
 intro n
 induction n with
 | zero=>intro _ _ _ _ _ _ _ _ _ _ r h;cases h
 | succ n ih=>
  intro x0 x1 x2 x3 x4 x5 x6 x7 x8 x9 r
  rw [show n+1+m=n+m+1 by omega,zp,bLab,qLab]
  cases (decide (x3 < x2)) with
  | true=>
   cases (decide (0≤x3)) with
   | true=>
    cases (decide (x3 < (x7.length:Int))) with
    | true=>
     cases (decide (x3.toNat < List.length x7)) with
     | true=>
      cases (List.getD x7 x3.toNat 0==0) with
      | true=>
       exact ih _ _ _ _ _ _ _ _ _ _ r
      | false=>
       cases (decide (x3 < (x4.length:Int))) with
       | true=>
        cases (decide (x3 < (x8.length:Int))) with
        | true=>
         cases (decide (x3.toNat < List.length x8)) with
         | true=>
          cases (decide (IntKind.wrap IntKind.i64 (IntKind.wrap IntKind.i64 ((2:Int)*List.getD x4 x3.toNat 0)*x1)≠0)) with
          | true=>
           cases (decide (x3 < (x9.length:Int))) with
           | true=>
            cases (decide (x3.toNat < List.length x9)) with
            | true=>
             exact ih _ _ _ _ _ _ _ _ _ _ r
            | false=>
             intro h;cases h
           | false=>
            intro h;cases h
          | false=>
           intro h;cases h
         | false=>
          intro h;cases h
        | false=>
         intro h;cases h
       | false=>
        intro h;cases h
     | false=>
      intro h;cases h
    | false=>
     intro h;cases h
   | false=>
    intro h;cases h
  | false=>
   intro h;cases h;rfl
noncomputable def sLab:TellS:=fun S=>dCS 3 S fun y1 y2 y3=>dSs 0 y1 fun y5 l4=>zi 0 0 y5<|dSI 5 .i64 l4 fun x0 l6=>dSI 6 .i64 l6 fun x1 l7=>dSs 7 l7 fun y9 l8=>dG 3 y9<|dSs 89 l8 fun y11 l10=>dG 1 y11<|dSI 90 .i64 l10 fun x2 l12=>dSI 91 .i64 l12 fun x3 l13=>dE l13<|dE y2<|dHB 73 y3 fun y15 l14=>dC y15 fun y16 l17=>dD 3 (.int .i64) y16 fun x4=>dC l17 fun y18 l19=>dD 22 (.list 3 (.int .i64)) y18 fun x5=>dC l19 fun y20 l21=>dD 3 (.int .i64) y20 fun x6=>dC l21 fun y22 l23=>dG 1 y22<|dC l23 fun y24 l25=>dG 2 y24<|dE l25<|dHR 3 (.int .i64) l14 fun x7 l26=>dHR 3 (.int .i64) l26 fun x8 l27=>dHR 3 (.int .i64) l27 fun x9 l28=>dE l28 <|  some [(ok (Lab FU x0 x1 x2 x3 x4 x5 x6 x7 x8 x9),(.exit 2),{ sl:=[(0,.v (.sc (.ptr 0 0))),(7,.v (.sc (.g 3)))],lo:=[],h:=[.box 73 [.d 3 (.int .i64) (x4),.d 22 (.list 3 (.int .i64)) (x5),.d 3 (.int .i64) (x6),.g 1,.g 2],.row 3 (.int .i64) (x7),.row 3 (.int .i64) (x8),.row 3 (.int .i64) ((val (Lab FU x0 x1 x2 x3 x4 x5 x6 x7 x8 x9)):List Int)],n0:=3,w:=false })]
theorem wLab:zB Try.prog dOk base o79 t79 ((29,16),sLab):=by
 refine ⟨.loop (zc Try.prog (tn0 29) 29 16),2,by kernel_rfl,?_⟩
 intro S alts e S' h10 h2
 have h1:sLab S=some alts:=h10
 clear h10
 unfold sLab at h1
 repeat with_reducible first|replace h1:=yc h1;obtain ⟨_,_,_,rfl,h1⟩:=h1|(first|replace h1:=zX h1|replace h1:=ye h1|replace h1:=zG h1|replace h1:=dCq h1|replace h1:=zY h1);obtain ⟨_,_,rfl,h1⟩:=h1|(first|replace h1:=zr h1|replace h1:=dGq h1|replace h1:=dEq h1);obtain ⟨rfl,h1⟩:=h1|replace h1:=dDq h1;obtain ⟨_,rfl,h1⟩:=h1
 cases h1
 obtain ⟨hc0,rfl,rfl⟩:=zt h2
 exact ⟨FU+40,(ze rfl).trans (lLab FU 40 FU _ _ _ _ _ _ _ _ _ _ _ (zf hc0))⟩
noncomputable def o80:OrcT:=o79
noncomputable def t80:TellT:=((29,16),sLab)::t79
noncomputable abbrev tn80:FuncId→TAn:=zh base o80 t80
theorem ok80:TnOk Try.prog tn80 (mkA base) dOk:=by
 have h0:TnOk Try.prog (tn79) (mkA base) dOk:=ok79
 have h1:=zD h0 h0 (p:=((29,16),sLab)) wLab
 exact h1
noncomputable def LaS:Nat→(List Int)→Int→Int→Option Int
 | 0,_,_,_=>none
 | n+1,x0,x1,x2=>(cond (decide (x2 < (x0.length:Int))) (cond (decide (0≤x2)) (LaS n x0 (max x1 (List.getD x0 x2.toNat 0)) (IntKind.wrap IntKind.i64 (x2+(1:Int)))) none) (some x1))
theorem qLaS:type_of% @LaS.eq_2:=@LaS.eq_2
noncomputable def xLaS (x0:(List Int)) (x1 x2:Int):Int→Ex×CS:=fun r=>((.exit 0),{ sl:=[(3,.v (.sc (I4 (r))))],lo:=[],h:=[],n0:=0,w:=false })
theorem bLaS (k:Nat) (cN:CS→Option (Ex×CS)) (cX:Ex→CS→Option (Ex×CS)) (x0:(List Int)) (x1 x2:Int):zq Try.prog (tn80 53) (TM.evF Try.prog (tn80) dOk (k+40)) dOk (k+40) (zc Try.prog (tn0 53) 53 0) 0 0 { sl:=[(0,.v (.sc (.d 3 (.int .i64) x0))),(3,.v (.sc (I4 x1))),(4,.v (.sc (I4 x2)))],lo:=[],h:=[],n0:=0,w:=false } cN cX=(cond (decide (x2 < (x0.length:Int))) (cond (decide (0≤x2)) (cond (decide (x2 < (x0.length:Int))) (cN { sl:=[(0,.v (.sc (.d 3 (.int .i64) x0))),(3,.v (.sc (I4 (max x1 (List.getD x0 x2.toNat 0))))),(4,.v (.sc (I4 (IntKind.wrap IntKind.i64 (x2+(1:Int))))))],lo:=[],h:=[],n0:=0,w:=false }) none) none) (cX (.exit 0) { sl:=[(3,.v (.sc (I4 x1)))],lo:=[],h:=[],n0:=0,w:=false })):=by kernel_rfl
theorem lLaS (k m:Nat):∀ (n:Nat) (x0:(List Int)) (x1 x2:Int) (r:Int),LaS n x0 x1 x2=some r→zM Try.prog (tn80 53) (TM.evF Try.prog (tn80) dOk (k+40)) dOk (k+40) (zc Try.prog (tn0 53) 53 0) 0 0 (n+m) { sl:=[(0,.v (.sc (.d 3 (.int .i64) x0))),(3,.v (.sc (I4 x1))),(4,.v (.sc (I4 x2)))],lo:=[],h:=[],n0:=0,w:=false }=some (xLaS x0 x1 x2 r):=by
 intro n
 induction n with
 | zero=>intro _ _ _ r h;cases h
 | succ n ih=>
  intro x0 x1 x2 r
  rw [show n+1+m=n+m+1 by omega,zp,bLaS,qLaS]
  cases (decide (x2 < (x0.length:Int))) with
  | true=>
   cases (decide (0≤x2)) with
   | true=>
    exact ih _ _ _ r
   | false=>
    intro h;cases h
  | false=>
   intro h;cases h;rfl
noncomputable def sLaS:TellS:=fun S=>dCS 0 S fun y1 y2 y3=>dSs 0 y1 fun y5 l4=>dD 3 (.int .i64) y5 fun x0=>dSI 3 .i64 l4 fun x1 l6=>dSI 4 .i64 l6 fun x2 l7=>dE l7<|dE y2<|dE y3 <|  some [(ok (LaS FU x0 x1 x2),(.exit 0),{ sl:=[(3,.v (.sc (I4 ((val (LaS FU x0 x1 x2))))))],lo:=[],h:=[],n0:=0,w:=false })]
theorem wLaS:zB Try.prog dOk base o80 t80 ((53,0),sLaS):=by
 refine ⟨.loop (zc Try.prog (tn0 53) 53 0),0,by kernel_rfl,?_⟩
 intro S alts e S' h10 h2
 have h1:sLaS S=some alts:=h10
 clear h10
 unfold sLaS at h1
 repeat with_reducible first|replace h1:=yc h1;obtain ⟨_,_,_,rfl,h1⟩:=h1|(first|replace h1:=zX h1|replace h1:=ye h1);obtain ⟨_,_,rfl,h1⟩:=h1|replace h1:=dDq h1;obtain ⟨_,rfl,h1⟩:=h1|replace h1:=dEq h1;obtain ⟨rfl,h1⟩:=h1
 cases h1
 obtain ⟨hc0,rfl,rfl⟩:=zt h2
 exact ⟨FU+40,(ze rfl).trans (lLaS FU 40 FU _ _ _ _ (zf hc0))⟩
noncomputable def o81:OrcT:=o80
noncomputable def t81:TellT:=((53,0),sLaS)::t80
noncomputable abbrev tn81:FuncId→TAn:=zh base o81 t81
theorem ok81:TnOk Try.prog tn81 (mkA base) dOk:=by
 have h0:TnOk Try.prog (tn80) (mkA base) dOk:=ok80
 have h1:=zD h0 h0 (p:=((53,0),sLaS)) wLaS
 exact h1
noncomputable def v53 (x0:(List Int)):Option Int:=(cond (decide ((x0.length:Int) < (1:Int))) none (cond (decide (0 < (x0.length:Int))) (cond (ok (LaS FU x0 (List.getD x0 (Int.toNat 0) 0) (1:Int))) (some (val (LaS FU x0 (List.getD x0 (Int.toNat 0) 0) (1:Int)))) none) none))
theorem ev53 (x0:(List Int)):zo Try.prog (tn81 53) (TM.evF Try.prog (tn81) dOk 40) dOk 40 53 [.sc (.d 3 (.int .i64) x0)] []=(v53 x0).bind fun r=>some ([.sc (I4 (r))],[]):=by
 refine Eq.trans (b:=(cond (decide ((x0.length:Int) < (1:Int))) none (cond (decide (0 < (x0.length:Int))) (cond (ok (LaS FU x0 (List.getD x0 (Int.toNat 0) 0) (1:Int))) (some ([.sc (I4 (val (LaS FU x0 (List.getD x0 (Int.toNat 0) 0) (1:Int))))],[])) none) none))) (by kernel_rfl) ?_
 unfold v53
 refine za ?_ ?_
 rfl
 refine za ?_ ?_
 refine za ?_ ?_
 rfl
 rfl
 rfl
noncomputable def sv53:OrcS:=fun al H=>dC al fun y1 l2=>dS y1 fun y3=>dD 3 (.int .i64) y3 fun x0=>dE l2<|dE H <|  some [(ok (v53 x0),[.sc (I4 ((val (v53 x0))))],[])]
theorem wv53:zm Try.prog dOk base o81 t81 (53,sv53):=by
 intro al H q hq0 rs H2 h2
 have hq:sv53 al H=some q:=hq0
 clear hq0
 unfold sv53 at hq
 obtain ⟨_,_,rfl,g1⟩:=dCq hq
 obtain ⟨_,rfl,g2⟩:=dSq g1
 obtain ⟨_,rfl,g3⟩:=dDq g2
 obtain ⟨rfl,g4⟩:=dEq g3
 obtain ⟨rfl,g5⟩:=dEq g4
 cases g5
 obtain ⟨hc0,rfl,rfl⟩:=zg h2
 exact ⟨41,(zu (by kernel_rfl)).trans ((ev53 _).trans (zl (zf hc0)))⟩
noncomputable def o82:OrcT:=(53,sv53)::o81
noncomputable def t82:TellT:=t81
noncomputable abbrev tn82:FuncId→TAn:=zh base o82 t82
theorem ok82:TnOk Try.prog tn82 (mkA base) dOk:=by
 have h0:TnOk Try.prog (tn81) (mkA base) dOk:=ok81
 have h1:=zn h0 h0 (p:=(53,sv53)) wv53
 exact h1
noncomputable def Lak:Nat→Int→Int→(List Int)→(List (List Int))→(List Int)→(List Int)→(List Int)→(List Int)→Option (List Int)
 | 0,_,_,_,_,_,_,_,_=>none
 | n+1,x0,x1,x2,x3,x4,x5,x6,x7=>(cond (decide (x1 < x0)) (cond (decide (0≤x1)) (cond (decide (x1 < (x7.length:Int))) (cond (decide (x1.toNat < List.length x7)) (Lak n x0 (IntKind.wrap IntKind.i64 (x1+(1:Int))) x2 x3 x4 x5 x6 (List.set x7 x1.toNat (IntKind.wrap IntKind.i64 (List.getD x7 x1.toNat 0*(2:Int))))) none) none) none) (some x7))
theorem qLak:type_of% @Lak.eq_2:=@Lak.eq_2
noncomputable def xLak (x0 x1:Int) (x2:(List Int)) (x3:(List (List Int))) (x4:(List Int)) (x5:(List Int)) (x6:(List Int)) (x7:(List Int)):(List Int)→Ex×CS:=fun r=>((.exit 4),{ sl:=[(0,.v (.sc (.ptr 0 0))),(7,.v (.sc (.g 3)))],lo:=[],h:=[.box 73 [.d 3 (.int .i64) (x2),.d 22 (.list 3 (.int .i64)) (x3),.d 3 (.int .i64) (x4),.g 1,.g 2],.row 3 (.int .i64) (x5),.row 3 (.int .i64) (x6),.row 3 (.int .i64) (r:List Int)],n0:=3,w:=false })
theorem bLak (k:Nat) (cN:CS→Option (Ex×CS)) (cX:Ex→CS→Option (Ex×CS)) (x0 x1:Int) (x2:(List Int)) (x3:(List (List Int))) (x4:(List Int)) (x5:(List Int)) (x6:(List Int)) (x7:(List Int)):zq Try.prog (tn82 29) (TM.evF Try.prog (tn82) dOk (k+40)) dOk (k+40) (zc Try.prog (tn0 29) 29 32) 4 32 { sl:=[(0,.v (.sc (.ptr 0 0))),(7,.v (.sc (.g 3))),(135,.v (.sc (I4 x0))),(136,.v (.sc (I4 x1)))],lo:=[],h:=[.box 73 [.d 3 (.int .i64) (x2),.d 22 (.list 3 (.int .i64)) (x3),.d 3 (.int .i64) (x4),.g 1,.g 2],.row 3 (.int .i64) (x5),.row 3 (.int .i64) (x6),.row 3 (.int .i64) (x7)],n0:=3,w:=false } cN cX=(cond (decide (x1 < x0)) (cond (decide (0≤x1)) (cond (decide (x1 < (x7.length:Int))) (cond (decide (x1.toNat < List.length x7)) (cond (decide (0≤x1)) (cond (decide (x1 < (x7.length:Int))) (cond (decide (x1.toNat < List.length x7)) (cN { sl:=[(0,.v (.sc (.ptr 0 0))),(7,.v (.sc (.g 3))),(135,.v (.sc (I4 x0))),(136,.v (.sc (I4 (IntKind.wrap IntKind.i64 (x1+(1:Int))))))],lo:=[],h:=[.box 73 [.d 3 (.int .i64) (x2),.d 22 (.list 3 (.int .i64)) (x3),.d 3 (.int .i64) (x4),.g 1,.g 2],.row 3 (.int .i64) (x5),.row 3 (.int .i64) (x6),.row 3 (.int .i64) (List.set x7 x1.toNat (IntKind.wrap IntKind.i64 (List.getD x7 x1.toNat 0*(2:Int))):List Int)],n0:=3,w:=false }) none) none) none) none) none) none) (cX (.exit 4) { sl:=[(0,.v (.sc (.ptr 0 0))),(7,.v (.sc (.g 3)))],lo:=[],h:=[.box 73 [.d 3 (.int .i64) (x2),.d 22 (.list 3 (.int .i64)) (x3),.d 3 (.int .i64) (x4),.g 1,.g 2],.row 3 (.int .i64) (x5),.row 3 (.int .i64) (x6),.row 3 (.int .i64) (x7)],n0:=3,w:=false })):=by kernel_rfl
theorem lLak (k m:Nat):∀ (n:Nat) (x0 x1:Int) (x2:(List Int)) (x3:(List (List Int))) (x4:(List Int)) (x5:(List Int)) (x6:(List Int)) (x7:(List Int)) (r:(List Int)),Lak n x0 x1 x2 x3 x4 x5 x6 x7=some r→zM Try.prog (tn82 29) (TM.evF Try.prog (tn82) dOk (k+40)) dOk (k+40) (zc Try.prog (tn0 29) 29 32) 4 32 (n+m) { sl:=[(0,.v (.sc (.ptr 0 0))),(7,.v (.sc (.g 3))),(135,.v (.sc (I4 x0))),(136,.v (.sc (I4 x1)))],lo:=[],h:=[.box 73 [.d 3 (.int .i64) (x2),.d 22 (.list 3 (.int .i64)) (x3),.d 3 (.int .i64) (x4),.g 1,.g 2],.row 3 (.int .i64) (x5),.row 3 (.int .i64) (x6),.row 3 (.int .i64) (x7)],n0:=3,w:=false }=some (xLak x0 x1 x2 x3 x4 x5 x6 x7 r):=by
 intro n
 induction n with
 | zero=>intro _ _ _ _ _ _ _ _ r h;cases h
 | succ n ih=>
  intro x0 x1 x2 x3 x4 x5 x6 x7 r
  rw [show n+1+m=n+m+1 by omega,zp,bLak,qLak]
  cases (decide (x1 < x0)) with
  | true=>
   cases (decide (0≤x1)) with
   | true=>
    cases (decide (x1 < (x7.length:Int))) with
    | true=>
     cases (decide (x1.toNat < List.length x7)) with
     | true=>
      exact ih _ _ _ _ _ _ _ _ r
     | false=>
      intro h;cases h
    | false=>
     intro h;cases h
   | false=>
    intro h;cases h
  | false=>
   intro h;cases h;rfl
noncomputable def sLak:TellS:=fun S=>dCS 3 S fun y1 y2 y3=>dSs 0 y1 fun y5 l4=>zi 0 0 y5<|dSs 7 l4 fun y7 l6=>dG 3 y7<|dSI 135 .i64 l6 fun x0 l8=>dSI 136 .i64 l8 fun x1 l9=>dE l9<|dE y2<|dHB 73 y3 fun y11 l10=>dC y11 fun y12 l13=>dD 3 (.int .i64) y12 fun x2=>dC l13 fun y14 l15=>dD 22 (.list 3 (.int .i64)) y14 fun x3=>dC l15 fun y16 l17=>dD 3 (.int .i64) y16 fun x4=>dC l17 fun y18 l19=>dG 1 y18<|dC l19 fun y20 l21=>dG 2 y20<|dE l21<|dHR 3 (.int .i64) l10 fun x5 l22=>dHR 3 (.int .i64) l22 fun x6 l23=>dHR 3 (.int .i64) l23 fun x7 l24=>dE l24 <|  some [(ok (Lak FU x0 x1 x2 x3 x4 x5 x6 x7),(.exit 4),{ sl:=[(0,.v (.sc (.ptr 0 0))),(7,.v (.sc (.g 3)))],lo:=[],h:=[.box 73 [.d 3 (.int .i64) (x2),.d 22 (.list 3 (.int .i64)) (x3),.d 3 (.int .i64) (x4),.g 1,.g 2],.row 3 (.int .i64) (x5),.row 3 (.int .i64) (x6),.row 3 (.int .i64) ((val (Lak FU x0 x1 x2 x3 x4 x5 x6 x7)):List Int)],n0:=3,w:=false })]
theorem wLak:zB Try.prog dOk base o82 t82 ((29,32),sLak):=by
 refine ⟨.loop (zc Try.prog (tn0 29) 29 32),4,by kernel_rfl,?_⟩
 intro S alts e S' h10 h2
 have h1:sLak S=some alts:=h10
 clear h10
 unfold sLak at h1
 repeat with_reducible first|replace h1:=yc h1;obtain ⟨_,_,_,rfl,h1⟩:=h1|(first|replace h1:=zX h1|replace h1:=ye h1|replace h1:=zG h1|replace h1:=dCq h1|replace h1:=zY h1);obtain ⟨_,_,rfl,h1⟩:=h1|(first|replace h1:=zr h1|replace h1:=dGq h1|replace h1:=dEq h1);obtain ⟨rfl,h1⟩:=h1|replace h1:=dDq h1;obtain ⟨_,rfl,h1⟩:=h1
 cases h1
 obtain ⟨hc0,rfl,rfl⟩:=zt h2
 exact ⟨FU+40,(ze rfl).trans (lLak FU 40 FU _ _ _ _ _ _ _ _ _ (zf hc0))⟩
noncomputable def o83:OrcT:=o82
noncomputable def t83:TellT:=((29,32),sLak)::t82
noncomputable abbrev tn83:FuncId→TAn:=zh base o83 t83
theorem ok83:TnOk Try.prog tn83 (mkA base) dOk:=by
 have h0:TnOk Try.prog (tn82) (mkA base) dOk:=ok82
 have h1:=zD h0 h0 (p:=((29,32),sLak)) wLak
 exact h1
noncomputable def LaT:Nat→Int→(List (List Int))→Int→Int→(List Int)→Int→Int→(List Int)→(List (List Int))→(List Int)→(List Int)→(List Int)→(List Int)→Option (List Int)
 | 0,_,_,_,_,_,_,_,_,_,_,_,_,_=>none
 | n+1,x0,x1,x2,x3,x4,x5,x6,x7,x8,x9,A,B,C=>(cond (decide (x6 < x5)) (cond (decide (0≤x6)) (cond (decide (x6 < (x4.length:Int))) (cond (decide (0≤List.getD x4 x6.toNat 0)) (cond (decide (List.getD x4 x6.toNat 0 < (C.length:Int))) (cond (decide ((List.getD x4 x6.toNat 0).toNat < List.length C)) (LaT n x0 x1 x2 x3 x4 x5 (IntKind.wrap IntKind.i64 (x6+(1:Int))) x7 x8 x9 A B (List.set C (List.getD x4 x6.toNat 0).toNat (IntKind.wrap IntKind.i64 (List.getD C (List.getD x4 x6.toNat 0).toNat 0+x0)))) none) none) none) none) none) (some C))
theorem qLaT:type_of% @LaT.eq_2:=@LaT.eq_2
noncomputable def xLaT (x0:Int) (x1:(List (List Int))) (x2 x3:Int) (x4:(List Int)) (x5 x6:Int) (x7:(List Int)) (x8:(List (List Int))) (x9:(List Int)) (A:(List Int)) (B:(List Int)) (C:(List Int)):(List Int)→Ex×CS:=fun r=>((.exit 2),{ sl:=[(0,.v (.sc (.ptr 0 0))),(20,.v (.sc (.d 22 (.list 3 (.int .i64)) x1))),(21,.v (.sc (I4 x2))),(22,.v (.sc (I4 x3)))],lo:=[],h:=[.box 73 [.d 3 (.int .i64) (x7),.d 22 (.list 3 (.int .i64)) (x8),.d 3 (.int .i64) (x9),.g 1,.g 3],.row 3 (.int .i64) (A),.row 3 (.int .i64) (B),.row 3 (.int .i64) (r:List Int)],n0:=3,w:=false })
theorem bLaT (k:Nat) (cN:CS→Option (Ex×CS)) (cX:Ex→CS→Option (Ex×CS)) (x0:Int) (x1:(List (List Int))) (x2 x3:Int) (x4:(List Int)) (x5 x6:Int) (x7:(List Int)) (x8:(List (List Int))) (x9:(List Int)) (A:(List Int)) (B:(List Int)) (C:(List Int)):zq Try.prog (tn83 48) (TM.evF Try.prog (tn83) dOk (k+40)) dOk (k+40) (zc Try.prog (tn0 48) 48 16) 2 16 { sl:=[(0,.v (.sc (.ptr 0 0))),(4,.v (.sc (I4 x0))),(20,.v (.sc (.d 22 (.list 3 (.int .i64)) x1))),(21,.v (.sc (I4 x2))),(22,.v (.sc (I4 x3))),(30,.v (.sc (.d 3 (.int .i64) x4))),(31,.v (.sc (I4 x5))),(32,.v (.sc (I4 x6)))],lo:=[],h:=[.box 73 [.d 3 (.int .i64) (x7),.d 22 (.list 3 (.int .i64)) (x8),.d 3 (.int .i64) (x9),.g 1,.g 3],.row 3 (.int .i64) (A),.row 3 (.int .i64) (B),.row 3 (.int .i64) (C)],n0:=3,w:=false } cN cX=(cond (decide (x6 < x5)) (cond (decide (0≤x6)) (cond (decide (x6 < (x4.length:Int))) (cond (decide (0≤List.getD x4 x6.toNat 0)) (cond (decide (List.getD x4 x6.toNat 0 < (C.length:Int))) (cond (decide ((List.getD x4 x6.toNat 0).toNat < List.length C)) (cond (decide (0≤List.getD x4 x6.toNat 0)) (cond (decide (List.getD x4 x6.toNat 0 < (C.length:Int))) (cond (decide ((List.getD x4 x6.toNat 0).toNat < List.length C)) (cN { sl:=[(0,.v (.sc (.ptr 0 0))),(4,.v (.sc (I4 x0))),(20,.v (.sc (.d 22 (.list 3 (.int .i64)) x1))),(21,.v (.sc (I4 x2))),(22,.v (.sc (I4 x3))),(30,.v (.sc (.d 3 (.int .i64) x4))),(31,.v (.sc (I4 x5))),(32,.v (.sc (I4 (IntKind.wrap IntKind.i64 (x6+(1:Int))))))],lo:=[],h:=[.box 73 [.d 3 (.int .i64) (x7),.d 22 (.list 3 (.int .i64)) (x8),.d 3 (.int .i64) (x9),.g 1,.g 3],.row 3 (.int .i64) (A),.row 3 (.int .i64) (B),.row 3 (.int .i64) (List.set C (List.getD x4 x6.toNat 0).toNat (IntKind.wrap IntKind.i64 (List.getD C (List.getD x4 x6.toNat 0).toNat 0+x0)):List Int)],n0:=3,w:=false }) none) none) none) none) none) none) none) none) (cX (.exit 2) { sl:=[(0,.v (.sc (.ptr 0 0))),(20,.v (.sc (.d 22 (.list 3 (.int .i64)) x1))),(21,.v (.sc (I4 x2))),(22,.v (.sc (I4 x3)))],lo:=[],h:=[.box 73 [.d 3 (.int .i64) (x7),.d 22 (.list 3 (.int .i64)) (x8),.d 3 (.int .i64) (x9),.g 1,.g 3],.row 3 (.int .i64) (A),.row 3 (.int .i64) (B),.row 3 (.int .i64) (C)],n0:=3,w:=false })):=by kernel_rfl
theorem lLaT (k m:Nat):∀ (n:Nat) (x0:Int) (x1:(List (List Int))) (x2 x3:Int) (x4:(List Int)) (x5 x6:Int) (x7:(List Int)) (x8:(List (List Int))) (x9:(List Int)) (A:(List Int)) (B:(List Int)) (C:(List Int)) (r:(List Int)),LaT n x0 x1 x2 x3 x4 x5 x6 x7 x8 x9 A B C=some r→zM Try.prog (tn83 48) (TM.evF Try.prog (tn83) dOk (k+40)) dOk (k+40) (zc Try.prog (tn0 48) 48 16) 2 16 (n+m) { sl:=[(0,.v (.sc (.ptr 0 0))),(4,.v (.sc (I4 x0))),(20,.v (.sc (.d 22 (.list 3 (.int .i64)) x1))),(21,.v (.sc (I4 x2))),(22,.v (.sc (I4 x3))),(30,.v (.sc (.d 3 (.int .i64) x4))),(31,.v (.sc (I4 x5))),(32,.v (.sc (I4 x6)))],lo:=[],h:=[.box 73 [.d 3 (.int .i64) (x7),.d 22 (.list 3 (.int .i64)) (x8),.d 3 (.int .i64) (x9),.g 1,.g 3],.row 3 (.int .i64) (A),.row 3 (.int .i64) (B),.row 3 (.int .i64) (C)],n0:=3,w:=false }=some (xLaT x0 x1 x2 x3 x4 x5 x6 x7 x8 x9 A B C r):=by
 intro n
 induction n with
 | zero=>intro _ _ _ _ _ _ _ _ _ _ _ _ _ r h;cases h
 | succ n ih=>
  intro x0 x1 x2 x3 x4 x5 x6 x7 x8 x9 A B C r
  rw [show n+1+m=n+m+1 by omega,zp,bLaT,qLaT]
  cases (decide (x6 < x5)) with
  | true=>
   cases (decide (0≤x6)) with
   | true=>
    cases (decide (x6 < (x4.length:Int))) with
    | true=>
     cases (decide (0≤List.getD x4 x6.toNat 0)) with
     | true=>
      cases (decide (List.getD x4 x6.toNat 0 < (C.length:Int))) with
      | true=>
       cases (decide ((List.getD x4 x6.toNat 0).toNat < List.length C)) with
       | true=>
        exact ih _ _ _ _ _ _ _ _ _ _ _ _ _ r
       | false=>
        intro h;cases h
      | false=>
       intro h;cases h
     | false=>
      intro h;cases h
    | false=>
     intro h;cases h
   | false=>
    intro h;cases h
  | false=>
   intro h;cases h;rfl
noncomputable def sLaT:TellS:=fun S=>dCS 3 S fun y1 y2 y3=>dSs 0 y1 fun y5 l4=>zi 0 0 y5<|dSI 4 .i64 l4 fun x0 l6=>dSs 20 l6 fun y8 l7=>dD 22 (.list 3 (.int .i64)) y8 fun x1=>dSI 21 .i64 l7 fun x2 l9=>dSI 22 .i64 l9 fun x3 l10=>dSs 30 l10 fun y12 l11=>dD 3 (.int .i64) y12 fun x4=>dSI 31 .i64 l11 fun x5 l13=>dSI 32 .i64 l13 fun x6 l14=>dE l14<|dE y2<|dHB 73 y3 fun y16 l15=>dC y16 fun y17 l18=>dD 3 (.int .i64) y17 fun x7=>dC l18 fun y19 l20=>dD 22 (.list 3 (.int .i64)) y19 fun x8=>dC l20 fun y21 l22=>dD 3 (.int .i64) y21 fun x9=>dC l22 fun y23 l24=>dG 1 y23<|dC l24 fun y25 l26=>dG 3 y25<|dE l26<|dHR 3 (.int .i64) l15 fun A l27=>dHR 3 (.int .i64) l27 fun B l28=>dHR 3 (.int .i64) l28 fun C l29=>dE l29 <|  some [(ok (LaT FU x0 x1 x2 x3 x4 x5 x6 x7 x8 x9 A B C),(.exit 2),{ sl:=[(0,.v (.sc (.ptr 0 0))),(20,.v (.sc (.d 22 (.list 3 (.int .i64)) x1))),(21,.v (.sc (I4 x2))),(22,.v (.sc (I4 x3)))],lo:=[],h:=[.box 73 [.d 3 (.int .i64) (x7),.d 22 (.list 3 (.int .i64)) (x8),.d 3 (.int .i64) (x9),.g 1,.g 3],.row 3 (.int .i64) (A),.row 3 (.int .i64) (B),.row 3 (.int .i64) ((val (LaT FU x0 x1 x2 x3 x4 x5 x6 x7 x8 x9 A B C)):List Int)],n0:=3,w:=false })]
theorem wLaT:zB Try.prog dOk base o83 t83 ((48,16),sLaT):=by
 refine ⟨.loop (zc Try.prog (tn0 48) 48 16),2,by kernel_rfl,?_⟩
 intro S alts e S' h10 h2
 have h1:sLaT S=some alts:=h10
 clear h10
 unfold sLaT at h1
 repeat with_reducible first|replace h1:=yc h1;obtain ⟨_,_,_,rfl,h1⟩:=h1|(first|replace h1:=zX h1|replace h1:=ye h1|replace h1:=zG h1|replace h1:=dCq h1|replace h1:=zY h1);obtain ⟨_,_,rfl,h1⟩:=h1|(first|replace h1:=zr h1|replace h1:=dEq h1|replace h1:=dGq h1);obtain ⟨rfl,h1⟩:=h1|replace h1:=dDq h1;obtain ⟨_,rfl,h1⟩:=h1
 cases h1
 obtain ⟨hc0,rfl,rfl⟩:=zt h2
 exact ⟨FU+40,(ze rfl).trans (lLaT FU 40 FU _ _ _ _ _ _ _ _ _ _ _ _ _ _ (zf hc0))⟩
noncomputable def o84:OrcT:=o83
noncomputable def t84:TellT:=((48,16),sLaT)::t83
noncomputable abbrev tn84:FuncId→TAn:=zh base o84 t84
theorem ok84:TnOk Try.prog tn84 (mkA base) dOk:=by
 have h0:TnOk Try.prog (tn83) (mkA base) dOk:=ok83
 have h1:=zD h0 h0 (p:=((48,16),sLaT)) wLaT
 exact h1
noncomputable def LaU:Nat→(List (List Int))→Int→Int→(List Int)→(List (List Int))→(List Int)→(List Int)→(List Int)→(List Int)→Option (List Int)
 | 0,_,_,_,_,_,_,_,_,_=>none
 | n+1,x0,x1,x2,x3,x4,x5,x6,x7,x8=>(cond (decide (x2 < x1)) (cond (decide (0≤x2)) (cond (decide (x2 < (x0.length:Int))) (cond (ok (v52 (List.getD x0 x2.toNat []) x3 x4 x5 x6 x8)) (cond (decide (val (v52 (List.getD x0 x2.toNat []) x3 x4 x5 x6 x8)≠0)) (cond (ok (LaT FU (IntKind.wrap IntKind.i64 (Int.tdiv (1000000000:Int) (val (v52 (List.getD x0 x2.toNat []) x3 x4 x5 x6 x8)))) x0 x1 x2 (List.getD x0 x2.toNat []) (↑(List.length (List.getD x0 x2.toNat [])):Int) 0 x3 x4 x5 x6 x7 x8)) (LaU n x0 x1 (IntKind.wrap IntKind.i64 (x2+(1:Int))) x3 x4 x5 x6 x7 (val (LaT FU (IntKind.wrap IntKind.i64 (Int.tdiv (1000000000:Int) (val (v52 (List.getD x0 x2.toNat []) x3 x4 x5 x6 x8)))) x0 x1 x2 (List.getD x0 x2.toNat []) (↑(List.length (List.getD x0 x2.toNat [])):Int) 0 x3 x4 x5 x6 x7 x8))) none) none) none) none) none) (some x8))
theorem qLaU:type_of% @LaU.eq_2:=@LaU.eq_2
noncomputable def xLaU (x0:(List (List Int))) (x1 x2:Int) (x3:(List Int)) (x4:(List (List Int))) (x5:(List Int)) (x6:(List Int)) (x7:(List Int)) (x8:(List Int)):(List Int)→Ex×CS:=fun r=>((.exit 0),{ sl:=[],lo:=[],h:=[.box 73 [.d 3 (.int .i64) (x3),.d 22 (.list 3 (.int .i64)) (x4),.d 3 (.int .i64) (x5),.g 1,.g 3],.row 3 (.int .i64) (x6),.row 3 (.int .i64) (x7),.row 3 (.int .i64) (r:List Int)],n0:=3,w:=false })
theorem bLaU (k:Nat) (cN:CS→Option (Ex×CS)) (cX:Ex→CS→Option (Ex×CS)) (x0:(List (List Int))) (x1 x2:Int) (x3:(List Int)) (x4:(List (List Int))) (x5:(List Int)) (x6:(List Int)) (x7:(List Int)) (x8:(List Int)):zq Try.prog (tn84 48) (TM.evF Try.prog (tn84) dOk (k+40)) dOk (k+40) (zc Try.prog (tn0 48) 48 0) 0 0 { sl:=[(0,.v (.sc (.ptr 0 0))),(20,.v (.sc (.d 22 (.list 3 (.int .i64)) x0))),(21,.v (.sc (I4 x1))),(22,.v (.sc (I4 x2)))],lo:=[],h:=[.box 73 [.d 3 (.int .i64) (x3),.d 22 (.list 3 (.int .i64)) (x4),.d 3 (.int .i64) (x5),.g 1,.g 3],.row 3 (.int .i64) (x6),.row 3 (.int .i64) (x7),.row 3 (.int .i64) (x8)],n0:=3,w:=false } cN cX=(cond (decide (x2 < x1)) (cond (decide (0≤x2)) (cond (decide (x2 < (x0.length:Int))) (cond (ok (v52 (List.getD x0 x2.toNat []) x3 x4 x5 x6 x8)) (cond (decide (val (v52 (List.getD x0 x2.toNat []) x3 x4 x5 x6 x8)≠0)) (cond (ok (LaT FU (IntKind.wrap IntKind.i64 (Int.tdiv (1000000000:Int) (val (v52 (List.getD x0 x2.toNat []) x3 x4 x5 x6 x8)))) x0 x1 x2 (List.getD x0 x2.toNat []) (↑(List.length (List.getD x0 x2.toNat [])):Int) 0 x3 x4 x5 x6 x7 x8)) (cN { sl:=[(0,.v (.sc (.ptr 0 0))),(20,.v (.sc (.d 22 (.list 3 (.int .i64)) x0))),(21,.v (.sc (I4 x1))),(22,.v (.sc (I4 (IntKind.wrap IntKind.i64 (x2+(1:Int))))))],lo:=[],h:=[.box 73 [.d 3 (.int .i64) (x3),.d 22 (.list 3 (.int .i64)) (x4),.d 3 (.int .i64) (x5),.g 1,.g 3],.row 3 (.int .i64) (x6),.row 3 (.int .i64) (x7),.row 3 (.int .i64) (val (LaT FU (IntKind.wrap IntKind.i64 (Int.tdiv (1000000000:Int) (val (v52 (List.getD x0 x2.toNat []) x3 x4 x5 x6 x8)))) x0 x1 x2 (List.getD x0 x2.toNat []) (↑(List.length (List.getD x0 x2.toNat [])):Int) 0 x3 x4 x5 x6 x7 x8):List Int)],n0:=3,w:=false }) none) none) none) none) none) (cX (.exit 0) { sl:=[],lo:=[],h:=[.box 73 [.d 3 (.int .i64) (x3),.d 22 (.list 3 (.int .i64)) (x4),.d 3 (.int .i64) (x5),.g 1,.g 3],.row 3 (.int .i64) (x6),.row 3 (.int .i64) (x7),.row 3 (.int .i64) (x8)],n0:=3,w:=false })):=by kernel_rfl
theorem lLaU (k m:Nat):∀ (n:Nat) (x0:(List (List Int))) (x1 x2:Int) (x3:(List Int)) (x4:(List (List Int))) (x5:(List Int)) (x6:(List Int)) (x7:(List Int)) (x8:(List Int)) (r:(List Int)),LaU n x0 x1 x2 x3 x4 x5 x6 x7 x8=some r→zM Try.prog (tn84 48) (TM.evF Try.prog (tn84) dOk (k+40)) dOk (k+40) (zc Try.prog (tn0 48) 48 0) 0 0 (n+m) { sl:=[(0,.v (.sc (.ptr 0 0))),(20,.v (.sc (.d 22 (.list 3 (.int .i64)) x0))),(21,.v (.sc (I4 x1))),(22,.v (.sc (I4 x2)))],lo:=[],h:=[.box 73 [.d 3 (.int .i64) (x3),.d 22 (.list 3 (.int .i64)) (x4),.d 3 (.int .i64) (x5),.g 1,.g 3],.row 3 (.int .i64) (x6),.row 3 (.int .i64) (x7),.row 3 (.int .i64) (x8)],n0:=3,w:=false }=some (xLaU x0 x1 x2 x3 x4 x5 x6 x7 x8 r):=by
 intro n
 induction n with
 | zero=>intro _ _ _ _ _ _ _ _ _ r h;cases h
 | succ n ih=>
  intro x0 x1 x2 x3 x4 x5 x6 x7 x8 r
  rw [show n+1+m=n+m+1 by omega,zp,bLaU,qLaU]
  refine zb ?_ ?_
  refine zb ?_ ?_
  refine zb ?_ ?_
  refine zb ?_ ?_
  refine zb ?_ ?_
  refine zb ?_ ?_
  exact ih _ _ _ _ _ _ _ _ _ r
  intro h;cases h
  intro h;cases h
  intro h;cases h
  intro h;cases h
  intro h;cases h
  intro h;cases h;rfl
noncomputable def sLaU:TellS:=fun S=>dCS 3 S fun y1 y2 y3=>dSs 0 y1 fun y5 l4=>zi 0 0 y5<|dSs 20 l4 fun y7 l6=>dD 22 (.list 3 (.int .i64)) y7 fun x0=>dSI 21 .i64 l6 fun x1 l8=>dSI 22 .i64 l8 fun x2 l9=>dE l9<|dE y2<|dHB 73 y3 fun y11 l10=>dC y11 fun y12 l13=>dD 3 (.int .i64) y12 fun x3=>dC l13 fun y14 l15=>dD 22 (.list 3 (.int .i64)) y14 fun x4=>dC l15 fun y16 l17=>dD 3 (.int .i64) y16 fun x5=>dC l17 fun y18 l19=>dG 1 y18<|dC l19 fun y20 l21=>dG 3 y20<|dE l21<|dHR 3 (.int .i64) l10 fun x6 l22=>dHR 3 (.int .i64) l22 fun x7 l23=>dHR 3 (.int .i64) l23 fun x8 l24=>dE l24 <|  some [(ok (LaU FU x0 x1 x2 x3 x4 x5 x6 x7 x8),(.exit 0),{ sl:=[],lo:=[],h:=[.box 73 [.d 3 (.int .i64) (x3),.d 22 (.list 3 (.int .i64)) (x4),.d 3 (.int .i64) (x5),.g 1,.g 3],.row 3 (.int .i64) (x6),.row 3 (.int .i64) (x7),.row 3 (.int .i64) ((val (LaU FU x0 x1 x2 x3 x4 x5 x6 x7 x8)):List Int)],n0:=3,w:=false })]
theorem wLaU:zB Try.prog dOk base o84 t84 ((48,0),sLaU):=by
 refine ⟨.loop (zc Try.prog (tn0 48) 48 0),0,by kernel_rfl,?_⟩
 intro S alts e S' h10 h2
 have h1:sLaU S=some alts:=h10
 clear h10
 unfold sLaU at h1
 repeat with_reducible first|replace h1:=yc h1;obtain ⟨_,_,_,rfl,h1⟩:=h1|(first|replace h1:=zX h1|replace h1:=ye h1|replace h1:=zG h1|replace h1:=dCq h1|replace h1:=zY h1);obtain ⟨_,_,rfl,h1⟩:=h1|(first|replace h1:=zr h1|replace h1:=dEq h1|replace h1:=dGq h1);obtain ⟨rfl,h1⟩:=h1|replace h1:=dDq h1;obtain ⟨_,rfl,h1⟩:=h1
 cases h1
 obtain ⟨hc0,rfl,rfl⟩:=zt h2
 exact ⟨FU+40,(ze rfl).trans (lLaU FU 40 FU _ _ _ _ _ _ _ _ _ _ (zf hc0))⟩
noncomputable def o85:OrcT:=o84
noncomputable def t85:TellT:=((48,0),sLaU)::t84
noncomputable abbrev tn85:FuncId→TAn:=zh base o85 t85
theorem ok85:TnOk Try.prog tn85 (mkA base) dOk:=by
 have h0:TnOk Try.prog (tn84) (mkA base) dOk:=ok84
 have h1:=zD h0 h0 (p:=((48,0),sLaU)) wLaU
 exact h1
noncomputable def v48_1 (x0:(List Int)) (x1:(List (List Int))) (x2:(List Int)) (x3:(List Int)) (x4:(List Int)):Option (List Int):=(cond (decide ((x3.length:Int)≤(x3.length:Int))) (cond (decide ((x3.length:Int)≤(↑(nat_lit 2147483648):Int))) (cond (ok (LaU FU x1 (x1.length:Int) 0 x0 x1 x2 x3 x4 (List.replicate (x3.length:Int).toNat 0))) (some (val (LaU FU x1 (x1.length:Int) 0 x0 x1 x2 x3 x4 (List.replicate (x3.length:Int).toNat 0)))) none) none) none)
theorem ev48_1 (x0:(List Int)) (x1:(List (List Int))) (x2:(List Int)) (x3:(List Int)) (x4:(List Int)):zo Try.prog (tn85 48) (TM.evF Try.prog (tn85) dOk 40) dOk 40 48 [.sc (.ptr 0 0)] [.box 73 [.d 3 (.int .i64) (x0),.d 22 (.list 3 (.int .i64)) (x1),.d 3 (.int .i64) (x2),.g 1,.g 2],.row 3 (.int .i64) (x3),.row 3 (.int .i64) (x4)]=(v48_1 x0 x1 x2 x3 x4).bind fun r=>some ([],[.box 73 [.d 3 (.int .i64) (x0),.d 22 (.list 3 (.int .i64)) (x1),.d 3 (.int .i64) (x2),.g 1,.g 3],.row 3 (.int .i64) (x3),.row 3 (.int .i64) (x4),.row 3 (.int .i64) (r:List Int)]):=by
 refine Eq.trans (b:=(cond (decide ((x3.length:Int)≤(x3.length:Int))) (cond (decide ((x3.length:Int)≤(↑(nat_lit 2147483648):Int))) (cond (ok (LaU FU x1 (x1.length:Int) 0 x0 x1 x2 x3 x4 (List.replicate (x3.length:Int).toNat 0))) (some ([],[.box 73 [.d 3 (.int .i64) (x0),.d 22 (.list 3 (.int .i64)) (x1),.d 3 (.int .i64) (x2),.g 1,.g 3],.row 3 (.int .i64) (x3),.row 3 (.int .i64) (x4),.row 3 (.int .i64) (val (LaU FU x1 (x1.length:Int) 0 x0 x1 x2 x3 x4 (List.replicate (x3.length:Int).toNat 0)):List Int)])) none) none) none)) (by kernel_rfl) ?_
 unfold v48_1
 refine za ?_ ?_
 refine za ?_ ?_
 refine za ?_ ?_
 rfl
 rfl
 rfl
 rfl
noncomputable def sv48_1:OrcS:=fun al H=>dC al fun y1 l2=>dS y1 fun y3=>zi 0 0 y3<|dE l2<|dHB 73 H fun y5 l4=>dC y5 fun y6 l7=>dD 3 (.int .i64) y6 fun x0=>dC l7 fun y8 l9=>dD 22 (.list 3 (.int .i64)) y8 fun x1=>dC l9 fun y10 l11=>dD 3 (.int .i64) y10 fun x2=>dC l11 fun y12 l13=>dG 1 y12<|dC l13 fun y14 l15=>dG 2 y14<|dE l15<|dHR 3 (.int .i64) l4 fun x3 l16=>dHR 3 (.int .i64) l16 fun x4 l17=>dE l17 <|  some [(ok (v48_1 x0 x1 x2 x3 x4),[],[.box 73 [.d 3 (.int .i64) (x0),.d 22 (.list 3 (.int .i64)) (x1),.d 3 (.int .i64) (x2),.g 1,.g 3],.row 3 (.int .i64) (x3),.row 3 (.int .i64) (x4),.row 3 (.int .i64) ((val (v48_1 x0 x1 x2 x3 x4)):List Int)])]
theorem wv48_1:zm Try.prog dOk base o85 t85 (48,sv48_1):=by
 intro al H q hq0 rs H2 h2
 have hq:sv48_1 al H=some q:=hq0
 clear hq0
 unfold sv48_1 at hq
 repeat with_reducible first|(first|replace hq:=dCq hq|replace hq:=zG hq|replace hq:=zY hq);obtain ⟨_,_,rfl,hq⟩:=hq|(first|replace hq:=dSq hq|replace hq:=dDq hq);obtain ⟨_,rfl,hq⟩:=hq|(first|replace hq:=zr hq|replace hq:=dEq hq|replace hq:=dGq hq);obtain ⟨rfl,hq⟩:=hq
 cases hq
 obtain ⟨hc0,rfl,rfl⟩:=zg h2
 exact ⟨41,(zu (by kernel_rfl)).trans ((ev48_1 _ _ _ _ _).trans (zl (zf hc0)))⟩
noncomputable def o86:OrcT:=(48,sv48_1)::o85
noncomputable def t86:TellT:=t85
noncomputable abbrev tn86:FuncId→TAn:=zh base o86 t86
theorem ok86:TnOk Try.prog tn86 (mkA base) dOk:=by
 have h0:TnOk Try.prog (tn85) (mkA base) dOk:=ok85
 have h1:=zn h0 h0 (p:=(48,sv48_1)) wv48_1
 exact h1
noncomputable def v29 (x0:(List Int)) (x1:(List (List Int))) (x2:(List Int)) (x3:(List Int)) (x4:(List Int)):Option ((List Int)×(List Int)):=(cond (ok (Laa FU (-1:Int) (x3.length:Int) 0 x0 x1 x2 x3 x4)) (cond (decide (0≤val (Laa FU (-1:Int) (x3.length:Int) 0 x0 x1 x2 x3 x4))) (cond (decide (val (Laa FU (-1:Int) (x3.length:Int) 0 x0 x1 x2 x3 x4) < (x0.length:Int))) (cond (decide (val (Laa FU (-1:Int) (x3.length:Int) 0 x0 x1 x2 x3 x4) < (x4.length:Int))) (cond (decide ((val (Laa FU (-1:Int) (x3.length:Int) 0 x0 x1 x2 x3 x4)).toNat < List.length x4)) (cond (decide ((x3.length:Int)≤(x3.length:Int))) (cond (decide ((x3.length:Int)≤(↑(nat_lit 2147483648):Int))) (cond (ok (Lab FU (List.getD x0 (val (Laa FU (-1:Int) (x3.length:Int) 0 x0 x1 x2 x3 x4)).toNat 0) (List.getD x4 (val (Laa FU (-1:Int) (x3.length:Int) 0 x0 x1 x2 x3 x4)).toNat 0) (x3.length:Int) 0 x0 x1 x2 x3 x4 (List.replicate (x3.length:Int).toNat 0))) (cond (ok (v53 (val (Lab FU (List.getD x0 (val (Laa FU (-1:Int) (x3.length:Int) 0 x0 x1 x2 x3 x4)).toNat 0) (List.getD x4 (val (Laa FU (-1:Int) (x3.length:Int) 0 x0 x1 x2 x3 x4)).toNat 0) (x3.length:Int) 0 x0 x1 x2 x3 x4 (List.replicate (x3.length:Int).toNat 0))))) (cond (decide (val (v53 (val (Lab FU (List.getD x0 (val (Laa FU (-1:Int) (x3.length:Int) 0 x0 x1 x2 x3 x4)).toNat 0) (List.getD x4 (val (Laa FU (-1:Int) (x3.length:Int) 0 x0 x1 x2 x3 x4)).toNat 0) (x3.length:Int) 0 x0 x1 x2 x3 x4 (List.replicate (x3.length:Int).toNat 0)))) < (50000:Int))) (cond (ok (Lak FU (↑(List.length (val (Lab FU (List.getD x0 (val (Laa FU (-1:Int) (x3.length:Int) 0 x0 x1 x2 x3 x4)).toNat 0) (List.getD x4 (val (Laa FU (-1:Int) (x3.length:Int) 0 x0 x1 x2 x3 x4)).toNat 0) (x3.length:Int) 0 x0 x1 x2 x3 x4 (List.replicate (x3.length:Int).toNat 0)))):Int) 0 x0 x1 x2 x3 x4 (val (Lab FU (List.getD x0 (val (Laa FU (-1:Int) (x3.length:Int) 0 x0 x1 x2 x3 x4)).toNat 0) (List.getD x4 (val (Laa FU (-1:Int) (x3.length:Int) 0 x0 x1 x2 x3 x4)).toNat 0) (x3.length:Int) 0 x0 x1 x2 x3 x4 (List.replicate (x3.length:Int).toNat 0))))) (cond (ok (v48_1 x0 x1 x2 (val (Lak FU (↑(List.length (val (Lab FU (List.getD x0 (val (Laa FU (-1:Int) (x3.length:Int) 0 x0 x1 x2 x3 x4)).toNat 0) (List.getD x4 (val (Laa FU (-1:Int) (x3.length:Int) 0 x0 x1 x2 x3 x4)).toNat 0) (x3.length:Int) 0 x0 x1 x2 x3 x4 (List.replicate (x3.length:Int).toNat 0)))):Int) 0 x0 x1 x2 x3 x4 (val (Lab FU (List.getD x0 (val (Laa FU (-1:Int) (x3.length:Int) 0 x0 x1 x2 x3 x4)).toNat 0) (List.getD x4 (val (Laa FU (-1:Int) (x3.length:Int) 0 x0 x1 x2 x3 x4)).toNat 0) (x3.length:Int) 0 x0 x1 x2 x3 x4 (List.replicate (x3.length:Int).toNat 0))))) x4)) (some (val (Lak FU (↑(List.length (val (Lab FU (List.getD x0 (val (Laa FU (-1:Int) (x3.length:Int) 0 x0 x1 x2 x3 x4)).toNat 0) (List.getD x4 (val (Laa FU (-1:Int) (x3.length:Int) 0 x0 x1 x2 x3 x4)).toNat 0) (x3.length:Int) 0 x0 x1 x2 x3 x4 (List.replicate (x3.length:Int).toNat 0)))):Int) 0 x0 x1 x2 x3 x4 (val (Lab FU (List.getD x0 (val (Laa FU (-1:Int) (x3.length:Int) 0 x0 x1 x2 x3 x4)).toNat 0) (List.getD x4 (val (Laa FU (-1:Int) (x3.length:Int) 0 x0 x1 x2 x3 x4)).toNat 0) (x3.length:Int) 0 x0 x1 x2 x3 x4 (List.replicate (x3.length:Int).toNat 0)))),val (v48_1 x0 x1 x2 (val (Lak FU (↑(List.length (val (Lab FU (List.getD x0 (val (Laa FU (-1:Int) (x3.length:Int) 0 x0 x1 x2 x3 x4)).toNat 0) (List.getD x4 (val (Laa FU (-1:Int) (x3.length:Int) 0 x0 x1 x2 x3 x4)).toNat 0) (x3.length:Int) 0 x0 x1 x2 x3 x4 (List.replicate (x3.length:Int).toNat 0)))):Int) 0 x0 x1 x2 x3 x4 (val (Lab FU (List.getD x0 (val (Laa FU (-1:Int) (x3.length:Int) 0 x0 x1 x2 x3 x4)).toNat 0) (List.getD x4 (val (Laa FU (-1:Int) (x3.length:Int) 0 x0 x1 x2 x3 x4)).toNat 0) (x3.length:Int) 0 x0 x1 x2 x3 x4 (List.replicate (x3.length:Int).toNat 0))))) x4))) none) none) (cond (ok (v48_1 x0 x1 x2 (val (Lab FU (List.getD x0 (val (Laa FU (-1:Int) (x3.length:Int) 0 x0 x1 x2 x3 x4)).toNat 0) (List.getD x4 (val (Laa FU (-1:Int) (x3.length:Int) 0 x0 x1 x2 x3 x4)).toNat 0) (x3.length:Int) 0 x0 x1 x2 x3 x4 (List.replicate (x3.length:Int).toNat 0))) x4)) (some (val (Lab FU (List.getD x0 (val (Laa FU (-1:Int) (x3.length:Int) 0 x0 x1 x2 x3 x4)).toNat 0) (List.getD x4 (val (Laa FU (-1:Int) (x3.length:Int) 0 x0 x1 x2 x3 x4)).toNat 0) (x3.length:Int) 0 x0 x1 x2 x3 x4 (List.replicate (x3.length:Int).toNat 0)),val (v48_1 x0 x1 x2 (val (Lab FU (List.getD x0 (val (Laa FU (-1:Int) (x3.length:Int) 0 x0 x1 x2 x3 x4)).toNat 0) (List.getD x4 (val (Laa FU (-1:Int) (x3.length:Int) 0 x0 x1 x2 x3 x4)).toNat 0) (x3.length:Int) 0 x0 x1 x2 x3 x4 (List.replicate (x3.length:Int).toNat 0))) x4))) none)) none) none) none) none) none) none) none) none) none)
theorem ev29 (x0:(List Int)) (x1:(List (List Int))) (x2:(List Int)) (x3:(List Int)) (x4:(List Int)):zo Try.prog (tn86 29) (TM.evF Try.prog (tn86) dOk 40) dOk 40 29 [.sc (.ptr 0 0)] [.box 73 [.d 3 (.int .i64) (x0),.d 22 (.list 3 (.int .i64)) (x1),.d 3 (.int .i64) (x2),.g 1,.g 2],.row 3 (.int .i64) (x3),.row 3 (.int .i64) (x4)]=(v29 x0 x1 x2 x3 x4).bind fun r=>some ([],[.box 73 [.d 3 (.int .i64) (x0),.d 22 (.list 3 (.int .i64)) (x1),.d 3 (.int .i64) (x2),.g 3,.g 4],.row 3 (.int .i64) (x3),.row 3 (.int .i64) (x4),.row 3 (.int .i64) (r.1:List Int),.row 3 (.int .i64) (r.2:List Int)]):=by
 refine Eq.trans (b:=(cond (ok (Laa FU (-1:Int) (x3.length:Int) 0 x0 x1 x2 x3 x4)) (cond (decide (0≤val (Laa FU (-1:Int) (x3.length:Int) 0 x0 x1 x2 x3 x4))) (cond (decide (val (Laa FU (-1:Int) (x3.length:Int) 0 x0 x1 x2 x3 x4) < (x0.length:Int))) (cond (decide (0≤val (Laa FU (-1:Int) (x3.length:Int) 0 x0 x1 x2 x3 x4))) (cond (decide (val (Laa FU (-1:Int) (x3.length:Int) 0 x0 x1 x2 x3 x4) < (x4.length:Int))) (cond (decide ((val (Laa FU (-1:Int) (x3.length:Int) 0 x0 x1 x2 x3 x4)).toNat < List.length x4)) (cond (decide ((x3.length:Int)≤(x3.length:Int))) (cond (decide ((x3.length:Int)≤(↑(nat_lit 2147483648):Int))) (cond (ok (Lab FU (List.getD x0 (val (Laa FU (-1:Int) (x3.length:Int) 0 x0 x1 x2 x3 x4)).toNat 0) (List.getD x4 (val (Laa FU (-1:Int) (x3.length:Int) 0 x0 x1 x2 x3 x4)).toNat 0) (x3.length:Int) 0 x0 x1 x2 x3 x4 (List.replicate (x3.length:Int).toNat 0))) (cond (ok (v53 (val (Lab FU (List.getD x0 (val (Laa FU (-1:Int) (x3.length:Int) 0 x0 x1 x2 x3 x4)).toNat 0) (List.getD x4 (val (Laa FU (-1:Int) (x3.length:Int) 0 x0 x1 x2 x3 x4)).toNat 0) (x3.length:Int) 0 x0 x1 x2 x3 x4 (List.replicate (x3.length:Int).toNat 0))))) (cond (decide (val (v53 (val (Lab FU (List.getD x0 (val (Laa FU (-1:Int) (x3.length:Int) 0 x0 x1 x2 x3 x4)).toNat 0) (List.getD x4 (val (Laa FU (-1:Int) (x3.length:Int) 0 x0 x1 x2 x3 x4)).toNat 0) (x3.length:Int) 0 x0 x1 x2 x3 x4 (List.replicate (x3.length:Int).toNat 0)))) < (50000:Int))) (cond (ok (Lak FU (↑(List.length (val (Lab FU (List.getD x0 (val (Laa FU (-1:Int) (x3.length:Int) 0 x0 x1 x2 x3 x4)).toNat 0) (List.getD x4 (val (Laa FU (-1:Int) (x3.length:Int) 0 x0 x1 x2 x3 x4)).toNat 0) (x3.length:Int) 0 x0 x1 x2 x3 x4 (List.replicate (x3.length:Int).toNat 0)))):Int) 0 x0 x1 x2 x3 x4 (val (Lab FU (List.getD x0 (val (Laa FU (-1:Int) (x3.length:Int) 0 x0 x1 x2 x3 x4)).toNat 0) (List.getD x4 (val (Laa FU (-1:Int) (x3.length:Int) 0 x0 x1 x2 x3 x4)).toNat 0) (x3.length:Int) 0 x0 x1 x2 x3 x4 (List.replicate (x3.length:Int).toNat 0))))) (cond (ok (v48_1 x0 x1 x2 (val (Lak FU (↑(List.length (val (Lab FU (List.getD x0 (val (Laa FU (-1:Int) (x3.length:Int) 0 x0 x1 x2 x3 x4)).toNat 0) (List.getD x4 (val (Laa FU (-1:Int) (x3.length:Int) 0 x0 x1 x2 x3 x4)).toNat 0) (x3.length:Int) 0 x0 x1 x2 x3 x4 (List.replicate (x3.length:Int).toNat 0)))):Int) 0 x0 x1 x2 x3 x4 (val (Lab FU (List.getD x0 (val (Laa FU (-1:Int) (x3.length:Int) 0 x0 x1 x2 x3 x4)).toNat 0) (List.getD x4 (val (Laa FU (-1:Int) (x3.length:Int) 0 x0 x1 x2 x3 x4)).toNat 0) (x3.length:Int) 0 x0 x1 x2 x3 x4 (List.replicate (x3.length:Int).toNat 0))))) x4)) (some ([],[.box 73 [.d 3 (.int .i64) (x0),.d 22 (.list 3 (.int .i64)) (x1),.d 3 (.int .i64) (x2),.g 3,.g 4],.row 3 (.int .i64) (x3),.row 3 (.int .i64) (x4),.row 3 (.int .i64) (val (Lak FU (↑(List.length (val (Lab FU (List.getD x0 (val (Laa FU (-1:Int) (x3.length:Int) 0 x0 x1 x2 x3 x4)).toNat 0) (List.getD x4 (val (Laa FU (-1:Int) (x3.length:Int) 0 x0 x1 x2 x3 x4)).toNat 0) (x3.length:Int) 0 x0 x1 x2 x3 x4 (List.replicate (x3.length:Int).toNat 0)))):Int) 0 x0 x1 x2 x3 x4 (val (Lab FU (List.getD x0 (val (Laa FU (-1:Int) (x3.length:Int) 0 x0 x1 x2 x3 x4)).toNat 0) (List.getD x4 (val (Laa FU (-1:Int) (x3.length:Int) 0 x0 x1 x2 x3 x4)).toNat 0) (x3.length:Int) 0 x0 x1 x2 x3 x4 (List.replicate (x3.length:Int).toNat 0)))):List Int),.row 3 (.int .i64) (val (v48_1 x0 x1 x2 (val (Lak FU (↑(List.length (val (Lab FU (List.getD x0 (val (Laa FU (-1:Int) (x3.length:Int) 0 x0 x1 x2 x3 x4)).toNat 0) (List.getD x4 (val (Laa FU (-1:Int) (x3.length:Int) 0 x0 x1 x2 x3 x4)).toNat 0) (x3.length:Int) 0 x0 x1 x2 x3 x4 (List.replicate (x3.length:Int).toNat 0)))):Int) 0 x0 x1 x2 x3 x4 (val (Lab FU (List.getD x0 (val (Laa FU (-1:Int) (x3.length:Int) 0 x0 x1 x2 x3 x4)).toNat 0) (List.getD x4 (val (Laa FU (-1:Int) (x3.length:Int) 0 x0 x1 x2 x3 x4)).toNat 0) (x3.length:Int) 0 x0 x1 x2 x3 x4 (List.replicate (x3.length:Int).toNat 0))))) x4):List Int)])) none) none) (cond (ok (v48_1 x0 x1 x2 (val (Lab FU (List.getD x0 (val (Laa FU (-1:Int) (x3.length:Int) 0 x0 x1 x2 x3 x4)).toNat 0) (List.getD x4 (val (Laa FU (-1:Int) (x3.length:Int) 0 x0 x1 x2 x3 x4)).toNat 0) (x3.length:Int) 0 x0 x1 x2 x3 x4 (List.replicate (x3.length:Int).toNat 0))) x4)) (some ([],[.box 73 [.d 3 (.int .i64) (x0),.d 22 (.list 3 (.int .i64)) (x1),.d 3 (.int .i64) (x2),.g 3,.g 4],.row 3 (.int .i64) (x3),.row 3 (.int .i64) (x4),.row 3 (.int .i64) (val (Lab FU (List.getD x0 (val (Laa FU (-1:Int) (x3.length:Int) 0 x0 x1 x2 x3 x4)).toNat 0) (List.getD x4 (val (Laa FU (-1:Int) (x3.length:Int) 0 x0 x1 x2 x3 x4)).toNat 0) (x3.length:Int) 0 x0 x1 x2 x3 x4 (List.replicate (x3.length:Int).toNat 0)):List Int),.row 3 (.int .i64) (val (v48_1 x0 x1 x2 (val (Lab FU (List.getD x0 (val (Laa FU (-1:Int) (x3.length:Int) 0 x0 x1 x2 x3 x4)).toNat 0) (List.getD x4 (val (Laa FU (-1:Int) (x3.length:Int) 0 x0 x1 x2 x3 x4)).toNat 0) (x3.length:Int) 0 x0 x1 x2 x3 x4 (List.replicate (x3.length:Int).toNat 0))) x4):List Int)])) none)) none) none) none) none) none) none) none) none) none) none)) (by kernel_rfl) ?_
 unfold v29
 cases (ok (Laa FU (-1:Int) (x3.length:Int) 0 x0 x1 x2 x3 x4)) with
 | true=>
  cases (decide (0≤val (Laa FU (-1:Int) (x3.length:Int) 0 x0 x1 x2 x3 x4))) with
  | true=>
   cases (decide (val (Laa FU (-1:Int) (x3.length:Int) 0 x0 x1 x2 x3 x4) < (x0.length:Int))) with
   | true=>
    cases (decide (val (Laa FU (-1:Int) (x3.length:Int) 0 x0 x1 x2 x3 x4) < (x4.length:Int))) with
    | true=>
     cases (decide ((val (Laa FU (-1:Int) (x3.length:Int) 0 x0 x1 x2 x3 x4)).toNat < List.length x4)) with
     | true=>
      cases (decide ((x3.length:Int)≤(x3.length:Int))) with
      | true=>
       cases (decide ((x3.length:Int)≤(↑(nat_lit 2147483648):Int))) with
       | true=>
        cases (ok (Lab FU (List.getD x0 (val (Laa FU (-1:Int) (x3.length:Int) 0 x0 x1 x2 x3 x4)).toNat 0) (List.getD x4 (val (Laa FU (-1:Int) (x3.length:Int) 0 x0 x1 x2 x3 x4)).toNat 0) (x3.length:Int) 0 x0 x1 x2 x3 x4 (List.replicate (x3.length:Int).toNat 0))) with
        | true=>
         cases (ok (v53 (val (Lab FU (List.getD x0 (val (Laa FU (-1:Int) (x3.length:Int) 0 x0 x1 x2 x3 x4)).toNat 0) (List.getD x4 (val (Laa FU (-1:Int) (x3.length:Int) 0 x0 x1 x2 x3 x4)).toNat 0) (x3.length:Int) 0 x0 x1 x2 x3 x4 (List.replicate (x3.length:Int).toNat 0))))) with
         | true=>
          cases (decide (val (v53 (val (Lab FU (List.getD x0 (val (Laa FU (-1:Int) (x3.length:Int) 0 x0 x1 x2 x3 x4)).toNat 0) (List.getD x4 (val (Laa FU (-1:Int) (x3.length:Int) 0 x0 x1 x2 x3 x4)).toNat 0) (x3.length:Int) 0 x0 x1 x2 x3 x4 (List.replicate (x3.length:Int).toNat 0)))) < (50000:Int))) with
          | true=>
           cases (ok (Lak FU (↑(List.length (val (Lab FU (List.getD x0 (val (Laa FU (-1:Int) (x3.length:Int) 0 x0 x1 x2 x3 x4)).toNat 0) (List.getD x4 (val (Laa FU (-1:Int) (x3.length:Int) 0 x0 x1 x2 x3 x4)).toNat 0) (x3.length:Int) 0 x0 x1 x2 x3 x4 (List.replicate (x3.length:Int).toNat 0)))):Int) 0 x0 x1 x2 x3 x4 (val (Lab FU (List.getD x0 (val (Laa FU (-1:Int) (x3.length:Int) 0 x0 x1 x2 x3 x4)).toNat 0) (List.getD x4 (val (Laa FU (-1:Int) (x3.length:Int) 0 x0 x1 x2 x3 x4)).toNat 0) (x3.length:Int) 0 x0 x1 x2 x3 x4 (List.replicate (x3.length:Int).toNat 0))))) with
           | true=>
            cases (ok (v48_1 x0 x1 x2 (val (Lak FU (↑(List.length (val (Lab FU (List.getD x0 (val (Laa FU (-1:Int) (x3.length:Int) 0 x0 x1 x2 x3 x4)).toNat 0) (List.getD x4 (val (Laa FU (-1:Int) (x3.length:Int) 0 x0 x1 x2 x3 x4)).toNat 0) (x3.length:Int) 0 x0 x1 x2 x3 x4 (List.replicate (x3.length:Int).toNat 0)))):Int) 0 x0 x1 x2 x3 x4 (val (Lab FU (List.getD x0 (val (Laa FU (-1:Int) (x3.length:Int) 0 x0 x1 x2 x3 x4)).toNat 0) (List.getD x4 (val (Laa FU (-1:Int) (x3.length:Int) 0 x0 x1 x2 x3 x4)).toNat 0) (x3.length:Int) 0 x0 x1 x2 x3 x4 (List.replicate (x3.length:Int).toNat 0))))) x4)) with
            | true=>
             rfl
            | false=>
             rfl
           | false=>
            rfl
          | false=>
           cases (ok (v48_1 x0 x1 x2 (val (Lab FU (List.getD x0 (val (Laa FU (-1:Int) (x3.length:Int) 0 x0 x1 x2 x3 x4)).toNat 0) (List.getD x4 (val (Laa FU (-1:Int) (x3.length:Int) 0 x0 x1 x2 x3 x4)).toNat 0) (x3.length:Int) 0 x0 x1 x2 x3 x4 (List.replicate (x3.length:Int).toNat 0))) x4)) with
           | true=>
            rfl
           | false=>
            rfl
         | false=>
          rfl
        | false=>
         rfl
       | false=>
        rfl
      | false=>
       rfl
     | false=>
      rfl
    | false=>
     rfl
   | false=>
    rfl
  | false=>
   rfl
 | false=>
  rfl
noncomputable def sv29:OrcS:=fun al H=>dC al fun y1 l2=>dS y1 fun y3=>zi 0 0 y3<|dE l2<|dHB 73 H fun y5 l4=>dC y5 fun y6 l7=>dD 3 (.int .i64) y6 fun x0=>dC l7 fun y8 l9=>dD 22 (.list 3 (.int .i64)) y8 fun x1=>dC l9 fun y10 l11=>dD 3 (.int .i64) y10 fun x2=>dC l11 fun y12 l13=>dG 1 y12<|dC l13 fun y14 l15=>dG 2 y14<|dE l15<|dHR 3 (.int .i64) l4 fun x3 l16=>dHR 3 (.int .i64) l16 fun x4 l17=>dE l17 <|  some [(ok (v29 x0 x1 x2 x3 x4),[],[.box 73 [.d 3 (.int .i64) (x0),.d 22 (.list 3 (.int .i64)) (x1),.d 3 (.int .i64) (x2),.g 3,.g 4],.row 3 (.int .i64) (x3),.row 3 (.int .i64) (x4),.row 3 (.int .i64) ((val (v29 x0 x1 x2 x3 x4)).1:List Int),.row 3 (.int .i64) ((val (v29 x0 x1 x2 x3 x4)).2:List Int)])]
theorem wv29:zm Try.prog dOk base o86 t86 (29,sv29):=by
 intro al H q hq0 rs H2 h2
 have hq:sv29 al H=some q:=hq0
 clear hq0
 unfold sv29 at hq
 repeat with_reducible first|(first|replace hq:=dCq hq|replace hq:=zG hq|replace hq:=zY hq);obtain ⟨_,_,rfl,hq⟩:=hq|(first|replace hq:=dSq hq|replace hq:=dDq hq);obtain ⟨_,rfl,hq⟩:=hq|(first|replace hq:=zr hq|replace hq:=dEq hq|replace hq:=dGq hq);obtain ⟨rfl,hq⟩:=hq
 cases hq
 obtain ⟨hc0,rfl,rfl⟩:=zg h2
 exact ⟨41,(zu (by kernel_rfl)).trans ((ev29 _ _ _ _ _).trans (zl (zf hc0)))⟩
noncomputable def o87:OrcT:=(29,sv29)::o86
noncomputable def t87:TellT:=t86
noncomputable abbrev tn87:FuncId→TAn:=zh base o87 t87
theorem ok87:TnOk Try.prog tn87 (mkA base) dOk:=by
 have h0:TnOk Try.prog (tn86) (mkA base) dOk:=ok86
 have h1:=zn h0 h0 (p:=(29,sv29)) wv29
 exact h1
end Go.Proofs.Ytgmebdomopdgmaa
