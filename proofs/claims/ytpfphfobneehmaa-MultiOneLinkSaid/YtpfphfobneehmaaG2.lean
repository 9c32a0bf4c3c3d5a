/- What some functions and loops come to: printed and checked. Written by a program of ours. -/
import Derived.Test.YtpfphfobneehmaaG1
set_option linter.all false
set_option maxRecDepth 1000000
set_option maxHeartbeats 4000000
namespace Go.Proofs.Ytpfphfobneehmaa
open Go Go.AM Go.TM Go.Proofs
noncomputable section
section
variable {β:Type} (y:LL->Int->Option β) (z:(Bool ⊕ Unit)->Option β) (x0:LL) (x1:Int)
def K8:Option β:=(cond (decide (x1 < (x0.length:Int))) (cond (decide (0<=x1)) (cond (decide ((↑(List.length (List.getD x0 x1.toNat [])):Int) > (20:Int))) (z (.inl (false))) (y x0 (wI (x1+1)))) none) (z (.inr ())))
def qbq:Option β:=(cond (decide (x1 < (x0.length:Int))) (ck x1 (x0.length:Int) (cond (decide ((↑(List.length (List.getD x0 x1.toNat [])):Int) > (20:Int))) (z (.inl (false))) (y x0 (wI (x1+1))))) (z (.inr ())))
def jU:=itL (fun _ _=>none) fun f=>K8 f some
theorem qdZ (n:Nat):jU (n+1)=K8 (jU n) some:=rfl
def Dj:(Bool ⊕ Unit)->Ex×CS:=Sum.elim (fun r=>(.ret,⟨[(6,vB r)],[],[],0,true⟩)) fun r=>((.exit 4),⟨[],[],[],0,false⟩)
abbrev Ki:CS:=⟨[(1,vd1 x0),(9,vI x1)],[],[],0,false⟩
theorem qdk {k m n:Nat} {r:Bool ⊕ Unit} (h:jU n x0 x1=some r):lE S148 11 4 k (n+m) (Ki x0 x1)=some (Dj r):=by
 induction n generalizing x1 with
 |zero=>cases h
 |succ n ih=>
 exact lS (qbq (fun x0 x1=>lE S148 11 4 k (n+m) (Ki x0 x1)) (sm Dj) x0 x1) (by kernel_rfl) (by rw [qdZ];unfold K8 qbq;with_reducible repeat' first|apply gT ‹_›|apply gF ‹_›|(apply zz<;>intro _)|exact ih _|exact nX|exact sX) h
end
def S149:=S148.lp 11 4 (Ki [] 0) (fun x0 x1=>some (y2 (jU FU x0 x1) Dj)) (by kernel_rfl) fun _=>w2 fun h=>qdk _ _ h
section
variable {β:Type} (z:Bool->Option β) (x0:LI) (x1:L3) (x2:LL) (x3:LI)
def tv11:Option β:=(cond (decide ((x0.length:Int) > (20:Int))) (z false) (cond (decide ((x1.length:Int) > (20:Int))) (z false) (cond (decide ((x2.length:Int) > (20:Int))) (z false) (cond (decide ((x3.length:Int) > (20:Int))) (z false) (cond (isL (gt FU x2 0 x0 x1)) (z (zx (gt FU x2 0 x0 x1))) (ob (zB (gt FU x2 0 x0 x1)) fun _=>(cond (isL (jU FU x2 0)) (z (zx (jU FU x2 0))) (ob (zB (jU FU x2 0)) fun _=>(z true)))))))))
def v11:=tv11 some x0 x1 x2 x3
abbrev aF11:List TA:=[.agg [kd0 x0,kd1 x1],.sc (kd2 x2),.sc (kd0 x3)]
abbrev rF11:Bool->List TA×List TO:=fun r=>([.sc (.bool r)],[])
theorem ev11:fE S149 11 (aF11 x0 x1 x2 x3) []=(v11 x0 x1 x2 x3).bind (sm rF11):=zE (fun z=>tv11 z x0 x1 x2 x3) (by kernel_rfl) fun K=>by unfold v11 tv11;with_reducible repeat' first|apply zc|exact nB|exact sB
end
def S150:=S149.fn 11 (aF11 [] [] [] []) [] (fun x0 x1 x2 x3=>some (y1 (v11 x0 x1 x2 x3) rF11)) rfl fun _=>w1 fun h=>(ev11 ..).trans (bD h)
section
variable {β:Type} (y:LI->LI->Int->Option β) (z:(Bool ⊕ Unit)->Option β) (x0 x1:LI) (x2:Int)
def Hq:Option β:=(cond (decide (x2 < (x0.length:Int))) (ck x2 (x1.length:Int) (cond (List.getD x0 x2.toNat 0 != List.getD x1 x2.toNat 0) (z (.inl (false))) (y x0 x1 (wI (x2+1))))) (z (.inr ())))
def qbU:Option β:=(cond (decide (x2 < (x0.length:Int))) (ck x2 (x0.length:Int) (ck x2 (x1.length:Int) (cond (List.getD x0 x2.toNat 0 != List.getD x1 x2.toNat 0) (z (.inl (false))) (y x0 x1 (wI (x2+1)))))) (z (.inr ())))
def gw:=itL (fun _ _ _=>none) fun f=>Hq f some
theorem qfk (n:Nat):gw (n+1)=Hq (gw n) some:=rfl
def HI:(Bool ⊕ Unit)->Ex×CS:=Sum.elim (fun r=>(.ret,⟨[(4,vB r)],[],[],0,true⟩)) fun r=>((.exit 0),⟨[],[],[],0,false⟩)
abbrev Sk:CS:=⟨[(0,vd0 x0),(1,vd0 x1),(5,vI x2)],[],[],0,false⟩
theorem qeT {k m n:Nat} {r:Bool ⊕ Unit} (h:gw n x0 x1 x2=some r):lE S150 36 0 k (n+m) (Sk x0 x1 x2)=some (HI r):=by
 induction n generalizing x2 with
 |zero=>cases h
 |succ n ih=>
 exact lS (qbU (fun x0 x1 x2=>lE S150 36 0 k (n+m) (Sk x0 x1 x2)) (sm HI) x0 x1 x2) (by kernel_rfl) (by rw [qfk];unfold Hq qbU;with_reducible repeat' first|apply gT ‹_›|apply gF ‹_›|(apply zz<;>intro _)|exact ih _|exact nX|exact sX) h
end
def S151:=S150.lp 36 0 (Sk [] [] 0) (fun x0 x1 x2=>some (y2 (gw FU x0 x1 x2) HI)) (by kernel_rfl) fun _=>w2 fun h=>qeT _ _ _ h
section
variable {β:Type} (z:Bool->Option β) (x0 x1:LI)
def tv36:Option β:=(cond ((x0.length:Int) != (x1.length:Int)) (z false) (cond (isL (gw FU x0 x1 0)) (z (zx (gw FU x0 x1 0))) (ob (zB (gw FU x0 x1 0)) fun _=>(z true))))
def v36:=tv36 some x0 x1
abbrev aF36:List TA:=[.sc (kd0 x0),.sc (kd0 x1)]
abbrev rF36:Bool->List TA×List TO:=fun r=>([.sc (.bool r)],[])
theorem ev36:fE S151 36 (aF36 x0 x1) []=(v36 x0 x1).bind (sm rF36):=zE (fun z=>tv36 z x0 x1) (by kernel_rfl) fun K=>by unfold v36 tv36;with_reducible repeat' first|apply zc|exact nB|exact sB
end
def S152:=S151.fn 36 (aF36 [] []) [] (fun x0 x1=>some (y1 (v36 x0 x1) rF36)) rfl fun _=>w1 fun h=>(ev36 ..).trans (bD h)
section
variable {β:Type} (y:Int->LL->LI->Int->LL->LI->Int->Option β) (z:(Bool ⊕ Unit)->Option β) (x0:Int) (x1:LL) (x2:LI) (x3:Int) (x4:LL) (x5:LI) (x6:Int)
def Hp:Option β:=(cond (decide (x0 < (x1.length:Int))) (ck x0 (x4.length:Int) (ob (v36 (List.getD x1 x0.toNat []) (List.getD x4 x0.toNat [])) fun r1=>(cond (!r1) (z (.inl (false))) (y (wI (x0+1)) x1 x2 x3 x4 x5 x6)))) (z (.inr ())))
def qbR:Option β:=(cond (decide (x0 < (x1.length:Int))) (ck x0 (x1.length:Int) (ck x0 (x4.length:Int) (ob (v36 (List.getD x1 x0.toNat []) (List.getD x4 x0.toNat [])) fun r1=>(cond (!r1) (z (.inl (false))) (y (wI (x0+1)) x1 x2 x3 x4 x5 x6))))) (z (.inr ())))
def gu:=itL (fun _ _ _ _ _ _ _=>none) fun f=>Hp f some
theorem qfj (n:Nat):gu (n+1)=Hp (gu n) some:=rfl
def Hv:(Bool ⊕ Unit)->Ex×CS:=Sum.elim (fun r=>(.ret,⟨[(4,vB r)],[],[],0,true⟩)) fun r=>((.exit 0),⟨[(2,.l 2 0),(3,.l 3 0),(32,.l 2 0)],[],[],0,false⟩)
abbrev D8:CS:=⟨[(2,.l 2 0),(3,.l 3 0),(6,vI x0)],[(2,[kd2 x1,kd0 x2,I4 x3]),(3,[kd2 x4,kd0 x5,I4 x6])],[],0,false⟩
theorem qeI {k m n:Nat} {r:Bool ⊕ Unit} (h:gu n x0 x1 x2 x3 x4 x5 x6=some r):lE S152 16 0 k (n+m) (D8 x0 x1 x2 x3 x4 x5 x6)=some (Hv r):=by
 induction n generalizing x0 with
 |zero=>cases h
 |succ n ih=>
 exact lS (qbR (fun x0 x1 x2 x3 x4 x5 x6=>lE S152 16 0 k (n+m) (D8 x0 x1 x2 x3 x4 x5 x6)) (sm Hv) x0 x1 x2 x3 x4 x5 x6) (by kernel_rfl) (by rw [qfj];unfold Hp qbR;with_reducible repeat' first|apply gT ‹_›|apply gF ‹_›|(apply zz<;>intro _)|exact ih _|exact nX|exact sX) h
end
def S153:=S152.lp 16 0 (D8 0 [] [] 0 [] [] 0) (fun x0 x1 x2 x3 x4 x5 x6=>some (y2 (gu FU x0 x1 x2 x3 x4 x5 x6) Hv)) (by kernel_rfl) fun _=>w2 fun h=>qeI _ _ _ _ _ _ _ h
section
variable {β:Type} (z:Bool->Option β) (x0:LL) (x1:LI) (x2:Int) (x3:LL) (x4:LI) (x5:Int)
def tv16:Option β:=(ob (v36 x1 x4) fun r1=>(cond (!r1) (z false) (cond (x2 != x5) (z false) (cond ((x0.length:Int) != (x3.length:Int)) (z false) (cond (isL (gu FU 0 x0 x1 x2 x3 x4 x5)) (z (zx (gu FU 0 x0 x1 x2 x3 x4 x5))) (ob (zB (gu FU 0 x0 x1 x2 x3 x4 x5)) fun _=>(z true)))))))
def v16:=tv16 some x0 x1 x2 x3 x4 x5
abbrev aF16:List TA:=[.agg [kd2 x0,kd0 x1,I4 x2],.agg [kd2 x3,kd0 x4,I4 x5]]
abbrev rF16:Bool->List TA×List TO:=fun r=>([.sc (.bool r)],[])
theorem ev16:fE S153 16 (aF16 x0 x1 x2 x3 x4 x5) []=(v16 x0 x1 x2 x3 x4 x5).bind (sm rF16):=zE (fun z=>tv16 z x0 x1 x2 x3 x4 x5) (by kernel_rfl) fun K=>by unfold v16 tv16;with_reducible repeat' first|apply zc|exact nB|exact sB
end
def S154:=S153.fn 16 (aF16 [] [] 0 [] [] 0) [] (fun x0 x1 x2 x3 x4 x5=>some (y1 (v16 x0 x1 x2 x3 x4 x5) rF16)) rfl fun _=>w1 fun h=>(ev16 ..).trans (bD h)
section
variable {β:Type} (z:Bool->Option β) (x0:LI) (x1:L3) (x2:LL) (x3:LI) (x4:Int)
def tv27:Option β:=(ob (v14 x0 x1 0) fun r1=>(cond (r1.2.2.2==0) (ob (v16 r1.1 r1.2.1 r1.2.2.1 x2 x3 x4) fun r2=>(z r2)) (z false)))
def v27:=tv27 some x0 x1 x2 x3 x4
abbrev aF27:List TA:=[.agg [kd0 x0,kd1 x1],.agg [kd2 x2,kd0 x3,I4 x4]]
abbrev rF27:Bool->List TA×List TO:=fun r=>([.sc (.bool r)],[])
theorem ev27:fE S154 27 (aF27 x0 x1 x2 x3 x4) []=(v27 x0 x1 x2 x3 x4).bind (sm rF27):=zE (fun z=>tv27 z x0 x1 x2 x3 x4) (by kernel_rfl) fun K=>by unfold v27 tv27;with_reducible repeat' first|apply zc|exact nB|exact sB
end
def S155:=S154.fn 27 (aF27 [] [] [] [] 0) [] (fun x0 x1 x2 x3 x4=>some (y1 (v27 x0 x1 x2 x3 x4) rF27)) rfl fun _=>w1 fun h=>(ev27 ..).trans (bD h)
section
variable {β:Type} (z:Bool->Option β) (x0:Bool) (x1 x2 x3 x4 x5 x6:Int) (x7:LL) (x8:LI) (x9:Int)
def K6:Option β:=(cond x0 (cond (x3==0) (cond (x1==(1:Int)) (cond (x2==(4:Int)) (cond (x4==(4:Int)) (cond (x5==(1:Int)) (cond (x6==0) (z (x9==0)) (z false)) (z false)) (z false)) (z false)) (z false)) (z false)) (z false))
def JI (x0:Bool) (x1 x2 x3 x4 x5 x6:Int) (x7:LL) (x8:LI) (x9:Int):Option Bool:=K6 some x0 x1 x2 x3 x4 x5 x6 x9
def Dh:Bool->Ex×CS:=fun r=>(.ret,⟨[(0,vB r)],[],[],0,true⟩)
abbrev qa4:CS:=⟨[(4,vB x0),(5,vI x1),(6,vI x2),(7,vI x3),(9,vI x4),(11,vI x5),(12,.l 12 0),(13,vI x6)],[(12,[kd2 x7,kd0 x8,I4 x9])],[],0,false⟩
theorem qdi {k:Nat} {r:Bool}:JI x0 x1 x2 x3 x4 x5 x6 x7 x8 x9=some r->pE S155 10 76 0 k (qa4 x0 x1 x2 x3 x4 x5 x6 x7 x8 x9)=some (Dh r):=lP (K6 (sm Dh) x0 x1 x2 x3 x4 x5 x6 x9) (by kernel_rfl) (by unfold JI K6;with_reducible repeat' first|apply zd|exact nX|exact sX)
end
def S156:=S155.pc 10 76 0 (qa4 false 0 0 0 0 0 0 [] [] 0) (fun x0 x1 x2 x3 x4 x5 x6 x7 x8 x9=>some (y1 (JI x0 x1 x2 x3 x4 x5 x6 x7 x8 x9) Dh)) (by kernel_rfl) rfl fun _=>w1 fun h=>qdi _ _ _ _ _ _ _ _ _ _ h
section
variable {β:Type} (z:Bool->Option β) (x0:Bool) (x1 x2 x3 x4 x5:Int) (x6:LI) (x7:L3)
def K5:Option β:=(ob (v14 x6 x7 (9:Int)) fun r1=>(ob (JI x0 x1 x2 x3 x4 x5 r1.2.2.2 r1.1 r1.2.1 r1.2.2.1) fun r2=>(z r2)))
def JH:=K5 some x0 x1 x2 x3 x4 x5 x6 x7
def Dg:Bool->Ex×CS:=fun r=>(.ret,⟨[(0,vB r)],[],[],0,true⟩)
abbrev qa3:CS:=⟨[(1,.l 1 0),(4,vB x0),(5,vI x1),(6,vI x2),(7,vI x3),(9,vI x4),(11,vI x5)],[(1,[kd0 x6,kd1 x7])],[],0,false⟩
theorem qdh {k:Nat} {r:Bool}:JH x0 x1 x2 x3 x4 x5 x6 x7=some r->pE S156 10 68 0 k (qa3 x0 x1 x2 x3 x4 x5 x6 x7)=some (Dg r):=lP (K5 (sm Dg) x0 x1 x2 x3 x4 x5 x6 x7) (by kernel_rfl) (by unfold JH K5;with_reducible repeat' first|apply zd|exact nX|exact sX)
end
def S157:=S156.pc 10 68 0 (qa3 false 0 0 0 0 0 [] []) (fun x0 x1 x2 x3 x4 x5 x6 x7=>some (y1 (JH x0 x1 x2 x3 x4 x5 x6 x7) Dg)) (by kernel_rfl) rfl fun _=>w1 fun h=>qdh _ _ _ _ _ _ _ _ h
section
variable {β:Type} (z:Bool->Option β) (x0:Bool) (x1 x2 x3 x4:Int) (x5:LI) (x6:L3)
def K4:Option β:=(ob (v14 x5 x6 (-1:Int)) fun r1=>(ob (JH x0 x1 x2 x3 x4 r1.2.2.2 x5 x6) fun r2=>(z r2)))
def JG:=K4 some x0 x1 x2 x3 x4 x5 x6
def De:Bool->Ex×CS:=fun r=>(.ret,⟨[(0,vB r)],[],[],0,true⟩)
abbrev qa2:CS:=⟨[(1,.l 1 0),(4,vB x0),(5,vI x1),(6,vI x2),(7,vI x3),(9,vI x4)],[(1,[kd0 x5,kd1 x6])],[],0,false⟩
theorem qdg {k:Nat} {r:Bool}:JG x0 x1 x2 x3 x4 x5 x6=some r->pE S157 10 60 0 k (qa2 x0 x1 x2 x3 x4 x5 x6)=some (De r):=lP (K4 (sm De) x0 x1 x2 x3 x4 x5 x6) (by kernel_rfl) (by unfold JG K4;with_reducible repeat' first|apply zd|exact nX|exact sX)
end
def S158:=S157.pc 10 60 0 (qa2 false 0 0 0 0 [] []) (fun x0 x1 x2 x3 x4 x5 x6=>some (y1 (JG x0 x1 x2 x3 x4 x5 x6) De)) (by kernel_rfl) rfl fun _=>w1 fun h=>qdg _ _ _ _ _ _ _ h
section
variable {β:Type} (z:Bool->Option β) (x0:Bool) (x1 x2 x3:Int) (x4:LI) (x5:L3)
def K3:Option β:=(ob (JG x0 x1 x2 x3 (val (v14 [0] [[[0]]] (5:Int))).2.2.2 x4 x5) fun r1=>(z r1))
def JF:=K3 some x0 x1 x2 x3 x4 x5
def Dd:Bool->Ex×CS:=fun r=>(.ret,⟨[(0,vB r)],[],[],0,true⟩)
abbrev qa1:CS:=⟨[(1,.l 1 0),(4,vB x0),(5,vI x1),(6,vI x2),(7,vI x3)],[(1,[kd0 x4,kd1 x5])],[],0,false⟩
theorem qdf {k:Nat} {r:Bool}:JF x0 x1 x2 x3 x4 x5=some r->pE S158 10 52 0 k (qa1 x0 x1 x2 x3 x4 x5)=some (Dd r):=lP (K3 (sm Dd) x0 x1 x2 x3 x4 x5) (by kernel_rfl) (by unfold JF K3;with_reducible repeat' first|apply zd|exact nX|exact sX)
end
def S159:=S158.pc 10 52 0 (qa1 false 0 0 0 [] []) (fun x0 x1 x2 x3 x4 x5=>some (y1 (JF x0 x1 x2 x3 x4 x5) Dd)) (by kernel_rfl) rfl fun _=>w1 fun h=>qdf _ _ _ _ _ _ h
section
variable {β:Type} (z:Bool->Option β) (x0:Bool) (x1:LI) (x2:L3) (x3:LI) (x4:L3)
def K1:Option β:=(ob (v12 x3 x4 [(3:Int),(4:Int)] 0) fun r1=>(ob (JF x0 r1.1 r1.2.1 r1.2.2 x1 x2) fun r2=>(z r2)))
def gq:=K1 some x0 x1 x2 x3 x4
def Dc:Bool->Ex×CS:=fun r=>(.ret,⟨[(0,vB r)],[],[],0,true⟩)
abbrev qa0:CS:=⟨[(1,.l 1 0),(3,.l 3 0),(4,vB x0)],[(1,[kd0 x1,kd1 x2]),(3,[kd0 x3,kd1 x4])],[],0,false⟩
theorem qde {k:Nat} {r:Bool}:gq x0 x1 x2 x3 x4=some r->pE S159 10 44 0 k (qa0 x0 x1 x2 x3 x4)=some (Dc r):=lP (K1 (sm Dc) x0 x1 x2 x3 x4) (by kernel_rfl) (by unfold gq K1;with_reducible repeat' first|apply zd|exact nX|exact sX)
end
def S160:=S159.pc 10 44 0 (qa0 false [] [] [] []) (fun x0 x1 x2 x3 x4=>some (y1 (gq x0 x1 x2 x3 x4) Dc)) (by kernel_rfl) rfl fun _=>w1 fun h=>qde _ _ _ _ _ h
section
variable {β:Type} (z:Bool->Option β) (x0:LI) (x1:L3) (x2:LI) (x3:L3) (x4:LI) (x5:L3)
def K0:Option β:=(ob (v27 x0 x1 [[(5000000:Int)],[(5000000:Int)]] [(200000:Int)] 0) fun r1=>(cond r1 (ob (v27 x2 x3 [[(10000000:Int),0]] [(100000:Int),(100000:Int)] (1000000:Int)) fun r2=>(cond r2 (ob (v27 x4 x5 [[0,(4000000:Int)]] [(1000000000000:Int),(250000:Int)] 0) fun r3=>(ob (gq r3 x0 x1 x4 x5) fun r4=>(z r4))) (ob (gq false x0 x1 x4 x5) fun r3=>(z r3)))) (ob (gq false x0 x1 x4 x5) fun r2=>(z r2))))
def D4:=K0 some x0 x1 x2 x3 x4 x5
def Db:Bool->Ex×CS:=fun r=>(.ret,⟨[(0,vB r)],[],[],0,true⟩)
abbrev qaZ:CS:=⟨[(1,.l 1 0),(2,.l 2 0),(3,.l 3 0)],[(1,[kd0 x0,kd1 x1]),(2,[kd0 x2,kd1 x3]),(3,[kd0 x4,kd1 x5])],[],0,false⟩
theorem qdd {k:Nat} {r:Bool}:D4 x0 x1 x2 x3 x4 x5=some r->pE S160 10 36 0 k (qaZ x0 x1 x2 x3 x4 x5)=some (Db r):=lP (K0 (sm Db) x0 x1 x2 x3 x4 x5) (by kernel_rfl) (by unfold D4 K0;with_reducible repeat' first|apply zd|exact nX|exact sX)
end
def S161:=S160.pc 10 36 0 (qaZ [] [] [] [] [] []) (fun x0 x1 x2 x3 x4 x5=>some (y1 (D4 x0 x1 x2 x3 x4 x5) Db)) (by kernel_rfl) rfl fun _=>w1 fun h=>qdd _ _ _ _ _ _ h
section
variable {β:Type} (z:Bool->Option β)
def tv10:Option β:=(z true)
def v10:=tv10 some
abbrev aF10:List TA:=[]
abbrev rF10:Bool->List TA×List TO:=fun r=>([.sc (.bool r)],[])
theorem ev10:fE S161 10 aF10 []=v10.bind (sm rF10):=zE (fun z=>tv10 z) (by kernel_rfl) fun K=>by unfold v10 tv10;with_reducible repeat' first|apply zc|exact nB|exact sB
end
def S162:=S161.fn 10 aF10 [] (some (y1 v10 rF10)) rfl fun _=>w1 fun h=>ev10.trans (bD h)
section
variable {β:Type} (y:LI->Int->Int->Option β) (z:Int->Option β) (x0:LI) (x1 x2:Int)
def G8:Option β:=(cond (decide (x2 < (x0.length:Int))) (cond (decide (0<=x2)) (y x0 (wI (x1+List.getD x0 x2.toNat 0)) (wI (x2+1))) none) (z x1))
def qbS:Option β:=(cond (decide (x2 < (x0.length:Int))) (ck x2 (x0.length:Int) (y x0 (wI (x1+List.getD x0 x2.toNat 0)) (wI (x2+1)))) (z x1))
def jn:=itL (fun _ _ _=>none) fun f=>G8 f some
theorem SJ (n:Nat):jn (n+1)=G8 (jn n) some:=rfl
def Hw:Int->Ex×CS:=fun r=>((.exit 0),⟨[(3,vI r)],[],[],0,false⟩)
abbrev D9:CS:=⟨[(0,vd0 x0),(3,vI x1),(4,vI x2)],[],[],0,false⟩
theorem qeJ {k m n:Nat} {r:Int} (h:jn n x0 x1 x2=some r):lE S162 21 0 k (n+m) (D9 x0 x1 x2)=some (Hw r):=by
 induction n generalizing x1 x2 with
 |zero=>cases h
 |succ n ih=>
 exact lS (qbS (fun x0 x1 x2=>lE S162 21 0 k (n+m) (D9 x0 x1 x2)) (sm Hw) x0 x1 x2) (by kernel_rfl) (by rw [SJ];unfold G8 qbS;with_reducible repeat' first|apply gT ‹_›|apply gF ‹_›|(apply zz<;>intro _)|exact ih _ _|exact nX|exact sX) h
end
def S163:=S162.lp 21 0 (D9 [] 0 0) (fun x0 x1 x2=>some (y1 (jn FU x0 x1 x2) Hw)) (by kernel_rfl) fun _=>w1 fun h=>qeJ _ _ _ h
section
variable {β:Type} (z:Int->Option β) (x0:LI)
def tv21:Option β:=(ob (jn FU x0 0 0) fun r1=>(z r1))
def v21:=tv21 some x0
abbrev aF21:List TA:=[.sc (kd0 x0)]
abbrev rF21:Int->List TA×List TO:=fun r=>([.sc (I4 r)],[])
theorem ev21:fE S163 21 (aF21 x0) []=(v21 x0).bind (sm rF21):=zE (fun z=>tv21 z x0) (by kernel_rfl) fun K=>by unfold v21 tv21;with_reducible repeat' first|apply zc|exact nB|exact sB
end
def S164:=S163.fn 21 (aF21 []) [] (fun x0=>some (y1 (v21 x0) rF21)) rfl fun _=>w1 fun h=>(ev21 ..).trans (bD h)
abbrev rd2 (l:L3):TO:=.row 31 yT1 l
section
variable {β:Type} (y:Int->Bool->Int->Int->LI->L3->Option β) (z:L3->Option β) (x0:Int) (x1:Bool) (x2 x3:Int) (x4:LI) (x5:L3)
def GZ:Option β:=(cond (decide (x3 < x2)) (cond (decide (List.length x5+List.length [[[(0:Int)]]]<=nat_lit 2147483648)) (y x0 x1 x2 (wI (x3+1)) x4 (x5++[[[0]]])) none) (z x5))
def jT:=itL (fun _ _ _ _ _ _=>none) fun f=>GZ f some
theorem qaW (n:Nat):jT (n+1)=GZ (jT n) some:=rfl
def qaX:L3->Ex×CS:=fun r=>((.exit 0),⟨[(2,vI x0),(7,vB x1),(8,vI x2),(9,.l 9 0)],[(9,[.g 0,.g 1])],[rd0 x4,rd2 r],0,false⟩)
abbrev qaU:CS:=⟨[(2,vI x0),(7,vB x1),(8,vI x2),(9,.l 9 0),(10,vI x3)],[(9,[.g 0,.g 1])],[rd0 x4,rd2 x5],0,false⟩
theorem lL6_0_0 {k m n:Nat} {r:L3} (h:jT n x0 x1 x2 x3 x4 x5=some r):lE S164 6 0 k (n+m) (qaU x0 x1 x2 x3 x4 x5)=some (qaX x0 x1 x2 x4 r):=by
 induction n generalizing x3 x5 with
 |zero=>cases h
 |succ n ih=>
 exact lS (GZ (fun x0 x1 x2 x3 x4 x5=>lE S164 6 0 k (n+m) (qaU x0 x1 x2 x3 x4 x5)) (sm (qaX x0 x1 x2 x4)) x0 x1 x2 x3 x4 x5) (by kernel_rfl) (by rw [qaW];unfold GZ;with_reducible repeat' first|apply zd|exact ih _ _|exact nX|exact sX) h
end
def S165:=S164.lp 6 0 (qaU 0 false 0 0 [] []) (fun x0 x1 x2 x3 x4 x5=>some (y1 (jT FU x0 x1 x2 x3 x4 x5) (qaX x0 x1 x2 x4))) (by kernel_rfl) fun _=>w1 fun h=>lL6_0_0 _ _ _ _ _ _ h
section
variable {β:Type} (y:Bool->Int->Int->LI->L3->LL->LI->Int->LL->LI->Int->Option β) (z:Bool->Option β) (x0:Bool) (x1 x2:Int) (x3:LI) (x4:L3) (x5:LL) (x6:LI) (x7:Int) (x8:LL) (x9:LI) (x10:Int)
def gQ:Option β:=(cond (decide (x2 < x1)) (cond x0 (ck x2 (x5.length:Int) (ob (v21 (List.getD x5 x2.toNat [])) fun r1=>(cond (decide (0 < (x3.length:Int))) (cond (decide (x1≠0)) (y (r1==wI (Int.tdiv (wI ((1000000:Int)*List.getD x3 (Int.toNat 0) 0)) x1)) x1 (wI (x2+1)) x3 x4 x5 x6 x7 x8 x9 x10) none) none))) (y false x1 (wI (x2+1)) x3 x4 x5 x6 x7 x8 x9 x10)) (z x0))
def jz:=itL (fun _ _ _ _ _ _ _ _ _ _ _=>none) fun f=>gQ f some
theorem Hb (n:Nat):jz (n+1)=gQ (jz n) some:=rfl
def HP:Bool->Ex×CS:=fun r=>((.exit 2),⟨[(7,vB r),(8,vI x1),(9,.l 9 0),(11,.l 11 0),(13,.l 13 0)],[(9,[kd0 x3,kd1 x4]),(13,[kd2 x8,kd0 x9,I4 x10])],[],0,false⟩)
abbrev Ss:CS:=⟨[(7,vB x0),(8,vI x1),(9,.l 9 0),(11,.l 11 0),(13,.l 13 0),(15,vI x2)],[(9,[kd0 x3,kd1 x4]),(11,[kd2 x5,kd0 x6,I4 x7]),(13,[kd2 x8,kd0 x9,I4 x10])],[],0,false⟩
theorem qe0 {k m n:Nat} {r:Bool} (h:jz n x0 x1 x2 x3 x4 x5 x6 x7 x8 x9 x10=some r):lE S165 6 2 k (n+m) (Ss x0 x1 x2 x3 x4 x5 x6 x7 x8 x9 x10)=some (HP x1 x3 x4 x8 x9 x10 r):=by
 induction n generalizing x0 x2 with
 |zero=>cases h
 |succ n ih=>
 exact lS (gQ (fun x0 x1 x2 x3 x4 x5 x6 x7 x8 x9 x10=>lE S165 6 2 k (n+m) (Ss x0 x1 x2 x3 x4 x5 x6 x7 x8 x9 x10)) (sm (HP x1 x3 x4 x8 x9 x10)) x0 x1 x2 x3 x4 x5 x6 x7 x8 x9 x10) (by kernel_rfl) (by rw [Hb];unfold gQ;with_reducible repeat' first|apply zd|exact ih _ _|exact nX|exact sX) h
end
def S166:=S165.lp 6 2 (Ss false 0 0 [] [] [] [] 0 [] [] 0) (fun x0 x1 x2 x3 x4 x5 x6 x7 x8 x9 x10=>some (y1 (jz FU x0 x1 x2 x3 x4 x5 x6 x7 x8 x9 x10) (HP x1 x3 x4 x8 x9 x10))) (by kernel_rfl) fun _=>w1 fun h=>qe0 _ _ _ _ _ _ _ _ _ _ _ h
section
variable {β:Type} (z:Bool->Option β) (x0:Int) (x1:Bool) (x2:Int) (x3:LI) (x4:L3)
def JO:Option β:=(ob (v14 x3 x4 0) fun r1=>(ob (v14 x3 x4 x0) fun r2=>(cond (r1.2.2.2 != 0) (z false) (cond (r2.2.2.2 != 0) (z false) (cond ((↑(List.length r1.1):Int) != x2) (z false) (ob (jz FU x1 x2 0 x3 x4 r1.1 r1.2.1 r1.2.2.1 r2.1 r2.2.1 r2.2.2.1) fun r3=>(cond r3 (cond (decide (0 < (x3.length:Int))) (z (decide (r2.2.2.1<=wI (wI ((8:Int)*x2)+List.getD x3 (Int.toNat 0) 0)))) none) (z false))))))))
def GX:=JO some x0 x1 x2 x3 x4
def HQ:Bool->Ex×CS:=fun r=>(.ret,⟨[(6,vB r)],[],[],0,true⟩)
abbrev qbC:CS:=⟨[(2,vI x0),(7,vB x1),(8,vI x2),(9,.l 9 0)],[(9,[kd0 x3,kd1 x4])],[],0,false⟩
theorem qe1 {k:Nat} {r:Bool}:GX x0 x1 x2 x3 x4=some r->pE S166 6 84 0 k (qbC x0 x1 x2 x3 x4)=some (HQ r):=lP (JO (sm HQ) x0 x1 x2 x3 x4) (by kernel_rfl) (by unfold GX JO;with_reducible repeat' first|apply zd|exact nX|exact sX)
end
def S167:=S166.pc 6 84 0 (qbC 0 false 0 [] []) (fun x0 x1 x2 x3 x4=>some (y1 (GX x0 x1 x2 x3 x4) HQ)) (by kernel_rfl) rfl fun _=>w1 fun h=>qe1 _ _ _ _ _ h
section
variable {β:Type} (z:Bool->Option β) (x0 x1 x2:Int)
def tv6:Option β:=(cond (decide (x2 < 0)) (z true) (cond (decide (x2 > (1000:Int))) (z true) (ob (jT FU x2 (val v10) (wI ((1:Int)+Int.tmod (wI x1) (8:Int))) 0 [wI ((1:Int)+Int.tmod (wI x0) (1000:Int))] []) fun r1=>(ob (GX x2 (val v10) (wI ((1:Int)+Int.tmod (wI x1) (8:Int))) [wI ((1:Int)+Int.tmod (wI x0) (1000:Int))] r1) fun r2=>(z r2)))))
def v6:=tv6 some x0 x1 x2
abbrev aF6:List TA:=[.sc (.int .u16 x0),.sc (.int .u8 x1),.sc (I4 x2)]
abbrev rF6:Bool->List TA×List TO:=fun r=>([.sc (.bool r)],[])
theorem ev6:fE S167 6 (aF6 x0 x1 x2) []=(v6 x0 x1 x2).bind (sm rF6):=zE (fun z=>tv6 z x0 x1 x2) (by kernel_rfl) fun K=>by unfold v6 tv6;with_reducible repeat' first|apply zc|exact nB|exact sB
end
end
end Go.Proofs.Ytpfphfobneehmaa
