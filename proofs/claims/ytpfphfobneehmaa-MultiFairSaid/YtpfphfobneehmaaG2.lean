/- What some functions and loops come to: printed and checked. Written by a program of ours. -/
import Derived.Test.YtpfphfobneehmaaG1
set_option linter.all false
set_option maxRecDepth 1000000
set_option maxHeartbeats 4000000
namespace Go.Proofs.Ytpfphfobneehmaa
open Go Go.AM Go.TM Go.Proofs
noncomputable section
section
variable {β:Type} (y:LI->LI->Int->Option β) (z:(Bool ⊕ Unit)->Option β) (x0 x1:LI) (x2:Int)
def qby:Option β:=(cond (decide (x2 < (x0.length:Int))) (ck x2 (x1.length:Int) (cond (List.getD x0 x2.toNat 0 != List.getD x1 x2.toNat 0) (z (.inl (false))) (y x0 x1 (wI (x2+1))))) (z (.inr ())))
def qeq:Option β:=(cond (decide (x2 < (x0.length:Int))) (ck x2 (x0.length:Int) (ck x2 (x1.length:Int) (cond (List.getD x0 x2.toNat 0 != List.getD x1 x2.toNat 0) (z (.inl (false))) (y x0 x1 (wI (x2+1)))))) (z (.inr ())))
def Gl:=itL (fun _ _ _=>none) fun f=>qby f some
theorem qh9 (n:Nat):Gl (n+1)=qby (Gl n) some:=rfl
def qbW:(Bool ⊕ Unit)->Ex×CS:=Sum.elim (fun r=>(.ret,⟨[(4,vB r)],[],[],0,true⟩)) fun r=>((.exit 0),⟨[],[],[],0,false⟩)
abbrev qam:CS:=⟨[(0,vd0 x0),(1,vd0 x1),(5,vI x2)],[],[],0,false⟩
theorem qhH {k m n:Nat} {r:Bool ⊕ Unit} (h:Gl n x0 x1 x2=some r):lE S150 36 0 k (n+m) (qam x0 x1 x2)=some (qbW r):=by
 induction n generalizing x2 with
 |zero=>cases h
 |succ n ih=>
 exact lS (qeq (fun x0 x1 x2=>lE S150 36 0 k (n+m) (qam x0 x1 x2)) (sm qbW) x0 x1 x2) (by kernel_rfl) (by rw [qh9];unfold qby qeq;with_reducible repeat' first|apply gT ‹_›|apply gF ‹_›|(apply zz<;>intro _)|exact ih _|exact nX|exact sX) h
end
def S151:=S150.lp 36 0 (qam [] [] 0) (fun x0 x1 x2=>some (y2 (Gl FU x0 x1 x2) qbW)) (by kernel_rfl) fun _=>w2 fun h=>qhH _ _ _ h
section
variable {β:Type} (z:Bool->Option β) (x0 x1:LI)
def tv36:Option β:=(cond ((x0.length:Int) != (x1.length:Int)) (z false) (cond (isL (Gl FU x0 x1 0)) (z (zx (Gl FU x0 x1 0))) (ob (zB (Gl FU x0 x1 0)) fun _=>(z true))))
def v36:=tv36 some x0 x1
abbrev aF36:List TA:=[.sc (kd0 x0),.sc (kd0 x1)]
abbrev rF36:Bool->List TA×List TO:=fun r=>([.sc (.bool r)],[])
theorem ev36:fE S151 36 (aF36 x0 x1) []=(v36 x0 x1).bind (sm rF36):=zE (fun z=>tv36 z x0 x1) (by kernel_rfl) fun K=>by unfold v36 tv36;with_reducible repeat' first|apply zc|exact nB|exact sB
end
def S152:=S151.fn 36 (aF36 [] []) [] (fun x0 x1=>some (y1 (v36 x0 x1) rF36)) rfl fun _=>w1 fun h=>(ev36 ..).trans (bD h)
section
variable {β:Type} (y:Int->LL->LI->Int->LL->LI->Int->Option β) (z:(Bool ⊕ Unit)->Option β) (x0:Int) (x1:LL) (x2:LI) (x3:Int) (x4:LL) (x5:LI) (x6:Int)
def qbx:Option β:=(cond (decide (x0 < (x1.length:Int))) (ck x0 (x4.length:Int) (ob (v36 (List.getD x1 x0.toNat []) (List.getD x4 x0.toNat [])) fun r1=>(cond (!r1) (z (.inl (false))) (y (wI (x0+1)) x1 x2 x3 x4 x5 x6)))) (z (.inr ())))
def qeg:Option β:=(cond (decide (x0 < (x1.length:Int))) (ck x0 (x1.length:Int) (ck x0 (x4.length:Int) (ob (v36 (List.getD x1 x0.toNat []) (List.getD x4 x0.toNat [])) fun r1=>(cond (!r1) (z (.inl (false))) (y (wI (x0+1)) x1 x2 x3 x4 x5 x6))))) (z (.inr ())))
def Gj:=itL (fun _ _ _ _ _ _ _=>none) fun f=>qbx f some
theorem qh8 (n:Nat):Gj (n+1)=qbx (Gj n) some:=rfl
def qbE:(Bool ⊕ Unit)->Ex×CS:=Sum.elim (fun r=>(.ret,⟨[(4,vB r)],[],[],0,true⟩)) fun r=>((.exit 0),⟨[(2,.l 2 0),(3,.l 3 0),(32,.l 2 0)],[],[],0,false⟩)
abbrev HZ:CS:=⟨[(2,.l 2 0),(3,.l 3 0),(6,vI x0)],[(2,[kd2 x1,kd0 x2,I4 x3]),(3,[kd2 x4,kd0 x5,I4 x6])],[],0,false⟩
theorem qhp {k m n:Nat} {r:Bool ⊕ Unit} (h:Gj n x0 x1 x2 x3 x4 x5 x6=some r):lE S152 16 0 k (n+m) (HZ x0 x1 x2 x3 x4 x5 x6)=some (qbE r):=by
 induction n generalizing x0 with
 |zero=>cases h
 |succ n ih=>
 exact lS (qeg (fun x0 x1 x2 x3 x4 x5 x6=>lE S152 16 0 k (n+m) (HZ x0 x1 x2 x3 x4 x5 x6)) (sm qbE) x0 x1 x2 x3 x4 x5 x6) (by kernel_rfl) (by rw [qh8];unfold qbx qeg;with_reducible repeat' first|apply gT ‹_›|apply gF ‹_›|(apply zz<;>intro _)|exact ih _|exact nX|exact sX) h
end
def S153:=S152.lp 16 0 (HZ 0 [] [] 0 [] [] 0) (fun x0 x1 x2 x3 x4 x5 x6=>some (y2 (Gj FU x0 x1 x2 x3 x4 x5 x6) qbE)) (by kernel_rfl) fun _=>w2 fun h=>qhp _ _ _ _ _ _ _ h
section
variable {β:Type} (z:Bool->Option β) (x0:LL) (x1:LI) (x2:Int) (x3:LL) (x4:LI) (x5:Int)
def tv16:Option β:=(ob (v36 x1 x4) fun r1=>(cond (!r1) (z false) (cond (x2 != x5) (z false) (cond ((x0.length:Int) != (x3.length:Int)) (z false) (cond (isL (Gj FU 0 x0 x1 x2 x3 x4 x5)) (z (zx (Gj FU 0 x0 x1 x2 x3 x4 x5))) (ob (zB (Gj FU 0 x0 x1 x2 x3 x4 x5)) fun _=>(z true)))))))
def v16:=tv16 some x0 x1 x2 x3 x4 x5
abbrev aF16:List TA:=[.agg [kd2 x0,kd0 x1,I4 x2],.agg [kd2 x3,kd0 x4,I4 x5]]
abbrev rF16:Bool->List TA×List TO:=fun r=>([.sc (.bool r)],[])
theorem ev16:fE S153 16 (aF16 x0 x1 x2 x3 x4 x5) []=(v16 x0 x1 x2 x3 x4 x5).bind (sm rF16):=zE (fun z=>tv16 z x0 x1 x2 x3 x4 x5) (by kernel_rfl) fun K=>by unfold v16 tv16;with_reducible repeat' first|apply zc|exact nB|exact sB
end
def S154:=S153.fn 16 (aF16 [] [] 0 [] [] 0) [] (fun x0 x1 x2 x3 x4 x5=>some (y1 (v16 x0 x1 x2 x3 x4 x5) rF16)) rfl fun _=>w1 fun h=>(ev16 ..).trans (bD h)
section
variable {β:Type} (z:Bool->Option β) (x0:LI) (x1:L3) (x2:LL) (x3:LI) (x4:Int)
def tv27:Option β:=(ob (v14 x0 x1 0) fun r1=>(cond (r1.2.2.2==0) (ob (v16 r1.1 r1.2.1 r1.2.2.1 x2 x3 x4) fun r2=>(z r2)) (z false)))
def v27:=tv27 some x0 x1 x2 x3 x4
abbrev aF27:List TA:=[.agg [kd0 x0,kd1 x1],.agg [kd2 x2,kd0 x3,I4 x4]]
abbrev rF27:Bool->List TA×List TO:=fun r=>([.sc (.bool r)],[])
theorem ev27:fE S154 27 (aF27 x0 x1 x2 x3 x4) []=(v27 x0 x1 x2 x3 x4).bind (sm rF27):=zE (fun z=>tv27 z x0 x1 x2 x3 x4) (by kernel_rfl) fun K=>by unfold v27 tv27;with_reducible repeat' first|apply zc|exact nB|exact sB
end
def S155:=S154.fn 27 (aF27 [] [] [] [] 0) [] (fun x0 x1 x2 x3 x4=>some (y1 (v27 x0 x1 x2 x3 x4) rF27)) rfl fun _=>w1 fun h=>(ev27 ..).trans (bD h)
section
variable {β:Type} (z:Bool->Option β) (x0:Bool) (x1 x2 x3 x4 x5 x6:Int) (x7:LL) (x8:LI) (x9:Int)
def SC:Option β:=(cond x0 (cond (x3==0) (cond (x1==(1:Int)) (cond (x2==(4:Int)) (cond (x4==(4:Int)) (cond (x5==(1:Int)) (cond (x6==0) (z (x9==0)) (z false)) (z false)) (z false)) (z false)) (z false)) (z false)) (z false))
def KO (x0:Bool) (x1 x2 x3 x4 x5 x6:Int) (x7:LL) (x8:LI) (x9:Int):Option Bool:=SC some x0 x1 x2 x3 x4 x5 x6 x9
def SJ:Bool->Ex×CS:=fun r=>(.ret,⟨[(0,vB r)],[],[],0,true⟩)
abbrev qdn:CS:=⟨[(4,vB x0),(5,vI x1),(6,vI x2),(7,vI x3),(9,vI x4),(11,vI x5),(12,.l 12 0),(13,vI x6)],[(12,[kd2 x7,kd0 x8,I4 x9])],[],0,false⟩
theorem qfO {k:Nat} {r:Bool}:KO x0 x1 x2 x3 x4 x5 x6 x7 x8 x9=some r->pE S155 10 76 0 k (qdn x0 x1 x2 x3 x4 x5 x6 x7 x8 x9)=some (SJ r):=lP (SC (sm SJ) x0 x1 x2 x3 x4 x5 x6 x9) (by kernel_rfl) (by unfold KO SC;with_reducible repeat' first|apply zd|exact nX|exact sX)
end
def S156:=S155.pc 10 76 0 (qdn false 0 0 0 0 0 0 [] [] 0) (fun x0 x1 x2 x3 x4 x5 x6 x7 x8 x9=>some (y1 (KO x0 x1 x2 x3 x4 x5 x6 x7 x8 x9) SJ)) (by kernel_rfl) rfl fun _=>w1 fun h=>qfO _ _ _ _ _ _ _ _ _ _ h
section
variable {β:Type} (z:Bool->Option β) (x0:Bool) (x1 x2 x3 x4 x5:Int) (x6:LI) (x7:L3)
def SB:Option β:=(ob (v14 x6 x7 (9:Int)) fun r1=>(ob (KO x0 x1 x2 x3 x4 x5 r1.2.2.2 r1.1 r1.2.1 r1.2.2.1) fun r2=>(z r2)))
def KN:=SB some x0 x1 x2 x3 x4 x5 x6 x7
def SI:Bool->Ex×CS:=fun r=>(.ret,⟨[(0,vB r)],[],[],0,true⟩)
abbrev qdm:CS:=⟨[(1,.l 1 0),(4,vB x0),(5,vI x1),(6,vI x2),(7,vI x3),(9,vI x4),(11,vI x5)],[(1,[kd0 x6,kd1 x7])],[],0,false⟩
theorem qfN {k:Nat} {r:Bool}:KN x0 x1 x2 x3 x4 x5 x6 x7=some r->pE S156 10 68 0 k (qdm x0 x1 x2 x3 x4 x5 x6 x7)=some (SI r):=lP (SB (sm SI) x0 x1 x2 x3 x4 x5 x6 x7) (by kernel_rfl) (by unfold KN SB;with_reducible repeat' first|apply zd|exact nX|exact sX)
end
def S157:=S156.pc 10 68 0 (qdm false 0 0 0 0 0 [] []) (fun x0 x1 x2 x3 x4 x5 x6 x7=>some (y1 (KN x0 x1 x2 x3 x4 x5 x6 x7) SI)) (by kernel_rfl) rfl fun _=>w1 fun h=>qfN _ _ _ _ _ _ _ _ h
section
variable {β:Type} (z:Bool->Option β) (x0:Bool) (x1 x2 x3 x4:Int) (x5:LI) (x6:L3)
def SA:Option β:=(ob (v14 x5 x6 (-1:Int)) fun r1=>(ob (KN x0 x1 x2 x3 x4 r1.2.2.2 x5 x6) fun r2=>(z r2)))
def KM:=SA some x0 x1 x2 x3 x4 x5 x6
def SH:Bool->Ex×CS:=fun r=>(.ret,⟨[(0,vB r)],[],[],0,true⟩)
abbrev qdl:CS:=⟨[(1,.l 1 0),(4,vB x0),(5,vI x1),(6,vI x2),(7,vI x3),(9,vI x4)],[(1,[kd0 x5,kd1 x6])],[],0,false⟩
theorem qfM {k:Nat} {r:Bool}:KM x0 x1 x2 x3 x4 x5 x6=some r->pE S157 10 60 0 k (qdl x0 x1 x2 x3 x4 x5 x6)=some (SH r):=lP (SA (sm SH) x0 x1 x2 x3 x4 x5 x6) (by kernel_rfl) (by unfold KM SA;with_reducible repeat' first|apply zd|exact nX|exact sX)
end
def S158:=S157.pc 10 60 0 (qdl false 0 0 0 0 [] []) (fun x0 x1 x2 x3 x4 x5 x6=>some (y1 (KM x0 x1 x2 x3 x4 x5 x6) SH)) (by kernel_rfl) rfl fun _=>w1 fun h=>qfM _ _ _ _ _ _ _ h
section
variable {β:Type} (z:Bool->Option β) (x0:Bool) (x1 x2 x3:Int) (x4:LI) (x5:L3)
def Sz:Option β:=(ob (KM x0 x1 x2 x3 (val (v14 [0] [[[0]]] (5:Int))).2.2.2 x4 x5) fun r1=>(z r1))
def KL:=Sz some x0 x1 x2 x3 x4 x5
def SG:Bool->Ex×CS:=fun r=>(.ret,⟨[(0,vB r)],[],[],0,true⟩)
abbrev qdk:CS:=⟨[(1,.l 1 0),(4,vB x0),(5,vI x1),(6,vI x2),(7,vI x3)],[(1,[kd0 x4,kd1 x5])],[],0,false⟩
theorem qfL {k:Nat} {r:Bool}:KL x0 x1 x2 x3 x4 x5=some r->pE S158 10 52 0 k (qdk x0 x1 x2 x3 x4 x5)=some (SG r):=lP (Sz (sm SG) x0 x1 x2 x3 x4 x5) (by kernel_rfl) (by unfold KL Sz;with_reducible repeat' first|apply zd|exact nX|exact sX)
end
def S159:=S158.pc 10 52 0 (qdk false 0 0 0 [] []) (fun x0 x1 x2 x3 x4 x5=>some (y1 (KL x0 x1 x2 x3 x4 x5) SG)) (by kernel_rfl) rfl fun _=>w1 fun h=>qfL _ _ _ _ _ _ h
section
variable {β:Type} (z:Bool->Option β) (x0:Bool) (x1:LI) (x2:L3) (x3:LI) (x4:L3)
def Sy:Option β:=(ob (v12 x3 x4 [(3:Int),(4:Int)] 0) fun r1=>(ob (KL x0 r1.1 r1.2.1 r1.2.2 x1 x2) fun r2=>(z r2)))
def Gi:=Sy some x0 x1 x2 x3 x4
def SF:Bool->Ex×CS:=fun r=>(.ret,⟨[(0,vB r)],[],[],0,true⟩)
abbrev qdj:CS:=⟨[(1,.l 1 0),(3,.l 3 0),(4,vB x0)],[(1,[kd0 x1,kd1 x2]),(3,[kd0 x3,kd1 x4])],[],0,false⟩
theorem qfK {k:Nat} {r:Bool}:Gi x0 x1 x2 x3 x4=some r->pE S159 10 44 0 k (qdj x0 x1 x2 x3 x4)=some (SF r):=lP (Sy (sm SF) x0 x1 x2 x3 x4) (by kernel_rfl) (by unfold Gi Sy;with_reducible repeat' first|apply zd|exact nX|exact sX)
end
def S160:=S159.pc 10 44 0 (qdj false [] [] [] []) (fun x0 x1 x2 x3 x4=>some (y1 (Gi x0 x1 x2 x3 x4) SF)) (by kernel_rfl) rfl fun _=>w1 fun h=>qfK _ _ _ _ _ h
section
variable {β:Type} (z:Bool->Option β) (x0:LI) (x1:L3) (x2:LI) (x3:L3) (x4:LI) (x5:L3)
def Sx:Option β:=(ob (v27 x0 x1 [[(5000000:Int)],[(5000000:Int)]] [(200000:Int)] 0) fun r1=>(cond r1 (ob (v27 x2 x3 [[(10000000:Int),0]] [(100000:Int),(100000:Int)] (1000000:Int)) fun r2=>(cond r2 (ob (v27 x4 x5 [[0,(4000000:Int)]] [(1000000000000:Int),(250000:Int)] 0) fun r3=>(ob (Gi r3 x0 x1 x4 x5) fun r4=>(z r4))) (ob (Gi false x0 x1 x4 x5) fun r3=>(z r3)))) (ob (Gi false x0 x1 x4 x5) fun r2=>(z r2))))
def HU:=Sx some x0 x1 x2 x3 x4 x5
def SE:Bool->Ex×CS:=fun r=>(.ret,⟨[(0,vB r)],[],[],0,true⟩)
abbrev qdi:CS:=⟨[(1,.l 1 0),(2,.l 2 0),(3,.l 3 0)],[(1,[kd0 x0,kd1 x1]),(2,[kd0 x2,kd1 x3]),(3,[kd0 x4,kd1 x5])],[],0,false⟩
theorem qfJ {k:Nat} {r:Bool}:HU x0 x1 x2 x3 x4 x5=some r->pE S160 10 36 0 k (qdi x0 x1 x2 x3 x4 x5)=some (SE r):=lP (Sx (sm SE) x0 x1 x2 x3 x4 x5) (by kernel_rfl) (by unfold HU Sx;with_reducible repeat' first|apply zd|exact nX|exact sX)
end
def S161:=S160.pc 10 36 0 (qdi [] [] [] [] [] []) (fun x0 x1 x2 x3 x4 x5=>some (y1 (HU x0 x1 x2 x3 x4 x5) SE)) (by kernel_rfl) rfl fun _=>w1 fun h=>qfJ _ _ _ _ _ _ h
section
variable {β:Type} (z:Bool->Option β)
def tv10:Option β:=(z true)
def v10:=tv10 some
abbrev aF10:List TA:=[]
abbrev rF10:Bool->List TA×List TO:=fun r=>([.sc (.bool r)],[])
theorem ev10:fE S161 10 aF10 []=v10.bind (sm rF10):=zE (fun z=>tv10 z) (by kernel_rfl) fun K=>by unfold v10 tv10;with_reducible repeat' first|apply zc|exact nB|exact sB
end
def S162:=S161.fn 10 aF10 [] (some (y1 v10 rF10)) rfl fun _=>w1 fun h=>ev10.trans (bD h)
section
variable {β:Type} (y:Int->LI->L3->Option β) (z:(Bool ⊕ Unit)->Option β) (x0:Int) (x1:LI) (x2:L3)
def J8:Option β:=(cond (decide (x0 < (x1.length:Int))) (cond (decide (0<=x0)) (cond (decide (List.getD x1 x0.toNat 0 < 0)) (z (.inl (false))) (cond (decide (List.getD x1 x0.toNat 0 > (1000:Int))) (z (.inl (false))) (y (wI (x0+1)) x1 x2))) none) (z (.inr ())))
def qem:Option β:=(cond (decide (x0 < (x1.length:Int))) (ck x0 (x1.length:Int) (cond (decide (List.getD x1 x0.toNat 0 < 0)) (z (.inl (false))) (ck x0 (x1.length:Int) (cond (decide (List.getD x1 x0.toNat 0 > (1000:Int))) (z (.inl (false))) (y (wI (x0+1)) x1 x2))))) (z (.inr ())))
def jB:=itL (fun _ _ _=>none) fun f=>J8 f some
theorem qaY (n:Nat):jB (n+1)=J8 (jB n) some:=rfl
def qbK:(Bool ⊕ Unit)->Ex×CS:=Sum.elim (fun r=>(.ret,⟨[(2,vB r)],[],[],0,true⟩)) fun r=>((.exit 0),⟨[(1,.l 1 0),(30,.l 1 0)],[(1,[kd0 x1,kd1 x2])],[],0,false⟩)
abbrev qaa:CS:=⟨[(1,.l 1 0),(3,vI x0)],[(1,[kd0 x1,kd1 x2])],[],0,false⟩
theorem qhv {k m n:Nat} {r:Bool ⊕ Unit} (h:jB n x0 x1 x2=some r):lE S162 24 0 k (n+m) (qaa x0 x1 x2)=some (qbK x1 x2 r):=by
 induction n generalizing x0 with
 |zero=>cases h
 |succ n ih=>
 exact lS (qem (fun x0 x1 x2=>lE S162 24 0 k (n+m) (qaa x0 x1 x2)) (sm (qbK x1 x2)) x0 x1 x2) (by kernel_rfl) (by rw [qaY];unfold J8 qem;with_reducible repeat' first|apply gT ‹_›|apply gF ‹_›|(apply zz<;>intro _)|exact ih _|exact nX|exact sX) h
end
def S163:=S162.lp 24 0 (qaa 0 [] []) (fun x0 x1 x2=>some (y2 (jB FU x0 x1 x2) (qbK x1 x2))) (by kernel_rfl) fun _=>w2 fun h=>qhv _ _ _ h
section
variable {β:Type} (y:LI->Int->Int->Option β) (z:(Bool ⊕ Unit)->Option β) (x0:LI) (x1 x2:Int)
def Kf:Option β:=(cond (decide (x2 < (x0.length:Int))) (cond (decide (0<=x2)) (cond (decide (List.getD x0 x2.toNat 0 < 0)) (z (.inl (false))) (cond (decide (List.getD x0 x2.toNat 0≥x1)) (z (.inl (false))) (cond (decide (x2 > 0)) (ck (wI (x2 - (1:Int))) (x0.length:Int) (cond (decide (List.getD x0 x2.toNat 0<=List.getD x0 (wI (x2 - (1:Int))).toNat 0)) (z (.inl (false))) (y x0 x1 (wI (x2+1))))) (y x0 x1 (wI (x2+1)))))) none) (z (.inr ())))
def qet:Option β:=(cond (decide (x2 < (x0.length:Int))) (ck x2 (x0.length:Int) (cond (decide (List.getD x0 x2.toNat 0 < 0)) (z (.inl (false))) (ck x2 (x0.length:Int) (cond (decide (List.getD x0 x2.toNat 0≥x1)) (z (.inl (false))) (cond (decide (x2 > 0)) (ck x2 (x0.length:Int) (ck (wI (x2 - (1:Int))) (x0.length:Int) (cond (decide (List.getD x0 x2.toNat 0<=List.getD x0 (wI (x2 - (1:Int))).toNat 0)) (z (.inl (false))) (y x0 x1 (wI (x2+1)))))) (y x0 x1 (wI (x2+1)))))))) (z (.inr ())))
def gy:=itL (fun _ _ _=>none) fun f=>Kf f some
theorem qbe (n:Nat):gy (n+1)=Kf (gy n) some:=rfl
def qb1:(Bool ⊕ Unit)->Ex×CS:=Sum.elim (fun r=>(.ret,⟨[(4,vB r)],[],[],0,true⟩)) fun r=>((.exit 0),⟨[(0,vd0 x0)],[],[],0,false⟩)
abbrev qar:CS:=⟨[(0,vd0 x0),(1,vI x1),(5,vI x2)],[],[],0,false⟩
theorem qhM {k m n:Nat} {r:Bool ⊕ Unit} (h:gy n x0 x1 x2=some r):lE S163 42 0 k (n+m) (qar x0 x1 x2)=some (qb1 x0 r):=by
 induction n generalizing x2 with
 |zero=>cases h
 |succ n ih=>
 exact lS (qet (fun x0 x1 x2=>lE S163 42 0 k (n+m) (qar x0 x1 x2)) (sm (qb1 x0)) x0 x1 x2) (by kernel_rfl) (by rw [qbe];unfold Kf qet;with_reducible repeat' first|apply gT ‹_›|apply gF ‹_›|(apply zz<;>intro _)|exact ih _|exact nX|exact sX) h
end
def S164:=S163.lp 42 0 (qar [] 0 0) (fun x0 x1 x2=>some (y2 (gy FU x0 x1 x2) (qb1 x0))) (by kernel_rfl) fun _=>w2 fun h=>qhM _ _ _ h
section
variable {β:Type} (z:Bool->Option β) (x0:LI) (x1:Int)
def tv42:Option β:=(cond (isL (gy FU x0 x1 0)) (z (zx (gy FU x0 x1 0))) (ob (zB (gy FU x0 x1 0)) fun _=>(cond (decide ((x0.length:Int)≥(1:Int))) (z (decide ((x0.length:Int)<=(6:Int)))) (z false))))
def v42:=tv42 some x0 x1
abbrev aF42:List TA:=[.sc (kd0 x0),.sc (I4 x1)]
abbrev rF42:Bool->List TA×List TO:=fun r=>([.sc (.bool r)],[])
theorem ev42:fE S164 42 (aF42 x0 x1) []=(v42 x0 x1).bind (sm rF42):=zE (fun z=>tv42 z x0 x1) (by kernel_rfl) fun K=>by unfold v42 tv42;with_reducible repeat' first|apply zc|exact nB|exact sB
end
def S165:=S164.fn 42 (aF42 [] 0) [] (fun x0 x1=>some (y1 (v42 x0 x1) rF42)) rfl fun _=>w1 fun h=>(ev42 ..).trans (bD h)
section
variable {β:Type} (y:Int->LL->Int->LI->L3->Option β) (z:(Bool ⊕ Unit)->Option β) (x0:Int) (x1:LL) (x2:Int) (x3:LI) (x4:L3)
def Jh:Option β:=(cond (decide (x2 < (x1.length:Int))) (cond (decide (0<=x2)) (ob (v42 (List.getD x1 x2.toNat []) (x3.length:Int)) fun r1=>(cond (!r1) (z (.inl (false))) (y x0 x1 (wI (x2+1)) x3 x4))) none) (z (.inr ())))
def qdR:Option β:=(cond (decide (x2 < (x1.length:Int))) (ck x2 (x1.length:Int) (ob (v42 (List.getD x1 x2.toNat []) (x3.length:Int)) fun r1=>(cond (!r1) (z (.inl (false))) (y x0 x1 (wI (x2+1)) x3 x4)))) (z (.inr ())))
def qI:=itL (fun _ _ _ _ _=>none) fun f=>Jh f some
theorem D8 (n:Nat):qI (n+1)=Jh (qI n) some:=rfl
def Hb:(Bool ⊕ Unit)->Ex×CS:=Sum.elim (fun r=>(.ret,⟨[(2,vB r)],[],[],0,true⟩)) fun r=>((.exit 4),⟨[(1,.l 1 0),(4,vI x0)],[(1,[kd0 x3,kd1 x4])],[],0,false⟩)
abbrev Dy:CS:=⟨[(1,.l 1 0),(4,vI x0),(5,vd1 x1),(6,vI x2)],[(1,[kd0 x3,kd1 x4])],[],0,false⟩
theorem qf4 {k m n:Nat} {r:Bool ⊕ Unit} (h:qI n x0 x1 x2 x3 x4=some r):lE S165 24 4 k (n+m) (Dy x0 x1 x2 x3 x4)=some (Hb x0 x3 x4 r):=by
 induction n generalizing x2 with
 |zero=>cases h
 |succ n ih=>
 exact lS (qdR (fun x0 x1 x2 x3 x4=>lE S165 24 4 k (n+m) (Dy x0 x1 x2 x3 x4)) (sm (Hb x0 x3 x4)) x0 x1 x2 x3 x4) (by kernel_rfl) (by rw [D8];unfold Jh qdR;with_reducible repeat' first|apply gT ‹_›|apply gF ‹_›|(apply zz<;>intro _)|exact ih _|exact nX|exact sX) h
end
def S166:=S165.lp 24 4 (Dy 0 [] 0 [] []) (fun x0 x1 x2 x3 x4=>some (y2 (qI FU x0 x1 x2 x3 x4) (Hb x0 x3 x4))) (by kernel_rfl) fun _=>w2 fun h=>qf4 _ _ _ _ _ h
section
variable {β:Type} (y:Int->LI->L3->Option β) (z:(Bool ⊕ Unit)->Option β) (x0:Int) (x1:LI) (x2:L3)
def Jg:Option β:=(cond (decide (x0 < (x2.length:Int))) (cond (decide (0<=x0)) (cond (decide ((↑(List.length (List.getD x2 x0.toNat [])):Int) < (1:Int))) (z (.inl (false))) (cond (decide ((↑(List.length (List.getD x2 x0.toNat [])):Int) > (4:Int))) (z (.inl (false))) (cond (isL (qI FU x0 (List.getD x2 x0.toNat []) 0 x1 x2)) (z (.inl (zx (qI FU x0 (List.getD x2 x0.toNat []) 0 x1 x2)))) (ob (zB (qI FU x0 (List.getD x2 x0.toNat []) 0 x1 x2)) fun _=>(y (wI (x0+1)) x1 x2))))) none) (z (.inr ())))
def qdQ:Option β:=(cond (decide (x0 < (x2.length:Int))) (ck x0 (x2.length:Int) (cond (decide ((↑(List.length (List.getD x2 x0.toNat [])):Int) < (1:Int))) (z (.inl (false))) (cond (decide ((↑(List.length (List.getD x2 x0.toNat [])):Int) > (4:Int))) (z (.inl (false))) (cond (isL (qI FU x0 (List.getD x2 x0.toNat []) 0 x1 x2)) (z (.inl (zx (qI FU x0 (List.getD x2 x0.toNat []) 0 x1 x2)))) (ob (zB (qI FU x0 (List.getD x2 x0.toNat []) 0 x1 x2)) fun _=>(y (wI (x0+1)) x1 x2)))))) (z (.inr ())))
def qY:=itL (fun _ _ _=>none) fun f=>Jg f some
theorem D7 (n:Nat):qY (n+1)=Jg (qY n) some:=rfl
def Ha:(Bool ⊕ Unit)->Ex×CS:=Sum.elim (fun r=>(.ret,⟨[(2,vB r)],[],[],0,true⟩)) fun r=>((.exit 2),⟨[(1,.l 1 0),(51,.l 1 1)],[],[],0,false⟩)
abbrev Dx:CS:=⟨[(1,.l 1 0),(4,vI x0)],[(1,[kd0 x1,kd1 x2])],[],0,false⟩
theorem qf3 {k m n:Nat} {r:Bool ⊕ Unit} (h:qY n x0 x1 x2=some r):lE S166 24 2 k (n+m) (Dx x0 x1 x2)=some (Ha r):=by
 induction n generalizing x0 with
 |zero=>cases h
 |succ n ih=>
 exact lS (qdQ (fun x0 x1 x2=>lE S166 24 2 k (n+m) (Dx x0 x1 x2)) (sm Ha) x0 x1 x2) (by kernel_rfl) (by rw [D7];unfold Jg qdQ;with_reducible repeat' first|apply gT ‹_›|apply gF ‹_›|(apply zz<;>intro _)|exact ih _|exact nX|exact sX) h
end
def S167:=S166.lp 24 2 (Dx 0 [] []) (fun x0 x1 x2=>some (y2 (qY FU x0 x1 x2) Ha)) (by kernel_rfl) fun _=>w2 fun h=>qf3 _ _ _ h
section
variable {β:Type} (z:Bool->Option β) (x0:LI) (x1:L3)
def tv24:Option β:=(cond (decide ((x0.length:Int) < (1:Int))) (z false) (cond (decide ((x0.length:Int) > (8:Int))) (z false) (cond (decide ((x1.length:Int) < (1:Int))) (z false) (cond (decide ((x1.length:Int) > (8:Int))) (z false) (cond (isL (jB FU 0 x0 x1)) (z (zx (jB FU 0 x0 x1))) (ob (zB (jB FU 0 x0 x1)) fun _=>(cond (isL (qY FU 0 x0 x1)) (z (zx (qY FU 0 x0 x1))) (ob (zB (qY FU 0 x0 x1)) fun _=>(z true)))))))))
def v24:=tv24 some x0 x1
abbrev aF24:List TA:=[.agg [kd0 x0,kd1 x1]]
abbrev rF24:Bool->List TA×List TO:=fun r=>([.sc (.bool r)],[])
theorem ev24:fE S167 24 (aF24 x0 x1) []=(v24 x0 x1).bind (sm rF24):=zE (fun z=>tv24 z x0 x1) (by kernel_rfl) fun K=>by unfold v24 tv24;with_reducible repeat' first|apply zc|exact nB|exact sB
end
def S168:=S167.fn 24 (aF24 [] []) [] (fun x0 x1=>some (y1 (v24 x0 x1) rF24)) rfl fun _=>w1 fun h=>(ev24 ..).trans (bD h)
section
variable {β:Type} (y:LI->Int->LI->L3->Option β) (z:(Bool ⊕ Unit)->Option β) (x0:LI) (x1:Int) (x2:LI) (x3:L3)
def Kk:Option β:=(cond (decide (x1 < (x0.length:Int))) (cond (decide (0<=x1)) (ck (List.getD x0 x1.toNat 0) (x2.length:Int) (cond (List.getD x2 (List.getD x0 x1.toNat 0).toNat 0==0) (z (.inl (false))) (y x0 (wI (x1+1)) x2 x3))) none) (z (.inr ())))
def qey:Option β:=(cond (decide (x1 < (x0.length:Int))) (ck x1 (x0.length:Int) (ck (List.getD x0 x1.toNat 0) (x2.length:Int) (cond (List.getD x2 (List.getD x0 x1.toNat 0).toNat 0==0) (z (.inl (false))) (y x0 (wI (x1+1)) x2 x3)))) (z (.inr ())))
def jG:=itL (fun _ _ _ _=>none) fun f=>Kk f some
theorem qbl (n:Nat):jG (n+1)=Kk (jG n) some:=rfl
def qb9:(Bool ⊕ Unit)->Ex×CS:=Sum.elim (fun r=>(.ret,⟨[(4,vB r)],[],[],0,true⟩)) fun r=>((.exit 0),⟨[(2,.l 2 0)],[],[],0,false⟩)
abbrev qay:CS:=⟨[(1,vd0 x0),(2,.l 2 0),(5,vI x1)],[(2,[kd0 x2,kd1 x3])],[],0,false⟩
theorem qhU {k m n:Nat} {r:Bool ⊕ Unit} (h:jG n x0 x1 x2 x3=some r):lE S168 62 0 k (n+m) (qay x0 x1 x2 x3)=some (qb9 r):=by
 induction n generalizing x1 with
 |zero=>cases h
 |succ n ih=>
 exact lS (qey (fun x0 x1 x2 x3=>lE S168 62 0 k (n+m) (qay x0 x1 x2 x3)) (sm qb9) x0 x1 x2 x3) (by kernel_rfl) (by rw [qbl];unfold Kk qey;with_reducible repeat' first|apply gT ‹_›|apply gF ‹_›|(apply zz<;>intro _)|exact ih _|exact nX|exact sX) h
end
def S169:=S168.lp 62 0 (qay [] 0 [] []) (fun x0 x1 x2 x3=>some (y2 (jG FU x0 x1 x2 x3) qb9)) (by kernel_rfl) fun _=>w2 fun h=>qhU _ _ _ _ h
section
variable {β:Type} (z:Bool->Option β) (x0:LI) (x1:L3) (x2:LI)
def tv62:Option β:=(cond (isL (jG FU x2 0 x0 x1)) (z (zx (jG FU x2 0 x0 x1))) (ob (zB (jG FU x2 0 x0 x1)) fun _=>(z true)))
def v62:=tv62 some x0 x1 x2
abbrev aF62:List TA:=[.agg [kd0 x0,kd1 x1],.sc (kd0 x2)]
abbrev rF62:Bool->List TA×List TO:=fun r=>([.sc (.bool r)],[])
theorem ev62:fE S169 62 (aF62 x0 x1 x2) []=(v62 x0 x1 x2).bind (sm rF62):=zE (fun z=>tv62 z x0 x1 x2) (by kernel_rfl) fun K=>by unfold v62 tv62;with_reducible repeat' first|apply zc|exact nB|exact sB
end
def S170:=S169.fn 62 (aF62 [] [] []) [] (fun x0 x1 x2=>some (y1 (v62 x0 x1 x2) rF62)) rfl fun _=>w1 fun h=>(ev62 ..).trans (bD h)
section
variable {β:Type} (y:Int->Int->Int->LI->L3->Option β) (z:Int->Option β) (x0 x1 x2:Int) (x3:LI) (x4:L3)
def Kb:Option β:=(ck x0 (x4.length:Int) (cond (decide (x2 < (↑(List.length (List.getD x4 x0.toNat [])):Int))) (cond (decide (0<=x2)) (ob (v62 x3 x4 (List.getD (List.getD x4 x0.toNat []) x2.toNat [])) fun r1=>(cond r1 (cond (decide (x1 < 0)) (y x0 x2 (wI (x2+1)) x3 x4) (ck x1 (↑(List.length (List.getD x4 x0.toNat [])):Int) (cond (decide ((↑(List.length (List.getD (List.getD x4 x0.toNat []) x2.toNat [])):Int) < (↑(List.length (List.getD (List.getD x4 x0.toNat []) x1.toNat [])):Int))) (y x0 x2 (wI (x2+1)) x3 x4) (y x0 x1 (wI (x2+1)) x3 x4)))) (y x0 x1 (wI (x2+1)) x3 x4))) none) (z x1)))
def qep:Option β:=(ck x0 (x4.length:Int) (cond (decide (x2 < (↑(List.length (List.getD x4 x0.toNat [])):Int))) (ck x0 (x4.length:Int) (ck x2 (↑(List.length (List.getD x4 x0.toNat [])):Int) (ob (v62 x3 x4 (List.getD (List.getD x4 x0.toNat []) x2.toNat [])) fun r1=>(cond r1 (cond (decide (x1 < 0)) (y x0 x2 (wI (x2+1)) x3 x4) (ck x0 (x4.length:Int) (ck x1 (↑(List.length (List.getD x4 x0.toNat [])):Int) (cond (decide ((↑(List.length (List.getD (List.getD x4 x0.toNat []) x2.toNat [])):Int) < (↑(List.length (List.getD (List.getD x4 x0.toNat []) x1.toNat [])):Int))) (y x0 x2 (wI (x2+1)) x3 x4) (y x0 x1 (wI (x2+1)) x3 x4))))) (y x0 x1 (wI (x2+1)) x3 x4))))) (z x1)))
def j5:=itL (fun _ _ _ _ _=>none) fun f=>Kb f some
theorem qa9 (n:Nat):j5 (n+1)=Kb (j5 n) some:=rfl
def qbV:Int->Ex×CS:=fun r=>((.exit 0),⟨[(2,.l 2 0),(5,vI r),(10,.l 2 1)],[],[],0,false⟩)
abbrev qal:CS:=⟨[(1,vI x0),(2,.l 2 0),(5,vI x1),(6,vI x2)],[(2,[kd0 x3,kd1 x4])],[],0,false⟩
theorem qhG {k m n:Nat} {r:Int} (h:j5 n x0 x1 x2 x3 x4=some r):lE S170 35 0 k (n+m) (qal x0 x1 x2 x3 x4)=some (qbV r):=by
 induction n generalizing x1 x2 with
 |zero=>cases h
 |succ n ih=>
 exact lS (qep (fun x0 x1 x2 x3 x4=>lE S170 35 0 k (n+m) (qal x0 x1 x2 x3 x4)) (sm qbV) x0 x1 x2 x3 x4) (by kernel_rfl) (by rw [qa9];unfold Kb qep;with_reducible repeat' first|apply gT ‹_›|apply gF ‹_›|(apply zz<;>intro _)|exact ih _ _|exact nX|exact sX) h
end
def S171:=S170.lp 35 0 (qal 0 0 0 [] []) (fun x0 x1 x2 x3 x4=>some (y1 (j5 FU x0 x1 x2 x3 x4) qbV)) (by kernel_rfl) fun _=>w1 fun h=>qhG _ _ _ _ _ h
section
variable {β:Type} (z:Int->Option β) (x0:LI) (x1:L3) (x2:Int)
def tv35:Option β:=(ob (j5 FU x2 (-1:Int) 0 x0 x1) fun r1=>(z r1))
def v35:=tv35 some x0 x1 x2
abbrev aF35:List TA:=[.agg [kd0 x0,kd1 x1],.sc (I4 x2)]
abbrev rF35:Int->List TA×List TO:=fun r=>([.sc (I4 r)],[])
theorem ev35:fE S171 35 (aF35 x0 x1 x2) []=(v35 x0 x1 x2).bind (sm rF35):=zE (fun z=>tv35 z x0 x1 x2) (by kernel_rfl) fun K=>by unfold v35 tv35;with_reducible repeat' first|apply zc|exact nB|exact sB
end
def S172:=S171.fn 35 (aF35 [] [] 0) [] (fun x0 x1 x2=>some (y1 (v35 x0 x1 x2) rF35)) rfl fun _=>w1 fun h=>(ev35 ..).trans (bD h)
section
variable {β:Type} (y:Int->LI->L3->Int->LL->LI->Option β) (z:((Int × Int) ⊕ Unit)->Option β) (x0:Int) (x1:LI) (x2:L3) (x3:Int) (x4:LL) (x5:LI)
def Gv:Option β:=(cond (decide (x0 < (x2.length:Int))) (ob (v35 x1 x2 x0) fun r1=>(cond (decide (r1 < 0)) (z (.inl ((4:Int),0))) (y (wI (x0+1)) x1 x2 x3 x4 x5))) (z (.inr ())))
def jb:=itL (fun _ _ _ _ _ _=>none) fun f=>Gv f some
theorem qaS (n:Nat):jb (n+1)=Gv (jb n) some:=rfl
def qbD:((Int×Int) ⊕ Unit)->Ex×CS:=Sum.elim (fun r=>(.ret,⟨[(4,.l 4 0),(5,vI r.1)],[(4,[.nil,.nil,I4 r.2])],[],0,true⟩)) fun r=>((.exit 0),⟨[(2,.l 2 0),(4,.l 4 0),(22,.l 2 1)],[(2,[kd0 x1,kd1 x2]),(4,[.g 0,.g 1,I4 x3])],[rd1 x4,rd0 x5],0,false⟩)
abbrev HY:CS:=⟨[(2,.l 2 0),(4,.l 4 0),(7,vI x0)],[(2,[kd0 x1,kd1 x2]),(4,[.g 0,.g 1,I4 x3])],[rd1 x4,rd0 x5],0,false⟩
theorem qho {k m n:Nat} {r:(Int×Int) ⊕ Unit} (h:jb n x0 x1 x2 x3 x4 x5=some r):lE S172 15 0 k (n+m) (HY x0 x1 x2 x3 x4 x5)=some (qbD x1 x2 x3 x4 x5 r):=by
 induction n generalizing x0 with
 |zero=>cases h
 |succ n ih=>
 exact lS (Gv (fun x0 x1 x2 x3 x4 x5=>lE S172 15 0 k (n+m) (HY x0 x1 x2 x3 x4 x5)) (sm (qbD x1 x2 x3 x4 x5)) x0 x1 x2 x3 x4 x5) (by kernel_rfl) (by rw [qaS];unfold Gv;with_reducible repeat' first|apply zd|exact ih _|exact nX|exact sX) h
end
def S173:=S172.lp 15 0 (HY 0 [] [] 0 [] []) (fun x0 x1 x2 x3 x4 x5=>some (y2 (jb FU x0 x1 x2 x3 x4 x5) (qbD x1 x2 x3 x4 x5))) (by kernel_rfl) fun _=>w2 fun h=>qho _ _ _ _ _ _ h
section
variable {β:Type} (y:Int->LI->Int->LI->L3->Int->LI->LL->LI->Option β) (z:LI->Option β) (x0:Int) (x1:LI) (x2:Int) (x3:LI) (x4:L3) (x5:Int) (x6:LI) (x7:LL) (x8:LI)
def Ja:Option β:=(cond (decide (x2 < (x1.length:Int))) (cond (decide (0<=x2)) (ck (List.getD x1 x2.toNat 0) (x6.length:Int) (cond (decide ((List.getD x1 x2.toNat 0).toNat < List.length x6)) (cond (decide ((x1.length:Int)≠0)) (y x0 x1 (wI (x2+1)) x3 x4 x5 (List.set x6 (List.getD x1 x2.toNat 0).toNat (wI (List.getD x6 (List.getD x1 x2.toNat 0).toNat 0+wI (Int.tdiv (1000000000:Int) (x1.length:Int))))) x7 x8) none) none)) none) (z x6))
def qdK:Option β:=(cond (decide (x2 < (x1.length:Int))) (ck x2 (x1.length:Int) (ck x2 (x1.length:Int) (ck (List.getD x1 x2.toNat 0) (x6.length:Int) (cond (decide ((List.getD x1 x2.toNat 0).toNat < List.length x6)) (cond (decide ((x1.length:Int)≠0)) (ck (List.getD x1 x2.toNat 0) (x6.length:Int) (cond (decide ((List.getD x1 x2.toNat 0).toNat < List.length x6)) (y x0 x1 (wI (x2+1)) x3 x4 x5 (List.set x6 (List.getD x1 x2.toNat 0).toNat (wI (List.getD x6 (List.getD x1 x2.toNat 0).toNat 0+wI (Int.tdiv (1000000000:Int) (x1.length:Int))))) x7 x8) none)) none) none)))) (z x6))
def qQ:=itL (fun _ _ _ _ _ _ _ _ _=>none) fun f=>Ja f some
theorem D0 (n:Nat):qQ (n+1)=Ja (qQ n) some:=rfl
def SS:LI->Ex×CS:=fun r=>((.exit 2),⟨[(1,.l 1 0),(2,.l 2 0),(3,vG 0),(4,vI x0)],[(1,[kd0 x3,kd1 x4]),(2,[.g 1,.g 2,I4 x5])],[rd0 r,rd1 x7,rd0 x8],0,false⟩)
abbrev Dq:CS:=⟨[(1,.l 1 0),(2,.l 2 0),(3,vG 0),(4,vI x0),(5,vd0 x1),(6,vI x2)],[(1,[kd0 x3,kd1 x4]),(2,[.g 1,.g 2,I4 x5])],[rd0 x6,rd1 x7,rd0 x8],0,false⟩
theorem qfW {k m n:Nat} {r:LI} (h:qQ n x0 x1 x2 x3 x4 x5 x6 x7 x8=some r):lE S173 18 2 k (n+m) (Dq x0 x1 x2 x3 x4 x5 x6 x7 x8)=some (SS x0 x3 x4 x5 x7 x8 r):=by
 induction n generalizing x2 x6 with
 |zero=>cases h
 |succ n ih=>
 exact lS (qdK (fun x0 x1 x2 x3 x4 x5 x6 x7 x8=>lE S173 18 2 k (n+m) (Dq x0 x1 x2 x3 x4 x5 x6 x7 x8)) (sm (SS x0 x3 x4 x5 x7 x8)) x0 x1 x2 x3 x4 x5 x6 x7 x8) (by kernel_rfl) (by rw [D0];unfold Ja qdK;with_reducible repeat' first|apply gT ‹_›|apply gF ‹_›|(apply zz<;>intro _)|exact ih _ _|exact nX|exact sX) h
end
def S174:=S173.lp 18 2 (Dq 0 [] 0 [] [] 0 [] [] []) (fun x0 x1 x2 x3 x4 x5 x6 x7 x8=>some (y1 (qQ FU x0 x1 x2 x3 x4 x5 x6 x7 x8) (SS x0 x3 x4 x5 x7 x8))) (by kernel_rfl) fun _=>w1 fun h=>qfW _ _ _ _ _ _ _ _ _ h
section
variable {β:Type} (y:Int->LI->L3->Int->LI->LL->LI->Option β) (z:LI->Option β) (x0:Int) (x1:LI) (x2:L3) (x3:Int) (x4:LI) (x5:LL) (x6:LI)
def JY:Option β:=(cond (decide (x0 < (x2.length:Int))) (cond (decide (0<=x0)) (ob (v35 x1 x2 x0) fun r1=>(ck r1 (↑(List.length (List.getD x2 x0.toNat [])):Int) (ob (qQ FU x0 (List.getD (List.getD x2 x0.toNat []) r1.toNat []) 0 x1 x2 x3 x4 x5 x6) fun r2=>(y (wI (x0+1)) x1 x2 x3 r2 x5 x6)))) none) (z x4))
def qeh:Option β:=(cond (decide (x0 < (x2.length:Int))) (ck x0 (x2.length:Int) (ob (v35 x1 x2 x0) fun r1=>(ck r1 (↑(List.length (List.getD x2 x0.toNat [])):Int) (ob (qQ FU x0 (List.getD (List.getD x2 x0.toNat []) r1.toNat []) 0 x1 x2 x3 x4 x5 x6) fun r2=>(y (wI (x0+1)) x1 x2 x3 r2 x5 x6))))) (z x4))
def jQ:=itL (fun _ _ _ _ _ _ _=>none) fun f=>JY f some
theorem qaT (n:Nat):jQ (n+1)=JY (jQ n) some:=rfl
def qbF:LI->Ex×CS:=fun r=>((.exit 0),⟨[(1,.l 1 0),(2,.l 2 0),(3,vG 0),(25,.l 1 1)],[(1,[kd0 x1,kd1 x2]),(2,[.g 1,.g 2,I4 x3])],[rd0 r,rd1 x5,rd0 x6],0,false⟩)
abbrev H5:CS:=⟨[(1,.l 1 0),(2,.l 2 0),(3,vG 0),(4,vI x0)],[(1,[kd0 x1,kd1 x2]),(2,[.g 1,.g 2,I4 x3])],[rd0 x4,rd1 x5,rd0 x6],0,false⟩
theorem qhq {k m n:Nat} {r:LI} (h:jQ n x0 x1 x2 x3 x4 x5 x6=some r):lE S174 18 0 k (n+m) (H5 x0 x1 x2 x3 x4 x5 x6)=some (qbF x1 x2 x3 x5 x6 r):=by
 induction n generalizing x0 x4 with
 |zero=>cases h
 |succ n ih=>
 exact lS (qeh (fun x0 x1 x2 x3 x4 x5 x6=>lE S174 18 0 k (n+m) (H5 x0 x1 x2 x3 x4 x5 x6)) (sm (qbF x1 x2 x3 x5 x6)) x0 x1 x2 x3 x4 x5 x6) (by kernel_rfl) (by rw [qaT];unfold JY qeh;with_reducible repeat' first|apply gT ‹_›|apply gF ‹_›|(apply zz<;>intro _)|exact ih _ _|exact nX|exact sX) h
end
def S175:=S174.lp 18 0 (H5 0 [] [] 0 [] [] []) (fun x0 x1 x2 x3 x4 x5 x6=>some (y1 (jQ FU x0 x1 x2 x3 x4 x5 x6) (qbF x1 x2 x3 x5 x6))) (by kernel_rfl) fun _=>w1 fun h=>qhq _ _ _ _ _ _ _ h
section
variable {β:Type} (y:Int->Int->LI->L3->Int->LI->LL->LI->Option β) (z:Int->Option β) (x0 x1:Int) (x2:LI) (x3:L3) (x4:Int) (x5:LI) (x6:LL) (x7:LI)
def Jb:Option β:=(cond (decide (x1 < (x5.length:Int))) (cond (decide (0<=x1)) (cond (decide (x1.toNat < List.length x5)) (cond (decide (List.getD x5 x1.toNat 0 > 0)) (cond (decide (x0 < 0)) (y x1 (wI (x1+1)) x2 x3 x4 x5 x6 x7) (cond (decide (x1 < (x2.length:Int))) (ck x0 (x5.length:Int) (cond (decide (x0.toNat < List.length x5)) (cond (decide (x0 < (x2.length:Int))) (cond (decide (wI (List.getD x2 x1.toNat 0*List.getD x5 x0.toNat 0) < wI (List.getD x2 x0.toNat 0*List.getD x5 x1.toNat 0))) (y x1 (wI (x1+1)) x2 x3 x4 x5 x6 x7) (y x0 (wI (x1+1)) x2 x3 x4 x5 x6 x7)) none) none)) none)) (y x0 (wI (x1+1)) x2 x3 x4 x5 x6 x7)) none) none) (z x0))
def qdL:Option β:=(cond (decide (x1 < (x5.length:Int))) (ck x1 (x5.length:Int) (cond (decide (x1.toNat < List.length x5)) (cond (decide (List.getD x5 x1.toNat 0 > 0)) (cond (decide (x0 < 0)) (y x1 (wI (x1+1)) x2 x3 x4 x5 x6 x7) (ck x1 (x2.length:Int) (ck x0 (x5.length:Int) (cond (decide (x0.toNat < List.length x5)) (ck x0 (x2.length:Int) (ck x1 (x5.length:Int) (cond (decide (x1.toNat < List.length x5)) (cond (decide (wI (List.getD x2 x1.toNat 0*List.getD x5 x0.toNat 0) < wI (List.getD x2 x0.toNat 0*List.getD x5 x1.toNat 0))) (y x1 (wI (x1+1)) x2 x3 x4 x5 x6 x7) (y x0 (wI (x1+1)) x2 x3 x4 x5 x6 x7)) none))) none)))) (y x0 (wI (x1+1)) x2 x3 x4 x5 x6 x7)) none)) (z x0))
def jg:=itL (fun _ _ _ _ _ _ _ _=>none) fun f=>Jb f some
theorem D1 (n:Nat):jg (n+1)=Jb (jg n) some:=rfl
def ST:Int->Ex×CS:=fun r=>((.exit 4),⟨[(1,.l 1 0),(2,.l 2 0),(3,vG 0),(7,vI r)],[(1,[kd0 x2,kd1 x3]),(2,[.g 1,.g 2,I4 x4])],[rd0 x5,rd1 x6,rd0 x7],0,false⟩)
abbrev Dr:CS:=⟨[(1,.l 1 0),(2,.l 2 0),(3,vG 0),(7,vI x0),(8,vI x1)],[(1,[kd0 x2,kd1 x3]),(2,[.g 1,.g 2,I4 x4])],[rd0 x5,rd1 x6,rd0 x7],0,false⟩
theorem qfX {k m n:Nat} {r:Int} (h:jg n x0 x1 x2 x3 x4 x5 x6 x7=some r):lE S175 18 4 k (n+m) (Dr x0 x1 x2 x3 x4 x5 x6 x7)=some (ST x2 x3 x4 x5 x6 x7 r):=by
 induction n generalizing x0 x1 with
 |zero=>cases h
 |succ n ih=>
 exact lS (qdL (fun x0 x1 x2 x3 x4 x5 x6 x7=>lE S175 18 4 k (n+m) (Dr x0 x1 x2 x3 x4 x5 x6 x7)) (sm (ST x2 x3 x4 x5 x6 x7)) x0 x1 x2 x3 x4 x5 x6 x7) (by kernel_rfl) (by rw [D1];unfold Jb qdL;with_reducible repeat' first|apply gT ‹_›|apply gF ‹_›|(apply zz<;>intro _)|exact ih _ _|exact nX|exact sX) h
end
def S176:=S175.lp 18 4 (Dr 0 0 [] [] 0 [] [] []) (fun x0 x1 x2 x3 x4 x5 x6 x7=>some (y1 (jg FU x0 x1 x2 x3 x4 x5 x6 x7) (ST x2 x3 x4 x5 x6 x7))) (by kernel_rfl) fun _=>w1 fun h=>qfX _ _ _ _ _ _ _ _ h
section
variable {β:Type} (z:(Int × LL)->Option β) (x0 x1 x2:Int) (x3:LI) (x4 x5:Int) (x6:LI) (x7:L3) (x8 x9:Int) (x10:LI) (x11:LL) (x12:LI) (x13:LL) (x14:LI)
def KU:Option β:=(cond (decide (List.length x13+List.length [x3]<=nat_lit 2147483648)) (ck x4 (x3.length:Int) (cond (decide (wI (x5*List.getD x3 x4.toNat 0)≠0)) (z (max x1 (wI (Int.tdiv (wI (wI ((1000000000000:Int)+wI (x5*List.getD x3 x4.toNat 0)) - (1:Int))) (wI (x5*List.getD x3 x4.toNat 0)))),x13++[x3])) none)) none)
def qc4:Option β:=(cond (decide (List.length x13+List.length [x3]<=nat_lit 2147483648)) (ck x4 (x3.length:Int) (ck x4 (x3.length:Int) (cond (decide (wI (x5*List.getD x3 x4.toNat 0)≠0)) (z (max x1 (wI (Int.tdiv (wI (wI ((1000000000000:Int)+wI (x5*List.getD x3 x4.toNat 0)) - (1:Int))) (wI (x5*List.getD x3 x4.toNat 0)))),x13++[x3])) none))) none)
def gp (x0 x1 x2:Int) (x3:LI) (x4 x5:Int) (x6:LI) (x7:L3) (x8 x9:Int) (x10:LI) (x11:LL) (x12:LI) (x13:LL) (x14:LI):Option (Int×LL):=KU some x1 x3 x4 x5 x13
def K6:(Int×LL)->Ex×CS:=fun r=>(.normal,⟨[(1,.l 1 0),(2,.l 2 0),(3,vG 0),(7,vI x0),(9,.l 9 0),(10,vI r.1),(11,vI x2),(104,.l 1 1),(110,.l 1 1),(120,.l 1 1),(133,.l 1 0),(146,.l 9 0),(149,.s 149 1),(151,.l 9 0)],[(1,[kd0 x6,kd1 x7]),(2,[.g 1,.g 2,I4 x8]),(9,[.g 3,.g 4,I4 x9])],[rd0 x10,rd1 x11,rd0 x12,rd1 r.2,rd0 x14],0,false⟩)
abbrev qco:CS:=⟨[(1,.l 1 0),(2,.l 2 0),(3,vG 0),(7,vI x0),(9,.l 9 0),(10,vI x1),(11,vI x2),(12,vd0 x3),(13,vI x4),(14,vI x5),(104,.l 1 1),(110,.l 1 1),(120,.l 1 1),(133,.l 1 0)],[(1,[kd0 x6,kd1 x7]),(2,[.g 1,.g 2,I4 x8]),(9,[.g 3,.g 4,I4 x9])],[rd0 x10,rd1 x11,rd0 x12,rd1 x13,rd0 x14],0,false⟩
theorem qeR {k:Nat} {r:Int×LL}:gp x0 x1 x2 x3 x4 x5 x6 x7 x8 x9 x10 x11 x12 x13 x14=some r->pE S176 18 204 7 k (qco x0 x1 x2 x3 x4 x5 x6 x7 x8 x9 x10 x11 x12 x13 x14)=some (K6 x0 x2 x6 x7 x8 x9 x10 x11 x12 x14 r):=lP (qc4 (sm (K6 x0 x2 x6 x7 x8 x9 x10 x11 x12 x14)) x1 x3 x4 x5 x13) (by kernel_rfl) (by unfold gp KU qc4;with_reducible repeat' first|apply gT ‹_›|apply gF ‹_›|(apply zz<;>intro _)|exact nX|exact sX)
end
def S177:=S176.pc 18 204 7 (qco 0 0 0 [] 0 0 [] [] 0 0 [] [] [] [] []) (fun x0 x1 x2 x3 x4 x5 x6 x7 x8 x9 x10 x11 x12 x13 x14=>some (y1 (gp x0 x1 x2 x3 x4 x5 x6 x7 x8 x9 x10 x11 x12 x13 x14) (K6 x0 x2 x6 x7 x8 x9 x10 x11 x12 x14))) (by kernel_rfl) rfl fun _=>w1 fun h=>qeR _ _ _ _ _ _ _ _ _ _ _ _ _ _ _ h
section
variable {β:Type} (y:Int->Int->Int->LI->L3->Int->Int->LI->LL->LI->LL->LI->Option β) (z:(Int × LL)->Option β) (x0 x1 x2:Int) (x3:LI) (x4:L3) (x5 x6:Int) (x7:LI) (x8:LL) (x9:LI) (x10:LL) (x11:LI)
def Jc:Option β:=(cond (decide (x2 < (x4.length:Int))) (cond (decide (0<=x2)) (cond (decide ((↑(List.length (List.getD x4 x2.toNat [])):Int)<=(↑(List.length (List.getD x4 x2.toNat [])):Int))) (cond (decide ((↑(List.length (List.getD x4 x2.toNat [])):Int)<=(↑(nat_lit 2147483648):Int))) (ob (v35 x3 x4 x2) fun r1=>(ck r1 (↑(List.length (List.getD x4 x2.toNat [])):Int) (cond (decide ((↑(List.length (List.getD (List.getD x4 x2.toNat []) r1.toNat [])):Int)≠0)) (ck x0 (x3.length:Int) (cond (decide (x0 < (x7.length:Int))) (cond (decide (x0.toNat < List.length x7)) (cond (decide (List.getD x7 x0.toNat 0≠0)) (cond (decide (r1 < (↑(List.length (List.replicate (↑(List.length (List.getD x4 x2.toNat [])):Int).toNat (0:Int))):Int))) (cond (decide (r1.toNat < List.length (List.replicate (↑(List.length (List.getD x4 x2.toNat [])):Int).toNat (0:Int)))) (ob (gp x0 x1 x2 (List.set (List.replicate (↑(List.length (List.getD x4 x2.toNat [])):Int).toNat 0) r1.toNat (wI (Int.tdiv (wI (wI (wI (Int.tdiv (1000000000:Int) (↑(List.length (List.getD (List.getD x4 x2.toNat []) r1.toNat [])):Int))*List.getD x3 x0.toNat 0)*1000000)) (List.getD x7 x0.toNat 0)))) r1 (↑(List.length (List.getD (List.getD x4 x2.toNat []) r1.toNat [])):Int) x3 x4 x5 x6 x7 x8 x9 x10 x11) fun r2=>(y x0 (r2.1) (wI (x2+1)) x3 x4 x5 x6 x7 x8 x9 (r2.2) x11)) none) none) none) none) none)) none))) none) none) none) (z (x1,x10)))
def qdM:Option β:=(cond (decide (x2 < (x4.length:Int))) (ck x2 (x4.length:Int) (cond (decide ((↑(List.length (List.getD x4 x2.toNat [])):Int)<=(↑(List.length (List.getD x4 x2.toNat [])):Int))) (cond (decide ((↑(List.length (List.getD x4 x2.toNat [])):Int)<=(↑(nat_lit 2147483648):Int))) (ob (v35 x3 x4 x2) fun r1=>(ck x2 (x4.length:Int) (ck r1 (↑(List.length (List.getD x4 x2.toNat [])):Int) (cond (decide ((↑(List.length (List.getD (List.getD x4 x2.toNat []) r1.toNat [])):Int)≠0)) (ck x0 (x3.length:Int) (ck x0 (x7.length:Int) (cond (decide (x0.toNat < List.length x7)) (cond (decide (List.getD x7 x0.toNat 0≠0)) (ck r1 (↑(List.length (List.replicate (↑(List.length (List.getD x4 x2.toNat [])):Int).toNat (0:Int))):Int) (cond (decide (r1.toNat < List.length (List.replicate (↑(List.length (List.getD x4 x2.toNat [])):Int).toNat (0:Int)))) (ob (gp x0 x1 x2 (List.set (List.replicate (↑(List.length (List.getD x4 x2.toNat [])):Int).toNat 0) r1.toNat (wI (Int.tdiv (wI (wI (wI (Int.tdiv (1000000000:Int) (↑(List.length (List.getD (List.getD x4 x2.toNat []) r1.toNat [])):Int))*List.getD x3 x0.toNat 0)*1000000)) (List.getD x7 x0.toNat 0)))) r1 (↑(List.length (List.getD (List.getD x4 x2.toNat []) r1.toNat [])):Int) x3 x4 x5 x6 x7 x8 x9 x10 x11) fun r2=>(y x0 (r2.1) (wI (x2+1)) x3 x4 x5 x6 x7 x8 x9 (r2.2) x11)) none)) none) none))) none)))) none) none)) (z (x1,x10)))
def jh:=itL (fun _ _ _ _ _ _ _ _ _ _ _ _=>none) fun f=>Jc f some
theorem D2 (n:Nat):jh (n+1)=Jc (jh n) some:=rfl
def SU:(Int×LL)->Ex×CS:=fun r=>((.exit 6),⟨[(1,.l 1 0),(2,.l 2 0),(9,.l 9 0),(10,vI r.1),(104,.l 1 1)],[(1,[kd0 x3,kd1 x4]),(2,[.g 0,.g 1,I4 x5]),(9,[.g 2,.g 3,I4 x6])],[rd1 x8,rd0 x9,rd1 r.2,rd0 x11],0,false⟩)
abbrev Ds:CS:=⟨[(1,.l 1 0),(2,.l 2 0),(3,vG 0),(7,vI x0),(9,.l 9 0),(10,vI x1),(11,vI x2)],[(1,[kd0 x3,kd1 x4]),(2,[.g 1,.g 2,I4 x5]),(9,[.g 3,.g 4,I4 x6])],[rd0 x7,rd1 x8,rd0 x9,rd1 x10,rd0 x11],0,false⟩
theorem qfY {k m n:Nat} {r:Int×LL} (h:jh n x0 x1 x2 x3 x4 x5 x6 x7 x8 x9 x10 x11=some r):lE S177 18 6 k (n+m) (Ds x0 x1 x2 x3 x4 x5 x6 x7 x8 x9 x10 x11)=some (SU x3 x4 x5 x6 x8 x9 x11 r):=by
 induction n generalizing x1 x2 x10 with
 |zero=>cases h
 |succ n ih=>
 exact lS (qdM (fun x0 x1 x2 x3 x4 x5 x6 x7 x8 x9 x10 x11=>lE S177 18 6 k (n+m) (Ds x0 x1 x2 x3 x4 x5 x6 x7 x8 x9 x10 x11)) (sm (SU x3 x4 x5 x6 x8 x9 x11)) x0 x1 x2 x3 x4 x5 x6 x7 x8 x9 x10 x11) (by kernel_rfl) (by rw [D2];unfold Jc qdM;with_reducible repeat' first|apply gT ‹_›|apply gF ‹_›|(apply zz<;>intro _)|exact ih _ _ _|exact nX|exact sX) h
end
def S178:=S177.lp 18 6 (Ds 0 0 0 [] [] 0 0 [] [] [] [] []) (fun x0 x1 x2 x3 x4 x5 x6 x7 x8 x9 x10 x11=>some (y1 (jh FU x0 x1 x2 x3 x4 x5 x6 x7 x8 x9 x10 x11) (SU x3 x4 x5 x6 x8 x9 x11))) (by kernel_rfl) fun _=>w1 fun h=>qfY _ _ _ _ _ _ _ _ _ _ _ _ h
section
variable {β:Type} (y:LI->Int->Int->Option β) (z:(Bool ⊕ Unit)->Option β) (x0:LI) (x1 x2:Int)
def Kc:Option β:=(cond (decide (x2 < (x0.length:Int))) (cond (decide (0<=x2)) (cond (List.getD x0 x2.toNat 0==x1) (z (.inl (true))) (y x0 x1 (wI (x2+1)))) none) (z (.inr ())))
def qer:Option β:=(cond (decide (x2 < (x0.length:Int))) (ck x2 (x0.length:Int) (cond (List.getD x0 x2.toNat 0==x1) (z (.inl (true))) (y x0 x1 (wI (x2+1))))) (z (.inr ())))
def j6:=itL (fun _ _ _=>none) fun f=>Kc f some
theorem qba (n:Nat):j6 (n+1)=Kc (j6 n) some:=rfl
def qbX:(Bool ⊕ Unit)->Ex×CS:=Sum.elim (fun r=>(.ret,⟨[(4,vB r)],[],[],0,true⟩)) fun r=>((.exit 0),⟨[],[],[],0,false⟩)
abbrev qan:CS:=⟨[(0,vd0 x0),(1,vI x1),(5,vI x2)],[],[],0,false⟩
theorem qhI {k m n:Nat} {r:Bool ⊕ Unit} (h:j6 n x0 x1 x2=some r):lE S178 37 0 k (n+m) (qan x0 x1 x2)=some (qbX r):=by
 induction n generalizing x2 with
 |zero=>cases h
 |succ n ih=>
 exact lS (qer (fun x0 x1 x2=>lE S178 37 0 k (n+m) (qan x0 x1 x2)) (sm qbX) x0 x1 x2) (by kernel_rfl) (by rw [qba];unfold Kc qer;with_reducible repeat' first|apply gT ‹_›|apply gF ‹_›|(apply zz<;>intro _)|exact ih _|exact nX|exact sX) h
end
def S179:=S178.lp 37 0 (qan [] 0 0) (fun x0 x1 x2=>some (y2 (j6 FU x0 x1 x2) qbX)) (by kernel_rfl) fun _=>w2 fun h=>qhI _ _ _ h
section
variable {β:Type} (z:Bool->Option β) (x0:LI) (x1:Int)
def tv37:Option β:=(cond (isL (j6 FU x0 x1 0)) (z (zx (j6 FU x0 x1 0))) (ob (zB (j6 FU x0 x1 0)) fun _=>(z false)))
def v37:=tv37 some x0 x1
abbrev aF37:List TA:=[.sc (kd0 x0),.sc (I4 x1)]
abbrev rF37:Bool->List TA×List TO:=fun r=>([.sc (.bool r)],[])
theorem ev37:fE S179 37 (aF37 x0 x1) []=(v37 x0 x1).bind (sm rF37):=zE (fun z=>tv37 z x0 x1) (by kernel_rfl) fun K=>by unfold v37 tv37;with_reducible repeat' first|apply zc|exact nB|exact sB
end
def S180:=S179.fn 37 (aF37 [] 0) [] (fun x0 x1=>some (y1 (v37 x0 x1) rF37)) rfl fun _=>w1 fun h=>(ev37 ..).trans (bD h)
section
variable {β:Type} (y:Int->Int->Int->Int->Int->LI->L3->Int->Int->LL->LI->LL->LI->Option β) (z:Int->Option β) (x0 x1 x2 x3 x4:Int) (x5:LI) (x6:L3) (x7 x8:Int) (x9:LL) (x10:LI) (x11:LL) (x12:LI)
def Je:Option β:=(ck x3 (x6.length:Int) (cond (decide (x4 < (↑(List.length (List.getD x6 x3.toNat [])):Int))) (cond (decide (0<=x4)) (ob (v37 (List.getD (List.getD x6 x3.toNat []) x4.toNat []) x1) fun r1=>(cond r1 (y x0 x1 x0 x3 (wI (x4+1)) x5 x6 x7 x8 x9 x10 x11 x12) (y x0 x1 x2 x3 (wI (x4+1)) x5 x6 x7 x8 x9 x10 x11 x12))) none) (z x2)))
def qdO:Option β:=(ck x3 (x6.length:Int) (cond (decide (x4 < (↑(List.length (List.getD x6 x3.toNat [])):Int))) (ck x3 (x6.length:Int) (ck x4 (↑(List.length (List.getD x6 x3.toNat [])):Int) (ob (v37 (List.getD (List.getD x6 x3.toNat []) x4.toNat []) x1) fun r1=>(cond r1 (y x0 x1 x0 x3 (wI (x4+1)) x5 x6 x7 x8 x9 x10 x11 x12) (y x0 x1 x2 x3 (wI (x4+1)) x5 x6 x7 x8 x9 x10 x11 x12))))) (z x2)))
def jj:=itL (fun _ _ _ _ _ _ _ _ _ _ _ _ _=>none) fun f=>Je f some
theorem D5 (n:Nat):jj (n+1)=Je (jj n) some:=rfl
def SY:Int->Ex×CS:=fun r=>((.exit 12),⟨[(1,.l 1 0),(2,.l 2 0),(9,.l 9 0),(10,vI x0),(15,vI x1),(16,vI r),(17,vI x3),(184,.l 1 1)],[(1,[kd0 x5,kd1 x6]),(2,[.g 0,.g 1,I4 x7]),(9,[.g 2,.g 3,I4 x8])],[rd1 x9,rd0 x10,rd1 x11,rd0 x12],0,false⟩)
abbrev Dv:CS:=⟨[(1,.l 1 0),(2,.l 2 0),(9,.l 9 0),(10,vI x0),(15,vI x1),(16,vI x2),(17,vI x3),(18,vI x4)],[(1,[kd0 x5,kd1 x6]),(2,[.g 0,.g 1,I4 x7]),(9,[.g 2,.g 3,I4 x8])],[rd1 x9,rd0 x10,rd1 x11,rd0 x12],0,false⟩
theorem qf1 {k m n:Nat} {r:Int} (h:jj n x0 x1 x2 x3 x4 x5 x6 x7 x8 x9 x10 x11 x12=some r):lE S180 18 12 k (n+m) (Dv x0 x1 x2 x3 x4 x5 x6 x7 x8 x9 x10 x11 x12)=some (SY x0 x1 x3 x5 x6 x7 x8 x9 x10 x11 x12 r):=by
 induction n generalizing x2 x4 with
 |zero=>cases h
 |succ n ih=>
 exact lS (qdO (fun x0 x1 x2 x3 x4 x5 x6 x7 x8 x9 x10 x11 x12=>lE S180 18 12 k (n+m) (Dv x0 x1 x2 x3 x4 x5 x6 x7 x8 x9 x10 x11 x12)) (sm (SY x0 x1 x3 x5 x6 x7 x8 x9 x10 x11 x12)) x0 x1 x2 x3 x4 x5 x6 x7 x8 x9 x10 x11 x12) (by kernel_rfl) (by rw [D5];unfold Je qdO;with_reducible repeat' first|apply gT ‹_›|apply gF ‹_›|(apply zz<;>intro _)|exact ih _ _|exact nX|exact sX) h
end
def S181:=S180.lp 18 12 (Dv 0 0 0 0 0 [] [] 0 0 [] [] [] []) (fun x0 x1 x2 x3 x4 x5 x6 x7 x8 x9 x10 x11 x12=>some (y1 (jj FU x0 x1 x2 x3 x4 x5 x6 x7 x8 x9 x10 x11 x12) (SY x0 x1 x3 x5 x6 x7 x8 x9 x10 x11 x12))) (by kernel_rfl) fun _=>w1 fun h=>qf1 _ _ _ _ _ _ _ _ _ _ _ _ _ h
section
variable {β:Type} (y:Int->Int->Int->Int->LI->L3->Int->Int->LL->LI->LL->LI->Option β) (z:Int->Option β) (x0 x1 x2 x3:Int) (x4:LI) (x5:L3) (x6 x7:Int) (x8:LL) (x9:LI) (x10:LL) (x11:LI)
def gW:Option β:=(cond (decide (x3 < (x5.length:Int))) (ob (jj FU x0 x1 x2 x3 0 x4 x5 x6 x7 x8 x9 x10 x11) fun r1=>(y x0 x1 r1 (wI (x3+1)) x4 x5 x6 x7 x8 x9 x10 x11)) (z x2))
def qX:=itL (fun _ _ _ _ _ _ _ _ _ _ _ _=>none) fun f=>gW f some
theorem D4 (n:Nat):qX (n+1)=gW (qX n) some:=rfl
def SX:Int->Ex×CS:=fun r=>((.exit 10),⟨[(1,.l 1 0),(2,.l 2 0),(9,.l 9 0),(10,vI x0),(15,vI x1),(16,vI r),(177,.l 1 1)],[(1,[kd0 x4,kd1 x5]),(2,[.g 0,.g 1,I4 x6]),(9,[.g 2,.g 3,I4 x7])],[rd1 x8,rd0 x9,rd1 x10,rd0 x11],0,false⟩)
abbrev Du:CS:=⟨[(1,.l 1 0),(2,.l 2 0),(9,.l 9 0),(10,vI x0),(15,vI x1),(16,vI x2),(17,vI x3)],[(1,[kd0 x4,kd1 x5]),(2,[.g 0,.g 1,I4 x6]),(9,[.g 2,.g 3,I4 x7])],[rd1 x8,rd0 x9,rd1 x10,rd0 x11],0,false⟩
theorem qf0 {k m n:Nat} {r:Int} (h:qX n x0 x1 x2 x3 x4 x5 x6 x7 x8 x9 x10 x11=some r):lE S181 18 10 k (n+m) (Du x0 x1 x2 x3 x4 x5 x6 x7 x8 x9 x10 x11)=some (SX x0 x1 x4 x5 x6 x7 x8 x9 x10 x11 r):=by
 induction n generalizing x2 x3 with
 |zero=>cases h
 |succ n ih=>
 exact lS (gW (fun x0 x1 x2 x3 x4 x5 x6 x7 x8 x9 x10 x11=>lE S181 18 10 k (n+m) (Du x0 x1 x2 x3 x4 x5 x6 x7 x8 x9 x10 x11)) (sm (SX x0 x1 x4 x5 x6 x7 x8 x9 x10 x11)) x0 x1 x2 x3 x4 x5 x6 x7 x8 x9 x10 x11) (by kernel_rfl) (by rw [D4];unfold gW;with_reducible repeat' first|apply zd|exact ih _ _|exact nX|exact sX) h
end
def S182:=S181.lp 18 10 (Du 0 0 0 0 [] [] 0 0 [] [] [] []) (fun x0 x1 x2 x3 x4 x5 x6 x7 x8 x9 x10 x11=>some (y1 (qX FU x0 x1 x2 x3 x4 x5 x6 x7 x8 x9 x10 x11) (SX x0 x1 x4 x5 x6 x7 x8 x9 x10 x11))) (by kernel_rfl) fun _=>w1 fun h=>qf0 _ _ _ _ _ _ _ _ _ _ _ _ h
section
variable {β:Type} (y:Int->Int->LI->L3->Int->Int->LL->LI->LL->LI->Option β) (z:LI->Option β) (x0 x1:Int) (x2:LI) (x3:L3) (x4 x5:Int) (x6:LL) (x7:LI) (x8:LL) (x9:LI)
def Jd:Option β:=(cond (decide (x1 < (x2.length:Int))) (ob (qX FU x0 x1 0 0 x2 x3 x4 x5 x6 x7 x8 x9) fun r1=>(cond (decide (0<=x1)) (cond (List.getD x2 x1.toNat 0==0) (cond (decide (List.length x9+List.length [(1000000000000:Int)]<=nat_lit 2147483648)) (y x0 (wI (x1+1)) x2 x3 x4 x5 x6 x7 x8 (x9++[(1000000000000:Int)])) none) (cond (decide (List.length x9+List.length [r1]<=nat_lit 2147483648)) (y x0 (wI (x1+1)) x2 x3 x4 x5 x6 x7 x8 (x9++[r1])) none)) none)) (z x9))
def qdN:Option β:=(cond (decide (x1 < (x2.length:Int))) (ob (qX FU x0 x1 0 0 x2 x3 x4 x5 x6 x7 x8 x9) fun r1=>(ck x1 (x2.length:Int) (cond (List.getD x2 x1.toNat 0==0) (cond (decide (List.length x9+List.length [(1000000000000:Int)]<=nat_lit 2147483648)) (y x0 (wI (x1+1)) x2 x3 x4 x5 x6 x7 x8 (x9++[(1000000000000:Int)])) none) (cond (decide (List.length x9+List.length [r1]<=nat_lit 2147483648)) (y x0 (wI (x1+1)) x2 x3 x4 x5 x6 x7 x8 (x9++[r1])) none)))) (z x9))
def ji:=itL (fun _ _ _ _ _ _ _ _ _ _=>none) fun f=>Jd f some
theorem D3 (n:Nat):ji (n+1)=Jd (ji n) some:=rfl
def SW:LI->Ex×CS:=fun r=>((.exit 8),⟨[(1,.l 1 0),(2,.l 2 0),(9,.l 9 0),(170,.l 1 0)],[(1,[kd0 x2,kd1 x3]),(2,[.g 0,.g 1,I4 x4]),(9,[.g 2,.g 3,I4 x5])],[rd1 x6,rd0 x7,rd1 x8,rd0 r],0,false⟩)
abbrev Dt:CS:=⟨[(1,.l 1 0),(2,.l 2 0),(9,.l 9 0),(10,vI x0),(15,vI x1)],[(1,[kd0 x2,kd1 x3]),(2,[.g 0,.g 1,I4 x4]),(9,[.g 2,.g 3,I4 x5])],[rd1 x6,rd0 x7,rd1 x8,rd0 x9],0,false⟩
theorem qfZ {k m n:Nat} {r:LI} (h:ji n x0 x1 x2 x3 x4 x5 x6 x7 x8 x9=some r):lE S182 18 8 k (n+m) (Dt x0 x1 x2 x3 x4 x5 x6 x7 x8 x9)=some (SW x2 x3 x4 x5 x6 x7 x8 r):=by
 induction n generalizing x1 x9 with
 |zero=>cases h
 |succ n ih=>
 exact lS (qdN (fun x0 x1 x2 x3 x4 x5 x6 x7 x8 x9=>lE S182 18 8 k (n+m) (Dt x0 x1 x2 x3 x4 x5 x6 x7 x8 x9)) (sm (SW x2 x3 x4 x5 x6 x7 x8)) x0 x1 x2 x3 x4 x5 x6 x7 x8 x9) (by kernel_rfl) (by rw [D3];unfold Jd qdN;with_reducible repeat' first|apply gT ‹_›|apply gF ‹_›|(apply zz<;>intro _)|exact ih _ _|exact nX|exact sX) h
end
def S183:=S182.lp 18 8 (Dt 0 0 [] [] 0 0 [] [] [] []) (fun x0 x1 x2 x3 x4 x5 x6 x7 x8 x9=>some (y1 (ji FU x0 x1 x2 x3 x4 x5 x6 x7 x8 x9) (SW x2 x3 x4 x5 x6 x7 x8))) (by kernel_rfl) fun _=>w1 fun h=>qfZ _ _ _ _ _ _ _ _ _ _ h
section
variable {β:Type} (y:LL->Int->Int->LI->L3->Option β) (z:(Bool ⊕ Unit)->Option β) (x0:LL) (x1 x2:Int) (x3:LI) (x4:L3)
def Jf:Option β:=(ck x1 (x0.length:Int) (cond (decide (x2 < (↑(List.length (List.getD x0 x1.toNat [])):Int))) (cond (decide (0<=x2)) (cond (decide (List.getD (List.getD x0 x1.toNat []) x2.toNat 0 < 0)) (z (.inl (false))) (cond (decide (List.getD (List.getD x0 x1.toNat []) x2.toNat 0 > (1000000000:Int))) (z (.inl (false))) (y x0 x1 (wI (x2+1)) x3 x4))) none) (z (.inr ()))))
def qdP:Option β:=(ck x1 (x0.length:Int) (cond (decide (x2 < (↑(List.length (List.getD x0 x1.toNat [])):Int))) (ck x1 (x0.length:Int) (ck x2 (↑(List.length (List.getD x0 x1.toNat [])):Int) (cond (decide (List.getD (List.getD x0 x1.toNat []) x2.toNat 0 < 0)) (z (.inl (false))) (ck x1 (x0.length:Int) (ck x2 (↑(List.length (List.getD x0 x1.toNat [])):Int) (cond (decide (List.getD (List.getD x0 x1.toNat []) x2.toNat 0 > (1000000000:Int))) (z (.inl (false))) (y x0 x1 (wI (x2+1)) x3 x4))))))) (z (.inr ()))))
def qH:=itL (fun _ _ _ _ _=>none) fun f=>Jf f some
theorem D6 (n:Nat):qH (n+1)=Jf (qH n) some:=rfl
def SZ:(Bool ⊕ Unit)->Ex×CS:=Sum.elim (fun r=>(.ret,⟨[(4,vB r)],[],[],0,true⟩)) fun r=>((.exit 2),⟨[(1,vd1 x0),(2,.l 2 0),(5,vI x1)],[(2,[kd0 x3,kd1 x4])],[],0,false⟩)
abbrev Dw:CS:=⟨[(1,vd1 x0),(2,.l 2 0),(5,vI x1),(6,vI x2)],[(2,[kd0 x3,kd1 x4])],[],0,false⟩
theorem qf2 {k m n:Nat} {r:Bool ⊕ Unit} (h:qH n x0 x1 x2 x3 x4=some r):lE S183 19 2 k (n+m) (Dw x0 x1 x2 x3 x4)=some (SZ x0 x1 x3 x4 r):=by
 induction n generalizing x2 with
 |zero=>cases h
 |succ n ih=>
 exact lS (qdP (fun x0 x1 x2 x3 x4=>lE S183 19 2 k (n+m) (Dw x0 x1 x2 x3 x4)) (sm (SZ x0 x1 x3 x4)) x0 x1 x2 x3 x4) (by kernel_rfl) (by rw [D6];unfold Jf qdP;with_reducible repeat' first|apply gT ‹_›|apply gF ‹_›|(apply zz<;>intro _)|exact ih _|exact nX|exact sX) h
end
def S184:=S183.lp 19 2 (Dw [] 0 0 [] []) (fun x0 x1 x2 x3 x4=>some (y2 (qH FU x0 x1 x2 x3 x4) (SZ x0 x1 x3 x4))) (by kernel_rfl) fun _=>w2 fun h=>qf2 _ _ _ _ _ h
section
variable {β:Type} (y:LL->Int->LI->L3->Option β) (z:(Bool ⊕ Unit)->Option β) (x0:LL) (x1:Int) (x2:LI) (x3:L3)
def JZ:Option β:=(cond (decide (x1 < (x0.length:Int))) (ck x1 (x3.length:Int) (cond ((↑(List.length (List.getD x0 x1.toNat [])):Int) != (↑(List.length (List.getD x3 x1.toNat [])):Int)) (z (.inl (false))) (cond (isL (qH FU x0 x1 0 x2 x3)) (z (.inl (zx (qH FU x0 x1 0 x2 x3)))) (ob (zB (qH FU x0 x1 0 x2 x3)) fun _=>(y x0 (wI (x1+1)) x2 x3))))) (z (.inr ())))
def qei:Option β:=(cond (decide (x1 < (x0.length:Int))) (ck x1 (x0.length:Int) (ck x1 (x3.length:Int) (cond ((↑(List.length (List.getD x0 x1.toNat [])):Int) != (↑(List.length (List.getD x3 x1.toNat [])):Int)) (z (.inl (false))) (cond (isL (qH FU x0 x1 0 x2 x3)) (z (.inl (zx (qH FU x0 x1 0 x2 x3)))) (ob (zB (qH FU x0 x1 0 x2 x3)) fun _=>(y x0 (wI (x1+1)) x2 x3)))))) (z (.inr ())))
def jz:=itL (fun _ _ _ _=>none) fun f=>JZ f some
theorem qaU (n:Nat):jz (n+1)=JZ (jz n) some:=rfl
def qbG:(Bool ⊕ Unit)->Ex×CS:=Sum.elim (fun r=>(.ret,⟨[(4,vB r)],[],[],0,true⟩)) fun r=>((.exit 0),⟨[(2,.l 2 0)],[],[],0,false⟩)
abbrev H6:CS:=⟨[(1,vd1 x0),(2,.l 2 0),(5,vI x1)],[(2,[kd0 x2,kd1 x3])],[],0,false⟩
theorem qhr {k m n:Nat} {r:Bool ⊕ Unit} (h:jz n x0 x1 x2 x3=some r):lE S184 19 0 k (n+m) (H6 x0 x1 x2 x3)=some (qbG r):=by
 induction n generalizing x1 with
 |zero=>cases h
 |succ n ih=>
 exact lS (qei (fun x0 x1 x2 x3=>lE S184 19 0 k (n+m) (H6 x0 x1 x2 x3)) (sm qbG) x0 x1 x2 x3) (by kernel_rfl) (by rw [qaU];unfold JZ qei;with_reducible repeat' first|apply gT ‹_›|apply gF ‹_›|(apply zz<;>intro _)|exact ih _|exact nX|exact sX) h
end
def S185:=S184.lp 19 0 (H6 [] 0 [] []) (fun x0 x1 x2 x3=>some (y2 (jz FU x0 x1 x2 x3) qbG)) (by kernel_rfl) fun _=>w2 fun h=>qhr _ _ _ _ h
section
variable {β:Type} (z:Bool->Option β) (x0:LI) (x1:L3) (x2:LL)
def tv19:Option β:=(cond ((x2.length:Int) != (x1.length:Int)) (z false) (cond (isL (jz FU x2 0 x0 x1)) (z (zx (jz FU x2 0 x0 x1))) (ob (zB (jz FU x2 0 x0 x1)) fun _=>(z true))))
def v19:=tv19 some x0 x1 x2
abbrev aF19:List TA:=[.agg [kd0 x0,kd1 x1],.sc (kd2 x2)]
abbrev rF19:Bool->List TA×List TO:=fun r=>([.sc (.bool r)],[])
theorem ev19:fE S185 19 (aF19 x0 x1 x2) []=(v19 x0 x1 x2).bind (sm rF19):=zE (fun z=>tv19 z x0 x1 x2) (by kernel_rfl) fun K=>by unfold v19 tv19;with_reducible repeat' first|apply zc|exact nB|exact sB
end
def S186:=S185.fn 19 (aF19 [] [] []) [] (fun x0 x1 x2=>some (y1 (v19 x0 x1 x2) rF19)) rfl fun _=>w1 fun h=>(ev19 ..).trans (bD h)
section
variable {β:Type} (y:LI->Int->LI->L3->Option β) (z:(Bool ⊕ Unit)->Option β) (x0:LI) (x1:Int) (x2:LI) (x3:L3)
def J9:Option β:=(cond (decide (x1 < (x0.length:Int))) (cond (decide (0<=x1)) (cond (decide (List.getD x0 x1.toNat 0 < 0)) (z (.inl (false))) (cond (decide (List.getD x0 x1.toNat 0 > (1000000000000:Int))) (z (.inl (false))) (y x0 (wI (x1+1)) x2 x3))) none) (z (.inr ())))
def qen:Option β:=(cond (decide (x1 < (x0.length:Int))) (ck x1 (x0.length:Int) (cond (decide (List.getD x0 x1.toNat 0 < 0)) (z (.inl (false))) (ck x1 (x0.length:Int) (cond (decide (List.getD x0 x1.toNat 0 > (1000000000000:Int))) (z (.inl (false))) (y x0 (wI (x1+1)) x2 x3))))) (z (.inr ())))
def jC:=itL (fun _ _ _ _=>none) fun f=>J9 f some
theorem qa0 (n:Nat):jC (n+1)=J9 (jC n) some:=rfl
def qbM:(Bool ⊕ Unit)->Ex×CS:=Sum.elim (fun r=>(.ret,⟨[(4,vB r)],[],[],0,true⟩)) fun r=>((.exit 0),⟨[(1,vd0 x0),(2,.l 2 0)],[(2,[kd0 x2,kd1 x3])],[],0,false⟩)
abbrev qac:CS:=⟨[(1,vd0 x0),(2,.l 2 0),(5,vI x1)],[(2,[kd0 x2,kd1 x3])],[],0,false⟩
theorem qhx {k m n:Nat} {r:Bool ⊕ Unit} (h:jC n x0 x1 x2 x3=some r):lE S186 30 0 k (n+m) (qac x0 x1 x2 x3)=some (qbM x0 x2 x3 r):=by
 induction n generalizing x1 with
 |zero=>cases h
 |succ n ih=>
 exact lS (qen (fun x0 x1 x2 x3=>lE S186 30 0 k (n+m) (qac x0 x1 x2 x3)) (sm (qbM x0 x2 x3)) x0 x1 x2 x3) (by kernel_rfl) (by rw [qa0];unfold J9 qen;with_reducible repeat' first|apply gT ‹_›|apply gF ‹_›|(apply zz<;>intro _)|exact ih _|exact nX|exact sX) h
end
def S187:=S186.lp 30 0 (qac [] 0 [] []) (fun x0 x1 x2 x3=>some (y2 (jC FU x0 x1 x2 x3) (qbM x0 x2 x3))) (by kernel_rfl) fun _=>w2 fun h=>qhx _ _ _ _ h
section
variable {β:Type} (z:Bool->Option β) (x0:LI) (x1:L3) (x2:LI)
def tv30:Option β:=(cond (isL (jC FU x2 0 x0 x1)) (z (zx (jC FU x2 0 x0 x1))) (ob (zB (jC FU x2 0 x0 x1)) fun _=>(z ((x2.length:Int)==(x0.length:Int)))))
def v30:=tv30 some x0 x1 x2
abbrev aF30:List TA:=[.agg [kd0 x0,kd1 x1],.sc (kd0 x2)]
abbrev rF30:Bool->List TA×List TO:=fun r=>([.sc (.bool r)],[])
theorem ev30:fE S187 30 (aF30 x0 x1 x2) []=(v30 x0 x1 x2).bind (sm rF30):=zE (fun z=>tv30 z x0 x1 x2) (by kernel_rfl) fun K=>by unfold v30 tv30;with_reducible repeat' first|apply zc|exact nB|exact sB
end
def S188:=S187.fn 30 (aF30 [] [] []) [] (fun x0 x1 x2=>some (y1 (v30 x0 x1 x2) rF30)) rfl fun _=>w1 fun h=>(ev30 ..).trans (bD h)
section
variable {β:Type} (y:LL->Int->Int->Int->Int->LI->L3->Option β) (z:Int->Option β) (x0:LL) (x1 x2 x3 x4:Int) (x5:LI) (x6:L3)
def Jk:Option β:=(ck x3 (x6.length:Int) (cond (decide (x4 < (↑(List.length (List.getD x6 x3.toNat [])):Int))) (cond (decide (0<=x4)) (ob (v37 (List.getD (List.getD x6 x3.toNat []) x4.toNat []) x1) fun r1=>(cond r1 (cond (decide (x3 < (x0.length:Int))) (cond (decide (x4 < (↑(List.length (List.getD x0 x3.toNat [])):Int))) (y x0 x1 (wI (x2+List.getD (List.getD x0 x3.toNat []) x4.toNat 0)) x3 (wI (x4+1)) x5 x6) none) none) (y x0 x1 x2 x3 (wI (x4+1)) x5 x6))) none) (z x2)))
def qdU:Option β:=(ck x3 (x6.length:Int) (cond (decide (x4 < (↑(List.length (List.getD x6 x3.toNat [])):Int))) (ck x3 (x6.length:Int) (ck x4 (↑(List.length (List.getD x6 x3.toNat [])):Int) (ob (v37 (List.getD (List.getD x6 x3.toNat []) x4.toNat []) x1) fun r1=>(cond r1 (ck x3 (x0.length:Int) (ck x4 (↑(List.length (List.getD x0 x3.toNat [])):Int) (y x0 x1 (wI (x2+List.getD (List.getD x0 x3.toNat []) x4.toNat 0)) x3 (wI (x4+1)) x5 x6))) (y x0 x1 x2 x3 (wI (x4+1)) x5 x6))))) (z x2)))
def jq:=itL (fun _ _ _ _ _ _ _=>none) fun f=>Jk f some
theorem Sh (n:Nat):jq (n+1)=Jk (jq n) some:=rfl
def Hm:Int->Ex×CS:=fun r=>((.exit 2),⟨[(1,vd1 x0),(2,vI x1),(3,.l 3 0),(7,vI r),(8,vI x3),(18,.l 3 1)],[(3,[kd0 x5,kd1 x6])],[],0,false⟩)
abbrev DG:CS:=⟨[(1,vd1 x0),(2,vI x1),(3,.l 3 0),(7,vI x2),(8,vI x3),(9,vI x4)],[(3,[kd0 x5,kd1 x6])],[],0,false⟩
theorem qgf {k m n:Nat} {r:Int} (h:jq n x0 x1 x2 x3 x4 x5 x6=some r):lE S188 39 2 k (n+m) (DG x0 x1 x2 x3 x4 x5 x6)=some (Hm x0 x1 x3 x5 x6 r):=by
 induction n generalizing x2 x4 with
 |zero=>cases h
 |succ n ih=>
 exact lS (qdU (fun x0 x1 x2 x3 x4 x5 x6=>lE S188 39 2 k (n+m) (DG x0 x1 x2 x3 x4 x5 x6)) (sm (Hm x0 x1 x3 x5 x6)) x0 x1 x2 x3 x4 x5 x6) (by kernel_rfl) (by rw [Sh];unfold Jk qdU;with_reducible repeat' first|apply gT ‹_›|apply gF ‹_›|(apply zz<;>intro _)|exact ih _ _|exact nX|exact sX) h
end
def S189:=S188.lp 39 2 (DG [] 0 0 0 0 [] []) (fun x0 x1 x2 x3 x4 x5 x6=>some (y1 (jq FU x0 x1 x2 x3 x4 x5 x6) (Hm x0 x1 x3 x5 x6))) (by kernel_rfl) fun _=>w1 fun h=>qgf _ _ _ _ _ _ _ h
section
variable {β:Type} (y:LL->Int->Int->Int->LI->L3->Option β) (z:Int->Option β) (x0:LL) (x1 x2 x3:Int) (x4:LI) (x5:L3)
def GE:Option β:=(cond (decide (x3 < (x5.length:Int))) (ob (jq FU x0 x1 x2 x3 0 x4 x5) fun r1=>(y x0 x1 r1 (wI (x3+1)) x4 x5)) (z x2))
def j7:=itL (fun _ _ _ _ _ _=>none) fun f=>GE f some
theorem qbb (n:Nat):j7 (n+1)=GE (j7 n) some:=rfl
def qbY:Int->Ex×CS:=fun r=>((.exit 0),⟨[(3,.l 3 0),(7,vI r),(11,.l 3 1)],[],[],0,false⟩)
abbrev qao:CS:=⟨[(1,vd1 x0),(2,vI x1),(3,.l 3 0),(7,vI x2),(8,vI x3)],[(3,[kd0 x4,kd1 x5])],[],0,false⟩
theorem qhJ {k m n:Nat} {r:Int} (h:j7 n x0 x1 x2 x3 x4 x5=some r):lE S189 39 0 k (n+m) (qao x0 x1 x2 x3 x4 x5)=some (qbY r):=by
 induction n generalizing x2 x3 with
 |zero=>cases h
 |succ n ih=>
 exact lS (GE (fun x0 x1 x2 x3 x4 x5=>lE S189 39 0 k (n+m) (qao x0 x1 x2 x3 x4 x5)) (sm qbY) x0 x1 x2 x3 x4 x5) (by kernel_rfl) (by rw [qbb];unfold GE;with_reducible repeat' first|apply zd|exact ih _ _|exact nX|exact sX) h
end
def S190:=S189.lp 39 0 (qao [] 0 0 0 [] []) (fun x0 x1 x2 x3 x4 x5=>some (y1 (j7 FU x0 x1 x2 x3 x4 x5) qbY)) (by kernel_rfl) fun _=>w1 fun h=>qhJ _ _ _ _ _ _ h
section
variable {β:Type} (z:Int->Option β) (x0:LI) (x1:L3) (x2:LL) (x3:Int)
def tv39:Option β:=(ob (j7 FU x2 x3 0 0 x0 x1) fun r1=>(z r1))
def v39:=tv39 some x0 x1 x2 x3
abbrev aF39:List TA:=[.agg [kd0 x0,kd1 x1],.sc (kd2 x2),.sc (I4 x3)]
abbrev rF39:Int->List TA×List TO:=fun r=>([.sc (I4 r)],[])
theorem ev39:fE S190 39 (aF39 x0 x1 x2 x3) []=(v39 x0 x1 x2 x3).bind (sm rF39):=zE (fun z=>tv39 z x0 x1 x2 x3) (by kernel_rfl) fun K=>by unfold v39 tv39;with_reducible repeat' first|apply zc|exact nB|exact sB
end
def S191:=S190.fn 39 (aF39 [] [] [] 0) [] (fun x0 x1 x2 x3=>some (y1 (v39 x0 x1 x2 x3) rF39)) rfl fun _=>w1 fun h=>(ev39 ..).trans (bD h)
section
variable {β:Type} (y:LL->Int->LI->L3->Option β) (z:(Bool ⊕ Unit)->Option β) (x0:LL) (x1:Int) (x2:LI) (x3:L3)
def J5:Option β:=(cond (decide (x1 < (x2.length:Int))) (ob (v39 x2 x3 x0 x1) fun r1=>(cond (decide (0<=x1)) (cond (decide (r1 > wI ((1000000:Int)*List.getD x2 x1.toNat 0))) (z (.inl (false))) (y x0 (wI (x1+1)) x2 x3)) none)) (z (.inr ())))
def qej:Option β:=(cond (decide (x1 < (x2.length:Int))) (ob (v39 x2 x3 x0 x1) fun r1=>(ck x1 (x2.length:Int) (cond (decide (r1 > wI ((1000000:Int)*List.getD x2 x1.toNat 0))) (z (.inl (false))) (y x0 (wI (x1+1)) x2 x3)))) (z (.inr ())))
def jA:=itL (fun _ _ _ _=>none) fun f=>J5 f some
theorem qaV (n:Nat):jA (n+1)=J5 (jA n) some:=rfl
def qbH:(Bool ⊕ Unit)->Ex×CS:=Sum.elim (fun r=>(.ret,⟨[(4,vB r)],[],[],0,true⟩)) fun r=>((.exit 0),⟨[(2,.l 2 0),(7,.l 2 0)],[],[],0,false⟩)
abbrev H7:CS:=⟨[(1,vd1 x0),(2,.l 2 0),(5,vI x1)],[(2,[kd0 x2,kd1 x3])],[],0,false⟩
theorem qhs {k m n:Nat} {r:Bool ⊕ Unit} (h:jA n x0 x1 x2 x3=some r):lE S191 20 0 k (n+m) (H7 x0 x1 x2 x3)=some (qbH r):=by
 induction n generalizing x1 with
 |zero=>cases h
 |succ n ih=>
 exact lS (qej (fun x0 x1 x2 x3=>lE S191 20 0 k (n+m) (H7 x0 x1 x2 x3)) (sm qbH) x0 x1 x2 x3) (by kernel_rfl) (by rw [qaV];unfold J5 qej;with_reducible repeat' first|apply gT ‹_›|apply gF ‹_›|(apply zz<;>intro _)|exact ih _|exact nX|exact sX) h
end
def S192:=S191.lp 20 0 (H7 [] 0 [] []) (fun x0 x1 x2 x3=>some (y2 (jA FU x0 x1 x2 x3) qbH)) (by kernel_rfl) fun _=>w2 fun h=>qhs _ _ _ _ h
section
variable {β:Type} (z:Bool->Option β) (x0:LI) (x1:L3) (x2:LL)
def tv20:Option β:=(cond (isL (jA FU x2 0 x0 x1)) (z (zx (jA FU x2 0 x0 x1))) (ob (zB (jA FU x2 0 x0 x1)) fun _=>(z true)))
def v20:=tv20 some x0 x1 x2
abbrev aF20:List TA:=[.agg [kd0 x0,kd1 x1],.sc (kd2 x2)]
abbrev rF20:Bool->List TA×List TO:=fun r=>([.sc (.bool r)],[])
theorem ev20:fE S192 20 (aF20 x0 x1 x2) []=(v20 x0 x1 x2).bind (sm rF20):=zE (fun z=>tv20 z x0 x1 x2) (by kernel_rfl) fun K=>by unfold v20 tv20;with_reducible repeat' first|apply zc|exact nB|exact sB
end
def S193:=S192.fn 20 (aF20 [] [] []) [] (fun x0 x1 x2=>some (y1 (v20 x0 x1 x2) rF20)) rfl fun _=>w1 fun h=>(ev20 ..).trans (bD h)
section
variable {β:Type} (y:LI->Int->Int->Option β) (z:Int->Option β) (x0:LI) (x1 x2:Int)
def J6:Option β:=(cond (decide (x2 < (x0.length:Int))) (cond (decide (0<=x2)) (y x0 (wI (x1+List.getD x0 x2.toNat 0)) (wI (x2+1))) none) (z x1))
def qek:Option β:=(cond (decide (x2 < (x0.length:Int))) (ck x2 (x0.length:Int) (y x0 (wI (x1+List.getD x0 x2.toNat 0)) (wI (x2+1)))) (z x1))
def jR:=itL (fun _ _ _=>none) fun f=>J6 f some
theorem qaW (n:Nat):jR (n+1)=J6 (jR n) some:=rfl
def qbI:Int->Ex×CS:=fun r=>((.exit 0),⟨[(3,vI r)],[],[],0,false⟩)
abbrev H8:CS:=⟨[(0,vd0 x0),(3,vI x1),(4,vI x2)],[],[],0,false⟩
theorem qht {k m n:Nat} {r:Int} (h:jR n x0 x1 x2=some r):lE S193 21 0 k (n+m) (H8 x0 x1 x2)=some (qbI r):=by
 induction n generalizing x1 x2 with
 |zero=>cases h
 |succ n ih=>
 exact lS (qek (fun x0 x1 x2=>lE S193 21 0 k (n+m) (H8 x0 x1 x2)) (sm qbI) x0 x1 x2) (by kernel_rfl) (by rw [qaW];unfold J6 qek;with_reducible repeat' first|apply gT ‹_›|apply gF ‹_›|(apply zz<;>intro _)|exact ih _ _|exact nX|exact sX) h
end
def S194:=S193.lp 21 0 (H8 [] 0 0) (fun x0 x1 x2=>some (y1 (jR FU x0 x1 x2) qbI)) (by kernel_rfl) fun _=>w1 fun h=>qht _ _ _ h
section
variable {β:Type} (z:Int->Option β) (x0:LI)
def tv21:Option β:=(ob (jR FU x0 0 0) fun r1=>(z r1))
def v21:=tv21 some x0
abbrev aF21:List TA:=[.sc (kd0 x0)]
abbrev rF21:Int->List TA×List TO:=fun r=>([.sc (I4 r)],[])
theorem ev21:fE S194 21 (aF21 x0) []=(v21 x0).bind (sm rF21):=zE (fun z=>tv21 z x0) (by kernel_rfl) fun K=>by unfold v21 tv21;with_reducible repeat' first|apply zc|exact nB|exact sB
end
def S195:=S194.fn 21 (aF21 []) [] (fun x0=>some (y1 (v21 x0) rF21)) rfl fun _=>w1 fun h=>(ev21 ..).trans (bD h)
section
variable {β:Type} (y:LI->LI->Int->Int->Option β) (z:Int->Option β) (x0 x1:LI) (x2 x3:Int)
def J7:Option β:=(cond (decide (x3 < (x0.length:Int))) (cond (decide (0<=x3)) (ck (List.getD x0 x3.toNat 0) (x1.length:Int) (y x0 x1 (wI (x2+List.getD x1 (List.getD x0 x3.toNat 0).toNat 0)) (wI (x3+1)))) none) (z x2))
def qel:Option β:=(cond (decide (x3 < (x0.length:Int))) (ck x3 (x0.length:Int) (ck (List.getD x0 x3.toNat 0) (x1.length:Int) (y x0 x1 (wI (x2+List.getD x1 (List.getD x0 x3.toNat 0).toNat 0)) (wI (x3+1))))) (z x2))
def jS:=itL (fun _ _ _ _=>none) fun f=>J7 f some
theorem qaX (n:Nat):jS (n+1)=J7 (jS n) some:=rfl
def qbJ:Int->Ex×CS:=fun r=>((.exit 0),⟨[(5,vI r)],[],[],0,false⟩)
abbrev H9:CS:=⟨[(0,vd0 x0),(1,vd0 x1),(5,vI x2),(6,vI x3)],[],[],0,false⟩
theorem qhu {k m n:Nat} {r:Int} (h:jS n x0 x1 x2 x3=some r):lE S195 23 0 k (n+m) (H9 x0 x1 x2 x3)=some (qbJ r):=by
 induction n generalizing x2 x3 with
 |zero=>cases h
 |succ n ih=>
 exact lS (qel (fun x0 x1 x2 x3=>lE S195 23 0 k (n+m) (H9 x0 x1 x2 x3)) (sm qbJ) x0 x1 x2 x3) (by kernel_rfl) (by rw [qaX];unfold J7 qel;with_reducible repeat' first|apply gT ‹_›|apply gF ‹_›|(apply zz<;>intro _)|exact ih _ _|exact nX|exact sX) h
end
def S196:=S195.lp 23 0 (H9 [] [] 0 0) (fun x0 x1 x2 x3=>some (y1 (jS FU x0 x1 x2 x3) qbJ)) (by kernel_rfl) fun _=>w1 fun h=>qhu _ _ _ _ h
section
variable {β:Type} (z:Int->Option β) (x0 x1:LI)
def tv23:Option β:=(ob (jS FU x0 x1 0 0) fun r1=>(z r1))
def v23:=tv23 some x0 x1
abbrev aF23:List TA:=[.sc (kd0 x0),.sc (kd0 x1)]
abbrev rF23:Int->List TA×List TO:=fun r=>([.sc (I4 r)],[])
theorem ev23:fE S196 23 (aF23 x0 x1) []=(v23 x0 x1).bind (sm rF23):=zE (fun z=>tv23 z x0 x1) (by kernel_rfl) fun K=>by unfold v23 tv23;with_reducible repeat' first|apply zc|exact nB|exact sB
end
def S197:=S196.fn 23 (aF23 [] []) [] (fun x0 x1=>some (y1 (v23 x0 x1) rF23)) rfl fun _=>w1 fun h=>(ev23 ..).trans (bD h)
section
variable {β:Type} (y:LL->LI->Int->Int->Int->LI->L3->Option β) (z:(Bool ⊕ Unit)->Option β) (x0:LL) (x1:LI) (x2 x3 x4:Int) (x5:LI) (x6:L3)
def Jl:Option β:=(ck x2 (x6.length:Int) (cond (decide (x4 < (↑(List.length (List.getD x6 x2.toNat [])):Int))) (cond (decide (0<=x4)) (ob (v23 (List.getD (List.getD x6 x2.toNat []) x4.toNat []) x1) fun r1=>(cond (decide (r1 < x3)) (z (.inl (false))) (y x0 x1 x2 x3 (wI (x4+1)) x5 x6))) none) (z (.inr ()))))
def qdV:Option β:=(ck x2 (x6.length:Int) (cond (decide (x4 < (↑(List.length (List.getD x6 x2.toNat [])):Int))) (ck x2 (x6.length:Int) (ck x4 (↑(List.length (List.getD x6 x2.toNat [])):Int) (ob (v23 (List.getD (List.getD x6 x2.toNat []) x4.toNat []) x1) fun r1=>(cond (decide (r1 < x3)) (z (.inl (false))) (y x0 x1 x2 x3 (wI (x4+1)) x5 x6))))) (z (.inr ()))))
def q6:=itL (fun _ _ _ _ _ _ _=>none) fun f=>Jl f some
theorem Si (n:Nat):q6 (n+1)=Jl (q6 n) some:=rfl
def Hn:(Bool ⊕ Unit)->Ex×CS:=Sum.elim (fun r=>(.ret,⟨[(6,vB r)],[],[],0,true⟩)) fun r=>((.exit 2),⟨[(1,vd1 x0),(2,vd0 x1),(3,.l 3 0),(7,vI x2),(35,.l 3 1)],[(3,[kd0 x5,kd1 x6])],[],0,false⟩)
abbrev DH:CS:=⟨[(1,vd1 x0),(2,vd0 x1),(3,.l 3 0),(7,vI x2),(9,vI x3),(10,vI x4)],[(3,[kd0 x5,kd1 x6])],[],0,false⟩
theorem qgg {k m n:Nat} {r:Bool ⊕ Unit} (h:q6 n x0 x1 x2 x3 x4 x5 x6=some r):lE S197 40 2 k (n+m) (DH x0 x1 x2 x3 x4 x5 x6)=some (Hn x0 x1 x2 x5 x6 r):=by
 induction n generalizing x4 with
 |zero=>cases h
 |succ n ih=>
 exact lS (qdV (fun x0 x1 x2 x3 x4 x5 x6=>lE S197 40 2 k (n+m) (DH x0 x1 x2 x3 x4 x5 x6)) (sm (Hn x0 x1 x2 x5 x6)) x0 x1 x2 x3 x4 x5 x6) (by kernel_rfl) (by rw [Si];unfold Jl qdV;with_reducible repeat' first|apply gT ‹_›|apply gF ‹_›|(apply zz<;>intro _)|exact ih _|exact nX|exact sX) h
end
def S198:=S197.lp 40 2 (DH [] [] 0 0 0 [] []) (fun x0 x1 x2 x3 x4 x5 x6=>some (y2 (q6 FU x0 x1 x2 x3 x4 x5 x6) (Hn x0 x1 x2 x5 x6))) (by kernel_rfl) fun _=>w2 fun h=>qgg _ _ _ _ _ _ _ h
section
variable {β:Type} (y:LL->LI->Int->LI->L3->Option β) (z:(Bool ⊕ Unit)->Option β) (x0:LL) (x1:LI) (x2:Int) (x3:LI) (x4:L3)
def GF:Option β:=(cond (decide (x2 < (x4.length:Int))) (ck x2 (x0.length:Int) (ob (v21 (List.getD x0 x2.toNat [])) fun r1=>(cond (decide (r1 < (1:Int))) (z (.inl (false))) (cond (decide (r1≠0)) (cond (isL (q6 FU x0 x1 x2 (wI (Int.tdiv (wI (wI ((1000000000000:Int)+r1) - (1:Int))) r1)) 0 x3 x4)) (z (.inl (zx (q6 FU x0 x1 x2 (wI (Int.tdiv (wI (wI ((1000000000000:Int)+r1) - (1:Int))) r1)) 0 x3 x4)))) (ob (zB (q6 FU x0 x1 x2 (wI (Int.tdiv (wI (wI ((1000000000000:Int)+r1) - (1:Int))) r1)) 0 x3 x4)) fun _=>(y x0 x1 (wI (x2+1)) x3 x4))) none)))) (z (.inr ())))
def jE:=itL (fun _ _ _ _ _=>none) fun f=>GF f some
theorem qbc (n:Nat):jE (n+1)=GF (jE n) some:=rfl
def qbZ:(Bool ⊕ Unit)->Ex×CS:=Sum.elim (fun r=>(.ret,⟨[(6,vB r)],[],[],0,true⟩)) fun r=>((.exit 0),⟨[(3,.l 3 0),(16,.l 3 1)],[],[],0,false⟩)
abbrev qap:CS:=⟨[(1,vd1 x0),(2,vd0 x1),(3,.l 3 0),(7,vI x2)],[(3,[kd0 x3,kd1 x4])],[],0,false⟩
theorem qhK {k m n:Nat} {r:Bool ⊕ Unit} (h:jE n x0 x1 x2 x3 x4=some r):lE S198 40 0 k (n+m) (qap x0 x1 x2 x3 x4)=some (qbZ r):=by
 induction n generalizing x2 with
 |zero=>cases h
 |succ n ih=>
 exact lS (GF (fun x0 x1 x2 x3 x4=>lE S198 40 0 k (n+m) (qap x0 x1 x2 x3 x4)) (sm qbZ) x0 x1 x2 x3 x4) (by kernel_rfl) (by rw [qbc];unfold GF;with_reducible repeat' first|apply zd|exact ih _|exact nX|exact sX) h
end
def S199:=S198.lp 40 0 (qap [] [] 0 [] []) (fun x0 x1 x2 x3 x4=>some (y2 (jE FU x0 x1 x2 x3 x4) qbZ)) (by kernel_rfl) fun _=>w2 fun h=>qhK _ _ _ _ _ h
section
variable {β:Type} (z:Bool->Option β) (x0:LI) (x1:L3) (x2:LL) (x3:LI)
def tv40:Option β:=(ob (v20 x0 x1 x2) fun r1=>(cond (!r1) (z false) (cond (isL (jE FU x2 x3 0 x0 x1)) (z (zx (jE FU x2 x3 0 x0 x1))) (ob (zB (jE FU x2 x3 0 x0 x1)) fun _=>(z true)))))
def v40:=tv40 some x0 x1 x2 x3
abbrev aF40:List TA:=[.agg [kd0 x0,kd1 x1],.sc (kd2 x2),.sc (kd0 x3)]
abbrev rF40:Bool->List TA×List TO:=fun r=>([.sc (.bool r)],[])
theorem ev40:fE S199 40 (aF40 x0 x1 x2 x3) []=(v40 x0 x1 x2 x3).bind (sm rF40):=zE (fun z=>tv40 z x0 x1 x2 x3) (by kernel_rfl) fun K=>by unfold v40 tv40;with_reducible repeat' first|apply zc|exact nB|exact sB
end
def S200:=S199.fn 40 (aF40 [] [] [] []) [] (fun x0 x1 x2 x3=>some (y1 (v40 x0 x1 x2 x3) rF40)) rfl fun _=>w1 fun h=>(ev40 ..).trans (bD h)
section
variable {β:Type} (y:LI->Int->Int->LI->L3->Option β) (z:Int->Option β) (x0:LI) (x1 x2:Int) (x3:LI) (x4:L3)
def Ke:Option β:=(cond (decide (x2 < (x0.length:Int))) (ck x2 (x3.length:Int) (y x0 (wI (x1+wI (List.getD x0 x2.toNat 0*List.getD x3 x2.toNat 0))) (wI (x2+1)) x3 x4)) (z x1))
def qes:Option β:=(cond (decide (x2 < (x0.length:Int))) (ck x2 (x0.length:Int) (ck x2 (x3.length:Int) (y x0 (wI (x1+wI (List.getD x0 x2.toNat 0*List.getD x3 x2.toNat 0))) (wI (x2+1)) x3 x4))) (z x1))
def j8:=itL (fun _ _ _ _ _=>none) fun f=>Ke f some
theorem qbd (n:Nat):j8 (n+1)=Ke (j8 n) some:=rfl
def qb0:Int->Ex×CS:=fun r=>((.exit 0),⟨[(2,.l 2 0),(5,vI r)],[],[],0,false⟩)
abbrev qaq:CS:=⟨[(1,vd0 x0),(2,.l 2 0),(5,vI x1),(6,vI x2)],[(2,[kd0 x3,kd1 x4])],[],0,false⟩
theorem qhL {k m n:Nat} {r:Int} (h:j8 n x0 x1 x2 x3 x4=some r):lE S200 41 0 k (n+m) (qaq x0 x1 x2 x3 x4)=some (qb0 r):=by
 induction n generalizing x1 x2 with
 |zero=>cases h
 |succ n ih=>
 exact lS (qes (fun x0 x1 x2 x3 x4=>lE S200 41 0 k (n+m) (qaq x0 x1 x2 x3 x4)) (sm qb0) x0 x1 x2 x3 x4) (by kernel_rfl) (by rw [qbd];unfold Ke qes;with_reducible repeat' first|apply gT ‹_›|apply gF ‹_›|(apply zz<;>intro _)|exact ih _ _|exact nX|exact sX) h
end
def S201:=S200.lp 41 0 (qaq [] 0 0 [] []) (fun x0 x1 x2 x3 x4=>some (y1 (j8 FU x0 x1 x2 x3 x4) qb0)) (by kernel_rfl) fun _=>w1 fun h=>qhL _ _ _ _ _ h
section
variable {β:Type} (z:Int->Option β) (x0:LI) (x1:L3) (x2:LI)
def tv41:Option β:=(ob (j8 FU x2 0 0 x0 x1) fun r1=>(z r1))
def v41:=tv41 some x0 x1 x2
abbrev aF41:List TA:=[.agg [kd0 x0,kd1 x1],.sc (kd0 x2)]
abbrev rF41:Int->List TA×List TO:=fun r=>([.sc (I4 r)],[])
theorem ev41:fE S201 41 (aF41 x0 x1 x2) []=(v41 x0 x1 x2).bind (sm rF41):=zE (fun z=>tv41 z x0 x1 x2) (by kernel_rfl) fun K=>by unfold v41 tv41;with_reducible repeat' first|apply zc|exact nB|exact sB
end
def S202:=S201.fn 41 (aF41 [] [] []) [] (fun x0 x1 x2=>some (y1 (v41 x0 x1 x2) rF41)) rfl fun _=>w1 fun h=>(ev41 ..).trans (bD h)
section
variable {β:Type} (z:(Int × Int)->Option β) (x0:LI) (x1:L3) (x2:LL) (x3:LI)
def tv38:Option β:=(ob (v24 x0 x1) fun r1=>(cond (!r1) (z (0,(1:Int))) (ob (v19 x0 x1 x2) fun r2=>(cond (!r2) (z (0,(1:Int))) (ob (v30 x0 x1 x3) fun r3=>(cond (!r3) (z (0,(1:Int))) (ob (v40 x0 x1 x2 x3) fun r4=>(cond (!r4) (z (0,(17:Int))) (ob (v41 x0 x1 x3) fun r5=>(cond (decide (max 0 (wI (r5 - wI ((1000000:Int)*(x1.length:Int)))) > (1000000000000:Int))) (z (0,(3:Int))) (z (max 0 (wI (r5 - wI ((1000000:Int)*(x1.length:Int)))),0))))))))))))
def v38:=tv38 some x0 x1 x2 x3
abbrev aF38:List TA:=[.agg [kd0 x0,kd1 x1],.sc (kd2 x2),.sc (kd0 x3)]
abbrev rF38:(Int×Int)->List TA×List TO:=fun r=>([.sc (I4 r.1),.sc (I4 r.2)],[])
theorem ev38:fE S202 38 (aF38 x0 x1 x2 x3) []=(v38 x0 x1 x2 x3).bind (sm rF38):=zE (fun z=>tv38 z x0 x1 x2 x3) (by kernel_rfl) fun K=>by unfold v38 tv38;with_reducible repeat' first|apply zc|exact nB|exact sB
end
def S203:=S202.fn 38 (aF38 [] [] [] []) [] (fun x0 x1 x2 x3=>some (y1 (v38 x0 x1 x2 x3) rF38)) rfl fun _=>w1 fun h=>(ev38 ..).trans (bD h)
section
variable {β:Type} (z:(LL × LI × Int)->Option β) (x0:LI) (x1:L3)
def tv18:Option β:=(cond (decide ((x0.length:Int)<=(x0.length:Int))) (cond (decide ((x0.length:Int)<=(↑(nat_lit 2147483648):Int))) (ob (jQ FU 0 x0 x1 0 (List.replicate (x0.length:Int).toNat 0) [] []) fun r1=>(ob (jg FU (-1:Int) 0 x0 x1 0 r1 [] []) fun r2=>(ob (jh FU r2 0 0 x0 x1 0 0 r1 [] [] [] []) fun r3=>(ob (ji FU r3.1 0 x0 x1 0 0 [] [] r3.2 []) fun r4=>(ob (v38 x0 x1 r3.2 r4) fun r5=>(z (r3.2,r4,r5.1))))))) none) none)
def v18:=tv18 some x0 x1
abbrev aF18:List TA:=[.agg [kd0 x0,kd1 x1]]
abbrev rF18:(LL×LI×Int)->List TA×List TO:=fun r=>([.agg [kd2 r.1,kd0 r.2.1,I4 r.2.2]],[])
theorem ev18:fE S203 18 (aF18 x0 x1) []=(v18 x0 x1).bind (sm rF18):=zE (fun z=>tv18 z x0 x1) (by kernel_rfl) fun K=>by unfold v18 tv18;with_reducible repeat' first|apply zc|exact nB|exact sB
end
def S204:=S203.fn 18 (aF18 [] []) [] (fun x0 x1=>some (y1 (v18 x0 x1) rF18)) rfl fun _=>w1 fun h=>(ev18 ..).trans (bD h)
section
variable {β:Type} (z:(LL × LI × Int × Int)->Option β) (x0:LI) (x1:L3) (x2:Int)
def tv15:Option β:=(ob (v24 x0 x1) fun r1=>(cond (!r1) (z ([],[],0,(1:Int))) (cond (decide (x2 < 0)) (z ([],[],0,(1:Int))) (cond (decide (x2 > (1000:Int))) (z ([],[],0,(1:Int))) (cond (isL (jb FU 0 x0 x1 0 [] [])) (z ([],[],(zx (jb FU 0 x0 x1 0 [] [])).2,(zx (jb FU 0 x0 x1 0 [] [])).1)) (ob (zB (jb FU 0 x0 x1 0 [] [])) fun _=>(ob (v18 x0 x1) fun r3=>(z (r3.1,r3.2.1,r3.2.2,0)))))))))
def v15:=tv15 some x0 x1 x2
abbrev aF15:List TA:=[.agg [kd0 x0,kd1 x1],.sc (I4 x2)]
abbrev rF15:(LL×LI×Int×Int)->List TA×List TO:=fun r=>([.agg [kd2 r.1,kd0 r.2.1,I4 r.2.2.1],.sc (I4 r.2.2.2)],[])
theorem ev15:fE S204 15 (aF15 x0 x1 x2) []=(v15 x0 x1 x2).bind (sm rF15):=zE (fun z=>tv15 z x0 x1 x2) (by kernel_rfl) fun K=>by unfold v15 tv15;with_reducible repeat' first|apply zc|exact nB|exact sB
end
def S205:=S204.fn 15 (aF15 [] [] 0) [] (fun x0 x1 x2=>some (y1 (v15 x0 x1 x2) rF15)) rfl fun _=>w1 fun h=>(ev15 ..).trans (bD h)
section
variable {β:Type} (z:Bool->Option β) (x0:LI) (x1:L3)
def tv17:Option β:=(ob (v11 x0 x1 [] []) fun r1=>(cond (!r1) (z false) (ob (v15 x0 x1 0) fun r2=>(z (r2.2.2.2==0)))))
def v17:=tv17 some x0 x1
abbrev aF17:List TA:=[.agg [kd0 x0,kd1 x1]]
abbrev rF17:Bool->List TA×List TO:=fun r=>([.sc (.bool r)],[])
theorem ev17:fE S205 17 (aF17 x0 x1) []=(v17 x0 x1).bind (sm rF17):=zE (fun z=>tv17 z x0 x1) (by kernel_rfl) fun K=>by unfold v17 tv17;with_reducible repeat' first|apply zc|exact nB|exact sB
end
def S206:=S205.fn 17 (aF17 [] []) [] (fun x0 x1=>some (y1 (v17 x0 x1) rF17)) rfl fun _=>w1 fun h=>(ev17 ..).trans (bD h)
section
variable {β:Type} (z:Int->Option β) (x0:LL) (x1:Bool) (x2 x3 x4:Int) (x5:LL) (x6:LI) (x7:Int)
def Kx:Option β:=(ck x3 (x0.length:Int) (ob (v21 (List.getD x0 x3.toNat [])) fun r1=>(cond (decide (x4≠0)) (z (wI (x2+wI (Int.tdiv (wI (r1*1000000)) x4)))) none)))
def Gm (x0:LL) (x1:Bool) (x2 x3 x4:Int) (x5:LL) (x6:LI) (x7:Int):Option Int:=Kx some x0 x2 x3 x4
def Hr:Int->Ex×CS:=fun r=>(.normal,⟨[(1,vd1 x0),(7,vB x1),(10,.l 10 0),(12,vI r),(13,vI x3)],[(10,[kd2 x5,kd0 x6,I4 x7])],[],0,false⟩)
abbrev qdt:CS:=⟨[(1,vd1 x0),(7,vB x1),(10,.l 10 0),(12,vI x2),(13,vI x3),(14,vI x4)],[(10,[kd2 x5,kd0 x6,I4 x7])],[],0,false⟩
theorem qgk {k:Nat} {r:Int}:Gm x0 x1 x2 x3 x4 x5 x6 x7=some r->pE S206 5 132 1 k (qdt x0 x1 x2 x3 x4 x5 x6 x7)=some (Hr x0 x1 x3 x5 x6 x7 r):=lP (Kx (sm (Hr x0 x1 x3 x5 x6 x7)) x0 x2 x3 x4) (by kernel_rfl) (by unfold Gm Kx;with_reducible repeat' first|apply zd|exact nX|exact sX)
end
def S207:=S206.pc 5 132 1 (qdt [] false 0 0 0 [] [] 0) (fun x0 x1 x2 x3 x4 x5 x6 x7=>some (y1 (Gm x0 x1 x2 x3 x4 x5 x6 x7) (Hr x0 x1 x3 x5 x6 x7))) (by kernel_rfl) rfl fun _=>w1 fun h=>qgk _ _ _ _ _ _ _ _ h
section
variable {β:Type} (y:LL->Bool->Int->Int->LL->LI->Int->Option β) (z:(Bool ⊕ Int)->Option β) (x0:LL) (x1:Bool) (x2 x3:Int) (x4:LL) (x5:LI) (x6:Int)
def JP:Option β:=(cond (decide (x3 < (x0.length:Int))) (ck x3 (x4.length:Int) (ob (v21 (List.getD x4 x3.toNat [])) fun r1=>(cond (decide (r1 < (1:Int))) (z (.inl (false))) (ob (Gm x0 x1 x2 x3 r1 x4 x5 x6) fun r2=>(y x0 x1 r2 (wI (x3+1)) x4 x5 x6))))) (z (.inr (x2))))
def qR:=itL (fun _ _ _ _ _ _ _=>none) fun f=>JP f some
theorem qdg (n:Nat):qR (n+1)=JP (qR n) some:=rfl
def qdh:(Bool ⊕ Int)->Ex×CS:=Sum.elim (fun r=>(.ret,⟨[(6,vB r)],[],[],0,true⟩)) fun r=>((.exit 0),⟨[(1,vd1 x0),(7,vB x1),(10,.l 10 0),(12,vI r)],[(10,[kd2 x4,kd0 x5,I4 x6])],[],0,false⟩)
abbrev qdd:CS:=⟨[(1,vd1 x0),(7,vB x1),(10,.l 10 0),(12,vI x2),(13,vI x3)],[(10,[kd2 x4,kd0 x5,I4 x6])],[],0,false⟩
theorem lL5_0_0 {k m n:Nat} {r:Bool ⊕ Int} (h:qR n x0 x1 x2 x3 x4 x5 x6=some r):lE S207 5 0 k (n+m) (qdd x0 x1 x2 x3 x4 x5 x6)=some (qdh x0 x1 x4 x5 x6 r):=by
 induction n generalizing x2 x3 with
 |zero=>cases h
 |succ n ih=>
 exact lS (JP (fun x0 x1 x2 x3 x4 x5 x6=>lE S207 5 0 k (n+m) (qdd x0 x1 x2 x3 x4 x5 x6)) (sm (qdh x0 x1 x4 x5 x6)) x0 x1 x2 x3 x4 x5 x6) (by kernel_rfl) (by rw [qdg];unfold JP;with_reducible repeat' first|apply zd|exact ih _ _|exact nX|exact sX) h
end
def S208:=S207.lp 5 0 (qdd [] false 0 0 [] [] 0) (fun x0 x1 x2 x3 x4 x5 x6=>some (y2 (qR FU x0 x1 x2 x3 x4 x5 x6) (qdh x0 x1 x4 x5 x6))) (by kernel_rfl) fun _=>w2 fun h=>lL5_0_0 _ _ _ _ _ _ _ h
section
variable {β:Type} (z:Bool->Option β) (x0:LL) (x1:Int) (x2:Bool) (x3:LI) (x4:L3)
def KV:Option β:=(ob (v14 x3 x4 x1) fun r1=>(cond (r1.2.2.2 != 0) (z false) (cond ((↑(List.length r1.1):Int) != (x0.length:Int)) (z false) (cond (isL (qR FU x0 x2 0 0 r1.1 r1.2.1 r1.2.2.1)) (z (zx (qR FU x0 x2 0 0 r1.1 r1.2.1 r1.2.2.1))) (ob (zB (qR FU x0 x2 0 0 r1.1 r1.2.1 r1.2.2.1)) fun r2=>(cond x2 (z (decide (r2<=wI (wI ((1000000:Int)*(x0.length:Int))+r1.2.2.1)))) (z false)))))))
def JN:=KV some x0 x1 x2 x3 x4
def qb6:Bool->Ex×CS:=fun r=>(.ret,⟨[(6,vB r)],[],[],0,true⟩)
abbrev qd6:CS:=⟨[(1,vd1 x0),(2,vI x1),(3,.l 3 0),(7,vB x2)],[(3,[kd0 x3,kd1 x4])],[],0,false⟩
theorem qhR {k:Nat} {r:Bool}:JN x0 x1 x2 x3 x4=some r->pE S208 5 52 0 k (qd6 x0 x1 x2 x3 x4)=some (qb6 r):=lP (KV (sm qb6) x0 x1 x2 x3 x4) (by kernel_rfl) (by unfold JN KV;with_reducible repeat' first|apply zd|exact nX|exact sX)
end
def S209:=S208.pc 5 52 0 (qd6 [] 0 false [] []) (fun x0 x1 x2 x3 x4=>some (y1 (JN x0 x1 x2 x3 x4) qb6)) (by kernel_rfl) rfl fun _=>w1 fun h=>qhR _ _ _ _ _ h
section
variable {β:Type} (z:Bool->Option β) (x0:LI) (x1:L3) (x2:LL) (x3:Int)
def tv5:Option β:=(ob (v17 x0 x1) fun r1=>(ob (v11 x0 x1 x2 []) fun r2=>(cond (!r1) (z true) (cond (!r2) (z true) (cond (decide (x3 < 0)) (z true) (cond (decide (x3 > (1000:Int))) (z true) (ob (v19 x0 x1 x2) fun r3=>(cond (!r3) (z true) (ob (v20 x0 x1 x2) fun r4=>(cond (!r4) (z true) (ob (JN x2 x3 (val v10) x0 x1) fun r5=>(z r5))))))))))))
def v5:=tv5 some x0 x1 x2 x3
abbrev aF5:List TA:=[.agg [kd0 x0,kd1 x1],.sc (kd2 x2),.sc (I4 x3)]
abbrev rF5:Bool->List TA×List TO:=fun r=>([.sc (.bool r)],[])
theorem ev5:fE S209 5 (aF5 x0 x1 x2 x3) []=(v5 x0 x1 x2 x3).bind (sm rF5):=zE (fun z=>tv5 z x0 x1 x2 x3) (by kernel_rfl) fun K=>by unfold v5 tv5;with_reducible repeat' first|apply zc|exact nB|exact sB
end
end
end Go.Proofs.Ytpfphfobneehmaa
