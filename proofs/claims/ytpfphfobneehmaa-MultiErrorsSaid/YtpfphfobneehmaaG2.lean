/- What some functions and loops come to: printed and checked. Written by a program of ours. -/
import Derived.Test.YtpfphfobneehmaaG1
set_option linter.all false
set_option maxRecDepth 1000000
set_option maxHeartbeats 4000000
namespace Go.Proofs.Ytpfphfobneehmaa
open Go Go.AM Go.TM Go.Proofs
noncomputable section
section
variable {β:Type} (y:LI->LI->Int->Option β) (z:(Bool ⊕ Unit)->Option β) (x0 x1:LI) (x2:Int)
def Hh:Option β:=(cond (decide (x2 < (x0.length:Int))) (ck x2 (x1.length:Int) (cond (List.getD x0 x2.toNat 0 != List.getD x1 x2.toNat 0) (z (.inl (false))) (y x0 x1 (wI (x2+1))))) (z (.inr ())))
def qbO:Option β:=(cond (decide (x2 < (x0.length:Int))) (ck x2 (x0.length:Int) (ck x2 (x1.length:Int) (cond (List.getD x0 x2.toNat 0 != List.getD x1 x2.toNat 0) (z (.inl (false))) (y x0 x1 (wI (x2+1)))))) (z (.inr ())))
def gg:=itL (fun _ _ _=>none) fun f=>Hh f some
theorem qe2 (n:Nat):gg (n+1)=Hh (gg n) some:=rfl
def Hz:(Bool ⊕ Unit)->Ex×CS:=Sum.elim (fun r=>(.ret,⟨[(4,vB r)],[],[],0,true⟩)) fun r=>((.exit 0),⟨[],[],[],0,false⟩)
abbrev D6:CS:=⟨[(0,vd0 x0),(1,vd0 x1),(5,vI x2)],[],[],0,false⟩
theorem qeE {k m n:Nat} {r:Bool ⊕ Unit} (h:gg n x0 x1 x2=some r):lE S150 36 0 k (n+m) (D6 x0 x1 x2)=some (Hz r):=by
 induction n generalizing x2 with
 |zero=>cases h
 |succ n ih=>
 exact lS (qbO (fun x0 x1 x2=>lE S150 36 0 k (n+m) (D6 x0 x1 x2)) (sm Hz) x0 x1 x2) (by kernel_rfl) (by rw [qe2];unfold Hh qbO;with_reducible repeat' first|apply gT ‹_›|apply gF ‹_›|(apply zz<;>intro _)|exact ih _|exact nX|exact sX) h
end
def S151:=S150.lp 36 0 (D6 [] [] 0) (fun x0 x1 x2=>some (y2 (gg FU x0 x1 x2) Hz)) (by kernel_rfl) fun _=>w2 fun h=>qeE _ _ _ h
section
variable {β:Type} (z:Bool->Option β) (x0 x1:LI)
def tv36:Option β:=(cond ((x0.length:Int) != (x1.length:Int)) (z false) (cond (isL (gg FU x0 x1 0)) (z (zx (gg FU x0 x1 0))) (ob (zB (gg FU x0 x1 0)) fun _=>(z true))))
def v36:=tv36 some x0 x1
abbrev aF36:List TA:=[.sc (kd0 x0),.sc (kd0 x1)]
abbrev rF36:Bool->List TA×List TO:=fun r=>([.sc (.bool r)],[])
theorem ev36:fE S151 36 (aF36 x0 x1) []=(v36 x0 x1).bind (sm rF36):=zE (fun z=>tv36 z x0 x1) (by kernel_rfl) fun K=>by unfold v36 tv36;with_reducible repeat' first|apply zc|exact nB|exact sB
end
def S152:=S151.fn 36 (aF36 [] []) [] (fun x0 x1=>some (y1 (v36 x0 x1) rF36)) rfl fun _=>w1 fun h=>(ev36 ..).trans (bD h)
section
variable {β:Type} (y:Int->LL->LI->Int->LL->LI->Int->Option β) (z:(Bool ⊕ Unit)->Option β) (x0:Int) (x1:LL) (x2:LI) (x3:Int) (x4:LL) (x5:LI) (x6:Int)
def Hg:Option β:=(cond (decide (x0 < (x1.length:Int))) (ck x0 (x4.length:Int) (ob (v36 (List.getD x1 x0.toNat []) (List.getD x4 x0.toNat [])) fun r1=>(cond (!r1) (z (.inl (false))) (y (wI (x0+1)) x1 x2 x3 x4 x5 x6)))) (z (.inr ())))
def qbL:Option β:=(cond (decide (x0 < (x1.length:Int))) (ck x0 (x1.length:Int) (ck x0 (x4.length:Int) (ob (v36 (List.getD x1 x0.toNat []) (List.getD x4 x0.toNat [])) fun r1=>(cond (!r1) (z (.inl (false))) (y (wI (x0+1)) x1 x2 x3 x4 x5 x6))))) (z (.inr ())))
def ge:=itL (fun _ _ _ _ _ _ _=>none) fun f=>Hg f some
theorem qe1 (n:Nat):ge (n+1)=Hg (ge n) some:=rfl
def Hm:(Bool ⊕ Unit)->Ex×CS:=Sum.elim (fun r=>(.ret,⟨[(4,vB r)],[],[],0,true⟩)) fun r=>((.exit 0),⟨[(2,.l 2 0),(3,.l 3 0),(32,.l 2 0)],[],[],0,false⟩)
abbrev DV:CS:=⟨[(2,.l 2 0),(3,.l 3 0),(6,vI x0)],[(2,[kd2 x1,kd0 x2,I4 x3]),(3,[kd2 x4,kd0 x5,I4 x6])],[],0,false⟩
theorem qet {k m n:Nat} {r:Bool ⊕ Unit} (h:ge n x0 x1 x2 x3 x4 x5 x6=some r):lE S152 16 0 k (n+m) (DV x0 x1 x2 x3 x4 x5 x6)=some (Hm r):=by
 induction n generalizing x0 with
 |zero=>cases h
 |succ n ih=>
 exact lS (qbL (fun x0 x1 x2 x3 x4 x5 x6=>lE S152 16 0 k (n+m) (DV x0 x1 x2 x3 x4 x5 x6)) (sm Hm) x0 x1 x2 x3 x4 x5 x6) (by kernel_rfl) (by rw [qe1];unfold Hg qbL;with_reducible repeat' first|apply gT ‹_›|apply gF ‹_›|(apply zz<;>intro _)|exact ih _|exact nX|exact sX) h
end
def S153:=S152.lp 16 0 (DV 0 [] [] 0 [] [] 0) (fun x0 x1 x2 x3 x4 x5 x6=>some (y2 (ge FU x0 x1 x2 x3 x4 x5 x6) Hm)) (by kernel_rfl) fun _=>w2 fun h=>qet _ _ _ _ _ _ _ h
section
variable {β:Type} (z:Bool->Option β) (x0:LL) (x1:LI) (x2:Int) (x3:LL) (x4:LI) (x5:Int)
def tv16:Option β:=(ob (v36 x1 x4) fun r1=>(cond (!r1) (z false) (cond (x2 != x5) (z false) (cond ((x0.length:Int) != (x3.length:Int)) (z false) (cond (isL (ge FU 0 x0 x1 x2 x3 x4 x5)) (z (zx (ge FU 0 x0 x1 x2 x3 x4 x5))) (ob (zB (ge FU 0 x0 x1 x2 x3 x4 x5)) fun _=>(z true)))))))
def v16:=tv16 some x0 x1 x2 x3 x4 x5
abbrev aF16:List TA:=[.agg [kd2 x0,kd0 x1,I4 x2],.agg [kd2 x3,kd0 x4,I4 x5]]
abbrev rF16:Bool->List TA×List TO:=fun r=>([.sc (.bool r)],[])
theorem ev16:fE S153 16 (aF16 x0 x1 x2 x3 x4 x5) []=(v16 x0 x1 x2 x3 x4 x5).bind (sm rF16):=zE (fun z=>tv16 z x0 x1 x2 x3 x4 x5) (by kernel_rfl) fun K=>by unfold v16 tv16;with_reducible repeat' first|apply zc|exact nB|exact sB
end
def S154:=S153.fn 16 (aF16 [] [] 0 [] [] 0) [] (fun x0 x1 x2 x3 x4 x5=>some (y1 (v16 x0 x1 x2 x3 x4 x5) rF16)) rfl fun _=>w1 fun h=>(ev16 ..).trans (bD h)
section
variable {β:Type} (z:Bool->Option β) (x0:LI) (x1:L3) (x2:LL) (x3:LI) (x4:Int)
def tv27:Option β:=(ob (v14 x0 x1 0) fun r1=>(cond (r1.2.2.2==0) (ob (v16 r1.1 r1.2.1 r1.2.2.1 x2 x3 x4) fun r2=>(z r2)) (z false)))
def v27:=tv27 some x0 x1 x2 x3 x4
abbrev aF27:List TA:=[.agg [kd0 x0,kd1 x1],.agg [kd2 x2,kd0 x3,I4 x4]]
abbrev rF27:Bool->List TA×List TO:=fun r=>([.sc (.bool r)],[])
theorem ev27:fE S154 27 (aF27 x0 x1 x2 x3 x4) []=(v27 x0 x1 x2 x3 x4).bind (sm rF27):=zE (fun z=>tv27 z x0 x1 x2 x3 x4) (by kernel_rfl) fun K=>by unfold v27 tv27;with_reducible repeat' first|apply zc|exact nB|exact sB
end
def S155:=S154.fn 27 (aF27 [] [] [] [] 0) [] (fun x0 x1 x2 x3 x4=>some (y1 (v27 x0 x1 x2 x3 x4) rF27)) rfl fun _=>w1 fun h=>(ev27 ..).trans (bD h)
section
variable {β:Type} (z:Bool->Option β) (x0:Bool) (x1 x2 x3 x4 x5 x6:Int) (x7:LL) (x8:LI) (x9:Int)
def KU:Option β:=(cond x0 (cond (x3==0) (cond (x1==(1:Int)) (cond (x2==(4:Int)) (cond (x4==(4:Int)) (cond (x5==(1:Int)) (cond (x6==0) (z (x9==0)) (z false)) (z false)) (z false)) (z false)) (z false)) (z false)) (z false))
def Jt (x0:Bool) (x1 x2 x3 x4 x5 x6:Int) (x7:LL) (x8:LI) (x9:Int):Option Bool:=KU some x0 x1 x2 x3 x4 x5 x6 x9
def K3:Bool->Ex×CS:=fun r=>(.ret,⟨[(0,vB r)],[],[],0,true⟩)
abbrev qaY:CS:=⟨[(4,vB x0),(5,vI x1),(6,vI x2),(7,vI x3),(9,vI x4),(11,vI x5),(12,.l 12 0),(13,vI x6)],[(12,[kd2 x7,kd0 x8,I4 x9])],[],0,false⟩
theorem qc7 {k:Nat} {r:Bool}:Jt x0 x1 x2 x3 x4 x5 x6 x7 x8 x9=some r->pE S155 10 76 0 k (qaY x0 x1 x2 x3 x4 x5 x6 x7 x8 x9)=some (K3 r):=lP (KU (sm K3) x0 x1 x2 x3 x4 x5 x6 x9) (by kernel_rfl) (by unfold Jt KU;with_reducible repeat' first|apply zd|exact nX|exact sX)
end
def S156:=S155.pc 10 76 0 (qaY false 0 0 0 0 0 0 [] [] 0) (fun x0 x1 x2 x3 x4 x5 x6 x7 x8 x9=>some (y1 (Jt x0 x1 x2 x3 x4 x5 x6 x7 x8 x9) K3)) (by kernel_rfl) rfl fun _=>w1 fun h=>qc7 _ _ _ _ _ _ _ _ _ _ h
section
variable {β:Type} (z:Bool->Option β) (x0:Bool) (x1 x2 x3 x4 x5:Int) (x6:LI) (x7:L3)
def KT:Option β:=(ob (v14 x6 x7 (9:Int)) fun r1=>(ob (Jt x0 x1 x2 x3 x4 x5 r1.2.2.2 r1.1 r1.2.1 r1.2.2.1) fun r2=>(z r2)))
def Js:=KT some x0 x1 x2 x3 x4 x5 x6 x7
def K1:Bool->Ex×CS:=fun r=>(.ret,⟨[(0,vB r)],[],[],0,true⟩)
abbrev qaX:CS:=⟨[(1,.l 1 0),(4,vB x0),(5,vI x1),(6,vI x2),(7,vI x3),(9,vI x4),(11,vI x5)],[(1,[kd0 x6,kd1 x7])],[],0,false⟩
theorem qc6 {k:Nat} {r:Bool}:Js x0 x1 x2 x3 x4 x5 x6 x7=some r->pE S156 10 68 0 k (qaX x0 x1 x2 x3 x4 x5 x6 x7)=some (K1 r):=lP (KT (sm K1) x0 x1 x2 x3 x4 x5 x6 x7) (by kernel_rfl) (by unfold Js KT;with_reducible repeat' first|apply zd|exact nX|exact sX)
end
def S157:=S156.pc 10 68 0 (qaX false 0 0 0 0 0 [] []) (fun x0 x1 x2 x3 x4 x5 x6 x7=>some (y1 (Js x0 x1 x2 x3 x4 x5 x6 x7) K1)) (by kernel_rfl) rfl fun _=>w1 fun h=>qc6 _ _ _ _ _ _ _ _ h
section
variable {β:Type} (z:Bool->Option β) (x0:Bool) (x1 x2 x3 x4:Int) (x5:LI) (x6:L3)
def KS:Option β:=(ob (v14 x5 x6 (-1:Int)) fun r1=>(ob (Js x0 x1 x2 x3 x4 r1.2.2.2 x5 x6) fun r2=>(z r2)))
def Jr:=KS some x0 x1 x2 x3 x4 x5 x6
def K0:Bool->Ex×CS:=fun r=>(.ret,⟨[(0,vB r)],[],[],0,true⟩)
abbrev qaW:CS:=⟨[(1,.l 1 0),(4,vB x0),(5,vI x1),(6,vI x2),(7,vI x3),(9,vI x4)],[(1,[kd0 x5,kd1 x6])],[],0,false⟩
theorem qc5 {k:Nat} {r:Bool}:Jr x0 x1 x2 x3 x4 x5 x6=some r->pE S157 10 60 0 k (qaW x0 x1 x2 x3 x4 x5 x6)=some (K0 r):=lP (KS (sm K0) x0 x1 x2 x3 x4 x5 x6) (by kernel_rfl) (by unfold Jr KS;with_reducible repeat' first|apply zd|exact nX|exact sX)
end
def S158:=S157.pc 10 60 0 (qaW false 0 0 0 0 [] []) (fun x0 x1 x2 x3 x4 x5 x6=>some (y1 (Jr x0 x1 x2 x3 x4 x5 x6) K0)) (by kernel_rfl) rfl fun _=>w1 fun h=>qc5 _ _ _ _ _ _ _ h
section
variable {β:Type} (z:Bool->Option β) (x0:Bool) (x1 x2 x3:Int) (x4:LI) (x5:L3)
def KR:Option β:=(ob (Jr x0 x1 x2 x3 (val (v14 [0] [[[0]]] (5:Int))).2.2.2 x4 x5) fun r1=>(z r1))
def Jq:=KR some x0 x1 x2 x3 x4 x5
def KZ:Bool->Ex×CS:=fun r=>(.ret,⟨[(0,vB r)],[],[],0,true⟩)
abbrev qaV:CS:=⟨[(1,.l 1 0),(4,vB x0),(5,vI x1),(6,vI x2),(7,vI x3)],[(1,[kd0 x4,kd1 x5])],[],0,false⟩
theorem qc4 {k:Nat} {r:Bool}:Jq x0 x1 x2 x3 x4 x5=some r->pE S158 10 52 0 k (qaV x0 x1 x2 x3 x4 x5)=some (KZ r):=lP (KR (sm KZ) x0 x1 x2 x3 x4 x5) (by kernel_rfl) (by unfold Jq KR;with_reducible repeat' first|apply zd|exact nX|exact sX)
end
def S159:=S158.pc 10 52 0 (qaV false 0 0 0 [] []) (fun x0 x1 x2 x3 x4 x5=>some (y1 (Jq x0 x1 x2 x3 x4 x5) KZ)) (by kernel_rfl) rfl fun _=>w1 fun h=>qc4 _ _ _ _ _ _ h
section
variable {β:Type} (z:Bool->Option β) (x0:Bool) (x1:LI) (x2:L3) (x3:LI) (x4:L3)
def KQ:Option β:=(ob (v12 x3 x4 [(3:Int),(4:Int)] 0) fun r1=>(ob (Jq x0 r1.1 r1.2.1 r1.2.2 x1 x2) fun r2=>(z r2)))
def gd:=KQ some x0 x1 x2 x3 x4
def KY:Bool->Ex×CS:=fun r=>(.ret,⟨[(0,vB r)],[],[],0,true⟩)
abbrev qaU:CS:=⟨[(1,.l 1 0),(3,.l 3 0),(4,vB x0)],[(1,[kd0 x1,kd1 x2]),(3,[kd0 x3,kd1 x4])],[],0,false⟩
theorem qc3 {k:Nat} {r:Bool}:gd x0 x1 x2 x3 x4=some r->pE S159 10 44 0 k (qaU x0 x1 x2 x3 x4)=some (KY r):=lP (KQ (sm KY) x0 x1 x2 x3 x4) (by kernel_rfl) (by unfold gd KQ;with_reducible repeat' first|apply zd|exact nX|exact sX)
end
def S160:=S159.pc 10 44 0 (qaU false [] [] [] []) (fun x0 x1 x2 x3 x4=>some (y1 (gd x0 x1 x2 x3 x4) KY)) (by kernel_rfl) rfl fun _=>w1 fun h=>qc3 _ _ _ _ _ h
section
variable {β:Type} (z:Bool->Option β) (x0:LI) (x1:L3) (x2:LI) (x3:L3) (x4:LI) (x5:L3)
def KP:Option β:=(ob (v27 x0 x1 [[(5000000:Int)],[(5000000:Int)]] [(200000:Int)] 0) fun r1=>(cond r1 (ob (v27 x2 x3 [[(10000000:Int),0]] [(100000:Int),(100000:Int)] (1000000:Int)) fun r2=>(cond r2 (ob (v27 x4 x5 [[0,(4000000:Int)]] [(1000000000000:Int),(250000:Int)] 0) fun r3=>(ob (gd r3 x0 x1 x4 x5) fun r4=>(z r4))) (ob (gd false x0 x1 x4 x5) fun r3=>(z r3)))) (ob (gd false x0 x1 x4 x5) fun r2=>(z r2))))
def DQ:=KP some x0 x1 x2 x3 x4 x5
def KX:Bool->Ex×CS:=fun r=>(.ret,⟨[(0,vB r)],[],[],0,true⟩)
abbrev qaT:CS:=⟨[(1,.l 1 0),(2,.l 2 0),(3,.l 3 0)],[(1,[kd0 x0,kd1 x1]),(2,[kd0 x2,kd1 x3]),(3,[kd0 x4,kd1 x5])],[],0,false⟩
theorem qc2 {k:Nat} {r:Bool}:DQ x0 x1 x2 x3 x4 x5=some r->pE S160 10 36 0 k (qaT x0 x1 x2 x3 x4 x5)=some (KX r):=lP (KP (sm KX) x0 x1 x2 x3 x4 x5) (by kernel_rfl) (by unfold DQ KP;with_reducible repeat' first|apply zd|exact nX|exact sX)
end
def S161:=S160.pc 10 36 0 (qaT [] [] [] [] [] []) (fun x0 x1 x2 x3 x4 x5=>some (y1 (DQ x0 x1 x2 x3 x4 x5) KX)) (by kernel_rfl) rfl fun _=>w1 fun h=>qc2 _ _ _ _ _ _ h
section
variable {β:Type} (z:Bool->Option β)
def tv10:Option β:=(z true)
def v10:=tv10 some
abbrev aF10:List TA:=[]
abbrev rF10:Bool->List TA×List TO:=fun r=>([.sc (.bool r)],[])
theorem ev10:fE S161 10 aF10 []=v10.bind (sm rF10):=zE (fun z=>tv10 z) (by kernel_rfl) fun K=>by unfold v10 tv10;with_reducible repeat' first|apply zc|exact nB|exact sB
end
def S162:=S161.fn 10 aF10 [] (some (y1 v10 rF10)) rfl fun _=>w1 fun h=>ev10.trans (bD h)
section
variable {β:Type} (y:Int->LI->L3->Option β) (z:(Bool ⊕ Unit)->Option β) (x0:Int) (x1:LI) (x2:L3)
def GS:Option β:=(cond (decide (x0 < (x1.length:Int))) (cond (decide (0<=x0)) (cond (decide (List.getD x1 x0.toNat 0 < 0)) (z (.inl (false))) (cond (decide (List.getD x1 x0.toNat 0 > (1000:Int))) (z (.inl (false))) (y (wI (x0+1)) x1 x2))) none) (z (.inr ())))
def qbM:Option β:=(cond (decide (x0 < (x1.length:Int))) (ck x0 (x1.length:Int) (cond (decide (List.getD x1 x0.toNat 0 < 0)) (z (.inl (false))) (ck x0 (x1.length:Int) (cond (decide (List.getD x1 x0.toNat 0 > (1000:Int))) (z (.inl (false))) (y (wI (x0+1)) x1 x2))))) (z (.inr ())))
def jb:=itL (fun _ _ _=>none) fun f=>GS f some
theorem Sz (n:Nat):jb (n+1)=GS (jb n) some:=rfl
def Hn:(Bool ⊕ Unit)->Ex×CS:=Sum.elim (fun r=>(.ret,⟨[(2,vB r)],[],[],0,true⟩)) fun r=>((.exit 0),⟨[(1,.l 1 0),(30,.l 1 0)],[(1,[kd0 x1,kd1 x2])],[],0,false⟩)
abbrev DW:CS:=⟨[(1,.l 1 0),(3,vI x0)],[(1,[kd0 x1,kd1 x2])],[],0,false⟩
theorem qeu {k m n:Nat} {r:Bool ⊕ Unit} (h:jb n x0 x1 x2=some r):lE S162 24 0 k (n+m) (DW x0 x1 x2)=some (Hn x1 x2 r):=by
 induction n generalizing x0 with
 |zero=>cases h
 |succ n ih=>
 exact lS (qbM (fun x0 x1 x2=>lE S162 24 0 k (n+m) (DW x0 x1 x2)) (sm (Hn x1 x2)) x0 x1 x2) (by kernel_rfl) (by rw [Sz];unfold GS qbM;with_reducible repeat' first|apply gT ‹_›|apply gF ‹_›|(apply zz<;>intro _)|exact ih _|exact nX|exact sX) h
end
def S163:=S162.lp 24 0 (DW 0 [] []) (fun x0 x1 x2=>some (y2 (jb FU x0 x1 x2) (Hn x1 x2))) (by kernel_rfl) fun _=>w2 fun h=>qeu _ _ _ h
section
variable {β:Type} (y:LI->Int->Int->Option β) (z:(Bool ⊕ Unit)->Option β) (x0:LI) (x1 x2:Int)
def GU:Option β:=(cond (decide (x2 < (x0.length:Int))) (cond (decide (0<=x2)) (cond (decide (List.getD x0 x2.toNat 0 < 0)) (z (.inl (false))) (cond (decide (List.getD x0 x2.toNat 0≥x1)) (z (.inl (false))) (cond (decide (x2 > 0)) (ck (wI (x2 - (1:Int))) (x0.length:Int) (cond (decide (List.getD x0 x2.toNat 0<=List.getD x0 (wI (x2 - (1:Int))).toNat 0)) (z (.inl (false))) (y x0 x1 (wI (x2+1))))) (y x0 x1 (wI (x2+1)))))) none) (z (.inr ())))
def qbP:Option β:=(cond (decide (x2 < (x0.length:Int))) (ck x2 (x0.length:Int) (cond (decide (List.getD x0 x2.toNat 0 < 0)) (z (.inl (false))) (ck x2 (x0.length:Int) (cond (decide (List.getD x0 x2.toNat 0≥x1)) (z (.inl (false))) (cond (decide (x2 > 0)) (ck x2 (x0.length:Int) (ck (wI (x2 - (1:Int))) (x0.length:Int) (cond (decide (List.getD x0 x2.toNat 0<=List.getD x0 (wI (x2 - (1:Int))).toNat 0)) (z (.inl (false))) (y x0 x1 (wI (x2+1)))))) (y x0 x1 (wI (x2+1)))))))) (z (.inr ())))
def jM:=itL (fun _ _ _=>none) fun f=>GU f some
theorem SJ (n:Nat):jM (n+1)=GU (jM n) some:=rfl
def HA:(Bool ⊕ Unit)->Ex×CS:=Sum.elim (fun r=>(.ret,⟨[(4,vB r)],[],[],0,true⟩)) fun r=>((.exit 0),⟨[(0,vd0 x0)],[],[],0,false⟩)
abbrev D7:CS:=⟨[(0,vd0 x0),(1,vI x1),(5,vI x2)],[],[],0,false⟩
theorem qeF {k m n:Nat} {r:Bool ⊕ Unit} (h:jM n x0 x1 x2=some r):lE S163 42 0 k (n+m) (D7 x0 x1 x2)=some (HA x0 r):=by
 induction n generalizing x2 with
 |zero=>cases h
 |succ n ih=>
 exact lS (qbP (fun x0 x1 x2=>lE S163 42 0 k (n+m) (D7 x0 x1 x2)) (sm (HA x0)) x0 x1 x2) (by kernel_rfl) (by rw [SJ];unfold GU qbP;with_reducible repeat' first|apply gT ‹_›|apply gF ‹_›|(apply zz<;>intro _)|exact ih _|exact nX|exact sX) h
end
def S164:=S163.lp 42 0 (D7 [] 0 0) (fun x0 x1 x2=>some (y2 (jM FU x0 x1 x2) (HA x0))) (by kernel_rfl) fun _=>w2 fun h=>qeF _ _ _ h
section
variable {β:Type} (z:Bool->Option β) (x0:LI) (x1:Int)
def tv42:Option β:=(cond (isL (jM FU x0 x1 0)) (z (zx (jM FU x0 x1 0))) (ob (zB (jM FU x0 x1 0)) fun _=>(cond (decide ((x0.length:Int)≥(1:Int))) (z (decide ((x0.length:Int)<=(6:Int)))) (z false))))
def v42:=tv42 some x0 x1
abbrev aF42:List TA:=[.sc (kd0 x0),.sc (I4 x1)]
abbrev rF42:Bool->List TA×List TO:=fun r=>([.sc (.bool r)],[])
theorem ev42:fE S164 42 (aF42 x0 x1) []=(v42 x0 x1).bind (sm rF42):=zE (fun z=>tv42 z x0 x1) (by kernel_rfl) fun K=>by unfold v42 tv42;with_reducible repeat' first|apply zc|exact nB|exact sB
end
def S165:=S164.fn 42 (aF42 [] 0) [] (fun x0 x1=>some (y1 (v42 x0 x1) rF42)) rfl fun _=>w1 fun h=>(ev42 ..).trans (bD h)
section
variable {β:Type} (y:Int->LL->Int->LI->L3->Option β) (z:(Bool ⊕ Unit)->Option β) (x0:Int) (x1:LL) (x2:Int) (x3:LI) (x4:L3)
def Gf:Option β:=(cond (decide (x2 < (x1.length:Int))) (cond (decide (0<=x2)) (ob (v42 (List.getD x1 x2.toNat []) (x3.length:Int)) fun r1=>(cond (!r1) (z (.inl (false))) (y x0 x1 (wI (x2+1)) x3 x4))) none) (z (.inr ())))
def qbj:Option β:=(cond (decide (x2 < (x1.length:Int))) (ck x2 (x1.length:Int) (ob (v42 (List.getD x1 x2.toNat []) (x3.length:Int)) fun r1=>(cond (!r1) (z (.inl (false))) (y x0 x1 (wI (x2+1)) x3 x4)))) (z (.inr ())))
def qy:=itL (fun _ _ _ _ _=>none) fun f=>Gf f some
theorem Kw (n:Nat):qy (n+1)=Gf (qy n) some:=rfl
def Dc:(Bool ⊕ Unit)->Ex×CS:=Sum.elim (fun r=>(.ret,⟨[(2,vB r)],[],[],0,true⟩)) fun r=>((.exit 4),⟨[(1,.l 1 0),(4,vI x0)],[(1,[kd0 x3,kd1 x4])],[],0,false⟩)
abbrev J5:CS:=⟨[(1,.l 1 0),(4,vI x0),(5,vd1 x1),(6,vI x2)],[(1,[kd0 x3,kd1 x4])],[],0,false⟩
theorem qdg {k m n:Nat} {r:Bool ⊕ Unit} (h:qy n x0 x1 x2 x3 x4=some r):lE S165 24 4 k (n+m) (J5 x0 x1 x2 x3 x4)=some (Dc x0 x3 x4 r):=by
 induction n generalizing x2 with
 |zero=>cases h
 |succ n ih=>
 exact lS (qbj (fun x0 x1 x2 x3 x4=>lE S165 24 4 k (n+m) (J5 x0 x1 x2 x3 x4)) (sm (Dc x0 x3 x4)) x0 x1 x2 x3 x4) (by kernel_rfl) (by rw [Kw];unfold Gf qbj;with_reducible repeat' first|apply gT ‹_›|apply gF ‹_›|(apply zz<;>intro _)|exact ih _|exact nX|exact sX) h
end
def S166:=S165.lp 24 4 (J5 0 [] 0 [] []) (fun x0 x1 x2 x3 x4=>some (y2 (qy FU x0 x1 x2 x3 x4) (Dc x0 x3 x4))) (by kernel_rfl) fun _=>w2 fun h=>qdg _ _ _ _ _ h
section
variable {β:Type} (y:Int->LI->L3->Option β) (z:(Bool ⊕ Unit)->Option β) (x0:Int) (x1:LI) (x2:L3)
def Ge:Option β:=(cond (decide (x0 < (x2.length:Int))) (cond (decide (0<=x0)) (cond (decide ((↑(List.length (List.getD x2 x0.toNat [])):Int) < (1:Int))) (z (.inl (false))) (cond (decide ((↑(List.length (List.getD x2 x0.toNat [])):Int) > (4:Int))) (z (.inl (false))) (cond (isL (qy FU x0 (List.getD x2 x0.toNat []) 0 x1 x2)) (z (.inl (zx (qy FU x0 (List.getD x2 x0.toNat []) 0 x1 x2)))) (ob (zB (qy FU x0 (List.getD x2 x0.toNat []) 0 x1 x2)) fun _=>(y (wI (x0+1)) x1 x2))))) none) (z (.inr ())))
def qbi:Option β:=(cond (decide (x0 < (x2.length:Int))) (ck x0 (x2.length:Int) (cond (decide ((↑(List.length (List.getD x2 x0.toNat [])):Int) < (1:Int))) (z (.inl (false))) (cond (decide ((↑(List.length (List.getD x2 x0.toNat [])):Int) > (4:Int))) (z (.inl (false))) (cond (isL (qy FU x0 (List.getD x2 x0.toNat []) 0 x1 x2)) (z (.inl (zx (qy FU x0 (List.getD x2 x0.toNat []) 0 x1 x2)))) (ob (zB (qy FU x0 (List.getD x2 x0.toNat []) 0 x1 x2)) fun _=>(y (wI (x0+1)) x1 x2)))))) (z (.inr ())))
def qG:=itL (fun _ _ _=>none) fun f=>Ge f some
theorem Kv (n:Nat):qG (n+1)=Ge (qG n) some:=rfl
def Db:(Bool ⊕ Unit)->Ex×CS:=Sum.elim (fun r=>(.ret,⟨[(2,vB r)],[],[],0,true⟩)) fun r=>((.exit 2),⟨[(1,.l 1 0),(51,.l 1 1)],[],[],0,false⟩)
abbrev JZ:CS:=⟨[(1,.l 1 0),(4,vI x0)],[(1,[kd0 x1,kd1 x2])],[],0,false⟩
theorem qdf {k m n:Nat} {r:Bool ⊕ Unit} (h:qG n x0 x1 x2=some r):lE S166 24 2 k (n+m) (JZ x0 x1 x2)=some (Db r):=by
 induction n generalizing x0 with
 |zero=>cases h
 |succ n ih=>
 exact lS (qbi (fun x0 x1 x2=>lE S166 24 2 k (n+m) (JZ x0 x1 x2)) (sm Db) x0 x1 x2) (by kernel_rfl) (by rw [Kv];unfold Ge qbi;with_reducible repeat' first|apply gT ‹_›|apply gF ‹_›|(apply zz<;>intro _)|exact ih _|exact nX|exact sX) h
end
def S167:=S166.lp 24 2 (JZ 0 [] []) (fun x0 x1 x2=>some (y2 (qG FU x0 x1 x2) Db)) (by kernel_rfl) fun _=>w2 fun h=>qdf _ _ _ h
section
variable {β:Type} (z:Bool->Option β) (x0:LI) (x1:L3)
def tv24:Option β:=(cond (decide ((x0.length:Int) < (1:Int))) (z false) (cond (decide ((x0.length:Int) > (8:Int))) (z false) (cond (decide ((x1.length:Int) < (1:Int))) (z false) (cond (decide ((x1.length:Int) > (8:Int))) (z false) (cond (isL (jb FU 0 x0 x1)) (z (zx (jb FU 0 x0 x1))) (ob (zB (jb FU 0 x0 x1)) fun _=>(cond (isL (qG FU 0 x0 x1)) (z (zx (qG FU 0 x0 x1))) (ob (zB (qG FU 0 x0 x1)) fun _=>(z true)))))))))
def v24:=tv24 some x0 x1
abbrev aF24:List TA:=[.agg [kd0 x0,kd1 x1]]
abbrev rF24:Bool->List TA×List TO:=fun r=>([.sc (.bool r)],[])
theorem ev24:fE S167 24 (aF24 x0 x1) []=(v24 x0 x1).bind (sm rF24):=zE (fun z=>tv24 z x0 x1) (by kernel_rfl) fun K=>by unfold v24 tv24;with_reducible repeat' first|apply zc|exact nB|exact sB
end
def S168:=S167.fn 24 (aF24 [] []) [] (fun x0 x1=>some (y1 (v24 x0 x1) rF24)) rfl fun _=>w1 fun h=>(ev24 ..).trans (bD h)
section
variable {β:Type} (y:Int->Bool->Bool->Int->Bool->Int->Int->Int->LI->L3->Option β) (z:Int->Option β) (x0:Int) (x1 x2:Bool) (x3:Int) (x4:Bool) (x5 x6 x7:Int) (x8:LI) (x9:L3)
def G0:Option β:=(ck x3 (x9.length:Int) (ck x5 (↑(List.length (List.getD x9 x3.toNat [])):Int) (cond (decide (x7 < (↑(List.length (List.getD (List.getD x9 x3.toNat []) x5.toNat [])):Int))) (cond (decide (0<=x7)) (ck (List.getD (List.getD (List.getD x9 x3.toNat []) x5.toNat []) x7.toNat 0) (x8.length:Int) (y x0 x1 x2 x3 x4 x5 (min x6 (List.getD x8 (List.getD (List.getD (List.getD x9 x3.toNat []) x5.toNat []) x7.toNat 0).toNat 0)) (wI (x7+1)) x8 x9)) none) (z x6))))
def qbU:Option β:=(ck x3 (x9.length:Int) (ck x5 (↑(List.length (List.getD x9 x3.toNat [])):Int) (cond (decide (x7 < (↑(List.length (List.getD (List.getD x9 x3.toNat []) x5.toNat [])):Int))) (ck x3 (x9.length:Int) (ck x5 (↑(List.length (List.getD x9 x3.toNat [])):Int) (ck x7 (↑(List.length (List.getD (List.getD x9 x3.toNat []) x5.toNat [])):Int) (ck (List.getD (List.getD (List.getD x9 x3.toNat []) x5.toNat []) x7.toNat 0) (x8.length:Int) (y x0 x1 x2 x3 x4 x5 (min x6 (List.getD x8 (List.getD (List.getD (List.getD x9 x3.toNat []) x5.toNat []) x7.toNat 0).toNat 0)) (wI (x7+1)) x8 x9))))) (z x6))))
def jH:=itL (fun _ _ _ _ _ _ _ _ _ _=>none) fun f=>G0 f some
theorem He (n:Nat):jH (n+1)=G0 (jH n) some:=rfl
def HV:Int->Ex×CS:=fun r=>((.exit 4),⟨[(1,vI x0),(2,.l 2 0),(5,vB x1),(7,vB x2),(8,vI x3),(9,vB x4),(10,vI x5),(11,vI r)],[(2,[kd0 x8,kd1 x9])],[],0,false⟩)
abbrev Su:CS:=⟨[(1,vI x0),(2,.l 2 0),(5,vB x1),(7,vB x2),(8,vI x3),(9,vB x4),(10,vI x5),(11,vI x6),(12,vI x7)],[(2,[kd0 x8,kd1 x9])],[],0,false⟩
theorem qeZ {k m n:Nat} {r:Int} (h:jH n x0 x1 x2 x3 x4 x5 x6 x7 x8 x9=some r):lE S168 8 4 k (n+m) (Su x0 x1 x2 x3 x4 x5 x6 x7 x8 x9)=some (HV x0 x1 x2 x3 x4 x5 x8 x9 r):=by
 induction n generalizing x6 x7 with
 |zero=>cases h
 |succ n ih=>
 exact lS (qbU (fun x0 x1 x2 x3 x4 x5 x6 x7 x8 x9=>lE S168 8 4 k (n+m) (Su x0 x1 x2 x3 x4 x5 x6 x7 x8 x9)) (sm (HV x0 x1 x2 x3 x4 x5 x8 x9)) x0 x1 x2 x3 x4 x5 x6 x7 x8 x9) (by kernel_rfl) (by rw [He];unfold G0 qbU;with_reducible repeat' first|apply gT ‹_›|apply gF ‹_›|(apply zz<;>intro _)|exact ih _ _|exact nX|exact sX) h
end
def S169:=S168.lp 8 4 (Su 0 false false 0 false 0 0 0 [] []) (fun x0 x1 x2 x3 x4 x5 x6 x7 x8 x9=>some (y1 (jH FU x0 x1 x2 x3 x4 x5 x6 x7 x8 x9) (HV x0 x1 x2 x3 x4 x5 x8 x9))) (by kernel_rfl) fun _=>w1 fun h=>qeZ _ _ _ _ _ _ _ _ _ _ h
section
variable {β:Type} (y:Int->Bool->Bool->Int->Bool->Int->LI->L3->Option β) (z:Bool->Option β) (x0:Int) (x1 x2:Bool) (x3:Int) (x4:Bool) (x5:Int) (x6:LI) (x7:L3)
def gO:Option β:=(ck x3 (x7.length:Int) (cond (decide (x5 < (↑(List.length (List.getD x7 x3.toNat [])):Int))) (ob (jH FU x0 x1 x2 x3 x4 x5 (1000:Int) 0 x6 x7) fun r1=>(cond x4 (y x0 x1 x2 x3 true (wI (x5+1)) x6 x7) (y x0 x1 x2 x3 (decide (r1 > 0)) (wI (x5+1)) x6 x7))) (z x4)))
def jG:=itL (fun _ _ _ _ _ _ _ _=>none) fun f=>gO f some
theorem Hd (n:Nat):jG (n+1)=gO (jG n) some:=rfl
def HU:Bool->Ex×CS:=fun r=>((.exit 2),⟨[(1,vI x0),(2,.l 2 0),(5,vB x1),(7,vB x2),(8,vI x3),(9,vB r)],[(2,[kd0 x6,kd1 x7])],[],0,false⟩)
abbrev Ss:CS:=⟨[(1,vI x0),(2,.l 2 0),(5,vB x1),(7,vB x2),(8,vI x3),(9,vB x4),(10,vI x5)],[(2,[kd0 x6,kd1 x7])],[],0,false⟩
theorem qeY {k m n:Nat} {r:Bool} (h:jG n x0 x1 x2 x3 x4 x5 x6 x7=some r):lE S169 8 2 k (n+m) (Ss x0 x1 x2 x3 x4 x5 x6 x7)=some (HU x0 x1 x2 x3 x6 x7 r):=by
 induction n generalizing x4 x5 with
 |zero=>cases h
 |succ n ih=>
 exact lS (gO (fun x0 x1 x2 x3 x4 x5 x6 x7=>lE S169 8 2 k (n+m) (Ss x0 x1 x2 x3 x4 x5 x6 x7)) (sm (HU x0 x1 x2 x3 x6 x7)) x0 x1 x2 x3 x4 x5 x6 x7) (by kernel_rfl) (by rw [Hd];unfold gO;with_reducible repeat' first|apply zd|exact ih _ _|exact nX|exact sX) h
end
def S170:=S169.lp 8 2 (Ss 0 false false 0 false 0 [] []) (fun x0 x1 x2 x3 x4 x5 x6 x7=>some (y1 (jG FU x0 x1 x2 x3 x4 x5 x6 x7) (HU x0 x1 x2 x3 x6 x7))) (by kernel_rfl) fun _=>w1 fun h=>qeY _ _ _ _ _ _ _ _ h
section
variable {β:Type} (y:Int->Bool->Bool->Int->LI->L3->Option β) (z:Bool->Option β) (x0:Int) (x1 x2:Bool) (x3:Int) (x4:LI) (x5:L3)
def GK:Option β:=(cond (decide (x3 < (x5.length:Int))) (ob (jG FU x0 x1 x2 x3 false 0 x4 x5) fun r1=>(cond x2 (y x0 x1 r1 (wI (x3+1)) x4 x5) (y x0 x1 false (wI (x3+1)) x4 x5))) (z x2))
def jN:=itL (fun _ _ _ _ _ _=>none) fun f=>GK f some
theorem qaQ (n:Nat):jN (n+1)=GK (jN n) some:=rfl
def qaS:Bool->Ex×CS:=fun r=>((.exit 0),⟨[(1,vI x0),(2,.l 2 0),(5,vB x1),(7,vB r)],[(2,[kd0 x4,kd1 x5])],[],0,false⟩)
abbrev qaO:CS:=⟨[(1,vI x0),(2,.l 2 0),(5,vB x1),(7,vB x2),(8,vI x3)],[(2,[kd0 x4,kd1 x5])],[],0,false⟩
theorem lL8_0_0 {k m n:Nat} {r:Bool} (h:jN n x0 x1 x2 x3 x4 x5=some r):lE S170 8 0 k (n+m) (qaO x0 x1 x2 x3 x4 x5)=some (qaS x0 x1 x4 x5 r):=by
 induction n generalizing x2 x3 with
 |zero=>cases h
 |succ n ih=>
 exact lS (GK (fun x0 x1 x2 x3 x4 x5=>lE S170 8 0 k (n+m) (qaO x0 x1 x2 x3 x4 x5)) (sm (qaS x0 x1 x4 x5)) x0 x1 x2 x3 x4 x5) (by kernel_rfl) (by rw [qaQ];unfold GK;with_reducible repeat' first|apply zd|exact ih _ _|exact nX|exact sX) h
end
def S171:=S170.lp 8 0 (qaO 0 false false 0 [] []) (fun x0 x1 x2 x3 x4 x5=>some (y1 (jN FU x0 x1 x2 x3 x4 x5) (qaS x0 x1 x4 x5))) (by kernel_rfl) fun _=>w1 fun h=>lL8_0_0 _ _ _ _ _ _ h
section
variable {β:Type} (z:Bool->Option β) (x0:LI) (x1:L3) (x2:Int)
def tv8:Option β:=(ob (v11 x0 x1 [] []) fun r1=>(cond (!r1) (z true) (ob (v24 x0 x1) fun r2=>(cond (!r2) (z true) (cond (decide (x2 < 0)) (z true) (cond (decide (x2 > (1000:Int))) (z true) (ob (jN FU x2 (val v10) true 0 x0 x1) fun r3=>(ob (v14 x0 x1 x2) fun r4=>(cond r3 (cond (r4.2.2.2==0) (z true) (cond (!r3) (cond (r4.2.2.2==(4:Int)) (z (wI ((↑(List.length r4.1):Int)+(↑(List.length r4.2.1):Int))==0)) (z false)) (z false))) (cond (!r3) (cond (r4.2.2.2==(4:Int)) (z (wI ((↑(List.length r4.1):Int)+(↑(List.length r4.2.1):Int))==0)) (z false)) (z false)))))))))))
def v8:=tv8 some x0 x1 x2
abbrev aF8:List TA:=[.agg [kd0 x0,kd1 x1],.sc (I4 x2)]
abbrev rF8:Bool->List TA×List TO:=fun r=>([.sc (.bool r)],[])
theorem ev8:fE S171 8 (aF8 x0 x1 x2) []=(v8 x0 x1 x2).bind (sm rF8):=zE (fun z=>tv8 z x0 x1 x2) (by kernel_rfl) fun K=>by unfold v8 tv8;with_reducible repeat' first|apply zc|exact nB|exact sB
end
end
end Go.Proofs.Ytpfphfobneehmaa
