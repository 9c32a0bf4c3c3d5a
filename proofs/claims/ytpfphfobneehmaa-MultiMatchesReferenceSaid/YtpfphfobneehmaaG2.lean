/- What some functions and loops come to: printed and checked. Written by a program of ours. -/
import Derived.Test.YtpfphfobneehmaaG1
set_option linter.all false
set_option maxRecDepth 1000000
set_option maxHeartbeats 4000000
namespace Go.Proofs.Ytpfphfobneehmaa
open Go Go.AM Go.TM Go.Proofs
noncomputable section
section
variable {β:Type} (y:LI->LI->Int->Option β) (z:(Bool ⊕ Unit)->Option β) (x0 x1:LI) (x2:Int)
def Kg:Option β:=(cond (decide (x2 < (x0.length:Int))) (ck x2 (x1.length:Int) (cond (List.getD x0 x2.toNat 0 != List.getD x1 x2.toNat 0) (z (.inl (false))) (y x0 x1 (wI (x2+1))))) (z (.inr ())))
def qeu:Option β:=(cond (decide (x2 < (x0.length:Int))) (ck x2 (x0.length:Int) (ck x2 (x1.length:Int) (cond (List.getD x0 x2.toNat 0 != List.getD x1 x2.toNat 0) (z (.inl (false))) (y x0 x1 (wI (x2+1)))))) (z (.inr ())))
def jf:=itL (fun _ _ _=>none) fun f=>Kg f some
theorem qbh (n:Nat):jf (n+1)=Kg (jf n) some:=rfl
def qb2:(Bool ⊕ Unit)->Ex×CS:=Sum.elim (fun r=>(.ret,⟨[(4,vB r)],[],[],0,true⟩)) fun r=>((.exit 0),⟨[],[],[],0,false⟩)
abbrev qaq:CS:=⟨[(0,vd0 x0),(1,vd0 x1),(5,vI x2)],[],[],0,false⟩
theorem qhM {k m n:Nat} {r:Bool ⊕ Unit} (h:jf n x0 x1 x2=some r):lE S150 36 0 k (n+m) (qaq x0 x1 x2)=some (qb2 r):=by
 induction n generalizing x2 with
 |zero=>cases h
 |succ n ih=>
 exact lS (qeu (fun x0 x1 x2=>lE S150 36 0 k (n+m) (qaq x0 x1 x2)) (sm qb2) x0 x1 x2) (by kernel_rfl) (by rw [qbh];unfold Kg qeu;with_reducible repeat' first|apply gT ‹_›|apply gF ‹_›|(apply zz<;>intro _)|exact ih _|exact nX|exact sX) h
end
def S151:=S150.lp 36 0 (qaq [] [] 0) (fun x0 x1 x2=>some (y2 (jf FU x0 x1 x2) qb2)) (by kernel_rfl) fun _=>w2 fun h=>qhM _ _ _ h
section
variable {β:Type} (z:Bool->Option β) (x0 x1:LI)
def tv36:Option β:=(cond ((x0.length:Int) != (x1.length:Int)) (z false) (cond (isL (jf FU x0 x1 0)) (z (zx (jf FU x0 x1 0))) (ob (zB (jf FU x0 x1 0)) fun _=>(z true))))
def v36:=tv36 some x0 x1
abbrev aF36:List TA:=[.sc (kd0 x0),.sc (kd0 x1)]
abbrev rF36:Bool->List TA×List TO:=fun r=>([.sc (.bool r)],[])
theorem ev36:fE S151 36 (aF36 x0 x1) []=(v36 x0 x1).bind (sm rF36):=zE (fun z=>tv36 z x0 x1) (by kernel_rfl) fun K=>by unfold v36 tv36;with_reducible repeat' first|apply zc|exact nB|exact sB
end
def S152:=S151.fn 36 (aF36 [] []) [] (fun x0 x1=>some (y1 (v36 x0 x1) rF36)) rfl fun _=>w1 fun h=>(ev36 ..).trans (bD h)
section
variable {β:Type} (y:Int->LL->LI->Int->LL->LI->Int->Option β) (z:(Bool ⊕ Unit)->Option β) (x0:Int) (x1:LL) (x2:LI) (x3:Int) (x4:LL) (x5:LI) (x6:Int)
def J5:Option β:=(cond (decide (x0 < (x1.length:Int))) (ck x0 (x4.length:Int) (ob (v36 (List.getD x1 x0.toNat []) (List.getD x4 x0.toNat [])) fun r1=>(cond (!r1) (z (.inl (false))) (y (wI (x0+1)) x1 x2 x3 x4 x5 x6)))) (z (.inr ())))
def qek:Option β:=(cond (decide (x0 < (x1.length:Int))) (ck x0 (x1.length:Int) (ck x0 (x4.length:Int) (ob (v36 (List.getD x1 x0.toNat []) (List.getD x4 x0.toNat [])) fun r1=>(cond (!r1) (z (.inl (false))) (y (wI (x0+1)) x1 x2 x3 x4 x5 x6))))) (z (.inr ())))
def jd:=itL (fun _ _ _ _ _ _ _=>none) fun f=>J5 f some
theorem qaZ (n:Nat):jd (n+1)=J5 (jd n) some:=rfl
def qbK:(Bool ⊕ Unit)->Ex×CS:=Sum.elim (fun r=>(.ret,⟨[(4,vB r)],[],[],0,true⟩)) fun r=>((.exit 0),⟨[(2,.l 2 0),(3,.l 3 0),(32,.l 2 0)],[],[],0,false⟩)
abbrev H8:CS:=⟨[(2,.l 2 0),(3,.l 3 0),(6,vI x0)],[(2,[kd2 x1,kd0 x2,I4 x3]),(3,[kd2 x4,kd0 x5,I4 x6])],[],0,false⟩
theorem qhu {k m n:Nat} {r:Bool ⊕ Unit} (h:jd n x0 x1 x2 x3 x4 x5 x6=some r):lE S152 16 0 k (n+m) (H8 x0 x1 x2 x3 x4 x5 x6)=some (qbK r):=by
 induction n generalizing x0 with
 |zero=>cases h
 |succ n ih=>
 exact lS (qek (fun x0 x1 x2 x3 x4 x5 x6=>lE S152 16 0 k (n+m) (H8 x0 x1 x2 x3 x4 x5 x6)) (sm qbK) x0 x1 x2 x3 x4 x5 x6) (by kernel_rfl) (by rw [qaZ];unfold J5 qek;with_reducible repeat' first|apply gT ‹_›|apply gF ‹_›|(apply zz<;>intro _)|exact ih _|exact nX|exact sX) h
end
def S153:=S152.lp 16 0 (H8 0 [] [] 0 [] [] 0) (fun x0 x1 x2 x3 x4 x5 x6=>some (y2 (jd FU x0 x1 x2 x3 x4 x5 x6) qbK)) (by kernel_rfl) fun _=>w2 fun h=>qhu _ _ _ _ _ _ _ h
section
variable {β:Type} (z:Bool->Option β) (x0:LL) (x1:LI) (x2:Int) (x3:LL) (x4:LI) (x5:Int)
def tv16:Option β:=(ob (v36 x1 x4) fun r1=>(cond (!r1) (z false) (cond (x2 != x5) (z false) (cond ((x0.length:Int) != (x3.length:Int)) (z false) (cond (isL (jd FU 0 x0 x1 x2 x3 x4 x5)) (z (zx (jd FU 0 x0 x1 x2 x3 x4 x5))) (ob (zB (jd FU 0 x0 x1 x2 x3 x4 x5)) fun _=>(z true)))))))
def v16:=tv16 some x0 x1 x2 x3 x4 x5
abbrev aF16:List TA:=[.agg [kd2 x0,kd0 x1,I4 x2],.agg [kd2 x3,kd0 x4,I4 x5]]
abbrev rF16:Bool->List TA×List TO:=fun r=>([.sc (.bool r)],[])
theorem ev16:fE S153 16 (aF16 x0 x1 x2 x3 x4 x5) []=(v16 x0 x1 x2 x3 x4 x5).bind (sm rF16):=zE (fun z=>tv16 z x0 x1 x2 x3 x4 x5) (by kernel_rfl) fun K=>by unfold v16 tv16;with_reducible repeat' first|apply zc|exact nB|exact sB
end
def S154:=S153.fn 16 (aF16 [] [] 0 [] [] 0) [] (fun x0 x1 x2 x3 x4 x5=>some (y1 (v16 x0 x1 x2 x3 x4 x5) rF16)) rfl fun _=>w1 fun h=>(ev16 ..).trans (bD h)
section
variable {β:Type} (z:Bool->Option β) (x0:LI) (x1:L3) (x2:LL) (x3:LI) (x4:Int)
def tv27:Option β:=(ob (v14 x0 x1 0) fun r1=>(cond (r1.2.2.2==0) (ob (v16 r1.1 r1.2.1 r1.2.2.1 x2 x3 x4) fun r2=>(z r2)) (z false)))
def v27:=tv27 some x0 x1 x2 x3 x4
abbrev aF27:List TA:=[.agg [kd0 x0,kd1 x1],.agg [kd2 x2,kd0 x3,I4 x4]]
abbrev rF27:Bool->List TA×List TO:=fun r=>([.sc (.bool r)],[])
theorem ev27:fE S154 27 (aF27 x0 x1 x2 x3 x4) []=(v27 x0 x1 x2 x3 x4).bind (sm rF27):=zE (fun z=>tv27 z x0 x1 x2 x3 x4) (by kernel_rfl) fun K=>by unfold v27 tv27;with_reducible repeat' first|apply zc|exact nB|exact sB
end
def S155:=S154.fn 27 (aF27 [] [] [] [] 0) [] (fun x0 x1 x2 x3 x4=>some (y1 (v27 x0 x1 x2 x3 x4) rF27)) rfl fun _=>w1 fun h=>(ev27 ..).trans (bD h)
section
variable {β:Type} (z:Bool->Option β) (x0:Bool) (x1 x2 x3 x4 x5 x6:Int) (x7:LL) (x8:LI) (x9:Int)
def SF:Option β:=(cond x0 (cond (x3==0) (cond (x1==(1:Int)) (cond (x2==(4:Int)) (cond (x4==(4:Int)) (cond (x5==(1:Int)) (cond (x6==0) (z (x9==0)) (z false)) (z false)) (z false)) (z false)) (z false)) (z false)) (z false))
def KT (x0:Bool) (x1 x2 x3 x4 x5 x6:Int) (x7:LL) (x8:LI) (x9:Int):Option Bool:=SF some x0 x1 x2 x3 x4 x5 x6 x9
def SM:Bool->Ex×CS:=fun r=>(.ret,⟨[(0,vB r)],[],[],0,true⟩)
abbrev qdp:CS:=⟨[(4,vB x0),(5,vI x1),(6,vI x2),(7,vI x3),(9,vI x4),(11,vI x5),(12,.l 12 0),(13,vI x6)],[(12,[kd2 x7,kd0 x8,I4 x9])],[],0,false⟩
theorem qfX {k:Nat} {r:Bool}:KT x0 x1 x2 x3 x4 x5 x6 x7 x8 x9=some r->pE S155 10 76 0 k (qdp x0 x1 x2 x3 x4 x5 x6 x7 x8 x9)=some (SM r):=lP (SF (sm SM) x0 x1 x2 x3 x4 x5 x6 x9) (by kernel_rfl) (by unfold KT SF;with_reducible repeat' first|apply zd|exact nX|exact sX)
end
def S156:=S155.pc 10 76 0 (qdp false 0 0 0 0 0 0 [] [] 0) (fun x0 x1 x2 x3 x4 x5 x6 x7 x8 x9=>some (y1 (KT x0 x1 x2 x3 x4 x5 x6 x7 x8 x9) SM)) (by kernel_rfl) rfl fun _=>w1 fun h=>qfX _ _ _ _ _ _ _ _ _ _ h
section
variable {β:Type} (z:Bool->Option β) (x0:Bool) (x1 x2 x3 x4 x5:Int) (x6:LI) (x7:L3)
def SE:Option β:=(ob (v14 x6 x7 (9:Int)) fun r1=>(ob (KT x0 x1 x2 x3 x4 x5 r1.2.2.2 r1.1 r1.2.1 r1.2.2.1) fun r2=>(z r2)))
def KS:=SE some x0 x1 x2 x3 x4 x5 x6 x7
def SL:Bool->Ex×CS:=fun r=>(.ret,⟨[(0,vB r)],[],[],0,true⟩)
abbrev qdo:CS:=⟨[(1,.l 1 0),(4,vB x0),(5,vI x1),(6,vI x2),(7,vI x3),(9,vI x4),(11,vI x5)],[(1,[kd0 x6,kd1 x7])],[],0,false⟩
theorem qfW {k:Nat} {r:Bool}:KS x0 x1 x2 x3 x4 x5 x6 x7=some r->pE S156 10 68 0 k (qdo x0 x1 x2 x3 x4 x5 x6 x7)=some (SL r):=lP (SE (sm SL) x0 x1 x2 x3 x4 x5 x6 x7) (by kernel_rfl) (by unfold KS SE;with_reducible repeat' first|apply zd|exact nX|exact sX)
end
def S157:=S156.pc 10 68 0 (qdo false 0 0 0 0 0 [] []) (fun x0 x1 x2 x3 x4 x5 x6 x7=>some (y1 (KS x0 x1 x2 x3 x4 x5 x6 x7) SL)) (by kernel_rfl) rfl fun _=>w1 fun h=>qfW _ _ _ _ _ _ _ _ h
section
variable {β:Type} (z:Bool->Option β) (x0:Bool) (x1 x2 x3 x4:Int) (x5:LI) (x6:L3)
def SD:Option β:=(ob (v14 x5 x6 (-1:Int)) fun r1=>(ob (KS x0 x1 x2 x3 x4 r1.2.2.2 x5 x6) fun r2=>(z r2)))
def KR:=SD some x0 x1 x2 x3 x4 x5 x6
def SK:Bool->Ex×CS:=fun r=>(.ret,⟨[(0,vB r)],[],[],0,true⟩)
abbrev qdn:CS:=⟨[(1,.l 1 0),(4,vB x0),(5,vI x1),(6,vI x2),(7,vI x3),(9,vI x4)],[(1,[kd0 x5,kd1 x6])],[],0,false⟩
theorem qfV {k:Nat} {r:Bool}:KR x0 x1 x2 x3 x4 x5 x6=some r->pE S157 10 60 0 k (qdn x0 x1 x2 x3 x4 x5 x6)=some (SK r):=lP (SD (sm SK) x0 x1 x2 x3 x4 x5 x6) (by kernel_rfl) (by unfold KR SD;with_reducible repeat' first|apply zd|exact nX|exact sX)
end
def S158:=S157.pc 10 60 0 (qdn false 0 0 0 0 [] []) (fun x0 x1 x2 x3 x4 x5 x6=>some (y1 (KR x0 x1 x2 x3 x4 x5 x6) SK)) (by kernel_rfl) rfl fun _=>w1 fun h=>qfV _ _ _ _ _ _ _ h
section
variable {β:Type} (z:Bool->Option β) (x0:Bool) (x1 x2 x3:Int) (x4:LI) (x5:L3)
def SC:Option β:=(ob (KR x0 x1 x2 x3 (val (v14 [0] [[[0]]] (5:Int))).2.2.2 x4 x5) fun r1=>(z r1))
def KQ:=SC some x0 x1 x2 x3 x4 x5
def SJ:Bool->Ex×CS:=fun r=>(.ret,⟨[(0,vB r)],[],[],0,true⟩)
abbrev qdm:CS:=⟨[(1,.l 1 0),(4,vB x0),(5,vI x1),(6,vI x2),(7,vI x3)],[(1,[kd0 x4,kd1 x5])],[],0,false⟩
theorem qfU {k:Nat} {r:Bool}:KQ x0 x1 x2 x3 x4 x5=some r->pE S158 10 52 0 k (qdm x0 x1 x2 x3 x4 x5)=some (SJ r):=lP (SC (sm SJ) x0 x1 x2 x3 x4 x5) (by kernel_rfl) (by unfold KQ SC;with_reducible repeat' first|apply zd|exact nX|exact sX)
end
def S159:=S158.pc 10 52 0 (qdm false 0 0 0 [] []) (fun x0 x1 x2 x3 x4 x5=>some (y1 (KQ x0 x1 x2 x3 x4 x5) SJ)) (by kernel_rfl) rfl fun _=>w1 fun h=>qfU _ _ _ _ _ _ h
section
variable {β:Type} (z:Bool->Option β) (x0:Bool) (x1:LI) (x2:L3) (x3:LI) (x4:L3)
def SB:Option β:=(ob (v12 x3 x4 [(3:Int),(4:Int)] 0) fun r1=>(ob (KQ x0 r1.1 r1.2.1 r1.2.2 x1 x2) fun r2=>(z r2)))
def Gl:=SB some x0 x1 x2 x3 x4
def SI:Bool->Ex×CS:=fun r=>(.ret,⟨[(0,vB r)],[],[],0,true⟩)
abbrev qdl:CS:=⟨[(1,.l 1 0),(3,.l 3 0),(4,vB x0)],[(1,[kd0 x1,kd1 x2]),(3,[kd0 x3,kd1 x4])],[],0,false⟩
theorem qfT {k:Nat} {r:Bool}:Gl x0 x1 x2 x3 x4=some r->pE S159 10 44 0 k (qdl x0 x1 x2 x3 x4)=some (SI r):=lP (SB (sm SI) x0 x1 x2 x3 x4) (by kernel_rfl) (by unfold Gl SB;with_reducible repeat' first|apply zd|exact nX|exact sX)
end
def S160:=S159.pc 10 44 0 (qdl false [] [] [] []) (fun x0 x1 x2 x3 x4=>some (y1 (Gl x0 x1 x2 x3 x4) SI)) (by kernel_rfl) rfl fun _=>w1 fun h=>qfT _ _ _ _ _ h
section
variable {β:Type} (z:Bool->Option β) (x0:LI) (x1:L3) (x2:LI) (x3:L3) (x4:LI) (x5:L3)
def SA:Option β:=(ob (v27 x0 x1 [[(5000000:Int)],[(5000000:Int)]] [(200000:Int)] 0) fun r1=>(cond r1 (ob (v27 x2 x3 [[(10000000:Int),0]] [(100000:Int),(100000:Int)] (1000000:Int)) fun r2=>(cond r2 (ob (v27 x4 x5 [[0,(4000000:Int)]] [(1000000000000:Int),(250000:Int)] 0) fun r3=>(ob (Gl r3 x0 x1 x4 x5) fun r4=>(z r4))) (ob (Gl false x0 x1 x4 x5) fun r3=>(z r3)))) (ob (Gl false x0 x1 x4 x5) fun r2=>(z r2))))
def HW:=SA some x0 x1 x2 x3 x4 x5
def SH:Bool->Ex×CS:=fun r=>(.ret,⟨[(0,vB r)],[],[],0,true⟩)
abbrev qdk:CS:=⟨[(1,.l 1 0),(2,.l 2 0),(3,.l 3 0)],[(1,[kd0 x0,kd1 x1]),(2,[kd0 x2,kd1 x3]),(3,[kd0 x4,kd1 x5])],[],0,false⟩
theorem qfS {k:Nat} {r:Bool}:HW x0 x1 x2 x3 x4 x5=some r->pE S160 10 36 0 k (qdk x0 x1 x2 x3 x4 x5)=some (SH r):=lP (SA (sm SH) x0 x1 x2 x3 x4 x5) (by kernel_rfl) (by unfold HW SA;with_reducible repeat' first|apply zd|exact nX|exact sX)
end
def S161:=S160.pc 10 36 0 (qdk [] [] [] [] [] []) (fun x0 x1 x2 x3 x4 x5=>some (y1 (HW x0 x1 x2 x3 x4 x5) SH)) (by kernel_rfl) rfl fun _=>w1 fun h=>qfS _ _ _ _ _ _ h
section
variable {β:Type} (z:Bool->Option β)
def tv10:Option β:=(z true)
def v10:=tv10 some
abbrev aF10:List TA:=[]
abbrev rF10:Bool->List TA×List TO:=fun r=>([.sc (.bool r)],[])
theorem ev10:fE S161 10 aF10 []=v10.bind (sm rF10):=zE (fun z=>tv10 z) (by kernel_rfl) fun K=>by unfold v10 tv10;with_reducible repeat' first|apply zc|exact nB|exact sB
end
def S162:=S161.fn 10 aF10 [] (some (y1 v10 rF10)) rfl fun _=>w1 fun h=>ev10.trans (bD h)
section
variable {β:Type} (y:Int->LI->L3->Option β) (z:(Bool ⊕ Unit)->Option β) (x0:Int) (x1:LI) (x2:L3)
def Kb:Option β:=(cond (decide (x0 < (x1.length:Int))) (cond (decide (0<=x0)) (cond (decide (List.getD x1 x0.toNat 0 < 0)) (z (.inl (false))) (cond (decide (List.getD x1 x0.toNat 0 > (1000:Int))) (z (.inl (false))) (y (wI (x0+1)) x1 x2))) none) (z (.inr ())))
def qeq:Option β:=(cond (decide (x0 < (x1.length:Int))) (ck x0 (x1.length:Int) (cond (decide (List.getD x1 x0.toNat 0 < 0)) (z (.inl (false))) (ck x0 (x1.length:Int) (cond (decide (List.getD x1 x0.toNat 0 > (1000:Int))) (z (.inl (false))) (y (wI (x0+1)) x1 x2))))) (z (.inr ())))
def jG:=itL (fun _ _ _=>none) fun f=>Kb f some
theorem qa5 (n:Nat):jG (n+1)=Kb (jG n) some:=rfl
def qbQ:(Bool ⊕ Unit)->Ex×CS:=Sum.elim (fun r=>(.ret,⟨[(2,vB r)],[],[],0,true⟩)) fun r=>((.exit 0),⟨[(1,.l 1 0),(30,.l 1 0)],[(1,[kd0 x1,kd1 x2])],[],0,false⟩)
abbrev qae:CS:=⟨[(1,.l 1 0),(3,vI x0)],[(1,[kd0 x1,kd1 x2])],[],0,false⟩
theorem qhA {k m n:Nat} {r:Bool ⊕ Unit} (h:jG n x0 x1 x2=some r):lE S162 24 0 k (n+m) (qae x0 x1 x2)=some (qbQ x1 x2 r):=by
 induction n generalizing x0 with
 |zero=>cases h
 |succ n ih=>
 exact lS (qeq (fun x0 x1 x2=>lE S162 24 0 k (n+m) (qae x0 x1 x2)) (sm (qbQ x1 x2)) x0 x1 x2) (by kernel_rfl) (by rw [qa5];unfold Kb qeq;with_reducible repeat' first|apply gT ‹_›|apply gF ‹_›|(apply zz<;>intro _)|exact ih _|exact nX|exact sX) h
end
def S163:=S162.lp 24 0 (qae 0 [] []) (fun x0 x1 x2=>some (y2 (jG FU x0 x1 x2) (qbQ x1 x2))) (by kernel_rfl) fun _=>w2 fun h=>qhA _ _ _ h
section
variable {β:Type} (y:LI->Int->Int->Option β) (z:(Bool ⊕ Unit)->Option β) (x0:LI) (x1 x2:Int)
def Kj:Option β:=(cond (decide (x2 < (x0.length:Int))) (cond (decide (0<=x2)) (cond (decide (List.getD x0 x2.toNat 0 < 0)) (z (.inl (false))) (cond (decide (List.getD x0 x2.toNat 0≥x1)) (z (.inl (false))) (cond (decide (x2 > 0)) (ck (wI (x2 - (1:Int))) (x0.length:Int) (cond (decide (List.getD x0 x2.toNat 0<=List.getD x0 (wI (x2 - (1:Int))).toNat 0)) (z (.inl (false))) (y x0 x1 (wI (x2+1))))) (y x0 x1 (wI (x2+1)))))) none) (z (.inr ())))
def qex:Option β:=(cond (decide (x2 < (x0.length:Int))) (ck x2 (x0.length:Int) (cond (decide (List.getD x0 x2.toNat 0 < 0)) (z (.inl (false))) (ck x2 (x0.length:Int) (cond (decide (List.getD x0 x2.toNat 0≥x1)) (z (.inl (false))) (cond (decide (x2 > 0)) (ck x2 (x0.length:Int) (ck (wI (x2 - (1:Int))) (x0.length:Int) (cond (decide (List.getD x0 x2.toNat 0<=List.getD x0 (wI (x2 - (1:Int))).toNat 0)) (z (.inl (false))) (y x0 x1 (wI (x2+1)))))) (y x0 x1 (wI (x2+1)))))))) (z (.inr ())))
def gz:=itL (fun _ _ _=>none) fun f=>Kj f some
theorem qbm (n:Nat):gz (n+1)=Kj (gz n) some:=rfl
def qb8:(Bool ⊕ Unit)->Ex×CS:=Sum.elim (fun r=>(.ret,⟨[(4,vB r)],[],[],0,true⟩)) fun r=>((.exit 0),⟨[(0,vd0 x0)],[],[],0,false⟩)
abbrev qav:CS:=⟨[(0,vd0 x0),(1,vI x1),(5,vI x2)],[],[],0,false⟩
theorem qhS {k m n:Nat} {r:Bool ⊕ Unit} (h:gz n x0 x1 x2=some r):lE S163 42 0 k (n+m) (qav x0 x1 x2)=some (qb8 x0 r):=by
 induction n generalizing x2 with
 |zero=>cases h
 |succ n ih=>
 exact lS (qex (fun x0 x1 x2=>lE S163 42 0 k (n+m) (qav x0 x1 x2)) (sm (qb8 x0)) x0 x1 x2) (by kernel_rfl) (by rw [qbm];unfold Kj qex;with_reducible repeat' first|apply gT ‹_›|apply gF ‹_›|(apply zz<;>intro _)|exact ih _|exact nX|exact sX) h
end
def S164:=S163.lp 42 0 (qav [] 0 0) (fun x0 x1 x2=>some (y2 (gz FU x0 x1 x2) (qb8 x0))) (by kernel_rfl) fun _=>w2 fun h=>qhS _ _ _ h
section
variable {β:Type} (z:Bool->Option β) (x0:LI) (x1:Int)
def tv42:Option β:=(cond (isL (gz FU x0 x1 0)) (z (zx (gz FU x0 x1 0))) (ob (zB (gz FU x0 x1 0)) fun _=>(cond (decide ((x0.length:Int)≥(1:Int))) (z (decide ((x0.length:Int)<=(6:Int)))) (z false))))
def v42:=tv42 some x0 x1
abbrev aF42:List TA:=[.sc (kd0 x0),.sc (I4 x1)]
abbrev rF42:Bool->List TA×List TO:=fun r=>([.sc (.bool r)],[])
theorem ev42:fE S164 42 (aF42 x0 x1) []=(v42 x0 x1).bind (sm rF42):=zE (fun z=>tv42 z x0 x1) (by kernel_rfl) fun K=>by unfold v42 tv42;with_reducible repeat' first|apply zc|exact nB|exact sB
end
def S165:=S164.fn 42 (aF42 [] 0) [] (fun x0 x1=>some (y1 (v42 x0 x1) rF42)) rfl fun _=>w1 fun h=>(ev42 ..).trans (bD h)
section
variable {β:Type} (y:Int->LL->Int->LI->L3->Option β) (z:(Bool ⊕ Unit)->Option β) (x0:Int) (x1:LL) (x2:Int) (x3:LI) (x4:L3)
def Jj:Option β:=(cond (decide (x2 < (x1.length:Int))) (cond (decide (0<=x2)) (ob (v42 (List.getD x1 x2.toNat []) (x3.length:Int)) fun r1=>(cond (!r1) (z (.inl (false))) (y x0 x1 (wI (x2+1)) x3 x4))) none) (z (.inr ())))
def qdS:Option β:=(cond (decide (x2 < (x1.length:Int))) (ck x2 (x1.length:Int) (ob (v42 (List.getD x1 x2.toNat []) (x3.length:Int)) fun r1=>(cond (!r1) (z (.inl (false))) (y x0 x1 (wI (x2+1)) x3 x4)))) (z (.inr ())))
def qL:=itL (fun _ _ _ _ _=>none) fun f=>Jj f some
theorem Se (n:Nat):qL (n+1)=Jj (qL n) some:=rfl
def He:(Bool ⊕ Unit)->Ex×CS:=Sum.elim (fun r=>(.ret,⟨[(2,vB r)],[],[],0,true⟩)) fun r=>((.exit 4),⟨[(1,.l 1 0),(4,vI x0)],[(1,[kd0 x3,kd1 x4])],[],0,false⟩)
abbrev DD:CS:=⟨[(1,.l 1 0),(4,vI x0),(5,vd1 x1),(6,vI x2)],[(1,[kd0 x3,kd1 x4])],[],0,false⟩
theorem qgd {k m n:Nat} {r:Bool ⊕ Unit} (h:qL n x0 x1 x2 x3 x4=some r):lE S165 24 4 k (n+m) (DD x0 x1 x2 x3 x4)=some (He x0 x3 x4 r):=by
 induction n generalizing x2 with
 |zero=>cases h
 |succ n ih=>
 exact lS (qdS (fun x0 x1 x2 x3 x4=>lE S165 24 4 k (n+m) (DD x0 x1 x2 x3 x4)) (sm (He x0 x3 x4)) x0 x1 x2 x3 x4) (by kernel_rfl) (by rw [Se];unfold Jj qdS;with_reducible repeat' first|apply gT ‹_›|apply gF ‹_›|(apply zz<;>intro _)|exact ih _|exact nX|exact sX) h
end
def S166:=S165.lp 24 4 (DD 0 [] 0 [] []) (fun x0 x1 x2 x3 x4=>some (y2 (qL FU x0 x1 x2 x3 x4) (He x0 x3 x4))) (by kernel_rfl) fun _=>w2 fun h=>qgd _ _ _ _ _ h
section
variable {β:Type} (y:Int->LI->L3->Option β) (z:(Bool ⊕ Unit)->Option β) (x0:Int) (x1:LI) (x2:L3)
def Ji:Option β:=(cond (decide (x0 < (x2.length:Int))) (cond (decide (0<=x0)) (cond (decide ((↑(List.length (List.getD x2 x0.toNat [])):Int) < (1:Int))) (z (.inl (false))) (cond (decide ((↑(List.length (List.getD x2 x0.toNat [])):Int) > (4:Int))) (z (.inl (false))) (cond (isL (qL FU x0 (List.getD x2 x0.toNat []) 0 x1 x2)) (z (.inl (zx (qL FU x0 (List.getD x2 x0.toNat []) 0 x1 x2)))) (ob (zB (qL FU x0 (List.getD x2 x0.toNat []) 0 x1 x2)) fun _=>(y (wI (x0+1)) x1 x2))))) none) (z (.inr ())))
def qdR:Option β:=(cond (decide (x0 < (x2.length:Int))) (ck x0 (x2.length:Int) (cond (decide ((↑(List.length (List.getD x2 x0.toNat [])):Int) < (1:Int))) (z (.inl (false))) (cond (decide ((↑(List.length (List.getD x2 x0.toNat [])):Int) > (4:Int))) (z (.inl (false))) (cond (isL (qL FU x0 (List.getD x2 x0.toNat []) 0 x1 x2)) (z (.inl (zx (qL FU x0 (List.getD x2 x0.toNat []) 0 x1 x2)))) (ob (zB (qL FU x0 (List.getD x2 x0.toNat []) 0 x1 x2)) fun _=>(y (wI (x0+1)) x1 x2)))))) (z (.inr ())))
def qX:=itL (fun _ _ _=>none) fun f=>Ji f some
theorem Sd (n:Nat):qX (n+1)=Ji (qX n) some:=rfl
def Hd:(Bool ⊕ Unit)->Ex×CS:=Sum.elim (fun r=>(.ret,⟨[(2,vB r)],[],[],0,true⟩)) fun r=>((.exit 2),⟨[(1,.l 1 0),(51,.l 1 1)],[],[],0,false⟩)
abbrev DC:CS:=⟨[(1,.l 1 0),(4,vI x0)],[(1,[kd0 x1,kd1 x2])],[],0,false⟩
theorem qgc {k m n:Nat} {r:Bool ⊕ Unit} (h:qX n x0 x1 x2=some r):lE S166 24 2 k (n+m) (DC x0 x1 x2)=some (Hd r):=by
 induction n generalizing x0 with
 |zero=>cases h
 |succ n ih=>
 exact lS (qdR (fun x0 x1 x2=>lE S166 24 2 k (n+m) (DC x0 x1 x2)) (sm Hd) x0 x1 x2) (by kernel_rfl) (by rw [Sd];unfold Ji qdR;with_reducible repeat' first|apply gT ‹_›|apply gF ‹_›|(apply zz<;>intro _)|exact ih _|exact nX|exact sX) h
end
def S167:=S166.lp 24 2 (DC 0 [] []) (fun x0 x1 x2=>some (y2 (qX FU x0 x1 x2) Hd)) (by kernel_rfl) fun _=>w2 fun h=>qgc _ _ _ h
section
variable {β:Type} (z:Bool->Option β) (x0:LI) (x1:L3)
def tv24:Option β:=(cond (decide ((x0.length:Int) < (1:Int))) (z false) (cond (decide ((x0.length:Int) > (8:Int))) (z false) (cond (decide ((x1.length:Int) < (1:Int))) (z false) (cond (decide ((x1.length:Int) > (8:Int))) (z false) (cond (isL (jG FU 0 x0 x1)) (z (zx (jG FU 0 x0 x1))) (ob (zB (jG FU 0 x0 x1)) fun _=>(cond (isL (qX FU 0 x0 x1)) (z (zx (qX FU 0 x0 x1))) (ob (zB (qX FU 0 x0 x1)) fun _=>(z true)))))))))
def v24:=tv24 some x0 x1
abbrev aF24:List TA:=[.agg [kd0 x0,kd1 x1]]
abbrev rF24:Bool->List TA×List TO:=fun r=>([.sc (.bool r)],[])
theorem ev24:fE S167 24 (aF24 x0 x1) []=(v24 x0 x1).bind (sm rF24):=zE (fun z=>tv24 z x0 x1) (by kernel_rfl) fun K=>by unfold v24 tv24;with_reducible repeat' first|apply zc|exact nB|exact sB
end
def S168:=S167.fn 24 (aF24 [] []) [] (fun x0 x1=>some (y1 (v24 x0 x1) rF24)) rfl fun _=>w1 fun h=>(ev24 ..).trans (bD h)
section
variable {β:Type} (y:LI->Int->LI->L3->Option β) (z:(Bool ⊕ Unit)->Option β) (x0:LI) (x1:Int) (x2:LI) (x3:L3)
def Ko:Option β:=(cond (decide (x1 < (x0.length:Int))) (cond (decide (0<=x1)) (ck (List.getD x0 x1.toNat 0) (x2.length:Int) (cond (List.getD x2 (List.getD x0 x1.toNat 0).toNat 0==0) (z (.inl (false))) (y x0 (wI (x1+1)) x2 x3))) none) (z (.inr ())))
def qeC:Option β:=(cond (decide (x1 < (x0.length:Int))) (ck x1 (x0.length:Int) (ck (List.getD x0 x1.toNat 0) (x2.length:Int) (cond (List.getD x2 (List.getD x0 x1.toNat 0).toNat 0==0) (z (.inl (false))) (y x0 (wI (x1+1)) x2 x3)))) (z (.inr ())))
def jL:=itL (fun _ _ _ _=>none) fun f=>Ko f some
theorem qbt (n:Nat):jL (n+1)=Ko (jL n) some:=rfl
def qcf:(Bool ⊕ Unit)->Ex×CS:=Sum.elim (fun r=>(.ret,⟨[(4,vB r)],[],[],0,true⟩)) fun r=>((.exit 0),⟨[(2,.l 2 0)],[],[],0,false⟩)
abbrev qaC:CS:=⟨[(1,vd0 x0),(2,.l 2 0),(5,vI x1)],[(2,[kd0 x2,kd1 x3])],[],0,false⟩
theorem qhZ {k m n:Nat} {r:Bool ⊕ Unit} (h:jL n x0 x1 x2 x3=some r):lE S168 62 0 k (n+m) (qaC x0 x1 x2 x3)=some (qcf r):=by
 induction n generalizing x1 with
 |zero=>cases h
 |succ n ih=>
 exact lS (qeC (fun x0 x1 x2 x3=>lE S168 62 0 k (n+m) (qaC x0 x1 x2 x3)) (sm qcf) x0 x1 x2 x3) (by kernel_rfl) (by rw [qbt];unfold Ko qeC;with_reducible repeat' first|apply gT ‹_›|apply gF ‹_›|(apply zz<;>intro _)|exact ih _|exact nX|exact sX) h
end
def S169:=S168.lp 62 0 (qaC [] 0 [] []) (fun x0 x1 x2 x3=>some (y2 (jL FU x0 x1 x2 x3) qcf)) (by kernel_rfl) fun _=>w2 fun h=>qhZ _ _ _ _ h
section
variable {β:Type} (z:Bool->Option β) (x0:LI) (x1:L3) (x2:LI)
def tv62:Option β:=(cond (isL (jL FU x2 0 x0 x1)) (z (zx (jL FU x2 0 x0 x1))) (ob (zB (jL FU x2 0 x0 x1)) fun _=>(z true)))
def v62:=tv62 some x0 x1 x2
abbrev aF62:List TA:=[.agg [kd0 x0,kd1 x1],.sc (kd0 x2)]
abbrev rF62:Bool->List TA×List TO:=fun r=>([.sc (.bool r)],[])
theorem ev62:fE S169 62 (aF62 x0 x1 x2) []=(v62 x0 x1 x2).bind (sm rF62):=zE (fun z=>tv62 z x0 x1 x2) (by kernel_rfl) fun K=>by unfold v62 tv62;with_reducible repeat' first|apply zc|exact nB|exact sB
end
def S170:=S169.fn 62 (aF62 [] [] []) [] (fun x0 x1 x2=>some (y1 (v62 x0 x1 x2) rF62)) rfl fun _=>w1 fun h=>(ev62 ..).trans (bD h)
section
variable {β:Type} (y:Int->Int->Int->LI->L3->Option β) (z:Int->Option β) (x0 x1 x2:Int) (x3:LI) (x4:L3)
def Kf:Option β:=(ck x0 (x4.length:Int) (cond (decide (x2 < (↑(List.length (List.getD x4 x0.toNat [])):Int))) (cond (decide (0<=x2)) (ob (v62 x3 x4 (List.getD (List.getD x4 x0.toNat []) x2.toNat [])) fun r1=>(cond r1 (cond (decide (x1 < 0)) (y x0 x2 (wI (x2+1)) x3 x4) (ck x1 (↑(List.length (List.getD x4 x0.toNat [])):Int) (cond (decide ((↑(List.length (List.getD (List.getD x4 x0.toNat []) x2.toNat [])):Int) < (↑(List.length (List.getD (List.getD x4 x0.toNat []) x1.toNat [])):Int))) (y x0 x2 (wI (x2+1)) x3 x4) (y x0 x1 (wI (x2+1)) x3 x4)))) (y x0 x1 (wI (x2+1)) x3 x4))) none) (z x1)))
def qet:Option β:=(ck x0 (x4.length:Int) (cond (decide (x2 < (↑(List.length (List.getD x4 x0.toNat [])):Int))) (ck x0 (x4.length:Int) (ck x2 (↑(List.length (List.getD x4 x0.toNat [])):Int) (ob (v62 x3 x4 (List.getD (List.getD x4 x0.toNat []) x2.toNat [])) fun r1=>(cond r1 (cond (decide (x1 < 0)) (y x0 x2 (wI (x2+1)) x3 x4) (ck x0 (x4.length:Int) (ck x1 (↑(List.length (List.getD x4 x0.toNat [])):Int) (cond (decide ((↑(List.length (List.getD (List.getD x4 x0.toNat []) x2.toNat [])):Int) < (↑(List.length (List.getD (List.getD x4 x0.toNat []) x1.toNat [])):Int))) (y x0 x2 (wI (x2+1)) x3 x4) (y x0 x1 (wI (x2+1)) x3 x4))))) (y x0 x1 (wI (x2+1)) x3 x4))))) (z x1)))
def j7:=itL (fun _ _ _ _ _=>none) fun f=>Kf f some
theorem qbg (n:Nat):j7 (n+1)=Kf (j7 n) some:=rfl
def qb1:Int->Ex×CS:=fun r=>((.exit 0),⟨[(2,.l 2 0),(5,vI r),(10,.l 2 1)],[],[],0,false⟩)
abbrev qap:CS:=⟨[(1,vI x0),(2,.l 2 0),(5,vI x1),(6,vI x2)],[(2,[kd0 x3,kd1 x4])],[],0,false⟩
theorem qhL {k m n:Nat} {r:Int} (h:j7 n x0 x1 x2 x3 x4=some r):lE S170 35 0 k (n+m) (qap x0 x1 x2 x3 x4)=some (qb1 r):=by
 induction n generalizing x1 x2 with
 |zero=>cases h
 |succ n ih=>
 exact lS (qet (fun x0 x1 x2 x3 x4=>lE S170 35 0 k (n+m) (qap x0 x1 x2 x3 x4)) (sm qb1) x0 x1 x2 x3 x4) (by kernel_rfl) (by rw [qbg];unfold Kf qet;with_reducible repeat' first|apply gT ‹_›|apply gF ‹_›|(apply zz<;>intro _)|exact ih _ _|exact nX|exact sX) h
end
def S171:=S170.lp 35 0 (qap 0 0 0 [] []) (fun x0 x1 x2 x3 x4=>some (y1 (j7 FU x0 x1 x2 x3 x4) qb1)) (by kernel_rfl) fun _=>w1 fun h=>qhL _ _ _ _ _ h
section
variable {β:Type} (z:Int->Option β) (x0:LI) (x1:L3) (x2:Int)
def tv35:Option β:=(ob (j7 FU x2 (-1:Int) 0 x0 x1) fun r1=>(z r1))
def v35:=tv35 some x0 x1 x2
abbrev aF35:List TA:=[.agg [kd0 x0,kd1 x1],.sc (I4 x2)]
abbrev rF35:Int->List TA×List TO:=fun r=>([.sc (I4 r)],[])
theorem ev35:fE S171 35 (aF35 x0 x1 x2) []=(v35 x0 x1 x2).bind (sm rF35):=zE (fun z=>tv35 z x0 x1 x2) (by kernel_rfl) fun K=>by unfold v35 tv35;with_reducible repeat' first|apply zc|exact nB|exact sB
end
def S172:=S171.fn 35 (aF35 [] [] 0) [] (fun x0 x1 x2=>some (y1 (v35 x0 x1 x2) rF35)) rfl fun _=>w1 fun h=>(ev35 ..).trans (bD h)
section
variable {β:Type} (y:Int->LI->L3->Int->LL->LI->Option β) (z:((Int × Int) ⊕ Unit)->Option β) (x0:Int) (x1:LI) (x2:L3) (x3:Int) (x4:LL) (x5:LI)
def Gw:Option β:=(cond (decide (x0 < (x2.length:Int))) (ob (v35 x1 x2 x0) fun r1=>(cond (decide (r1 < 0)) (z (.inl ((4:Int),0))) (y (wI (x0+1)) x1 x2 x3 x4 x5))) (z (.inr ())))
def jc:=itL (fun _ _ _ _ _ _=>none) fun f=>Gw f some
theorem qaY (n:Nat):jc (n+1)=Gw (jc n) some:=rfl
def qbJ:((Int×Int) ⊕ Unit)->Ex×CS:=Sum.elim (fun r=>(.ret,⟨[(4,.l 4 0),(5,vI r.1)],[(4,[.nil,.nil,I4 r.2])],[],0,true⟩)) fun r=>((.exit 0),⟨[(2,.l 2 0),(4,.l 4 0),(22,.l 2 1)],[(2,[kd0 x1,kd1 x2]),(4,[.g 0,.g 1,I4 x3])],[rd1 x4,rd0 x5],0,false⟩)
abbrev H7:CS:=⟨[(2,.l 2 0),(4,.l 4 0),(7,vI x0)],[(2,[kd0 x1,kd1 x2]),(4,[.g 0,.g 1,I4 x3])],[rd1 x4,rd0 x5],0,false⟩
theorem qht {k m n:Nat} {r:(Int×Int) ⊕ Unit} (h:jc n x0 x1 x2 x3 x4 x5=some r):lE S172 15 0 k (n+m) (H7 x0 x1 x2 x3 x4 x5)=some (qbJ x1 x2 x3 x4 x5 r):=by
 induction n generalizing x0 with
 |zero=>cases h
 |succ n ih=>
 exact lS (Gw (fun x0 x1 x2 x3 x4 x5=>lE S172 15 0 k (n+m) (H7 x0 x1 x2 x3 x4 x5)) (sm (qbJ x1 x2 x3 x4 x5)) x0 x1 x2 x3 x4 x5) (by kernel_rfl) (by rw [qaY];unfold Gw;with_reducible repeat' first|apply zd|exact ih _|exact nX|exact sX) h
end
def S173:=S172.lp 15 0 (H7 0 [] [] 0 [] []) (fun x0 x1 x2 x3 x4 x5=>some (y2 (jc FU x0 x1 x2 x3 x4 x5) (qbJ x1 x2 x3 x4 x5))) (by kernel_rfl) fun _=>w2 fun h=>qht _ _ _ _ _ _ h
section
variable {β:Type} (y:Int->LI->Int->LI->L3->Int->LI->LL->LI->Option β) (z:LI->Option β) (x0:Int) (x1:LI) (x2:Int) (x3:LI) (x4:L3) (x5:Int) (x6:LI) (x7:LL) (x8:LI)
def Jc:Option β:=(cond (decide (x2 < (x1.length:Int))) (cond (decide (0<=x2)) (ck (List.getD x1 x2.toNat 0) (x6.length:Int) (cond (decide ((List.getD x1 x2.toNat 0).toNat < List.length x6)) (cond (decide ((x1.length:Int)≠0)) (y x0 x1 (wI (x2+1)) x3 x4 x5 (List.set x6 (List.getD x1 x2.toNat 0).toNat (wI (List.getD x6 (List.getD x1 x2.toNat 0).toNat 0+wI (Int.tdiv (1000000000:Int) (x1.length:Int))))) x7 x8) none) none)) none) (z x6))
def qdL:Option β:=(cond (decide (x2 < (x1.length:Int))) (ck x2 (x1.length:Int) (ck x2 (x1.length:Int) (ck (List.getD x1 x2.toNat 0) (x6.length:Int) (cond (decide ((List.getD x1 x2.toNat 0).toNat < List.length x6)) (cond (decide ((x1.length:Int)≠0)) (ck (List.getD x1 x2.toNat 0) (x6.length:Int) (cond (decide ((List.getD x1 x2.toNat 0).toNat < List.length x6)) (y x0 x1 (wI (x2+1)) x3 x4 x5 (List.set x6 (List.getD x1 x2.toNat 0).toNat (wI (List.getD x6 (List.getD x1 x2.toNat 0).toNat 0+wI (Int.tdiv (1000000000:Int) (x1.length:Int))))) x7 x8) none)) none) none)))) (z x6))
def qP:=itL (fun _ _ _ _ _ _ _ _ _=>none) fun f=>Jc f some
theorem D5 (n:Nat):qP (n+1)=Jc (qP n) some:=rfl
def SW:LI->Ex×CS:=fun r=>((.exit 2),⟨[(1,.l 1 0),(2,.l 2 0),(3,vG 0),(4,vI x0)],[(1,[kd0 x3,kd1 x4]),(2,[.g 1,.g 2,I4 x5])],[rd0 r,rd1 x7,rd0 x8],0,false⟩)
abbrev Dv:CS:=⟨[(1,.l 1 0),(2,.l 2 0),(3,vG 0),(4,vI x0),(5,vd0 x1),(6,vI x2)],[(1,[kd0 x3,kd1 x4]),(2,[.g 1,.g 2,I4 x5])],[rd0 x6,rd1 x7,rd0 x8],0,false⟩
theorem qf5 {k m n:Nat} {r:LI} (h:qP n x0 x1 x2 x3 x4 x5 x6 x7 x8=some r):lE S173 18 2 k (n+m) (Dv x0 x1 x2 x3 x4 x5 x6 x7 x8)=some (SW x0 x3 x4 x5 x7 x8 r):=by
 induction n generalizing x2 x6 with
 |zero=>cases h
 |succ n ih=>
 exact lS (qdL (fun x0 x1 x2 x3 x4 x5 x6 x7 x8=>lE S173 18 2 k (n+m) (Dv x0 x1 x2 x3 x4 x5 x6 x7 x8)) (sm (SW x0 x3 x4 x5 x7 x8)) x0 x1 x2 x3 x4 x5 x6 x7 x8) (by kernel_rfl) (by rw [D5];unfold Jc qdL;with_reducible repeat' first|apply gT ‹_›|apply gF ‹_›|(apply zz<;>intro _)|exact ih _ _|exact nX|exact sX) h
end
def S174:=S173.lp 18 2 (Dv 0 [] 0 [] [] 0 [] [] []) (fun x0 x1 x2 x3 x4 x5 x6 x7 x8=>some (y1 (qP FU x0 x1 x2 x3 x4 x5 x6 x7 x8) (SW x0 x3 x4 x5 x7 x8))) (by kernel_rfl) fun _=>w1 fun h=>qf5 _ _ _ _ _ _ _ _ _ h
section
variable {β:Type} (y:Int->LI->L3->Int->LI->LL->LI->Option β) (z:LI->Option β) (x0:Int) (x1:LI) (x2:L3) (x3:Int) (x4:LI) (x5:LL) (x6:LI)
def J6:Option β:=(cond (decide (x0 < (x2.length:Int))) (cond (decide (0<=x0)) (ob (v35 x1 x2 x0) fun r1=>(ck r1 (↑(List.length (List.getD x2 x0.toNat [])):Int) (ob (qP FU x0 (List.getD (List.getD x2 x0.toNat []) r1.toNat []) 0 x1 x2 x3 x4 x5 x6) fun r2=>(y (wI (x0+1)) x1 x2 x3 r2 x5 x6)))) none) (z x4))
def qel:Option β:=(cond (decide (x0 < (x2.length:Int))) (ck x0 (x2.length:Int) (ob (v35 x1 x2 x0) fun r1=>(ck r1 (↑(List.length (List.getD x2 x0.toNat [])):Int) (ob (qP FU x0 (List.getD (List.getD x2 x0.toNat []) r1.toNat []) 0 x1 x2 x3 x4 x5 x6) fun r2=>(y (wI (x0+1)) x1 x2 x3 r2 x5 x6))))) (z x4))
def jS:=itL (fun _ _ _ _ _ _ _=>none) fun f=>J6 f some
theorem qa0 (n:Nat):jS (n+1)=J6 (jS n) some:=rfl
def qbL:LI->Ex×CS:=fun r=>((.exit 0),⟨[(1,.l 1 0),(2,.l 2 0),(3,vG 0),(25,.l 1 1)],[(1,[kd0 x1,kd1 x2]),(2,[.g 1,.g 2,I4 x3])],[rd0 r,rd1 x5,rd0 x6],0,false⟩)
abbrev H9:CS:=⟨[(1,.l 1 0),(2,.l 2 0),(3,vG 0),(4,vI x0)],[(1,[kd0 x1,kd1 x2]),(2,[.g 1,.g 2,I4 x3])],[rd0 x4,rd1 x5,rd0 x6],0,false⟩
theorem qhv {k m n:Nat} {r:LI} (h:jS n x0 x1 x2 x3 x4 x5 x6=some r):lE S174 18 0 k (n+m) (H9 x0 x1 x2 x3 x4 x5 x6)=some (qbL x1 x2 x3 x5 x6 r):=by
 induction n generalizing x0 x4 with
 |zero=>cases h
 |succ n ih=>
 exact lS (qel (fun x0 x1 x2 x3 x4 x5 x6=>lE S174 18 0 k (n+m) (H9 x0 x1 x2 x3 x4 x5 x6)) (sm (qbL x1 x2 x3 x5 x6)) x0 x1 x2 x3 x4 x5 x6) (by kernel_rfl) (by rw [qa0];unfold J6 qel;with_reducible repeat' first|apply gT ‹_›|apply gF ‹_›|(apply zz<;>intro _)|exact ih _ _|exact nX|exact sX) h
end
def S175:=S174.lp 18 0 (H9 0 [] [] 0 [] [] []) (fun x0 x1 x2 x3 x4 x5 x6=>some (y1 (jS FU x0 x1 x2 x3 x4 x5 x6) (qbL x1 x2 x3 x5 x6))) (by kernel_rfl) fun _=>w1 fun h=>qhv _ _ _ _ _ _ _ h
section
variable {β:Type} (y:Int->Int->LI->L3->Int->LI->LL->LI->Option β) (z:Int->Option β) (x0 x1:Int) (x2:LI) (x3:L3) (x4:Int) (x5:LI) (x6:LL) (x7:LI)
def Jd:Option β:=(cond (decide (x1 < (x5.length:Int))) (cond (decide (0<=x1)) (cond (decide (x1.toNat < List.length x5)) (cond (decide (List.getD x5 x1.toNat 0 > 0)) (cond (decide (x0 < 0)) (y x1 (wI (x1+1)) x2 x3 x4 x5 x6 x7) (cond (decide (x1 < (x2.length:Int))) (ck x0 (x5.length:Int) (cond (decide (x0.toNat < List.length x5)) (cond (decide (x0 < (x2.length:Int))) (cond (decide (wI (List.getD x2 x1.toNat 0*List.getD x5 x0.toNat 0) < wI (List.getD x2 x0.toNat 0*List.getD x5 x1.toNat 0))) (y x1 (wI (x1+1)) x2 x3 x4 x5 x6 x7) (y x0 (wI (x1+1)) x2 x3 x4 x5 x6 x7)) none) none)) none)) (y x0 (wI (x1+1)) x2 x3 x4 x5 x6 x7)) none) none) (z x0))
def qdM:Option β:=(cond (decide (x1 < (x5.length:Int))) (ck x1 (x5.length:Int) (cond (decide (x1.toNat < List.length x5)) (cond (decide (List.getD x5 x1.toNat 0 > 0)) (cond (decide (x0 < 0)) (y x1 (wI (x1+1)) x2 x3 x4 x5 x6 x7) (ck x1 (x2.length:Int) (ck x0 (x5.length:Int) (cond (decide (x0.toNat < List.length x5)) (ck x0 (x2.length:Int) (ck x1 (x5.length:Int) (cond (decide (x1.toNat < List.length x5)) (cond (decide (wI (List.getD x2 x1.toNat 0*List.getD x5 x0.toNat 0) < wI (List.getD x2 x0.toNat 0*List.getD x5 x1.toNat 0))) (y x1 (wI (x1+1)) x2 x3 x4 x5 x6 x7) (y x0 (wI (x1+1)) x2 x3 x4 x5 x6 x7)) none))) none)))) (y x0 (wI (x1+1)) x2 x3 x4 x5 x6 x7)) none)) (z x0))
def jk:=itL (fun _ _ _ _ _ _ _ _=>none) fun f=>Jd f some
theorem D6 (n:Nat):jk (n+1)=Jd (jk n) some:=rfl
def SX:Int->Ex×CS:=fun r=>((.exit 4),⟨[(1,.l 1 0),(2,.l 2 0),(3,vG 0),(7,vI r)],[(1,[kd0 x2,kd1 x3]),(2,[.g 1,.g 2,I4 x4])],[rd0 x5,rd1 x6,rd0 x7],0,false⟩)
abbrev Dw:CS:=⟨[(1,.l 1 0),(2,.l 2 0),(3,vG 0),(7,vI x0),(8,vI x1)],[(1,[kd0 x2,kd1 x3]),(2,[.g 1,.g 2,I4 x4])],[rd0 x5,rd1 x6,rd0 x7],0,false⟩
theorem qf6 {k m n:Nat} {r:Int} (h:jk n x0 x1 x2 x3 x4 x5 x6 x7=some r):lE S175 18 4 k (n+m) (Dw x0 x1 x2 x3 x4 x5 x6 x7)=some (SX x2 x3 x4 x5 x6 x7 r):=by
 induction n generalizing x0 x1 with
 |zero=>cases h
 |succ n ih=>
 exact lS (qdM (fun x0 x1 x2 x3 x4 x5 x6 x7=>lE S175 18 4 k (n+m) (Dw x0 x1 x2 x3 x4 x5 x6 x7)) (sm (SX x2 x3 x4 x5 x6 x7)) x0 x1 x2 x3 x4 x5 x6 x7) (by kernel_rfl) (by rw [D6];unfold Jd qdM;with_reducible repeat' first|apply gT ‹_›|apply gF ‹_›|(apply zz<;>intro _)|exact ih _ _|exact nX|exact sX) h
end
def S176:=S175.lp 18 4 (Dw 0 0 [] [] 0 [] [] []) (fun x0 x1 x2 x3 x4 x5 x6 x7=>some (y1 (jk FU x0 x1 x2 x3 x4 x5 x6 x7) (SX x2 x3 x4 x5 x6 x7))) (by kernel_rfl) fun _=>w1 fun h=>qf6 _ _ _ _ _ _ _ _ h
section
variable {β:Type} (z:(Int × LL)->Option β) (x0 x1 x2:Int) (x3:LI) (x4 x5:Int) (x6:LI) (x7:L3) (x8 x9:Int) (x10:LI) (x11:LL) (x12:LI) (x13:LL) (x14:LI)
def KZ:Option β:=(cond (decide (List.length x13+List.length [x3]<=nat_lit 2147483648)) (ck x4 (x3.length:Int) (cond (decide (wI (x5*List.getD x3 x4.toNat 0)≠0)) (z (max x1 (wI (Int.tdiv (wI (wI ((1000000000000:Int)+wI (x5*List.getD x3 x4.toNat 0)) - (1:Int))) (wI (x5*List.getD x3 x4.toNat 0)))),x13++[x3])) none)) none)
def qda:Option β:=(cond (decide (List.length x13+List.length [x3]<=nat_lit 2147483648)) (ck x4 (x3.length:Int) (ck x4 (x3.length:Int) (cond (decide (wI (x5*List.getD x3 x4.toNat 0)≠0)) (z (max x1 (wI (Int.tdiv (wI (wI ((1000000000000:Int)+wI (x5*List.getD x3 x4.toNat 0)) - (1:Int))) (wI (x5*List.getD x3 x4.toNat 0)))),x13++[x3])) none))) none)
def gt (x0 x1 x2:Int) (x3:LI) (x4 x5:Int) (x6:LI) (x7:L3) (x8 x9:Int) (x10:LI) (x11:LL) (x12:LI) (x13:LL) (x14:LI):Option (Int×LL):=KZ some x1 x3 x4 x5 x13
def Da:(Int×LL)->Ex×CS:=fun r=>(.normal,⟨[(1,.l 1 0),(2,.l 2 0),(3,vG 0),(7,vI x0),(9,.l 9 0),(10,vI r.1),(11,vI x2),(104,.l 1 1),(110,.l 1 1),(120,.l 1 1),(133,.l 1 0),(146,.l 9 0),(149,.s 149 1),(151,.l 9 0)],[(1,[kd0 x6,kd1 x7]),(2,[.g 1,.g 2,I4 x8]),(9,[.g 3,.g 4,I4 x9])],[rd0 x10,rd1 x11,rd0 x12,rd1 r.2,rd0 x14],0,false⟩)
abbrev qcu:CS:=⟨[(1,.l 1 0),(2,.l 2 0),(3,vG 0),(7,vI x0),(9,.l 9 0),(10,vI x1),(11,vI x2),(12,vd0 x3),(13,vI x4),(14,vI x5),(104,.l 1 1),(110,.l 1 1),(120,.l 1 1),(133,.l 1 0)],[(1,[kd0 x6,kd1 x7]),(2,[.g 1,.g 2,I4 x8]),(9,[.g 3,.g 4,I4 x9])],[rd0 x10,rd1 x11,rd0 x12,rd1 x13,rd0 x14],0,false⟩
theorem qe0 {k:Nat} {r:Int×LL}:gt x0 x1 x2 x3 x4 x5 x6 x7 x8 x9 x10 x11 x12 x13 x14=some r->pE S176 18 204 7 k (qcu x0 x1 x2 x3 x4 x5 x6 x7 x8 x9 x10 x11 x12 x13 x14)=some (Da x0 x2 x6 x7 x8 x9 x10 x11 x12 x14 r):=lP (qda (sm (Da x0 x2 x6 x7 x8 x9 x10 x11 x12 x14)) x1 x3 x4 x5 x13) (by kernel_rfl) (by unfold gt KZ qda;with_reducible repeat' first|apply gT ‹_›|apply gF ‹_›|(apply zz<;>intro _)|exact nX|exact sX)
end
def S177:=S176.pc 18 204 7 (qcu 0 0 0 [] 0 0 [] [] 0 0 [] [] [] [] []) (fun x0 x1 x2 x3 x4 x5 x6 x7 x8 x9 x10 x11 x12 x13 x14=>some (y1 (gt x0 x1 x2 x3 x4 x5 x6 x7 x8 x9 x10 x11 x12 x13 x14) (Da x0 x2 x6 x7 x8 x9 x10 x11 x12 x14))) (by kernel_rfl) rfl fun _=>w1 fun h=>qe0 _ _ _ _ _ _ _ _ _ _ _ _ _ _ _ h
section
variable {β:Type} (y:Int->Int->Int->LI->L3->Int->Int->LI->LL->LI->LL->LI->Option β) (z:(Int × LL)->Option β) (x0 x1 x2:Int) (x3:LI) (x4:L3) (x5 x6:Int) (x7:LI) (x8:LL) (x9:LI) (x10:LL) (x11:LI)
def Je:Option β:=(cond (decide (x2 < (x4.length:Int))) (cond (decide (0<=x2)) (cond (decide ((↑(List.length (List.getD x4 x2.toNat [])):Int)<=(↑(List.length (List.getD x4 x2.toNat [])):Int))) (cond (decide ((↑(List.length (List.getD x4 x2.toNat [])):Int)<=(↑(nat_lit 2147483648):Int))) (ob (v35 x3 x4 x2) fun r1=>(ck r1 (↑(List.length (List.getD x4 x2.toNat [])):Int) (cond (decide ((↑(List.length (List.getD (List.getD x4 x2.toNat []) r1.toNat [])):Int)≠0)) (ck x0 (x3.length:Int) (cond (decide (x0 < (x7.length:Int))) (cond (decide (x0.toNat < List.length x7)) (cond (decide (List.getD x7 x0.toNat 0≠0)) (cond (decide (r1 < (↑(List.length (List.replicate (↑(List.length (List.getD x4 x2.toNat [])):Int).toNat (0:Int))):Int))) (cond (decide (r1.toNat < List.length (List.replicate (↑(List.length (List.getD x4 x2.toNat [])):Int).toNat (0:Int)))) (ob (gt x0 x1 x2 (List.set (List.replicate (↑(List.length (List.getD x4 x2.toNat [])):Int).toNat 0) r1.toNat (wI (Int.tdiv (wI (wI (wI (Int.tdiv (1000000000:Int) (↑(List.length (List.getD (List.getD x4 x2.toNat []) r1.toNat [])):Int))*List.getD x3 x0.toNat 0)*1000000)) (List.getD x7 x0.toNat 0)))) r1 (↑(List.length (List.getD (List.getD x4 x2.toNat []) r1.toNat [])):Int) x3 x4 x5 x6 x7 x8 x9 x10 x11) fun r2=>(y x0 (r2.1) (wI (x2+1)) x3 x4 x5 x6 x7 x8 x9 (r2.2) x11)) none) none) none) none) none)) none))) none) none) none) (z (x1,x10)))
def qdN:Option β:=(cond (decide (x2 < (x4.length:Int))) (ck x2 (x4.length:Int) (cond (decide ((↑(List.length (List.getD x4 x2.toNat [])):Int)<=(↑(List.length (List.getD x4 x2.toNat [])):Int))) (cond (decide ((↑(List.length (List.getD x4 x2.toNat [])):Int)<=(↑(nat_lit 2147483648):Int))) (ob (v35 x3 x4 x2) fun r1=>(ck x2 (x4.length:Int) (ck r1 (↑(List.length (List.getD x4 x2.toNat [])):Int) (cond (decide ((↑(List.length (List.getD (List.getD x4 x2.toNat []) r1.toNat [])):Int)≠0)) (ck x0 (x3.length:Int) (ck x0 (x7.length:Int) (cond (decide (x0.toNat < List.length x7)) (cond (decide (List.getD x7 x0.toNat 0≠0)) (ck r1 (↑(List.length (List.replicate (↑(List.length (List.getD x4 x2.toNat [])):Int).toNat (0:Int))):Int) (cond (decide (r1.toNat < List.length (List.replicate (↑(List.length (List.getD x4 x2.toNat [])):Int).toNat (0:Int)))) (ob (gt x0 x1 x2 (List.set (List.replicate (↑(List.length (List.getD x4 x2.toNat [])):Int).toNat 0) r1.toNat (wI (Int.tdiv (wI (wI (wI (Int.tdiv (1000000000:Int) (↑(List.length (List.getD (List.getD x4 x2.toNat []) r1.toNat [])):Int))*List.getD x3 x0.toNat 0)*1000000)) (List.getD x7 x0.toNat 0)))) r1 (↑(List.length (List.getD (List.getD x4 x2.toNat []) r1.toNat [])):Int) x3 x4 x5 x6 x7 x8 x9 x10 x11) fun r2=>(y x0 (r2.1) (wI (x2+1)) x3 x4 x5 x6 x7 x8 x9 (r2.2) x11)) none)) none) none))) none)))) none) none)) (z (x1,x10)))
def jl:=itL (fun _ _ _ _ _ _ _ _ _ _ _ _=>none) fun f=>Je f some
theorem D7 (n:Nat):jl (n+1)=Je (jl n) some:=rfl
def SY:(Int×LL)->Ex×CS:=fun r=>((.exit 6),⟨[(1,.l 1 0),(2,.l 2 0),(9,.l 9 0),(10,vI r.1),(104,.l 1 1)],[(1,[kd0 x3,kd1 x4]),(2,[.g 0,.g 1,I4 x5]),(9,[.g 2,.g 3,I4 x6])],[rd1 x8,rd0 x9,rd1 r.2,rd0 x11],0,false⟩)
abbrev Dx:CS:=⟨[(1,.l 1 0),(2,.l 2 0),(3,vG 0),(7,vI x0),(9,.l 9 0),(10,vI x1),(11,vI x2)],[(1,[kd0 x3,kd1 x4]),(2,[.g 1,.g 2,I4 x5]),(9,[.g 3,.g 4,I4 x6])],[rd0 x7,rd1 x8,rd0 x9,rd1 x10,rd0 x11],0,false⟩
theorem qf7 {k m n:Nat} {r:Int×LL} (h:jl n x0 x1 x2 x3 x4 x5 x6 x7 x8 x9 x10 x11=some r):lE S177 18 6 k (n+m) (Dx x0 x1 x2 x3 x4 x5 x6 x7 x8 x9 x10 x11)=some (SY x3 x4 x5 x6 x8 x9 x11 r):=by
 induction n generalizing x1 x2 x10 with
 |zero=>cases h
 |succ n ih=>
 exact lS (qdN (fun x0 x1 x2 x3 x4 x5 x6 x7 x8 x9 x10 x11=>lE S177 18 6 k (n+m) (Dx x0 x1 x2 x3 x4 x5 x6 x7 x8 x9 x10 x11)) (sm (SY x3 x4 x5 x6 x8 x9 x11)) x0 x1 x2 x3 x4 x5 x6 x7 x8 x9 x10 x11) (by kernel_rfl) (by rw [D7];unfold Je qdN;with_reducible repeat' first|apply gT ‹_›|apply gF ‹_›|(apply zz<;>intro _)|exact ih _ _ _|exact nX|exact sX) h
end
def S178:=S177.lp 18 6 (Dx 0 0 0 [] [] 0 0 [] [] [] [] []) (fun x0 x1 x2 x3 x4 x5 x6 x7 x8 x9 x10 x11=>some (y1 (jl FU x0 x1 x2 x3 x4 x5 x6 x7 x8 x9 x10 x11) (SY x3 x4 x5 x6 x8 x9 x11))) (by kernel_rfl) fun _=>w1 fun h=>qf7 _ _ _ _ _ _ _ _ _ _ _ _ h
section
variable {β:Type} (y:LI->Int->Int->Option β) (z:(Bool ⊕ Unit)->Option β) (x0:LI) (x1 x2:Int)
def Kh:Option β:=(cond (decide (x2 < (x0.length:Int))) (cond (decide (0<=x2)) (cond (List.getD x0 x2.toNat 0==x1) (z (.inl (true))) (y x0 x1 (wI (x2+1)))) none) (z (.inr ())))
def qev:Option β:=(cond (decide (x2 < (x0.length:Int))) (ck x2 (x0.length:Int) (cond (List.getD x0 x2.toNat 0==x1) (z (.inl (true))) (y x0 x1 (wI (x2+1))))) (z (.inr ())))
def j8:=itL (fun _ _ _=>none) fun f=>Kh f some
theorem qbi (n:Nat):j8 (n+1)=Kh (j8 n) some:=rfl
def qb3:(Bool ⊕ Unit)->Ex×CS:=Sum.elim (fun r=>(.ret,⟨[(4,vB r)],[],[],0,true⟩)) fun r=>((.exit 0),⟨[],[],[],0,false⟩)
abbrev qar:CS:=⟨[(0,vd0 x0),(1,vI x1),(5,vI x2)],[],[],0,false⟩
theorem qhN {k m n:Nat} {r:Bool ⊕ Unit} (h:j8 n x0 x1 x2=some r):lE S178 37 0 k (n+m) (qar x0 x1 x2)=some (qb3 r):=by
 induction n generalizing x2 with
 |zero=>cases h
 |succ n ih=>
 exact lS (qev (fun x0 x1 x2=>lE S178 37 0 k (n+m) (qar x0 x1 x2)) (sm qb3) x0 x1 x2) (by kernel_rfl) (by rw [qbi];unfold Kh qev;with_reducible repeat' first|apply gT ‹_›|apply gF ‹_›|(apply zz<;>intro _)|exact ih _|exact nX|exact sX) h
end
def S179:=S178.lp 37 0 (qar [] 0 0) (fun x0 x1 x2=>some (y2 (j8 FU x0 x1 x2) qb3)) (by kernel_rfl) fun _=>w2 fun h=>qhN _ _ _ h
section
variable {β:Type} (z:Bool->Option β) (x0:LI) (x1:Int)
def tv37:Option β:=(cond (isL (j8 FU x0 x1 0)) (z (zx (j8 FU x0 x1 0))) (ob (zB (j8 FU x0 x1 0)) fun _=>(z false)))
def v37:=tv37 some x0 x1
abbrev aF37:List TA:=[.sc (kd0 x0),.sc (I4 x1)]
abbrev rF37:Bool->List TA×List TO:=fun r=>([.sc (.bool r)],[])
theorem ev37:fE S179 37 (aF37 x0 x1) []=(v37 x0 x1).bind (sm rF37):=zE (fun z=>tv37 z x0 x1) (by kernel_rfl) fun K=>by unfold v37 tv37;with_reducible repeat' first|apply zc|exact nB|exact sB
end
def S180:=S179.fn 37 (aF37 [] 0) [] (fun x0 x1=>some (y1 (v37 x0 x1) rF37)) rfl fun _=>w1 fun h=>(ev37 ..).trans (bD h)
section
variable {β:Type} (y:Int->Int->Int->Int->Int->LI->L3->Int->Int->LL->LI->LL->LI->Option β) (z:Int->Option β) (x0 x1 x2 x3 x4:Int) (x5:LI) (x6:L3) (x7 x8:Int) (x9:LL) (x10:LI) (x11:LL) (x12:LI)
def Jg:Option β:=(ck x3 (x6.length:Int) (cond (decide (x4 < (↑(List.length (List.getD x6 x3.toNat [])):Int))) (cond (decide (0<=x4)) (ob (v37 (List.getD (List.getD x6 x3.toNat []) x4.toNat []) x1) fun r1=>(cond r1 (y x0 x1 x0 x3 (wI (x4+1)) x5 x6 x7 x8 x9 x10 x11 x12) (y x0 x1 x2 x3 (wI (x4+1)) x5 x6 x7 x8 x9 x10 x11 x12))) none) (z x2)))
def qdP:Option β:=(ck x3 (x6.length:Int) (cond (decide (x4 < (↑(List.length (List.getD x6 x3.toNat [])):Int))) (ck x3 (x6.length:Int) (ck x4 (↑(List.length (List.getD x6 x3.toNat [])):Int) (ob (v37 (List.getD (List.getD x6 x3.toNat []) x4.toNat []) x1) fun r1=>(cond r1 (y x0 x1 x0 x3 (wI (x4+1)) x5 x6 x7 x8 x9 x10 x11 x12) (y x0 x1 x2 x3 (wI (x4+1)) x5 x6 x7 x8 x9 x10 x11 x12))))) (z x2)))
def jn:=itL (fun _ _ _ _ _ _ _ _ _ _ _ _ _=>none) fun f=>Jg f some
theorem Sa (n:Nat):jn (n+1)=Jg (jn n) some:=rfl
def Hb:Int->Ex×CS:=fun r=>((.exit 12),⟨[(1,.l 1 0),(2,.l 2 0),(9,.l 9 0),(10,vI x0),(15,vI x1),(16,vI r),(17,vI x3),(184,.l 1 1)],[(1,[kd0 x5,kd1 x6]),(2,[.g 0,.g 1,I4 x7]),(9,[.g 2,.g 3,I4 x8])],[rd1 x9,rd0 x10,rd1 x11,rd0 x12],0,false⟩)
abbrev DA:CS:=⟨[(1,.l 1 0),(2,.l 2 0),(9,.l 9 0),(10,vI x0),(15,vI x1),(16,vI x2),(17,vI x3),(18,vI x4)],[(1,[kd0 x5,kd1 x6]),(2,[.g 0,.g 1,I4 x7]),(9,[.g 2,.g 3,I4 x8])],[rd1 x9,rd0 x10,rd1 x11,rd0 x12],0,false⟩
theorem qga {k m n:Nat} {r:Int} (h:jn n x0 x1 x2 x3 x4 x5 x6 x7 x8 x9 x10 x11 x12=some r):lE S180 18 12 k (n+m) (DA x0 x1 x2 x3 x4 x5 x6 x7 x8 x9 x10 x11 x12)=some (Hb x0 x1 x3 x5 x6 x7 x8 x9 x10 x11 x12 r):=by
 induction n generalizing x2 x4 with
 |zero=>cases h
 |succ n ih=>
 exact lS (qdP (fun x0 x1 x2 x3 x4 x5 x6 x7 x8 x9 x10 x11 x12=>lE S180 18 12 k (n+m) (DA x0 x1 x2 x3 x4 x5 x6 x7 x8 x9 x10 x11 x12)) (sm (Hb x0 x1 x3 x5 x6 x7 x8 x9 x10 x11 x12)) x0 x1 x2 x3 x4 x5 x6 x7 x8 x9 x10 x11 x12) (by kernel_rfl) (by rw [Sa];unfold Jg qdP;with_reducible repeat' first|apply gT ‹_›|apply gF ‹_›|(apply zz<;>intro _)|exact ih _ _|exact nX|exact sX) h
end
def S181:=S180.lp 18 12 (DA 0 0 0 0 0 [] [] 0 0 [] [] [] []) (fun x0 x1 x2 x3 x4 x5 x6 x7 x8 x9 x10 x11 x12=>some (y1 (jn FU x0 x1 x2 x3 x4 x5 x6 x7 x8 x9 x10 x11 x12) (Hb x0 x1 x3 x5 x6 x7 x8 x9 x10 x11 x12))) (by kernel_rfl) fun _=>w1 fun h=>qga _ _ _ _ _ _ _ _ _ _ _ _ _ h
section
variable {β:Type} (y:Int->Int->Int->Int->LI->L3->Int->Int->LL->LI->LL->LI->Option β) (z:Int->Option β) (x0 x1 x2 x3:Int) (x4:LI) (x5:L3) (x6 x7:Int) (x8:LL) (x9:LI) (x10:LL) (x11:LI)
def gW:Option β:=(cond (decide (x3 < (x5.length:Int))) (ob (jn FU x0 x1 x2 x3 0 x4 x5 x6 x7 x8 x9 x10 x11) fun r1=>(y x0 x1 r1 (wI (x3+1)) x4 x5 x6 x7 x8 x9 x10 x11)) (z x2))
def qW:=itL (fun _ _ _ _ _ _ _ _ _ _ _ _=>none) fun f=>gW f some
theorem D9 (n:Nat):qW (n+1)=gW (qW n) some:=rfl
def Ha:Int->Ex×CS:=fun r=>((.exit 10),⟨[(1,.l 1 0),(2,.l 2 0),(9,.l 9 0),(10,vI x0),(15,vI x1),(16,vI r),(177,.l 1 1)],[(1,[kd0 x4,kd1 x5]),(2,[.g 0,.g 1,I4 x6]),(9,[.g 2,.g 3,I4 x7])],[rd1 x8,rd0 x9,rd1 x10,rd0 x11],0,false⟩)
abbrev Dz:CS:=⟨[(1,.l 1 0),(2,.l 2 0),(9,.l 9 0),(10,vI x0),(15,vI x1),(16,vI x2),(17,vI x3)],[(1,[kd0 x4,kd1 x5]),(2,[.g 0,.g 1,I4 x6]),(9,[.g 2,.g 3,I4 x7])],[rd1 x8,rd0 x9,rd1 x10,rd0 x11],0,false⟩
theorem qf9 {k m n:Nat} {r:Int} (h:qW n x0 x1 x2 x3 x4 x5 x6 x7 x8 x9 x10 x11=some r):lE S181 18 10 k (n+m) (Dz x0 x1 x2 x3 x4 x5 x6 x7 x8 x9 x10 x11)=some (Ha x0 x1 x4 x5 x6 x7 x8 x9 x10 x11 r):=by
 induction n generalizing x2 x3 with
 |zero=>cases h
 |succ n ih=>
 exact lS (gW (fun x0 x1 x2 x3 x4 x5 x6 x7 x8 x9 x10 x11=>lE S181 18 10 k (n+m) (Dz x0 x1 x2 x3 x4 x5 x6 x7 x8 x9 x10 x11)) (sm (Ha x0 x1 x4 x5 x6 x7 x8 x9 x10 x11)) x0 x1 x2 x3 x4 x5 x6 x7 x8 x9 x10 x11) (by kernel_rfl) (by rw [D9];unfold gW;with_reducible repeat' first|apply zd|exact ih _ _|exact nX|exact sX) h
end
def S182:=S181.lp 18 10 (Dz 0 0 0 0 [] [] 0 0 [] [] [] []) (fun x0 x1 x2 x3 x4 x5 x6 x7 x8 x9 x10 x11=>some (y1 (qW FU x0 x1 x2 x3 x4 x5 x6 x7 x8 x9 x10 x11) (Ha x0 x1 x4 x5 x6 x7 x8 x9 x10 x11))) (by kernel_rfl) fun _=>w1 fun h=>qf9 _ _ _ _ _ _ _ _ _ _ _ _ h
section
variable {β:Type} (y:Int->Int->LI->L3->Int->Int->LL->LI->LL->LI->Option β) (z:LI->Option β) (x0 x1:Int) (x2:LI) (x3:L3) (x4 x5:Int) (x6:LL) (x7:LI) (x8:LL) (x9:LI)
def Jf:Option β:=(cond (decide (x1 < (x2.length:Int))) (ob (qW FU x0 x1 0 0 x2 x3 x4 x5 x6 x7 x8 x9) fun r1=>(cond (decide (0<=x1)) (cond (List.getD x2 x1.toNat 0==0) (cond (decide (List.length x9+List.length [(1000000000000:Int)]<=nat_lit 2147483648)) (y x0 (wI (x1+1)) x2 x3 x4 x5 x6 x7 x8 (x9++[(1000000000000:Int)])) none) (cond (decide (List.length x9+List.length [r1]<=nat_lit 2147483648)) (y x0 (wI (x1+1)) x2 x3 x4 x5 x6 x7 x8 (x9++[r1])) none)) none)) (z x9))
def qdO:Option β:=(cond (decide (x1 < (x2.length:Int))) (ob (qW FU x0 x1 0 0 x2 x3 x4 x5 x6 x7 x8 x9) fun r1=>(ck x1 (x2.length:Int) (cond (List.getD x2 x1.toNat 0==0) (cond (decide (List.length x9+List.length [(1000000000000:Int)]<=nat_lit 2147483648)) (y x0 (wI (x1+1)) x2 x3 x4 x5 x6 x7 x8 (x9++[(1000000000000:Int)])) none) (cond (decide (List.length x9+List.length [r1]<=nat_lit 2147483648)) (y x0 (wI (x1+1)) x2 x3 x4 x5 x6 x7 x8 (x9++[r1])) none)))) (z x9))
def jm:=itL (fun _ _ _ _ _ _ _ _ _ _=>none) fun f=>Jf f some
theorem D8 (n:Nat):jm (n+1)=Jf (jm n) some:=rfl
def SZ:LI->Ex×CS:=fun r=>((.exit 8),⟨[(1,.l 1 0),(2,.l 2 0),(9,.l 9 0),(170,.l 1 0)],[(1,[kd0 x2,kd1 x3]),(2,[.g 0,.g 1,I4 x4]),(9,[.g 2,.g 3,I4 x5])],[rd1 x6,rd0 x7,rd1 x8,rd0 r],0,false⟩)
abbrev Dy:CS:=⟨[(1,.l 1 0),(2,.l 2 0),(9,.l 9 0),(10,vI x0),(15,vI x1)],[(1,[kd0 x2,kd1 x3]),(2,[.g 0,.g 1,I4 x4]),(9,[.g 2,.g 3,I4 x5])],[rd1 x6,rd0 x7,rd1 x8,rd0 x9],0,false⟩
theorem qf8 {k m n:Nat} {r:LI} (h:jm n x0 x1 x2 x3 x4 x5 x6 x7 x8 x9=some r):lE S182 18 8 k (n+m) (Dy x0 x1 x2 x3 x4 x5 x6 x7 x8 x9)=some (SZ x2 x3 x4 x5 x6 x7 x8 r):=by
 induction n generalizing x1 x9 with
 |zero=>cases h
 |succ n ih=>
 exact lS (qdO (fun x0 x1 x2 x3 x4 x5 x6 x7 x8 x9=>lE S182 18 8 k (n+m) (Dy x0 x1 x2 x3 x4 x5 x6 x7 x8 x9)) (sm (SZ x2 x3 x4 x5 x6 x7 x8)) x0 x1 x2 x3 x4 x5 x6 x7 x8 x9) (by kernel_rfl) (by rw [D8];unfold Jf qdO;with_reducible repeat' first|apply gT ‹_›|apply gF ‹_›|(apply zz<;>intro _)|exact ih _ _|exact nX|exact sX) h
end
def S183:=S182.lp 18 8 (Dy 0 0 [] [] 0 0 [] [] [] []) (fun x0 x1 x2 x3 x4 x5 x6 x7 x8 x9=>some (y1 (jm FU x0 x1 x2 x3 x4 x5 x6 x7 x8 x9) (SZ x2 x3 x4 x5 x6 x7 x8))) (by kernel_rfl) fun _=>w1 fun h=>qf8 _ _ _ _ _ _ _ _ _ _ h
section
variable {β:Type} (y:LL->Int->Int->LI->L3->Option β) (z:(Bool ⊕ Unit)->Option β) (x0:LL) (x1 x2:Int) (x3:LI) (x4:L3)
def Jh:Option β:=(ck x1 (x0.length:Int) (cond (decide (x2 < (↑(List.length (List.getD x0 x1.toNat [])):Int))) (cond (decide (0<=x2)) (cond (decide (List.getD (List.getD x0 x1.toNat []) x2.toNat 0 < 0)) (z (.inl (false))) (cond (decide (List.getD (List.getD x0 x1.toNat []) x2.toNat 0 > (1000000000:Int))) (z (.inl (false))) (y x0 x1 (wI (x2+1)) x3 x4))) none) (z (.inr ()))))
def qdQ:Option β:=(ck x1 (x0.length:Int) (cond (decide (x2 < (↑(List.length (List.getD x0 x1.toNat [])):Int))) (ck x1 (x0.length:Int) (ck x2 (↑(List.length (List.getD x0 x1.toNat [])):Int) (cond (decide (List.getD (List.getD x0 x1.toNat []) x2.toNat 0 < 0)) (z (.inl (false))) (ck x1 (x0.length:Int) (ck x2 (↑(List.length (List.getD x0 x1.toNat [])):Int) (cond (decide (List.getD (List.getD x0 x1.toNat []) x2.toNat 0 > (1000000000:Int))) (z (.inl (false))) (y x0 x1 (wI (x2+1)) x3 x4))))))) (z (.inr ()))))
def qK:=itL (fun _ _ _ _ _=>none) fun f=>Jh f some
theorem Sb (n:Nat):qK (n+1)=Jh (qK n) some:=rfl
def Hc:(Bool ⊕ Unit)->Ex×CS:=Sum.elim (fun r=>(.ret,⟨[(4,vB r)],[],[],0,true⟩)) fun r=>((.exit 2),⟨[(1,vd1 x0),(2,.l 2 0),(5,vI x1)],[(2,[kd0 x3,kd1 x4])],[],0,false⟩)
abbrev DB:CS:=⟨[(1,vd1 x0),(2,.l 2 0),(5,vI x1),(6,vI x2)],[(2,[kd0 x3,kd1 x4])],[],0,false⟩
theorem qgb {k m n:Nat} {r:Bool ⊕ Unit} (h:qK n x0 x1 x2 x3 x4=some r):lE S183 19 2 k (n+m) (DB x0 x1 x2 x3 x4)=some (Hc x0 x1 x3 x4 r):=by
 induction n generalizing x2 with
 |zero=>cases h
 |succ n ih=>
 exact lS (qdQ (fun x0 x1 x2 x3 x4=>lE S183 19 2 k (n+m) (DB x0 x1 x2 x3 x4)) (sm (Hc x0 x1 x3 x4)) x0 x1 x2 x3 x4) (by kernel_rfl) (by rw [Sb];unfold Jh qdQ;with_reducible repeat' first|apply gT ‹_›|apply gF ‹_›|(apply zz<;>intro _)|exact ih _|exact nX|exact sX) h
end
def S184:=S183.lp 19 2 (DB [] 0 0 [] []) (fun x0 x1 x2 x3 x4=>some (y2 (qK FU x0 x1 x2 x3 x4) (Hc x0 x1 x3 x4))) (by kernel_rfl) fun _=>w2 fun h=>qgb _ _ _ _ _ h
section
variable {β:Type} (y:LL->Int->LI->L3->Option β) (z:(Bool ⊕ Unit)->Option β) (x0:LL) (x1:Int) (x2:LI) (x3:L3)
def J7:Option β:=(cond (decide (x1 < (x0.length:Int))) (ck x1 (x3.length:Int) (cond ((↑(List.length (List.getD x0 x1.toNat [])):Int) != (↑(List.length (List.getD x3 x1.toNat [])):Int)) (z (.inl (false))) (cond (isL (qK FU x0 x1 0 x2 x3)) (z (.inl (zx (qK FU x0 x1 0 x2 x3)))) (ob (zB (qK FU x0 x1 0 x2 x3)) fun _=>(y x0 (wI (x1+1)) x2 x3))))) (z (.inr ())))
def qem:Option β:=(cond (decide (x1 < (x0.length:Int))) (ck x1 (x0.length:Int) (ck x1 (x3.length:Int) (cond ((↑(List.length (List.getD x0 x1.toNat [])):Int) != (↑(List.length (List.getD x3 x1.toNat [])):Int)) (z (.inl (false))) (cond (isL (qK FU x0 x1 0 x2 x3)) (z (.inl (zx (qK FU x0 x1 0 x2 x3)))) (ob (zB (qK FU x0 x1 0 x2 x3)) fun _=>(y x0 (wI (x1+1)) x2 x3)))))) (z (.inr ())))
def jE:=itL (fun _ _ _ _=>none) fun f=>J7 f some
theorem qa1 (n:Nat):jE (n+1)=J7 (jE n) some:=rfl
def qbM:(Bool ⊕ Unit)->Ex×CS:=Sum.elim (fun r=>(.ret,⟨[(4,vB r)],[],[],0,true⟩)) fun r=>((.exit 0),⟨[(2,.l 2 0)],[],[],0,false⟩)
abbrev qaa:CS:=⟨[(1,vd1 x0),(2,.l 2 0),(5,vI x1)],[(2,[kd0 x2,kd1 x3])],[],0,false⟩
theorem qhw {k m n:Nat} {r:Bool ⊕ Unit} (h:jE n x0 x1 x2 x3=some r):lE S184 19 0 k (n+m) (qaa x0 x1 x2 x3)=some (qbM r):=by
 induction n generalizing x1 with
 |zero=>cases h
 |succ n ih=>
 exact lS (qem (fun x0 x1 x2 x3=>lE S184 19 0 k (n+m) (qaa x0 x1 x2 x3)) (sm qbM) x0 x1 x2 x3) (by kernel_rfl) (by rw [qa1];unfold J7 qem;with_reducible repeat' first|apply gT ‹_›|apply gF ‹_›|(apply zz<;>intro _)|exact ih _|exact nX|exact sX) h
end
def S185:=S184.lp 19 0 (qaa [] 0 [] []) (fun x0 x1 x2 x3=>some (y2 (jE FU x0 x1 x2 x3) qbM)) (by kernel_rfl) fun _=>w2 fun h=>qhw _ _ _ _ h
section
variable {β:Type} (z:Bool->Option β) (x0:LI) (x1:L3) (x2:LL)
def tv19:Option β:=(cond ((x2.length:Int) != (x1.length:Int)) (z false) (cond (isL (jE FU x2 0 x0 x1)) (z (zx (jE FU x2 0 x0 x1))) (ob (zB (jE FU x2 0 x0 x1)) fun _=>(z true))))
def v19:=tv19 some x0 x1 x2
abbrev aF19:List TA:=[.agg [kd0 x0,kd1 x1],.sc (kd2 x2)]
abbrev rF19:Bool->List TA×List TO:=fun r=>([.sc (.bool r)],[])
theorem ev19:fE S185 19 (aF19 x0 x1 x2) []=(v19 x0 x1 x2).bind (sm rF19):=zE (fun z=>tv19 z x0 x1 x2) (by kernel_rfl) fun K=>by unfold v19 tv19;with_reducible repeat' first|apply zc|exact nB|exact sB
end
def S186:=S185.fn 19 (aF19 [] [] []) [] (fun x0 x1 x2=>some (y1 (v19 x0 x1 x2) rF19)) rfl fun _=>w1 fun h=>(ev19 ..).trans (bD h)
section
variable {β:Type} (y:LI->Int->LI->L3->Option β) (z:(Bool ⊕ Unit)->Option β) (x0:LI) (x1:Int) (x2:LI) (x3:L3)
def Kc:Option β:=(cond (decide (x1 < (x0.length:Int))) (cond (decide (0<=x1)) (cond (decide (List.getD x0 x1.toNat 0 < 0)) (z (.inl (false))) (cond (decide (List.getD x0 x1.toNat 0 > (1000000000000:Int))) (z (.inl (false))) (y x0 (wI (x1+1)) x2 x3))) none) (z (.inr ())))
def qer:Option β:=(cond (decide (x1 < (x0.length:Int))) (ck x1 (x0.length:Int) (cond (decide (List.getD x0 x1.toNat 0 < 0)) (z (.inl (false))) (ck x1 (x0.length:Int) (cond (decide (List.getD x0 x1.toNat 0 > (1000000000000:Int))) (z (.inl (false))) (y x0 (wI (x1+1)) x2 x3))))) (z (.inr ())))
def jH:=itL (fun _ _ _ _=>none) fun f=>Kc f some
theorem qa7 (n:Nat):jH (n+1)=Kc (jH n) some:=rfl
def qbS:(Bool ⊕ Unit)->Ex×CS:=Sum.elim (fun r=>(.ret,⟨[(4,vB r)],[],[],0,true⟩)) fun r=>((.exit 0),⟨[(1,vd0 x0),(2,.l 2 0)],[(2,[kd0 x2,kd1 x3])],[],0,false⟩)
abbrev qag:CS:=⟨[(1,vd0 x0),(2,.l 2 0),(5,vI x1)],[(2,[kd0 x2,kd1 x3])],[],0,false⟩
theorem qhC {k m n:Nat} {r:Bool ⊕ Unit} (h:jH n x0 x1 x2 x3=some r):lE S186 30 0 k (n+m) (qag x0 x1 x2 x3)=some (qbS x0 x2 x3 r):=by
 induction n generalizing x1 with
 |zero=>cases h
 |succ n ih=>
 exact lS (qer (fun x0 x1 x2 x3=>lE S186 30 0 k (n+m) (qag x0 x1 x2 x3)) (sm (qbS x0 x2 x3)) x0 x1 x2 x3) (by kernel_rfl) (by rw [qa7];unfold Kc qer;with_reducible repeat' first|apply gT ‹_›|apply gF ‹_›|(apply zz<;>intro _)|exact ih _|exact nX|exact sX) h
end
def S187:=S186.lp 30 0 (qag [] 0 [] []) (fun x0 x1 x2 x3=>some (y2 (jH FU x0 x1 x2 x3) (qbS x0 x2 x3))) (by kernel_rfl) fun _=>w2 fun h=>qhC _ _ _ _ h
section
variable {β:Type} (z:Bool->Option β) (x0:LI) (x1:L3) (x2:LI)
def tv30:Option β:=(cond (isL (jH FU x2 0 x0 x1)) (z (zx (jH FU x2 0 x0 x1))) (ob (zB (jH FU x2 0 x0 x1)) fun _=>(z ((x2.length:Int)==(x0.length:Int)))))
def v30:=tv30 some x0 x1 x2
abbrev aF30:List TA:=[.agg [kd0 x0,kd1 x1],.sc (kd0 x2)]
abbrev rF30:Bool->List TA×List TO:=fun r=>([.sc (.bool r)],[])
theorem ev30:fE S187 30 (aF30 x0 x1 x2) []=(v30 x0 x1 x2).bind (sm rF30):=zE (fun z=>tv30 z x0 x1 x2) (by kernel_rfl) fun K=>by unfold v30 tv30;with_reducible repeat' first|apply zc|exact nB|exact sB
end
def S188:=S187.fn 30 (aF30 [] [] []) [] (fun x0 x1 x2=>some (y1 (v30 x0 x1 x2) rF30)) rfl fun _=>w1 fun h=>(ev30 ..).trans (bD h)
section
variable {β:Type} (y:LL->Int->Int->Int->Int->LI->L3->Option β) (z:Int->Option β) (x0:LL) (x1 x2 x3 x4:Int) (x5:LI) (x6:L3)
def Jm:Option β:=(ck x3 (x6.length:Int) (cond (decide (x4 < (↑(List.length (List.getD x6 x3.toNat [])):Int))) (cond (decide (0<=x4)) (ob (v37 (List.getD (List.getD x6 x3.toNat []) x4.toNat []) x1) fun r1=>(cond r1 (cond (decide (x3 < (x0.length:Int))) (cond (decide (x4 < (↑(List.length (List.getD x0 x3.toNat [])):Int))) (y x0 x1 (wI (x2+List.getD (List.getD x0 x3.toNat []) x4.toNat 0)) x3 (wI (x4+1)) x5 x6) none) none) (y x0 x1 x2 x3 (wI (x4+1)) x5 x6))) none) (z x2)))
def qdV:Option β:=(ck x3 (x6.length:Int) (cond (decide (x4 < (↑(List.length (List.getD x6 x3.toNat [])):Int))) (ck x3 (x6.length:Int) (ck x4 (↑(List.length (List.getD x6 x3.toNat [])):Int) (ob (v37 (List.getD (List.getD x6 x3.toNat []) x4.toNat []) x1) fun r1=>(cond r1 (ck x3 (x0.length:Int) (ck x4 (↑(List.length (List.getD x0 x3.toNat [])):Int) (y x0 x1 (wI (x2+List.getD (List.getD x0 x3.toNat []) x4.toNat 0)) x3 (wI (x4+1)) x5 x6))) (y x0 x1 x2 x3 (wI (x4+1)) x5 x6))))) (z x2)))
def ju:=itL (fun _ _ _ _ _ _ _=>none) fun f=>Jm f some
theorem Sn (n:Nat):ju (n+1)=Jm (ju n) some:=rfl
def Hp:Int->Ex×CS:=fun r=>((.exit 2),⟨[(1,vd1 x0),(2,vI x1),(3,.l 3 0),(7,vI r),(8,vI x3),(18,.l 3 1)],[(3,[kd0 x5,kd1 x6])],[],0,false⟩)
abbrev DL:CS:=⟨[(1,vd1 x0),(2,vI x1),(3,.l 3 0),(7,vI x2),(8,vI x3),(9,vI x4)],[(3,[kd0 x5,kd1 x6])],[],0,false⟩
theorem qgo {k m n:Nat} {r:Int} (h:ju n x0 x1 x2 x3 x4 x5 x6=some r):lE S188 39 2 k (n+m) (DL x0 x1 x2 x3 x4 x5 x6)=some (Hp x0 x1 x3 x5 x6 r):=by
 induction n generalizing x2 x4 with
 |zero=>cases h
 |succ n ih=>
 exact lS (qdV (fun x0 x1 x2 x3 x4 x5 x6=>lE S188 39 2 k (n+m) (DL x0 x1 x2 x3 x4 x5 x6)) (sm (Hp x0 x1 x3 x5 x6)) x0 x1 x2 x3 x4 x5 x6) (by kernel_rfl) (by rw [Sn];unfold Jm qdV;with_reducible repeat' first|apply gT ‹_›|apply gF ‹_›|(apply zz<;>intro _)|exact ih _ _|exact nX|exact sX) h
end
def S189:=S188.lp 39 2 (DL [] 0 0 0 0 [] []) (fun x0 x1 x2 x3 x4 x5 x6=>some (y1 (ju FU x0 x1 x2 x3 x4 x5 x6) (Hp x0 x1 x3 x5 x6))) (by kernel_rfl) fun _=>w1 fun h=>qgo _ _ _ _ _ _ _ h
section
variable {β:Type} (y:LL->Int->Int->Int->LI->L3->Option β) (z:Int->Option β) (x0:LL) (x1 x2 x3:Int) (x4:LI) (x5:L3)
def GF:Option β:=(cond (decide (x3 < (x5.length:Int))) (ob (ju FU x0 x1 x2 x3 0 x4 x5) fun r1=>(y x0 x1 r1 (wI (x3+1)) x4 x5)) (z x2))
def j9:=itL (fun _ _ _ _ _ _=>none) fun f=>GF f some
theorem qbj (n:Nat):j9 (n+1)=GF (j9 n) some:=rfl
def qb4:Int->Ex×CS:=fun r=>((.exit 0),⟨[(3,.l 3 0),(7,vI r),(11,.l 3 1)],[],[],0,false⟩)
abbrev qas:CS:=⟨[(1,vd1 x0),(2,vI x1),(3,.l 3 0),(7,vI x2),(8,vI x3)],[(3,[kd0 x4,kd1 x5])],[],0,false⟩
theorem qhO {k m n:Nat} {r:Int} (h:j9 n x0 x1 x2 x3 x4 x5=some r):lE S189 39 0 k (n+m) (qas x0 x1 x2 x3 x4 x5)=some (qb4 r):=by
 induction n generalizing x2 x3 with
 |zero=>cases h
 |succ n ih=>
 exact lS (GF (fun x0 x1 x2 x3 x4 x5=>lE S189 39 0 k (n+m) (qas x0 x1 x2 x3 x4 x5)) (sm qb4) x0 x1 x2 x3 x4 x5) (by kernel_rfl) (by rw [qbj];unfold GF;with_reducible repeat' first|apply zd|exact ih _ _|exact nX|exact sX) h
end
def S190:=S189.lp 39 0 (qas [] 0 0 0 [] []) (fun x0 x1 x2 x3 x4 x5=>some (y1 (j9 FU x0 x1 x2 x3 x4 x5) qb4)) (by kernel_rfl) fun _=>w1 fun h=>qhO _ _ _ _ _ _ h
section
variable {β:Type} (z:Int->Option β) (x0:LI) (x1:L3) (x2:LL) (x3:Int)
def tv39:Option β:=(ob (j9 FU x2 x3 0 0 x0 x1) fun r1=>(z r1))
def v39:=tv39 some x0 x1 x2 x3
abbrev aF39:List TA:=[.agg [kd0 x0,kd1 x1],.sc (kd2 x2),.sc (I4 x3)]
abbrev rF39:Int->List TA×List TO:=fun r=>([.sc (I4 r)],[])
theorem ev39:fE S190 39 (aF39 x0 x1 x2 x3) []=(v39 x0 x1 x2 x3).bind (sm rF39):=zE (fun z=>tv39 z x0 x1 x2 x3) (by kernel_rfl) fun K=>by unfold v39 tv39;with_reducible repeat' first|apply zc|exact nB|exact sB
end
def S191:=S190.fn 39 (aF39 [] [] [] 0) [] (fun x0 x1 x2 x3=>some (y1 (v39 x0 x1 x2 x3) rF39)) rfl fun _=>w1 fun h=>(ev39 ..).trans (bD h)
section
variable {β:Type} (y:LL->Int->LI->L3->Option β) (z:(Bool ⊕ Unit)->Option β) (x0:LL) (x1:Int) (x2:LI) (x3:L3)
def J8:Option β:=(cond (decide (x1 < (x2.length:Int))) (ob (v39 x2 x3 x0 x1) fun r1=>(cond (decide (0<=x1)) (cond (decide (r1 > wI ((1000000:Int)*List.getD x2 x1.toNat 0))) (z (.inl (false))) (y x0 (wI (x1+1)) x2 x3)) none)) (z (.inr ())))
def qen:Option β:=(cond (decide (x1 < (x2.length:Int))) (ob (v39 x2 x3 x0 x1) fun r1=>(ck x1 (x2.length:Int) (cond (decide (r1 > wI ((1000000:Int)*List.getD x2 x1.toNat 0))) (z (.inl (false))) (y x0 (wI (x1+1)) x2 x3)))) (z (.inr ())))
def jF:=itL (fun _ _ _ _=>none) fun f=>J8 f some
theorem qa2 (n:Nat):jF (n+1)=J8 (jF n) some:=rfl
def qbN:(Bool ⊕ Unit)->Ex×CS:=Sum.elim (fun r=>(.ret,⟨[(4,vB r)],[],[],0,true⟩)) fun r=>((.exit 0),⟨[(2,.l 2 0),(7,.l 2 0)],[],[],0,false⟩)
abbrev qab:CS:=⟨[(1,vd1 x0),(2,.l 2 0),(5,vI x1)],[(2,[kd0 x2,kd1 x3])],[],0,false⟩
theorem qhx {k m n:Nat} {r:Bool ⊕ Unit} (h:jF n x0 x1 x2 x3=some r):lE S191 20 0 k (n+m) (qab x0 x1 x2 x3)=some (qbN r):=by
 induction n generalizing x1 with
 |zero=>cases h
 |succ n ih=>
 exact lS (qen (fun x0 x1 x2 x3=>lE S191 20 0 k (n+m) (qab x0 x1 x2 x3)) (sm qbN) x0 x1 x2 x3) (by kernel_rfl) (by rw [qa2];unfold J8 qen;with_reducible repeat' first|apply gT ‹_›|apply gF ‹_›|(apply zz<;>intro _)|exact ih _|exact nX|exact sX) h
end
def S192:=S191.lp 20 0 (qab [] 0 [] []) (fun x0 x1 x2 x3=>some (y2 (jF FU x0 x1 x2 x3) qbN)) (by kernel_rfl) fun _=>w2 fun h=>qhx _ _ _ _ h
section
variable {β:Type} (z:Bool->Option β) (x0:LI) (x1:L3) (x2:LL)
def tv20:Option β:=(cond (isL (jF FU x2 0 x0 x1)) (z (zx (jF FU x2 0 x0 x1))) (ob (zB (jF FU x2 0 x0 x1)) fun _=>(z true)))
def v20:=tv20 some x0 x1 x2
abbrev aF20:List TA:=[.agg [kd0 x0,kd1 x1],.sc (kd2 x2)]
abbrev rF20:Bool->List TA×List TO:=fun r=>([.sc (.bool r)],[])
theorem ev20:fE S192 20 (aF20 x0 x1 x2) []=(v20 x0 x1 x2).bind (sm rF20):=zE (fun z=>tv20 z x0 x1 x2) (by kernel_rfl) fun K=>by unfold v20 tv20;with_reducible repeat' first|apply zc|exact nB|exact sB
end
def S193:=S192.fn 20 (aF20 [] [] []) [] (fun x0 x1 x2=>some (y1 (v20 x0 x1 x2) rF20)) rfl fun _=>w1 fun h=>(ev20 ..).trans (bD h)
section
variable {β:Type} (y:LI->Int->Int->Option β) (z:Int->Option β) (x0:LI) (x1 x2:Int)
def J9:Option β:=(cond (decide (x2 < (x0.length:Int))) (cond (decide (0<=x2)) (y x0 (wI (x1+List.getD x0 x2.toNat 0)) (wI (x2+1))) none) (z x1))
def qeo:Option β:=(cond (decide (x2 < (x0.length:Int))) (ck x2 (x0.length:Int) (y x0 (wI (x1+List.getD x0 x2.toNat 0)) (wI (x2+1)))) (z x1))
def jT:=itL (fun _ _ _=>none) fun f=>J9 f some
theorem qa3 (n:Nat):jT (n+1)=J9 (jT n) some:=rfl
def qbO:Int->Ex×CS:=fun r=>((.exit 0),⟨[(3,vI r)],[],[],0,false⟩)
abbrev qac:CS:=⟨[(0,vd0 x0),(3,vI x1),(4,vI x2)],[],[],0,false⟩
theorem qhy {k m n:Nat} {r:Int} (h:jT n x0 x1 x2=some r):lE S193 21 0 k (n+m) (qac x0 x1 x2)=some (qbO r):=by
 induction n generalizing x1 x2 with
 |zero=>cases h
 |succ n ih=>
 exact lS (qeo (fun x0 x1 x2=>lE S193 21 0 k (n+m) (qac x0 x1 x2)) (sm qbO) x0 x1 x2) (by kernel_rfl) (by rw [qa3];unfold J9 qeo;with_reducible repeat' first|apply gT ‹_›|apply gF ‹_›|(apply zz<;>intro _)|exact ih _ _|exact nX|exact sX) h
end
def S194:=S193.lp 21 0 (qac [] 0 0) (fun x0 x1 x2=>some (y1 (jT FU x0 x1 x2) qbO)) (by kernel_rfl) fun _=>w1 fun h=>qhy _ _ _ h
section
variable {β:Type} (z:Int->Option β) (x0:LI)
def tv21:Option β:=(ob (jT FU x0 0 0) fun r1=>(z r1))
def v21:=tv21 some x0
abbrev aF21:List TA:=[.sc (kd0 x0)]
abbrev rF21:Int->List TA×List TO:=fun r=>([.sc (I4 r)],[])
theorem ev21:fE S194 21 (aF21 x0) []=(v21 x0).bind (sm rF21):=zE (fun z=>tv21 z x0) (by kernel_rfl) fun K=>by unfold v21 tv21;with_reducible repeat' first|apply zc|exact nB|exact sB
end
def S195:=S194.fn 21 (aF21 []) [] (fun x0=>some (y1 (v21 x0) rF21)) rfl fun _=>w1 fun h=>(ev21 ..).trans (bD h)
section
variable {β:Type} (y:LI->LI->Int->Int->Option β) (z:Int->Option β) (x0 x1:LI) (x2 x3:Int)
def Ka:Option β:=(cond (decide (x3 < (x0.length:Int))) (cond (decide (0<=x3)) (ck (List.getD x0 x3.toNat 0) (x1.length:Int) (y x0 x1 (wI (x2+List.getD x1 (List.getD x0 x3.toNat 0).toNat 0)) (wI (x3+1)))) none) (z x2))
def qep:Option β:=(cond (decide (x3 < (x0.length:Int))) (ck x3 (x0.length:Int) (ck (List.getD x0 x3.toNat 0) (x1.length:Int) (y x0 x1 (wI (x2+List.getD x1 (List.getD x0 x3.toNat 0).toNat 0)) (wI (x3+1))))) (z x2))
def jU:=itL (fun _ _ _ _=>none) fun f=>Ka f some
theorem qa4 (n:Nat):jU (n+1)=Ka (jU n) some:=rfl
def qbP:Int->Ex×CS:=fun r=>((.exit 0),⟨[(5,vI r)],[],[],0,false⟩)
abbrev qad:CS:=⟨[(0,vd0 x0),(1,vd0 x1),(5,vI x2),(6,vI x3)],[],[],0,false⟩
theorem qhz {k m n:Nat} {r:Int} (h:jU n x0 x1 x2 x3=some r):lE S195 23 0 k (n+m) (qad x0 x1 x2 x3)=some (qbP r):=by
 induction n generalizing x2 x3 with
 |zero=>cases h
 |succ n ih=>
 exact lS (qep (fun x0 x1 x2 x3=>lE S195 23 0 k (n+m) (qad x0 x1 x2 x3)) (sm qbP) x0 x1 x2 x3) (by kernel_rfl) (by rw [qa4];unfold Ka qep;with_reducible repeat' first|apply gT ‹_›|apply gF ‹_›|(apply zz<;>intro _)|exact ih _ _|exact nX|exact sX) h
end
def S196:=S195.lp 23 0 (qad [] [] 0 0) (fun x0 x1 x2 x3=>some (y1 (jU FU x0 x1 x2 x3) qbP)) (by kernel_rfl) fun _=>w1 fun h=>qhz _ _ _ _ h
section
variable {β:Type} (z:Int->Option β) (x0 x1:LI)
def tv23:Option β:=(ob (jU FU x0 x1 0 0) fun r1=>(z r1))
def v23:=tv23 some x0 x1
abbrev aF23:List TA:=[.sc (kd0 x0),.sc (kd0 x1)]
abbrev rF23:Int->List TA×List TO:=fun r=>([.sc (I4 r)],[])
theorem ev23:fE S196 23 (aF23 x0 x1) []=(v23 x0 x1).bind (sm rF23):=zE (fun z=>tv23 z x0 x1) (by kernel_rfl) fun K=>by unfold v23 tv23;with_reducible repeat' first|apply zc|exact nB|exact sB
end
def S197:=S196.fn 23 (aF23 [] []) [] (fun x0 x1=>some (y1 (v23 x0 x1) rF23)) rfl fun _=>w1 fun h=>(ev23 ..).trans (bD h)
section
variable {β:Type} (y:LL->LI->Int->Int->Int->LI->L3->Option β) (z:(Bool ⊕ Unit)->Option β) (x0:LL) (x1:LI) (x2 x3 x4:Int) (x5:LI) (x6:L3)
def Jn:Option β:=(ck x2 (x6.length:Int) (cond (decide (x4 < (↑(List.length (List.getD x6 x2.toNat [])):Int))) (cond (decide (0<=x4)) (ob (v23 (List.getD (List.getD x6 x2.toNat []) x4.toNat []) x1) fun r1=>(cond (decide (r1 < x3)) (z (.inl (false))) (y x0 x1 x2 x3 (wI (x4+1)) x5 x6))) none) (z (.inr ()))))
def qdW:Option β:=(ck x2 (x6.length:Int) (cond (decide (x4 < (↑(List.length (List.getD x6 x2.toNat [])):Int))) (ck x2 (x6.length:Int) (ck x4 (↑(List.length (List.getD x6 x2.toNat [])):Int) (ob (v23 (List.getD (List.getD x6 x2.toNat []) x4.toNat []) x1) fun r1=>(cond (decide (r1 < x3)) (z (.inl (false))) (y x0 x1 x2 x3 (wI (x4+1)) x5 x6))))) (z (.inr ()))))
def qZ:=itL (fun _ _ _ _ _ _ _=>none) fun f=>Jn f some
theorem So (n:Nat):qZ (n+1)=Jn (qZ n) some:=rfl
def Hq:(Bool ⊕ Unit)->Ex×CS:=Sum.elim (fun r=>(.ret,⟨[(6,vB r)],[],[],0,true⟩)) fun r=>((.exit 2),⟨[(1,vd1 x0),(2,vd0 x1),(3,.l 3 0),(7,vI x2),(35,.l 3 1)],[(3,[kd0 x5,kd1 x6])],[],0,false⟩)
abbrev DM:CS:=⟨[(1,vd1 x0),(2,vd0 x1),(3,.l 3 0),(7,vI x2),(9,vI x3),(10,vI x4)],[(3,[kd0 x5,kd1 x6])],[],0,false⟩
theorem qgp {k m n:Nat} {r:Bool ⊕ Unit} (h:qZ n x0 x1 x2 x3 x4 x5 x6=some r):lE S197 40 2 k (n+m) (DM x0 x1 x2 x3 x4 x5 x6)=some (Hq x0 x1 x2 x5 x6 r):=by
 induction n generalizing x4 with
 |zero=>cases h
 |succ n ih=>
 exact lS (qdW (fun x0 x1 x2 x3 x4 x5 x6=>lE S197 40 2 k (n+m) (DM x0 x1 x2 x3 x4 x5 x6)) (sm (Hq x0 x1 x2 x5 x6)) x0 x1 x2 x3 x4 x5 x6) (by kernel_rfl) (by rw [So];unfold Jn qdW;with_reducible repeat' first|apply gT ‹_›|apply gF ‹_›|(apply zz<;>intro _)|exact ih _|exact nX|exact sX) h
end
def S198:=S197.lp 40 2 (DM [] [] 0 0 0 [] []) (fun x0 x1 x2 x3 x4 x5 x6=>some (y2 (qZ FU x0 x1 x2 x3 x4 x5 x6) (Hq x0 x1 x2 x5 x6))) (by kernel_rfl) fun _=>w2 fun h=>qgp _ _ _ _ _ _ _ h
section
variable {β:Type} (y:LL->LI->Int->LI->L3->Option β) (z:(Bool ⊕ Unit)->Option β) (x0:LL) (x1:LI) (x2:Int) (x3:LI) (x4:L3)
def GG:Option β:=(cond (decide (x2 < (x4.length:Int))) (ck x2 (x0.length:Int) (ob (v21 (List.getD x0 x2.toNat [])) fun r1=>(cond (decide (r1 < (1:Int))) (z (.inl (false))) (cond (decide (r1≠0)) (cond (isL (qZ FU x0 x1 x2 (wI (Int.tdiv (wI (wI ((1000000000000:Int)+r1) - (1:Int))) r1)) 0 x3 x4)) (z (.inl (zx (qZ FU x0 x1 x2 (wI (Int.tdiv (wI (wI ((1000000000000:Int)+r1) - (1:Int))) r1)) 0 x3 x4)))) (ob (zB (qZ FU x0 x1 x2 (wI (Int.tdiv (wI (wI ((1000000000000:Int)+r1) - (1:Int))) r1)) 0 x3 x4)) fun _=>(y x0 x1 (wI (x2+1)) x3 x4))) none)))) (z (.inr ())))
def jJ:=itL (fun _ _ _ _ _=>none) fun f=>GG f some
theorem qbk (n:Nat):jJ (n+1)=GG (jJ n) some:=rfl
def qb6:(Bool ⊕ Unit)->Ex×CS:=Sum.elim (fun r=>(.ret,⟨[(6,vB r)],[],[],0,true⟩)) fun r=>((.exit 0),⟨[(3,.l 3 0),(16,.l 3 1)],[],[],0,false⟩)
abbrev qat:CS:=⟨[(1,vd1 x0),(2,vd0 x1),(3,.l 3 0),(7,vI x2)],[(3,[kd0 x3,kd1 x4])],[],0,false⟩
theorem qhQ {k m n:Nat} {r:Bool ⊕ Unit} (h:jJ n x0 x1 x2 x3 x4=some r):lE S198 40 0 k (n+m) (qat x0 x1 x2 x3 x4)=some (qb6 r):=by
 induction n generalizing x2 with
 |zero=>cases h
 |succ n ih=>
 exact lS (GG (fun x0 x1 x2 x3 x4=>lE S198 40 0 k (n+m) (qat x0 x1 x2 x3 x4)) (sm qb6) x0 x1 x2 x3 x4) (by kernel_rfl) (by rw [qbk];unfold GG;with_reducible repeat' first|apply zd|exact ih _|exact nX|exact sX) h
end
def S199:=S198.lp 40 0 (qat [] [] 0 [] []) (fun x0 x1 x2 x3 x4=>some (y2 (jJ FU x0 x1 x2 x3 x4) qb6)) (by kernel_rfl) fun _=>w2 fun h=>qhQ _ _ _ _ _ h
section
variable {β:Type} (z:Bool->Option β) (x0:LI) (x1:L3) (x2:LL) (x3:LI)
def tv40:Option β:=(ob (v20 x0 x1 x2) fun r1=>(cond (!r1) (z false) (cond (isL (jJ FU x2 x3 0 x0 x1)) (z (zx (jJ FU x2 x3 0 x0 x1))) (ob (zB (jJ FU x2 x3 0 x0 x1)) fun _=>(z true)))))
def v40:=tv40 some x0 x1 x2 x3
abbrev aF40:List TA:=[.agg [kd0 x0,kd1 x1],.sc (kd2 x2),.sc (kd0 x3)]
abbrev rF40:Bool->List TA×List TO:=fun r=>([.sc (.bool r)],[])
theorem ev40:fE S199 40 (aF40 x0 x1 x2 x3) []=(v40 x0 x1 x2 x3).bind (sm rF40):=zE (fun z=>tv40 z x0 x1 x2 x3) (by kernel_rfl) fun K=>by unfold v40 tv40;with_reducible repeat' first|apply zc|exact nB|exact sB
end
def S200:=S199.fn 40 (aF40 [] [] [] []) [] (fun x0 x1 x2 x3=>some (y1 (v40 x0 x1 x2 x3) rF40)) rfl fun _=>w1 fun h=>(ev40 ..).trans (bD h)
section
variable {β:Type} (y:LI->Int->Int->LI->L3->Option β) (z:Int->Option β) (x0:LI) (x1 x2:Int) (x3:LI) (x4:L3)
def Ki:Option β:=(cond (decide (x2 < (x0.length:Int))) (ck x2 (x3.length:Int) (y x0 (wI (x1+wI (List.getD x0 x2.toNat 0*List.getD x3 x2.toNat 0))) (wI (x2+1)) x3 x4)) (z x1))
def qew:Option β:=(cond (decide (x2 < (x0.length:Int))) (ck x2 (x0.length:Int) (ck x2 (x3.length:Int) (y x0 (wI (x1+wI (List.getD x0 x2.toNat 0*List.getD x3 x2.toNat 0))) (wI (x2+1)) x3 x4))) (z x1))
def ga:=itL (fun _ _ _ _ _=>none) fun f=>Ki f some
theorem qbl (n:Nat):ga (n+1)=Ki (ga n) some:=rfl
def qb7:Int->Ex×CS:=fun r=>((.exit 0),⟨[(2,.l 2 0),(5,vI r)],[],[],0,false⟩)
abbrev qau:CS:=⟨[(1,vd0 x0),(2,.l 2 0),(5,vI x1),(6,vI x2)],[(2,[kd0 x3,kd1 x4])],[],0,false⟩
theorem qhR {k m n:Nat} {r:Int} (h:ga n x0 x1 x2 x3 x4=some r):lE S200 41 0 k (n+m) (qau x0 x1 x2 x3 x4)=some (qb7 r):=by
 induction n generalizing x1 x2 with
 |zero=>cases h
 |succ n ih=>
 exact lS (qew (fun x0 x1 x2 x3 x4=>lE S200 41 0 k (n+m) (qau x0 x1 x2 x3 x4)) (sm qb7) x0 x1 x2 x3 x4) (by kernel_rfl) (by rw [qbl];unfold Ki qew;with_reducible repeat' first|apply gT ‹_›|apply gF ‹_›|(apply zz<;>intro _)|exact ih _ _|exact nX|exact sX) h
end
def S201:=S200.lp 41 0 (qau [] 0 0 [] []) (fun x0 x1 x2 x3 x4=>some (y1 (ga FU x0 x1 x2 x3 x4) qb7)) (by kernel_rfl) fun _=>w1 fun h=>qhR _ _ _ _ _ h
section
variable {β:Type} (z:Int->Option β) (x0:LI) (x1:L3) (x2:LI)
def tv41:Option β:=(ob (ga FU x2 0 0 x0 x1) fun r1=>(z r1))
def v41:=tv41 some x0 x1 x2
abbrev aF41:List TA:=[.agg [kd0 x0,kd1 x1],.sc (kd0 x2)]
abbrev rF41:Int->List TA×List TO:=fun r=>([.sc (I4 r)],[])
theorem ev41:fE S201 41 (aF41 x0 x1 x2) []=(v41 x0 x1 x2).bind (sm rF41):=zE (fun z=>tv41 z x0 x1 x2) (by kernel_rfl) fun K=>by unfold v41 tv41;with_reducible repeat' first|apply zc|exact nB|exact sB
end
def S202:=S201.fn 41 (aF41 [] [] []) [] (fun x0 x1 x2=>some (y1 (v41 x0 x1 x2) rF41)) rfl fun _=>w1 fun h=>(ev41 ..).trans (bD h)
section
variable {β:Type} (z:(Int × Int)->Option β) (x0:LI) (x1:L3) (x2:LL) (x3:LI)
def tv38:Option β:=(ob (v24 x0 x1) fun r1=>(cond (!r1) (z (0,(1:Int))) (ob (v19 x0 x1 x2) fun r2=>(cond (!r2) (z (0,(1:Int))) (ob (v30 x0 x1 x3) fun r3=>(cond (!r3) (z (0,(1:Int))) (ob (v40 x0 x1 x2 x3) fun r4=>(cond (!r4) (z (0,(17:Int))) (ob (v41 x0 x1 x3) fun r5=>(cond (decide (max 0 (wI (r5 - wI ((1000000:Int)*(x1.length:Int)))) > (1000000000000:Int))) (z (0,(3:Int))) (z (max 0 (wI (r5 - wI ((1000000:Int)*(x1.length:Int)))),0))))))))))))
def v38:=tv38 some x0 x1 x2 x3
abbrev aF38:List TA:=[.agg [kd0 x0,kd1 x1],.sc (kd2 x2),.sc (kd0 x3)]
abbrev rF38:(Int×Int)->List TA×List TO:=fun r=>([.sc (I4 r.1),.sc (I4 r.2)],[])
theorem ev38:fE S202 38 (aF38 x0 x1 x2 x3) []=(v38 x0 x1 x2 x3).bind (sm rF38):=zE (fun z=>tv38 z x0 x1 x2 x3) (by kernel_rfl) fun K=>by unfold v38 tv38;with_reducible repeat' first|apply zc|exact nB|exact sB
end
def S203:=S202.fn 38 (aF38 [] [] [] []) [] (fun x0 x1 x2 x3=>some (y1 (v38 x0 x1 x2 x3) rF38)) rfl fun _=>w1 fun h=>(ev38 ..).trans (bD h)
section
variable {β:Type} (z:(LL × LI × Int)->Option β) (x0:LI) (x1:L3)
def tv18:Option β:=(cond (decide ((x0.length:Int)<=(x0.length:Int))) (cond (decide ((x0.length:Int)<=(↑(nat_lit 2147483648):Int))) (ob (jS FU 0 x0 x1 0 (List.replicate (x0.length:Int).toNat 0) [] []) fun r1=>(ob (jk FU (-1:Int) 0 x0 x1 0 r1 [] []) fun r2=>(ob (jl FU r2 0 0 x0 x1 0 0 r1 [] [] [] []) fun r3=>(ob (jm FU r3.1 0 x0 x1 0 0 [] [] r3.2 []) fun r4=>(ob (v38 x0 x1 r3.2 r4) fun r5=>(z (r3.2,r4,r5.1))))))) none) none)
def v18:=tv18 some x0 x1
abbrev aF18:List TA:=[.agg [kd0 x0,kd1 x1]]
abbrev rF18:(LL×LI×Int)->List TA×List TO:=fun r=>([.agg [kd2 r.1,kd0 r.2.1,I4 r.2.2]],[])
theorem ev18:fE S203 18 (aF18 x0 x1) []=(v18 x0 x1).bind (sm rF18):=zE (fun z=>tv18 z x0 x1) (by kernel_rfl) fun K=>by unfold v18 tv18;with_reducible repeat' first|apply zc|exact nB|exact sB
end
def S204:=S203.fn 18 (aF18 [] []) [] (fun x0 x1=>some (y1 (v18 x0 x1) rF18)) rfl fun _=>w1 fun h=>(ev18 ..).trans (bD h)
section
variable {β:Type} (z:(LL × LI × Int × Int)->Option β) (x0:LI) (x1:L3) (x2:Int)
def tv15:Option β:=(ob (v24 x0 x1) fun r1=>(cond (!r1) (z ([],[],0,(1:Int))) (cond (decide (x2 < 0)) (z ([],[],0,(1:Int))) (cond (decide (x2 > (1000:Int))) (z ([],[],0,(1:Int))) (cond (isL (jc FU 0 x0 x1 0 [] [])) (z ([],[],(zx (jc FU 0 x0 x1 0 [] [])).2,(zx (jc FU 0 x0 x1 0 [] [])).1)) (ob (zB (jc FU 0 x0 x1 0 [] [])) fun _=>(ob (v18 x0 x1) fun r3=>(z (r3.1,r3.2.1,r3.2.2,0)))))))))
def v15:=tv15 some x0 x1 x2
abbrev aF15:List TA:=[.agg [kd0 x0,kd1 x1],.sc (I4 x2)]
abbrev rF15:(LL×LI×Int×Int)->List TA×List TO:=fun r=>([.agg [kd2 r.1,kd0 r.2.1,I4 r.2.2.1],.sc (I4 r.2.2.2)],[])
theorem ev15:fE S204 15 (aF15 x0 x1 x2) []=(v15 x0 x1 x2).bind (sm rF15):=zE (fun z=>tv15 z x0 x1 x2) (by kernel_rfl) fun K=>by unfold v15 tv15;with_reducible repeat' first|apply zc|exact nB|exact sB
end
def S205:=S204.fn 15 (aF15 [] [] 0) [] (fun x0 x1 x2=>some (y1 (v15 x0 x1 x2) rF15)) rfl fun _=>w1 fun h=>(ev15 ..).trans (bD h)
section
variable {β:Type} (y:LI->Int->Int->Int->LI->L3->Option β) (z:Int->Option β) (x0:LI) (x1 x2 x3:Int) (x4:LI) (x5:L3)
def JZ:Option β:=(ck x1 (x5.length:Int) (cond (decide (x3 < (↑(List.length (List.getD x5 x1.toNat [])):Int))) (cond (decide (0<=x3)) (ob (v23 (List.getD (List.getD x5 x1.toNat []) x3.toNat []) x0) fun r1=>(ck x2 (↑(List.length (List.getD x5 x1.toNat [])):Int) (ob (v23 (List.getD (List.getD x5 x1.toNat []) x2.toNat []) x0) fun r2=>(cond (decide (r1 < r2)) (y x0 x1 x3 (wI (x3+1)) x4 x5) (y x0 x1 x2 (wI (x3+1)) x4 x5))))) none) (z x2)))
def qej:Option β:=(ck x1 (x5.length:Int) (cond (decide (x3 < (↑(List.length (List.getD x5 x1.toNat [])):Int))) (ck x1 (x5.length:Int) (ck x3 (↑(List.length (List.getD x5 x1.toNat [])):Int) (ob (v23 (List.getD (List.getD x5 x1.toNat []) x3.toNat []) x0) fun r1=>(ck x1 (x5.length:Int) (ck x2 (↑(List.length (List.getD x5 x1.toNat [])):Int) (ob (v23 (List.getD (List.getD x5 x1.toNat []) x2.toNat []) x0) fun r2=>(cond (decide (r1 < r2)) (y x0 x1 x3 (wI (x3+1)) x4 x5) (y x0 x1 x2 (wI (x3+1)) x4 x5)))))))) (z x2)))
def Gm:=itL (fun _ _ _ _ _ _=>none) fun f=>JZ f some
theorem qaW (n:Nat):Gm (n+1)=JZ (Gm n) some:=rfl
def qbH:Int->Ex×CS:=fun r=>((.exit 0),⟨[(1,vd0 x0),(2,vI x1),(3,.l 3 0),(11,vI r),(34,.l 3 1)],[(3,[kd0 x4,kd1 x5])],[],0,false⟩)
abbrev H5:CS:=⟨[(1,vd0 x0),(2,vI x1),(3,.l 3 0),(11,vI x2),(12,vI x3)],[(3,[kd0 x4,kd1 x5])],[],0,false⟩
theorem qhr {k m n:Nat} {r:Int} (h:Gm n x0 x1 x2 x3 x4 x5=some r):lE S205 13 0 k (n+m) (H5 x0 x1 x2 x3 x4 x5)=some (qbH x0 x1 x4 x5 r):=by
 induction n generalizing x2 x3 with
 |zero=>cases h
 |succ n ih=>
 exact lS (qej (fun x0 x1 x2 x3 x4 x5=>lE S205 13 0 k (n+m) (H5 x0 x1 x2 x3 x4 x5)) (sm (qbH x0 x1 x4 x5)) x0 x1 x2 x3 x4 x5) (by kernel_rfl) (by rw [qaW];unfold JZ qej;with_reducible repeat' first|apply gT ‹_›|apply gF ‹_›|(apply zz<;>intro _)|exact ih _ _|exact nX|exact sX) h
end
def S206:=S205.lp 13 0 (H5 [] 0 0 0 [] []) (fun x0 x1 x2 x3 x4 x5=>some (y1 (Gm FU x0 x1 x2 x3 x4 x5) (qbH x0 x1 x4 x5))) (by kernel_rfl) fun _=>w1 fun h=>qhr _ _ _ _ _ _ h
section
variable {β:Type} (z:(Int × Int × Int)->Option β) (x0:LI) (x1:L3) (x2:LI) (x3:Int)
def tv13:Option β:=(ob (v24 x0 x1) fun r1=>(cond (!r1) (z (0,0,(1:Int))) (cond (decide (x3 < 0)) (z (0,0,(1:Int))) (cond (decide (x3≥(x1.length:Int))) (z (0,0,(1:Int))) (ob (v30 x0 x1 x2) fun r2=>(cond (!r2) (z (0,0,(1:Int))) (ob (Gm FU x2 x3 0 (1:Int) x0 x1) fun r3=>(ck x3 (x1.length:Int) (ck r3 (↑(List.length (List.getD x1 x3.toNat [])):Int) (ob (v23 (List.getD (List.getD x1 x3.toNat []) r3.toNat []) x2) fun r4=>(z (r3,r4,0))))))))))))
def v13:=tv13 some x0 x1 x2 x3
abbrev aF13:List TA:=[.agg [kd0 x0,kd1 x1],.sc (kd0 x2),.sc (I4 x3)]
abbrev rF13:(Int×Int×Int)->List TA×List TO:=fun r=>([.sc (I4 r.1),.sc (I4 r.2.1),.sc (I4 r.2.2)],[])
theorem ev13:fE S206 13 (aF13 x0 x1 x2 x3) []=(v13 x0 x1 x2 x3).bind (sm rF13):=zE (fun z=>tv13 z x0 x1 x2 x3) (by kernel_rfl) fun K=>by unfold v13 tv13;with_reducible repeat' first|apply zc|exact nB|exact sB
end
def S207:=S206.fn 13 (aF13 [] [] [] 0) [] (fun x0 x1 x2 x3=>some (y1 (v13 x0 x1 x2 x3) rF13)) rfl fun _=>w1 fun h=>(ev13 ..).trans (bD h)
section
variable {β:Type} (z:Bool->Option β) (x0:LI) (x1 x2:Int) (x3:Bool) (x4:LI) (x5:L3)
def K0:Option β:=(ob (v12 x4 x5 x0 x1) fun r1=>(ob (v13 x4 x5 x0 x1) fun r2=>(ob (v14 x4 x5 0) fun r3=>(ob (v15 x4 x5 0) fun r4=>(ob (v14 x4 x5 x2) fun r5=>(ob (v15 x4 x5 x2) fun r6=>(cond x3 (cond (r1.1==r2.1) (cond (r1.2.1==r2.2.1) (cond (r1.2.2==r2.2.2) (ob (v16 r3.1 r3.2.1 r3.2.2.1 r4.1 r4.2.1 r4.2.2.1) fun r7=>(cond r7 (cond (r3.2.2.2==r4.2.2.2) (z (r5.2.2.2==r6.2.2.2)) (z false)) (z false))) (z false)) (z false)) (z false)) (z false))))))))
def JN:=K0 some x0 x1 x2 x3 x4 x5
def qb5:Bool->Ex×CS:=fun r=>(.ret,⟨[(8,vB r)],[],[],0,true⟩)
abbrev qd7:CS:=⟨[(1,vd0 x0),(2,vI x1),(3,vI x2),(4,.l 4 0),(9,vB x3)],[(4,[kd0 x4,kd1 x5])],[],0,false⟩
theorem qhP {k:Nat} {r:Bool}:JN x0 x1 x2 x3 x4 x5=some r->pE S207 3 44 0 k (qd7 x0 x1 x2 x3 x4 x5)=some (qb5 r):=lP (K0 (sm qb5) x0 x1 x2 x3 x4 x5) (by kernel_rfl) (by unfold JN K0;with_reducible repeat' first|apply zd|exact nX|exact sX)
end
def S208:=S207.pc 3 44 0 (qd7 [] 0 0 false [] []) (fun x0 x1 x2 x3 x4 x5=>some (y1 (JN x0 x1 x2 x3 x4 x5) qb5)) (by kernel_rfl) rfl fun _=>w1 fun h=>qhP _ _ _ _ _ _ h
section
variable {β:Type} (z:Bool->Option β) (x0:LI) (x1:L3) (x2:LI) (x3 x4:Int)
def tv3:Option β:=(ob (v11 x0 x1 [] x2) fun r1=>(cond (!r1) (z true) (ob (JN x2 x3 x4 (val v10) x0 x1) fun r2=>(z r2))))
def v3:=tv3 some x0 x1 x2 x3 x4
abbrev aF3:List TA:=[.agg [kd0 x0,kd1 x1],.sc (kd0 x2),.sc (I4 x3),.sc (I4 x4)]
abbrev rF3:Bool->List TA×List TO:=fun r=>([.sc (.bool r)],[])
theorem ev3:fE S208 3 (aF3 x0 x1 x2 x3 x4) []=(v3 x0 x1 x2 x3 x4).bind (sm rF3):=zE (fun z=>tv3 z x0 x1 x2 x3 x4) (by kernel_rfl) fun K=>by unfold v3 tv3;with_reducible repeat' first|apply zc|exact nB|exact sB
end
end
end Go.Proofs.Ytpfphfobneehmaa
