/- What some functions and loops come to: printed and checked. Written by a program of ours. -/
import Derived.Test.YtpfphfobneehmaaG1
set_option linter.all false
set_option maxRecDepth 1000000
set_option maxHeartbeats 4000000
namespace Go.Proofs.Ytpfphfobneehmaa
open Go Go.AM Go.TM Go.Proofs
noncomputable section
section
variable {β:Type} (y:LI->LI->Int->Option β) (z:(Bool ⊕ Unit)->Option β) (x0 x1:LI) (x2:Int)
def qbr:Option β:=(cond (decide (x2 < (x0.length:Int))) (ck x2 (x1.length:Int) (cond (List.getD x0 x2.toNat 0 != List.getD x1 x2.toNat 0) (z (.inl (false))) (y x0 x1 (wI (x2+1))))) (z (.inr ())))
def qed:Option β:=(cond (decide (x2 < (x0.length:Int))) (ck x2 (x0.length:Int) (ck x2 (x1.length:Int) (cond (List.getD x0 x2.toNat 0 != List.getD x1 x2.toNat 0) (z (.inl (false))) (y x0 x1 (wI (x2+1)))))) (z (.inr ())))
def Gg:=itL (fun _ _ _=>none) fun f=>qbr f some
theorem qhR (n:Nat):Gg (n+1)=qbr (Gg n) some:=rfl
def qbO:(Bool ⊕ Unit)->Ex×CS:=Sum.elim (fun r=>(.ret,⟨[(4,vB r)],[],[],0,true⟩)) fun r=>((.exit 0),⟨[],[],[],0,false⟩)
abbrev qaf:CS:=⟨[(0,vd0 x0),(1,vd0 x1),(5,vI x2)],[],[],0,false⟩
theorem qhp {k m n:Nat} {r:Bool ⊕ Unit} (h:Gg n x0 x1 x2=some r):lE S150 36 0 k (n+m) (qaf x0 x1 x2)=some (qbO r):=by
 induction n generalizing x2 with
 |zero=>cases h
 |succ n ih=>
 exact lS (qed (fun x0 x1 x2=>lE S150 36 0 k (n+m) (qaf x0 x1 x2)) (sm qbO) x0 x1 x2) (by kernel_rfl) (by rw [qhR];unfold qbr qed;with_reducible repeat' first|apply gT ‹_›|apply gF ‹_›|(apply zz<;>intro _)|exact ih _|exact nX|exact sX) h
end
def S151:=S150.lp 36 0 (qaf [] [] 0) (fun x0 x1 x2=>some (y2 (Gg FU x0 x1 x2) qbO)) (by kernel_rfl) fun _=>w2 fun h=>qhp _ _ _ h
section
variable {β:Type} (z:Bool->Option β) (x0 x1:LI)
def tv36:Option β:=(cond ((x0.length:Int) != (x1.length:Int)) (z false) (cond (isL (Gg FU x0 x1 0)) (z (zx (Gg FU x0 x1 0))) (ob (zB (Gg FU x0 x1 0)) fun _=>(z true))))
def v36:=tv36 some x0 x1
abbrev aF36:List TA:=[.sc (kd0 x0),.sc (kd0 x1)]
abbrev rF36:Bool->List TA×List TO:=fun r=>([.sc (.bool r)],[])
theorem ev36:fE S151 36 (aF36 x0 x1) []=(v36 x0 x1).bind (sm rF36):=zE (fun z=>tv36 z x0 x1) (by kernel_rfl) fun K=>by unfold v36 tv36;with_reducible repeat' first|apply zc|exact nB|exact sB
end
def S152:=S151.fn 36 (aF36 [] []) [] (fun x0 x1=>some (y1 (v36 x0 x1) rF36)) rfl fun _=>w1 fun h=>(ev36 ..).trans (bD h)
section
variable {β:Type} (y:Int->LL->LI->Int->LL->LI->Int->Option β) (z:(Bool ⊕ Unit)->Option β) (x0:Int) (x1:LL) (x2:LI) (x3:Int) (x4:LL) (x5:LI) (x6:Int)
def qbq:Option β:=(cond (decide (x0 < (x1.length:Int))) (ck x0 (x4.length:Int) (ob (v36 (List.getD x1 x0.toNat []) (List.getD x4 x0.toNat [])) fun r1=>(cond (!r1) (z (.inl (false))) (y (wI (x0+1)) x1 x2 x3 x4 x5 x6)))) (z (.inr ())))
def qd3:Option β:=(cond (decide (x0 < (x1.length:Int))) (ck x0 (x1.length:Int) (ck x0 (x4.length:Int) (ob (v36 (List.getD x1 x0.toNat []) (List.getD x4 x0.toNat [])) fun r1=>(cond (!r1) (z (.inl (false))) (y (wI (x0+1)) x1 x2 x3 x4 x5 x6))))) (z (.inr ())))
def Ge:=itL (fun _ _ _ _ _ _ _=>none) fun f=>qbq f some
theorem qhQ (n:Nat):Ge (n+1)=qbq (Ge n) some:=rfl
def qbw:(Bool ⊕ Unit)->Ex×CS:=Sum.elim (fun r=>(.ret,⟨[(4,vB r)],[],[],0,true⟩)) fun r=>((.exit 0),⟨[(2,.l 2 0),(3,.l 3 0),(32,.l 2 0)],[],[],0,false⟩)
abbrev HS:CS:=⟨[(2,.l 2 0),(3,.l 3 0),(6,vI x0)],[(2,[kd2 x1,kd0 x2,I4 x3]),(3,[kd2 x4,kd0 x5,I4 x6])],[],0,false⟩
theorem qg7 {k m n:Nat} {r:Bool ⊕ Unit} (h:Ge n x0 x1 x2 x3 x4 x5 x6=some r):lE S152 16 0 k (n+m) (HS x0 x1 x2 x3 x4 x5 x6)=some (qbw r):=by
 induction n generalizing x0 with
 |zero=>cases h
 |succ n ih=>
 exact lS (qd3 (fun x0 x1 x2 x3 x4 x5 x6=>lE S152 16 0 k (n+m) (HS x0 x1 x2 x3 x4 x5 x6)) (sm qbw) x0 x1 x2 x3 x4 x5 x6) (by kernel_rfl) (by rw [qhQ];unfold qbq qd3;with_reducible repeat' first|apply gT ‹_›|apply gF ‹_›|(apply zz<;>intro _)|exact ih _|exact nX|exact sX) h
end
def S153:=S152.lp 16 0 (HS 0 [] [] 0 [] [] 0) (fun x0 x1 x2 x3 x4 x5 x6=>some (y2 (Ge FU x0 x1 x2 x3 x4 x5 x6) qbw)) (by kernel_rfl) fun _=>w2 fun h=>qg7 _ _ _ _ _ _ _ h
section
variable {β:Type} (z:Bool->Option β) (x0:LL) (x1:LI) (x2:Int) (x3:LL) (x4:LI) (x5:Int)
def tv16:Option β:=(ob (v36 x1 x4) fun r1=>(cond (!r1) (z false) (cond (x2 != x5) (z false) (cond ((x0.length:Int) != (x3.length:Int)) (z false) (cond (isL (Ge FU 0 x0 x1 x2 x3 x4 x5)) (z (zx (Ge FU 0 x0 x1 x2 x3 x4 x5))) (ob (zB (Ge FU 0 x0 x1 x2 x3 x4 x5)) fun _=>(z true)))))))
def v16:=tv16 some x0 x1 x2 x3 x4 x5
abbrev aF16:List TA:=[.agg [kd2 x0,kd0 x1,I4 x2],.agg [kd2 x3,kd0 x4,I4 x5]]
abbrev rF16:Bool->List TA×List TO:=fun r=>([.sc (.bool r)],[])
theorem ev16:fE S153 16 (aF16 x0 x1 x2 x3 x4 x5) []=(v16 x0 x1 x2 x3 x4 x5).bind (sm rF16):=zE (fun z=>tv16 z x0 x1 x2 x3 x4 x5) (by kernel_rfl) fun K=>by unfold v16 tv16;with_reducible repeat' first|apply zc|exact nB|exact sB
end
def S154:=S153.fn 16 (aF16 [] [] 0 [] [] 0) [] (fun x0 x1 x2 x3 x4 x5=>some (y1 (v16 x0 x1 x2 x3 x4 x5) rF16)) rfl fun _=>w1 fun h=>(ev16 ..).trans (bD h)
section
variable {β:Type} (z:Bool->Option β) (x0:LI) (x1:L3) (x2:LL) (x3:LI) (x4:Int)
def tv27:Option β:=(ob (v14 x0 x1 0) fun r1=>(cond (r1.2.2.2==0) (ob (v16 r1.1 r1.2.1 r1.2.2.1 x2 x3 x4) fun r2=>(z r2)) (z false)))
def v27:=tv27 some x0 x1 x2 x3 x4
abbrev aF27:List TA:=[.agg [kd0 x0,kd1 x1],.agg [kd2 x2,kd0 x3,I4 x4]]
abbrev rF27:Bool->List TA×List TO:=fun r=>([.sc (.bool r)],[])
theorem ev27:fE S154 27 (aF27 x0 x1 x2 x3 x4) []=(v27 x0 x1 x2 x3 x4).bind (sm rF27):=zE (fun z=>tv27 z x0 x1 x2 x3 x4) (by kernel_rfl) fun K=>by unfold v27 tv27;with_reducible repeat' first|apply zc|exact nB|exact sB
end
def S155:=S154.fn 27 (aF27 [] [] [] [] 0) [] (fun x0 x1 x2 x3 x4=>some (y1 (v27 x0 x1 x2 x3 x4) rF27)) rfl fun _=>w1 fun h=>(ev27 ..).trans (bD h)
section
variable {β:Type} (z:Bool->Option β) (x0:Bool) (x1 x2 x3 x4 x5 x6:Int) (x7:LL) (x8:LI) (x9:Int)
def Sv:Option β:=(cond x0 (cond (x3==0) (cond (x1==(1:Int)) (cond (x2==(4:Int)) (cond (x4==(4:Int)) (cond (x5==(1:Int)) (cond (x6==0) (z (x9==0)) (z false)) (z false)) (z false)) (z false)) (z false)) (z false)) (z false))
def KJ (x0:Bool) (x1 x2 x3 x4 x5 x6:Int) (x7:LL) (x8:LI) (x9:Int):Option Bool:=Sv some x0 x1 x2 x3 x4 x5 x6 x9
def SC:Bool->Ex×CS:=fun r=>(.ret,⟨[(0,vB r)],[],[],0,true⟩)
abbrev qdc:CS:=⟨[(4,vB x0),(5,vI x1),(6,vI x2),(7,vI x3),(9,vI x4),(11,vI x5),(12,.l 12 0),(13,vI x6)],[(12,[kd2 x7,kd0 x8,I4 x9])],[],0,false⟩
theorem qfB {k:Nat} {r:Bool}:KJ x0 x1 x2 x3 x4 x5 x6 x7 x8 x9=some r->pE S155 10 76 0 k (qdc x0 x1 x2 x3 x4 x5 x6 x7 x8 x9)=some (SC r):=lP (Sv (sm SC) x0 x1 x2 x3 x4 x5 x6 x9) (by kernel_rfl) (by unfold KJ Sv;with_reducible repeat' first|apply zd|exact nX|exact sX)
end
def S156:=S155.pc 10 76 0 (qdc false 0 0 0 0 0 0 [] [] 0) (fun x0 x1 x2 x3 x4 x5 x6 x7 x8 x9=>some (y1 (KJ x0 x1 x2 x3 x4 x5 x6 x7 x8 x9) SC)) (by kernel_rfl) rfl fun _=>w1 fun h=>qfB _ _ _ _ _ _ _ _ _ _ h
section
variable {β:Type} (z:Bool->Option β) (x0:Bool) (x1 x2 x3 x4 x5:Int) (x6:LI) (x7:L3)
def Su:Option β:=(ob (v14 x6 x7 (9:Int)) fun r1=>(ob (KJ x0 x1 x2 x3 x4 x5 r1.2.2.2 r1.1 r1.2.1 r1.2.2.1) fun r2=>(z r2)))
def KI:=Su some x0 x1 x2 x3 x4 x5 x6 x7
def SB:Bool->Ex×CS:=fun r=>(.ret,⟨[(0,vB r)],[],[],0,true⟩)
abbrev qdb:CS:=⟨[(1,.l 1 0),(4,vB x0),(5,vI x1),(6,vI x2),(7,vI x3),(9,vI x4),(11,vI x5)],[(1,[kd0 x6,kd1 x7])],[],0,false⟩
theorem qfA {k:Nat} {r:Bool}:KI x0 x1 x2 x3 x4 x5 x6 x7=some r->pE S156 10 68 0 k (qdb x0 x1 x2 x3 x4 x5 x6 x7)=some (SB r):=lP (Su (sm SB) x0 x1 x2 x3 x4 x5 x6 x7) (by kernel_rfl) (by unfold KI Su;with_reducible repeat' first|apply zd|exact nX|exact sX)
end
def S157:=S156.pc 10 68 0 (qdb false 0 0 0 0 0 [] []) (fun x0 x1 x2 x3 x4 x5 x6 x7=>some (y1 (KI x0 x1 x2 x3 x4 x5 x6 x7) SB)) (by kernel_rfl) rfl fun _=>w1 fun h=>qfA _ _ _ _ _ _ _ _ h
section
variable {β:Type} (z:Bool->Option β) (x0:Bool) (x1 x2 x3 x4:Int) (x5:LI) (x6:L3)
def Ss:Option β:=(ob (v14 x5 x6 (-1:Int)) fun r1=>(ob (KI x0 x1 x2 x3 x4 r1.2.2.2 x5 x6) fun r2=>(z r2)))
def KH:=Ss some x0 x1 x2 x3 x4 x5 x6
def SA:Bool->Ex×CS:=fun r=>(.ret,⟨[(0,vB r)],[],[],0,true⟩)
abbrev qda:CS:=⟨[(1,.l 1 0),(4,vB x0),(5,vI x1),(6,vI x2),(7,vI x3),(9,vI x4)],[(1,[kd0 x5,kd1 x6])],[],0,false⟩
theorem qfz {k:Nat} {r:Bool}:KH x0 x1 x2 x3 x4 x5 x6=some r->pE S157 10 60 0 k (qda x0 x1 x2 x3 x4 x5 x6)=some (SA r):=lP (Ss (sm SA) x0 x1 x2 x3 x4 x5 x6) (by kernel_rfl) (by unfold KH Ss;with_reducible repeat' first|apply zd|exact nX|exact sX)
end
def S158:=S157.pc 10 60 0 (qda false 0 0 0 0 [] []) (fun x0 x1 x2 x3 x4 x5 x6=>some (y1 (KH x0 x1 x2 x3 x4 x5 x6) SA)) (by kernel_rfl) rfl fun _=>w1 fun h=>qfz _ _ _ _ _ _ _ h
section
variable {β:Type} (z:Bool->Option β) (x0:Bool) (x1 x2 x3:Int) (x4:LI) (x5:L3)
def Sr:Option β:=(ob (KH x0 x1 x2 x3 (val (v14 [0] [[[0]]] (5:Int))).2.2.2 x4 x5) fun r1=>(z r1))
def KG:=Sr some x0 x1 x2 x3 x4 x5
def Sz:Bool->Ex×CS:=fun r=>(.ret,⟨[(0,vB r)],[],[],0,true⟩)
abbrev qc9:CS:=⟨[(1,.l 1 0),(4,vB x0),(5,vI x1),(6,vI x2),(7,vI x3)],[(1,[kd0 x4,kd1 x5])],[],0,false⟩
theorem qfy {k:Nat} {r:Bool}:KG x0 x1 x2 x3 x4 x5=some r->pE S158 10 52 0 k (qc9 x0 x1 x2 x3 x4 x5)=some (Sz r):=lP (Sr (sm Sz) x0 x1 x2 x3 x4 x5) (by kernel_rfl) (by unfold KG Sr;with_reducible repeat' first|apply zd|exact nX|exact sX)
end
def S159:=S158.pc 10 52 0 (qc9 false 0 0 0 [] []) (fun x0 x1 x2 x3 x4 x5=>some (y1 (KG x0 x1 x2 x3 x4 x5) Sz)) (by kernel_rfl) rfl fun _=>w1 fun h=>qfy _ _ _ _ _ _ h
section
variable {β:Type} (z:Bool->Option β) (x0:Bool) (x1:LI) (x2:L3) (x3:LI) (x4:L3)
def Sq:Option β:=(ob (v12 x3 x4 [(3:Int),(4:Int)] 0) fun r1=>(ob (KG x0 r1.1 r1.2.1 r1.2.2 x1 x2) fun r2=>(z r2)))
def Gd:=Sq some x0 x1 x2 x3 x4
def Sy:Bool->Ex×CS:=fun r=>(.ret,⟨[(0,vB r)],[],[],0,true⟩)
abbrev qc8:CS:=⟨[(1,.l 1 0),(3,.l 3 0),(4,vB x0)],[(1,[kd0 x1,kd1 x2]),(3,[kd0 x3,kd1 x4])],[],0,false⟩
theorem qfx {k:Nat} {r:Bool}:Gd x0 x1 x2 x3 x4=some r->pE S159 10 44 0 k (qc8 x0 x1 x2 x3 x4)=some (Sy r):=lP (Sq (sm Sy) x0 x1 x2 x3 x4) (by kernel_rfl) (by unfold Gd Sq;with_reducible repeat' first|apply zd|exact nX|exact sX)
end
def S160:=S159.pc 10 44 0 (qc8 false [] [] [] []) (fun x0 x1 x2 x3 x4=>some (y1 (Gd x0 x1 x2 x3 x4) Sy)) (by kernel_rfl) rfl fun _=>w1 fun h=>qfx _ _ _ _ _ h
section
variable {β:Type} (z:Bool->Option β) (x0:LI) (x1:L3) (x2:LI) (x3:L3) (x4:LI) (x5:L3)
def Sp:Option β:=(ob (v27 x0 x1 [[(5000000:Int)],[(5000000:Int)]] [(200000:Int)] 0) fun r1=>(cond r1 (ob (v27 x2 x3 [[(10000000:Int),0]] [(100000:Int),(100000:Int)] (1000000:Int)) fun r2=>(cond r2 (ob (v27 x4 x5 [[0,(4000000:Int)]] [(1000000000000:Int),(250000:Int)] 0) fun r3=>(ob (Gd r3 x0 x1 x4 x5) fun r4=>(z r4))) (ob (Gd false x0 x1 x4 x5) fun r3=>(z r3)))) (ob (Gd false x0 x1 x4 x5) fun r2=>(z r2))))
def HL:=Sp some x0 x1 x2 x3 x4 x5
def Sx:Bool->Ex×CS:=fun r=>(.ret,⟨[(0,vB r)],[],[],0,true⟩)
abbrev qc7:CS:=⟨[(1,.l 1 0),(2,.l 2 0),(3,.l 3 0)],[(1,[kd0 x0,kd1 x1]),(2,[kd0 x2,kd1 x3]),(3,[kd0 x4,kd1 x5])],[],0,false⟩
theorem qfw {k:Nat} {r:Bool}:HL x0 x1 x2 x3 x4 x5=some r->pE S160 10 36 0 k (qc7 x0 x1 x2 x3 x4 x5)=some (Sx r):=lP (Sp (sm Sx) x0 x1 x2 x3 x4 x5) (by kernel_rfl) (by unfold HL Sp;with_reducible repeat' first|apply zd|exact nX|exact sX)
end
def S161:=S160.pc 10 36 0 (qc7 [] [] [] [] [] []) (fun x0 x1 x2 x3 x4 x5=>some (y1 (HL x0 x1 x2 x3 x4 x5) Sx)) (by kernel_rfl) rfl fun _=>w1 fun h=>qfw _ _ _ _ _ _ h
section
variable {β:Type} (z:Bool->Option β)
def tv10:Option β:=(z true)
def v10:=tv10 some
abbrev aF10:List TA:=[]
abbrev rF10:Bool->List TA×List TO:=fun r=>([.sc (.bool r)],[])
theorem ev10:fE S161 10 aF10 []=v10.bind (sm rF10):=zE (fun z=>tv10 z) (by kernel_rfl) fun K=>by unfold v10 tv10;with_reducible repeat' first|apply zc|exact nB|exact sB
end
def S162:=S161.fn 10 aF10 [] (some (y1 v10 rF10)) rfl fun _=>w1 fun h=>ev10.trans (bD h)
section
variable {β:Type} (y:Int->LI->L3->Option β) (z:(Bool ⊕ Unit)->Option β) (x0:Int) (x1:LI) (x2:L3)
def JW:Option β:=(cond (decide (x0 < (x1.length:Int))) (cond (decide (0<=x0)) (cond (decide (List.getD x1 x0.toNat 0 < 0)) (z (.inl (false))) (cond (decide (List.getD x1 x0.toNat 0 > (1000:Int))) (z (.inl (false))) (y (wI (x0+1)) x1 x2))) none) (z (.inr ())))
def qd9:Option β:=(cond (decide (x0 < (x1.length:Int))) (ck x0 (x1.length:Int) (cond (decide (List.getD x1 x0.toNat 0 < 0)) (z (.inl (false))) (ck x0 (x1.length:Int) (cond (decide (List.getD x1 x0.toNat 0 > (1000:Int))) (z (.inl (false))) (y (wI (x0+1)) x1 x2))))) (z (.inr ())))
def jA:=itL (fun _ _ _=>none) fun f=>JW f some
theorem qaR (n:Nat):jA (n+1)=JW (jA n) some:=rfl
def qbC:(Bool ⊕ Unit)->Ex×CS:=Sum.elim (fun r=>(.ret,⟨[(2,vB r)],[],[],0,true⟩)) fun r=>((.exit 0),⟨[(1,.l 1 0),(30,.l 1 0)],[(1,[kd0 x1,kd1 x2])],[],0,false⟩)
abbrev HY:CS:=⟨[(1,.l 1 0),(3,vI x0)],[(1,[kd0 x1,kd1 x2])],[],0,false⟩
theorem qhd {k m n:Nat} {r:Bool ⊕ Unit} (h:jA n x0 x1 x2=some r):lE S162 24 0 k (n+m) (HY x0 x1 x2)=some (qbC x1 x2 r):=by
 induction n generalizing x0 with
 |zero=>cases h
 |succ n ih=>
 exact lS (qd9 (fun x0 x1 x2=>lE S162 24 0 k (n+m) (HY x0 x1 x2)) (sm (qbC x1 x2)) x0 x1 x2) (by kernel_rfl) (by rw [qaR];unfold JW qd9;with_reducible repeat' first|apply gT ‹_›|apply gF ‹_›|(apply zz<;>intro _)|exact ih _|exact nX|exact sX) h
end
def S163:=S162.lp 24 0 (HY 0 [] []) (fun x0 x1 x2=>some (y2 (jA FU x0 x1 x2) (qbC x1 x2))) (by kernel_rfl) fun _=>w2 fun h=>qhd _ _ _ h
section
variable {β:Type} (y:LI->Int->Int->Option β) (z:(Bool ⊕ Unit)->Option β) (x0:LI) (x1 x2:Int)
def J7:Option β:=(cond (decide (x2 < (x0.length:Int))) (cond (decide (0<=x2)) (cond (decide (List.getD x0 x2.toNat 0 < 0)) (z (.inl (false))) (cond (decide (List.getD x0 x2.toNat 0≥x1)) (z (.inl (false))) (cond (decide (x2 > 0)) (ck (wI (x2 - (1:Int))) (x0.length:Int) (cond (decide (List.getD x0 x2.toNat 0<=List.getD x0 (wI (x2 - (1:Int))).toNat 0)) (z (.inl (false))) (y x0 x1 (wI (x2+1))))) (y x0 x1 (wI (x2+1)))))) none) (z (.inr ())))
def qeg:Option β:=(cond (decide (x2 < (x0.length:Int))) (ck x2 (x0.length:Int) (cond (decide (List.getD x0 x2.toNat 0 < 0)) (z (.inl (false))) (ck x2 (x0.length:Int) (cond (decide (List.getD x0 x2.toNat 0≥x1)) (z (.inl (false))) (cond (decide (x2 > 0)) (ck x2 (x0.length:Int) (ck (wI (x2 - (1:Int))) (x0.length:Int) (cond (decide (List.getD x0 x2.toNat 0<=List.getD x0 (wI (x2 - (1:Int))).toNat 0)) (z (.inl (false))) (y x0 x1 (wI (x2+1)))))) (y x0 x1 (wI (x2+1)))))))) (z (.inr ())))
def gq:=itL (fun _ _ _=>none) fun f=>J7 f some
theorem qa7 (n:Nat):gq (n+1)=J7 (gq n) some:=rfl
def qbT:(Bool ⊕ Unit)->Ex×CS:=Sum.elim (fun r=>(.ret,⟨[(4,vB r)],[],[],0,true⟩)) fun r=>((.exit 0),⟨[(0,vd0 x0)],[],[],0,false⟩)
abbrev qak:CS:=⟨[(0,vd0 x0),(1,vI x1),(5,vI x2)],[],[],0,false⟩
theorem qhu {k m n:Nat} {r:Bool ⊕ Unit} (h:gq n x0 x1 x2=some r):lE S163 42 0 k (n+m) (qak x0 x1 x2)=some (qbT x0 r):=by
 induction n generalizing x2 with
 |zero=>cases h
 |succ n ih=>
 exact lS (qeg (fun x0 x1 x2=>lE S163 42 0 k (n+m) (qak x0 x1 x2)) (sm (qbT x0)) x0 x1 x2) (by kernel_rfl) (by rw [qa7];unfold J7 qeg;with_reducible repeat' first|apply gT ‹_›|apply gF ‹_›|(apply zz<;>intro _)|exact ih _|exact nX|exact sX) h
end
def S164:=S163.lp 42 0 (qak [] 0 0) (fun x0 x1 x2=>some (y2 (gq FU x0 x1 x2) (qbT x0))) (by kernel_rfl) fun _=>w2 fun h=>qhu _ _ _ h
section
variable {β:Type} (z:Bool->Option β) (x0:LI) (x1:Int)
def tv42:Option β:=(cond (isL (gq FU x0 x1 0)) (z (zx (gq FU x0 x1 0))) (ob (zB (gq FU x0 x1 0)) fun _=>(cond (decide ((x0.length:Int)≥(1:Int))) (z (decide ((x0.length:Int)<=(6:Int)))) (z false))))
def v42:=tv42 some x0 x1
abbrev aF42:List TA:=[.sc (kd0 x0),.sc (I4 x1)]
abbrev rF42:Bool->List TA×List TO:=fun r=>([.sc (.bool r)],[])
theorem ev42:fE S164 42 (aF42 x0 x1) []=(v42 x0 x1).bind (sm rF42):=zE (fun z=>tv42 z x0 x1) (by kernel_rfl) fun K=>by unfold v42 tv42;with_reducible repeat' first|apply zc|exact nB|exact sB
end
def S165:=S164.fn 42 (aF42 [] 0) [] (fun x0 x1=>some (y1 (v42 x0 x1) rF42)) rfl fun _=>w1 fun h=>(ev42 ..).trans (bD h)
section
variable {β:Type} (y:Int->LL->Int->LI->L3->Option β) (z:(Bool ⊕ Unit)->Option β) (x0:Int) (x1:LL) (x2:Int) (x3:LI) (x4:L3)
def Jb:Option β:=(cond (decide (x2 < (x1.length:Int))) (cond (decide (0<=x2)) (ob (v42 (List.getD x1 x2.toNat []) (x3.length:Int)) fun r1=>(cond (!r1) (z (.inl (false))) (y x0 x1 (wI (x2+1)) x3 x4))) none) (z (.inr ())))
def qdF:Option β:=(cond (decide (x2 < (x1.length:Int))) (ck x2 (x1.length:Int) (ob (v42 (List.getD x1 x2.toNat []) (x3.length:Int)) fun r1=>(cond (!r1) (z (.inl (false))) (y x0 x1 (wI (x2+1)) x3 x4)))) (z (.inr ())))
def qJ:=itL (fun _ _ _ _ _=>none) fun f=>Jb f some
theorem D2 (n:Nat):qJ (n+1)=Jb (qJ n) some:=rfl
def ST:(Bool ⊕ Unit)->Ex×CS:=Sum.elim (fun r=>(.ret,⟨[(2,vB r)],[],[],0,true⟩)) fun r=>((.exit 4),⟨[(1,.l 1 0),(4,vI x0)],[(1,[kd0 x3,kd1 x4])],[],0,false⟩)
abbrev Dt:CS:=⟨[(1,.l 1 0),(4,vI x0),(5,vd1 x1),(6,vI x2)],[(1,[kd0 x3,kd1 x4])],[],0,false⟩
theorem qfR {k m n:Nat} {r:Bool ⊕ Unit} (h:qJ n x0 x1 x2 x3 x4=some r):lE S165 24 4 k (n+m) (Dt x0 x1 x2 x3 x4)=some (ST x0 x3 x4 r):=by
 induction n generalizing x2 with
 |zero=>cases h
 |succ n ih=>
 exact lS (qdF (fun x0 x1 x2 x3 x4=>lE S165 24 4 k (n+m) (Dt x0 x1 x2 x3 x4)) (sm (ST x0 x3 x4)) x0 x1 x2 x3 x4) (by kernel_rfl) (by rw [D2];unfold Jb qdF;with_reducible repeat' first|apply gT ‹_›|apply gF ‹_›|(apply zz<;>intro _)|exact ih _|exact nX|exact sX) h
end
def S166:=S165.lp 24 4 (Dt 0 [] 0 [] []) (fun x0 x1 x2 x3 x4=>some (y2 (qJ FU x0 x1 x2 x3 x4) (ST x0 x3 x4))) (by kernel_rfl) fun _=>w2 fun h=>qfR _ _ _ _ _ h
section
variable {β:Type} (y:Int->LI->L3->Option β) (z:(Bool ⊕ Unit)->Option β) (x0:Int) (x1:LI) (x2:L3)
def Ja:Option β:=(cond (decide (x0 < (x2.length:Int))) (cond (decide (0<=x0)) (cond (decide ((↑(List.length (List.getD x2 x0.toNat [])):Int) < (1:Int))) (z (.inl (false))) (cond (decide ((↑(List.length (List.getD x2 x0.toNat [])):Int) > (4:Int))) (z (.inl (false))) (cond (isL (qJ FU x0 (List.getD x2 x0.toNat []) 0 x1 x2)) (z (.inl (zx (qJ FU x0 (List.getD x2 x0.toNat []) 0 x1 x2)))) (ob (zB (qJ FU x0 (List.getD x2 x0.toNat []) 0 x1 x2)) fun _=>(y (wI (x0+1)) x1 x2))))) none) (z (.inr ())))
def qdE:Option β:=(cond (decide (x0 < (x2.length:Int))) (ck x0 (x2.length:Int) (cond (decide ((↑(List.length (List.getD x2 x0.toNat [])):Int) < (1:Int))) (z (.inl (false))) (cond (decide ((↑(List.length (List.getD x2 x0.toNat [])):Int) > (4:Int))) (z (.inl (false))) (cond (isL (qJ FU x0 (List.getD x2 x0.toNat []) 0 x1 x2)) (z (.inl (zx (qJ FU x0 (List.getD x2 x0.toNat []) 0 x1 x2)))) (ob (zB (qJ FU x0 (List.getD x2 x0.toNat []) 0 x1 x2)) fun _=>(y (wI (x0+1)) x1 x2)))))) (z (.inr ())))
def qV:=itL (fun _ _ _=>none) fun f=>Ja f some
theorem D1 (n:Nat):qV (n+1)=Ja (qV n) some:=rfl
def SS:(Bool ⊕ Unit)->Ex×CS:=Sum.elim (fun r=>(.ret,⟨[(2,vB r)],[],[],0,true⟩)) fun r=>((.exit 2),⟨[(1,.l 1 0),(51,.l 1 1)],[],[],0,false⟩)
abbrev Ds:CS:=⟨[(1,.l 1 0),(4,vI x0)],[(1,[kd0 x1,kd1 x2])],[],0,false⟩
theorem qfQ {k m n:Nat} {r:Bool ⊕ Unit} (h:qV n x0 x1 x2=some r):lE S166 24 2 k (n+m) (Ds x0 x1 x2)=some (SS r):=by
 induction n generalizing x0 with
 |zero=>cases h
 |succ n ih=>
 exact lS (qdE (fun x0 x1 x2=>lE S166 24 2 k (n+m) (Ds x0 x1 x2)) (sm SS) x0 x1 x2) (by kernel_rfl) (by rw [D1];unfold Ja qdE;with_reducible repeat' first|apply gT ‹_›|apply gF ‹_›|(apply zz<;>intro _)|exact ih _|exact nX|exact sX) h
end
def S167:=S166.lp 24 2 (Ds 0 [] []) (fun x0 x1 x2=>some (y2 (qV FU x0 x1 x2) SS)) (by kernel_rfl) fun _=>w2 fun h=>qfQ _ _ _ h
section
variable {β:Type} (z:Bool->Option β) (x0:LI) (x1:L3)
def tv24:Option β:=(cond (decide ((x0.length:Int) < (1:Int))) (z false) (cond (decide ((x0.length:Int) > (8:Int))) (z false) (cond (decide ((x1.length:Int) < (1:Int))) (z false) (cond (decide ((x1.length:Int) > (8:Int))) (z false) (cond (isL (jA FU 0 x0 x1)) (z (zx (jA FU 0 x0 x1))) (ob (zB (jA FU 0 x0 x1)) fun _=>(cond (isL (qV FU 0 x0 x1)) (z (zx (qV FU 0 x0 x1))) (ob (zB (qV FU 0 x0 x1)) fun _=>(z true)))))))))
def v24:=tv24 some x0 x1
abbrev aF24:List TA:=[.agg [kd0 x0,kd1 x1]]
abbrev rF24:Bool->List TA×List TO:=fun r=>([.sc (.bool r)],[])
theorem ev24:fE S167 24 (aF24 x0 x1) []=(v24 x0 x1).bind (sm rF24):=zE (fun z=>tv24 z x0 x1) (by kernel_rfl) fun K=>by unfold v24 tv24;with_reducible repeat' first|apply zc|exact nB|exact sB
end
def S168:=S167.fn 24 (aF24 [] []) [] (fun x0 x1=>some (y1 (v24 x0 x1) rF24)) rfl fun _=>w1 fun h=>(ev24 ..).trans (bD h)
section
variable {β:Type} (y:LI->Int->LI->L3->Option β) (z:(Bool ⊕ Unit)->Option β) (x0:LI) (x1:Int) (x2:LI) (x3:L3)
def Kc:Option β:=(cond (decide (x1 < (x0.length:Int))) (cond (decide (0<=x1)) (ck (List.getD x0 x1.toNat 0) (x2.length:Int) (cond (List.getD x2 (List.getD x0 x1.toNat 0).toNat 0==0) (z (.inl (false))) (y x0 (wI (x1+1)) x2 x3))) none) (z (.inr ())))
def qel:Option β:=(cond (decide (x1 < (x0.length:Int))) (ck x1 (x0.length:Int) (ck (List.getD x0 x1.toNat 0) (x2.length:Int) (cond (List.getD x2 (List.getD x0 x1.toNat 0).toNat 0==0) (z (.inl (false))) (y x0 (wI (x1+1)) x2 x3)))) (z (.inr ())))
def jF:=itL (fun _ _ _ _=>none) fun f=>Kc f some
theorem qbe (n:Nat):jF (n+1)=Kc (jF n) some:=rfl
def qb0:(Bool ⊕ Unit)->Ex×CS:=Sum.elim (fun r=>(.ret,⟨[(4,vB r)],[],[],0,true⟩)) fun r=>((.exit 0),⟨[(2,.l 2 0)],[],[],0,false⟩)
abbrev qar:CS:=⟨[(1,vd0 x0),(2,.l 2 0),(5,vI x1)],[(2,[kd0 x2,kd1 x3])],[],0,false⟩
theorem qhB {k m n:Nat} {r:Bool ⊕ Unit} (h:jF n x0 x1 x2 x3=some r):lE S168 62 0 k (n+m) (qar x0 x1 x2 x3)=some (qb0 r):=by
 induction n generalizing x1 with
 |zero=>cases h
 |succ n ih=>
 exact lS (qel (fun x0 x1 x2 x3=>lE S168 62 0 k (n+m) (qar x0 x1 x2 x3)) (sm qb0) x0 x1 x2 x3) (by kernel_rfl) (by rw [qbe];unfold Kc qel;with_reducible repeat' first|apply gT ‹_›|apply gF ‹_›|(apply zz<;>intro _)|exact ih _|exact nX|exact sX) h
end
def S169:=S168.lp 62 0 (qar [] 0 [] []) (fun x0 x1 x2 x3=>some (y2 (jF FU x0 x1 x2 x3) qb0)) (by kernel_rfl) fun _=>w2 fun h=>qhB _ _ _ _ h
section
variable {β:Type} (z:Bool->Option β) (x0:LI) (x1:L3) (x2:LI)
def tv62:Option β:=(cond (isL (jF FU x2 0 x0 x1)) (z (zx (jF FU x2 0 x0 x1))) (ob (zB (jF FU x2 0 x0 x1)) fun _=>(z true)))
def v62:=tv62 some x0 x1 x2
abbrev aF62:List TA:=[.agg [kd0 x0,kd1 x1],.sc (kd0 x2)]
abbrev rF62:Bool->List TA×List TO:=fun r=>([.sc (.bool r)],[])
theorem ev62:fE S169 62 (aF62 x0 x1 x2) []=(v62 x0 x1 x2).bind (sm rF62):=zE (fun z=>tv62 z x0 x1 x2) (by kernel_rfl) fun K=>by unfold v62 tv62;with_reducible repeat' first|apply zc|exact nB|exact sB
end
def S170:=S169.fn 62 (aF62 [] [] []) [] (fun x0 x1 x2=>some (y1 (v62 x0 x1 x2) rF62)) rfl fun _=>w1 fun h=>(ev62 ..).trans (bD h)
section
variable {β:Type} (y:Int->Int->Int->LI->L3->Option β) (z:Int->Option β) (x0 x1 x2:Int) (x3:LI) (x4:L3)
def JZ:Option β:=(ck x0 (x4.length:Int) (cond (decide (x2 < (↑(List.length (List.getD x4 x0.toNat [])):Int))) (cond (decide (0<=x2)) (ob (v62 x3 x4 (List.getD (List.getD x4 x0.toNat []) x2.toNat [])) fun r1=>(cond r1 (cond (decide (x1 < 0)) (y x0 x2 (wI (x2+1)) x3 x4) (ck x1 (↑(List.length (List.getD x4 x0.toNat [])):Int) (cond (decide ((↑(List.length (List.getD (List.getD x4 x0.toNat []) x2.toNat [])):Int) < (↑(List.length (List.getD (List.getD x4 x0.toNat []) x1.toNat [])):Int))) (y x0 x2 (wI (x2+1)) x3 x4) (y x0 x1 (wI (x2+1)) x3 x4)))) (y x0 x1 (wI (x2+1)) x3 x4))) none) (z x1)))
def qec:Option β:=(ck x0 (x4.length:Int) (cond (decide (x2 < (↑(List.length (List.getD x4 x0.toNat [])):Int))) (ck x0 (x4.length:Int) (ck x2 (↑(List.length (List.getD x4 x0.toNat [])):Int) (ob (v62 x3 x4 (List.getD (List.getD x4 x0.toNat []) x2.toNat [])) fun r1=>(cond r1 (cond (decide (x1 < 0)) (y x0 x2 (wI (x2+1)) x3 x4) (ck x0 (x4.length:Int) (ck x1 (↑(List.length (List.getD x4 x0.toNat [])):Int) (cond (decide ((↑(List.length (List.getD (List.getD x4 x0.toNat []) x2.toNat [])):Int) < (↑(List.length (List.getD (List.getD x4 x0.toNat []) x1.toNat [])):Int))) (y x0 x2 (wI (x2+1)) x3 x4) (y x0 x1 (wI (x2+1)) x3 x4))))) (y x0 x1 (wI (x2+1)) x3 x4))))) (z x1)))
def jZ:=itL (fun _ _ _ _ _=>none) fun f=>JZ f some
theorem qa2 (n:Nat):jZ (n+1)=JZ (jZ n) some:=rfl
def qbN:Int->Ex×CS:=fun r=>((.exit 0),⟨[(2,.l 2 0),(5,vI r),(10,.l 2 1)],[],[],0,false⟩)
abbrev qae:CS:=⟨[(1,vI x0),(2,.l 2 0),(5,vI x1),(6,vI x2)],[(2,[kd0 x3,kd1 x4])],[],0,false⟩
theorem qho {k m n:Nat} {r:Int} (h:jZ n x0 x1 x2 x3 x4=some r):lE S170 35 0 k (n+m) (qae x0 x1 x2 x3 x4)=some (qbN r):=by
 induction n generalizing x1 x2 with
 |zero=>cases h
 |succ n ih=>
 exact lS (qec (fun x0 x1 x2 x3 x4=>lE S170 35 0 k (n+m) (qae x0 x1 x2 x3 x4)) (sm qbN) x0 x1 x2 x3 x4) (by kernel_rfl) (by rw [qa2];unfold JZ qec;with_reducible repeat' first|apply gT ‹_›|apply gF ‹_›|(apply zz<;>intro _)|exact ih _ _|exact nX|exact sX) h
end
def S171:=S170.lp 35 0 (qae 0 0 0 [] []) (fun x0 x1 x2 x3 x4=>some (y1 (jZ FU x0 x1 x2 x3 x4) qbN)) (by kernel_rfl) fun _=>w1 fun h=>qho _ _ _ _ _ h
section
variable {β:Type} (z:Int->Option β) (x0:LI) (x1:L3) (x2:Int)
def tv35:Option β:=(ob (jZ FU x2 (-1:Int) 0 x0 x1) fun r1=>(z r1))
def v35:=tv35 some x0 x1 x2
abbrev aF35:List TA:=[.agg [kd0 x0,kd1 x1],.sc (I4 x2)]
abbrev rF35:Int->List TA×List TO:=fun r=>([.sc (I4 r)],[])
theorem ev35:fE S171 35 (aF35 x0 x1 x2) []=(v35 x0 x1 x2).bind (sm rF35):=zE (fun z=>tv35 z x0 x1 x2) (by kernel_rfl) fun K=>by unfold v35 tv35;with_reducible repeat' first|apply zc|exact nB|exact sB
end
def S172:=S171.fn 35 (aF35 [] [] 0) [] (fun x0 x1 x2=>some (y1 (v35 x0 x1 x2) rF35)) rfl fun _=>w1 fun h=>(ev35 ..).trans (bD h)
section
variable {β:Type} (y:Int->LI->L3->Int->LL->LI->Option β) (z:((Int × Int) ⊕ Unit)->Option β) (x0:Int) (x1:LI) (x2:L3) (x3:Int) (x4:LL) (x5:LI)
def Gp:Option β:=(cond (decide (x0 < (x2.length:Int))) (ob (v35 x1 x2 x0) fun r1=>(cond (decide (r1 < 0)) (z (.inl ((4:Int),0))) (y (wI (x0+1)) x1 x2 x3 x4 x5))) (z (.inr ())))
def ja:=itL (fun _ _ _ _ _ _=>none) fun f=>Gp f some
theorem qaL (n:Nat):ja (n+1)=Gp (ja n) some:=rfl
def qbv:((Int×Int) ⊕ Unit)->Ex×CS:=Sum.elim (fun r=>(.ret,⟨[(4,.l 4 0),(5,vI r.1)],[(4,[.nil,.nil,I4 r.2])],[],0,true⟩)) fun r=>((.exit 0),⟨[(2,.l 2 0),(4,.l 4 0),(22,.l 2 1)],[(2,[kd0 x1,kd1 x2]),(4,[.g 0,.g 1,I4 x3])],[rd1 x4,rd0 x5],0,false⟩)
abbrev HQ:CS:=⟨[(2,.l 2 0),(4,.l 4 0),(7,vI x0)],[(2,[kd0 x1,kd1 x2]),(4,[.g 0,.g 1,I4 x3])],[rd1 x4,rd0 x5],0,false⟩
theorem qg6 {k m n:Nat} {r:(Int×Int) ⊕ Unit} (h:ja n x0 x1 x2 x3 x4 x5=some r):lE S172 15 0 k (n+m) (HQ x0 x1 x2 x3 x4 x5)=some (qbv x1 x2 x3 x4 x5 r):=by
 induction n generalizing x0 with
 |zero=>cases h
 |succ n ih=>
 exact lS (Gp (fun x0 x1 x2 x3 x4 x5=>lE S172 15 0 k (n+m) (HQ x0 x1 x2 x3 x4 x5)) (sm (qbv x1 x2 x3 x4 x5)) x0 x1 x2 x3 x4 x5) (by kernel_rfl) (by rw [qaL];unfold Gp;with_reducible repeat' first|apply zd|exact ih _|exact nX|exact sX) h
end
def S173:=S172.lp 15 0 (HQ 0 [] [] 0 [] []) (fun x0 x1 x2 x3 x4 x5=>some (y2 (ja FU x0 x1 x2 x3 x4 x5) (qbv x1 x2 x3 x4 x5))) (by kernel_rfl) fun _=>w2 fun h=>qg6 _ _ _ _ _ _ h
section
variable {β:Type} (y:Int->LI->Int->LI->L3->Int->LI->LL->LI->Option β) (z:LI->Option β) (x0:Int) (x1:LI) (x2:Int) (x3:LI) (x4:L3) (x5:Int) (x6:LI) (x7:LL) (x8:LI)
def G4:Option β:=(cond (decide (x2 < (x1.length:Int))) (cond (decide (0<=x2)) (ck (List.getD x1 x2.toNat 0) (x6.length:Int) (cond (decide ((List.getD x1 x2.toNat 0).toNat < List.length x6)) (cond (decide ((x1.length:Int)≠0)) (y x0 x1 (wI (x2+1)) x3 x4 x5 (List.set x6 (List.getD x1 x2.toNat 0).toNat (wI (List.getD x6 (List.getD x1 x2.toNat 0).toNat 0+wI (Int.tdiv (1000000000:Int) (x1.length:Int))))) x7 x8) none) none)) none) (z x6))
def qdy:Option β:=(cond (decide (x2 < (x1.length:Int))) (ck x2 (x1.length:Int) (ck x2 (x1.length:Int) (ck (List.getD x1 x2.toNat 0) (x6.length:Int) (cond (decide ((List.getD x1 x2.toNat 0).toNat < List.length x6)) (cond (decide ((x1.length:Int)≠0)) (ck (List.getD x1 x2.toNat 0) (x6.length:Int) (cond (decide ((List.getD x1 x2.toNat 0).toNat < List.length x6)) (y x0 x1 (wI (x2+1)) x3 x4 x5 (List.set x6 (List.getD x1 x2.toNat 0).toNat (wI (List.getD x6 (List.getD x1 x2.toNat 0).toNat 0+wI (Int.tdiv (1000000000:Int) (x1.length:Int))))) x7 x8) none)) none) none)))) (z x6))
def qP:=itL (fun _ _ _ _ _ _ _ _ _=>none) fun f=>G4 f some
theorem DU (n:Nat):qP (n+1)=G4 (qP n) some:=rfl
def SK:LI->Ex×CS:=fun r=>((.exit 2),⟨[(1,.l 1 0),(2,.l 2 0),(3,vG 0),(4,vI x0)],[(1,[kd0 x3,kd1 x4]),(2,[.g 1,.g 2,I4 x5])],[rd0 r,rd1 x7,rd0 x8],0,false⟩)
abbrev Dl:CS:=⟨[(1,.l 1 0),(2,.l 2 0),(3,vG 0),(4,vI x0),(5,vd0 x1),(6,vI x2)],[(1,[kd0 x3,kd1 x4]),(2,[.g 1,.g 2,I4 x5])],[rd0 x6,rd1 x7,rd0 x8],0,false⟩
theorem qfJ {k m n:Nat} {r:LI} (h:qP n x0 x1 x2 x3 x4 x5 x6 x7 x8=some r):lE S173 18 2 k (n+m) (Dl x0 x1 x2 x3 x4 x5 x6 x7 x8)=some (SK x0 x3 x4 x5 x7 x8 r):=by
 induction n generalizing x2 x6 with
 |zero=>cases h
 |succ n ih=>
 exact lS (qdy (fun x0 x1 x2 x3 x4 x5 x6 x7 x8=>lE S173 18 2 k (n+m) (Dl x0 x1 x2 x3 x4 x5 x6 x7 x8)) (sm (SK x0 x3 x4 x5 x7 x8)) x0 x1 x2 x3 x4 x5 x6 x7 x8) (by kernel_rfl) (by rw [DU];unfold G4 qdy;with_reducible repeat' first|apply gT ‹_›|apply gF ‹_›|(apply zz<;>intro _)|exact ih _ _|exact nX|exact sX) h
end
def S174:=S173.lp 18 2 (Dl 0 [] 0 [] [] 0 [] [] []) (fun x0 x1 x2 x3 x4 x5 x6 x7 x8=>some (y1 (qP FU x0 x1 x2 x3 x4 x5 x6 x7 x8) (SK x0 x3 x4 x5 x7 x8))) (by kernel_rfl) fun _=>w1 fun h=>qfJ _ _ _ _ _ _ _ _ _ h
section
variable {β:Type} (y:Int->LI->L3->Int->LI->LL->LI->Option β) (z:LI->Option β) (x0:Int) (x1:LI) (x2:L3) (x3:Int) (x4:LI) (x5:LL) (x6:LI)
def JR:Option β:=(cond (decide (x0 < (x2.length:Int))) (cond (decide (0<=x0)) (ob (v35 x1 x2 x0) fun r1=>(ck r1 (↑(List.length (List.getD x2 x0.toNat [])):Int) (ob (qP FU x0 (List.getD (List.getD x2 x0.toNat []) r1.toNat []) 0 x1 x2 x3 x4 x5 x6) fun r2=>(y (wI (x0+1)) x1 x2 x3 r2 x5 x6)))) none) (z x4))
def qd4:Option β:=(cond (decide (x0 < (x2.length:Int))) (ck x0 (x2.length:Int) (ob (v35 x1 x2 x0) fun r1=>(ck r1 (↑(List.length (List.getD x2 x0.toNat [])):Int) (ob (qP FU x0 (List.getD (List.getD x2 x0.toNat []) r1.toNat []) 0 x1 x2 x3 x4 x5 x6) fun r2=>(y (wI (x0+1)) x1 x2 x3 r2 x5 x6))))) (z x4))
def jO:=itL (fun _ _ _ _ _ _ _=>none) fun f=>JR f some
theorem qaM (n:Nat):jO (n+1)=JR (jO n) some:=rfl
def qbx:LI->Ex×CS:=fun r=>((.exit 0),⟨[(1,.l 1 0),(2,.l 2 0),(3,vG 0),(25,.l 1 1)],[(1,[kd0 x1,kd1 x2]),(2,[.g 1,.g 2,I4 x3])],[rd0 r,rd1 x5,rd0 x6],0,false⟩)
abbrev HT:CS:=⟨[(1,.l 1 0),(2,.l 2 0),(3,vG 0),(4,vI x0)],[(1,[kd0 x1,kd1 x2]),(2,[.g 1,.g 2,I4 x3])],[rd0 x4,rd1 x5,rd0 x6],0,false⟩
theorem qg8 {k m n:Nat} {r:LI} (h:jO n x0 x1 x2 x3 x4 x5 x6=some r):lE S174 18 0 k (n+m) (HT x0 x1 x2 x3 x4 x5 x6)=some (qbx x1 x2 x3 x5 x6 r):=by
 induction n generalizing x0 x4 with
 |zero=>cases h
 |succ n ih=>
 exact lS (qd4 (fun x0 x1 x2 x3 x4 x5 x6=>lE S174 18 0 k (n+m) (HT x0 x1 x2 x3 x4 x5 x6)) (sm (qbx x1 x2 x3 x5 x6)) x0 x1 x2 x3 x4 x5 x6) (by kernel_rfl) (by rw [qaM];unfold JR qd4;with_reducible repeat' first|apply gT ‹_›|apply gF ‹_›|(apply zz<;>intro _)|exact ih _ _|exact nX|exact sX) h
end
def S175:=S174.lp 18 0 (HT 0 [] [] 0 [] [] []) (fun x0 x1 x2 x3 x4 x5 x6=>some (y1 (jO FU x0 x1 x2 x3 x4 x5 x6) (qbx x1 x2 x3 x5 x6))) (by kernel_rfl) fun _=>w1 fun h=>qg8 _ _ _ _ _ _ _ h
section
variable {β:Type} (y:Int->Int->LI->L3->Int->LI->LL->LI->Option β) (z:Int->Option β) (x0 x1:Int) (x2:LI) (x3:L3) (x4:Int) (x5:LI) (x6:LL) (x7:LI)
def G5:Option β:=(cond (decide (x1 < (x5.length:Int))) (cond (decide (0<=x1)) (cond (decide (x1.toNat < List.length x5)) (cond (decide (List.getD x5 x1.toNat 0 > 0)) (cond (decide (x0 < 0)) (y x1 (wI (x1+1)) x2 x3 x4 x5 x6 x7) (cond (decide (x1 < (x2.length:Int))) (ck x0 (x5.length:Int) (cond (decide (x0.toNat < List.length x5)) (cond (decide (x0 < (x2.length:Int))) (cond (decide (wI (List.getD x2 x1.toNat 0*List.getD x5 x0.toNat 0) < wI (List.getD x2 x0.toNat 0*List.getD x5 x1.toNat 0))) (y x1 (wI (x1+1)) x2 x3 x4 x5 x6 x7) (y x0 (wI (x1+1)) x2 x3 x4 x5 x6 x7)) none) none)) none)) (y x0 (wI (x1+1)) x2 x3 x4 x5 x6 x7)) none) none) (z x0))
def qdz:Option β:=(cond (decide (x1 < (x5.length:Int))) (ck x1 (x5.length:Int) (cond (decide (x1.toNat < List.length x5)) (cond (decide (List.getD x5 x1.toNat 0 > 0)) (cond (decide (x0 < 0)) (y x1 (wI (x1+1)) x2 x3 x4 x5 x6 x7) (ck x1 (x2.length:Int) (ck x0 (x5.length:Int) (cond (decide (x0.toNat < List.length x5)) (ck x0 (x2.length:Int) (ck x1 (x5.length:Int) (cond (decide (x1.toNat < List.length x5)) (cond (decide (wI (List.getD x2 x1.toNat 0*List.getD x5 x0.toNat 0) < wI (List.getD x2 x0.toNat 0*List.getD x5 x1.toNat 0))) (y x1 (wI (x1+1)) x2 x3 x4 x5 x6 x7) (y x0 (wI (x1+1)) x2 x3 x4 x5 x6 x7)) none))) none)))) (y x0 (wI (x1+1)) x2 x3 x4 x5 x6 x7)) none)) (z x0))
def jf:=itL (fun _ _ _ _ _ _ _ _=>none) fun f=>G5 f some
theorem DV (n:Nat):jf (n+1)=G5 (jf n) some:=rfl
def SL:Int->Ex×CS:=fun r=>((.exit 4),⟨[(1,.l 1 0),(2,.l 2 0),(3,vG 0),(7,vI r)],[(1,[kd0 x2,kd1 x3]),(2,[.g 1,.g 2,I4 x4])],[rd0 x5,rd1 x6,rd0 x7],0,false⟩)
abbrev Dm:CS:=⟨[(1,.l 1 0),(2,.l 2 0),(3,vG 0),(7,vI x0),(8,vI x1)],[(1,[kd0 x2,kd1 x3]),(2,[.g 1,.g 2,I4 x4])],[rd0 x5,rd1 x6,rd0 x7],0,false⟩
theorem qfK {k m n:Nat} {r:Int} (h:jf n x0 x1 x2 x3 x4 x5 x6 x7=some r):lE S175 18 4 k (n+m) (Dm x0 x1 x2 x3 x4 x5 x6 x7)=some (SL x2 x3 x4 x5 x6 x7 r):=by
 induction n generalizing x0 x1 with
 |zero=>cases h
 |succ n ih=>
 exact lS (qdz (fun x0 x1 x2 x3 x4 x5 x6 x7=>lE S175 18 4 k (n+m) (Dm x0 x1 x2 x3 x4 x5 x6 x7)) (sm (SL x2 x3 x4 x5 x6 x7)) x0 x1 x2 x3 x4 x5 x6 x7) (by kernel_rfl) (by rw [DV];unfold G5 qdz;with_reducible repeat' first|apply gT ‹_›|apply gF ‹_›|(apply zz<;>intro _)|exact ih _ _|exact nX|exact sX) h
end
def S176:=S175.lp 18 4 (Dm 0 0 [] [] 0 [] [] []) (fun x0 x1 x2 x3 x4 x5 x6 x7=>some (y1 (jf FU x0 x1 x2 x3 x4 x5 x6 x7) (SL x2 x3 x4 x5 x6 x7))) (by kernel_rfl) fun _=>w1 fun h=>qfK _ _ _ _ _ _ _ _ h
section
variable {β:Type} (z:(Int × LL)->Option β) (x0 x1 x2:Int) (x3:LI) (x4 x5:Int) (x6:LI) (x7:L3) (x8 x9:Int) (x10:LI) (x11:LL) (x12:LI) (x13:LL) (x14:LI)
def KP:Option β:=(cond (decide (List.length x13+List.length [x3]<=nat_lit 2147483648)) (ck x4 (x3.length:Int) (cond (decide (wI (x5*List.getD x3 x4.toNat 0)≠0)) (z (max x1 (wI (Int.tdiv (wI (wI ((1000000000000:Int)+wI (x5*List.getD x3 x4.toNat 0)) - (1:Int))) (wI (x5*List.getD x3 x4.toNat 0)))),x13++[x3])) none)) none)
def qcW:Option β:=(cond (decide (List.length x13+List.length [x3]<=nat_lit 2147483648)) (ck x4 (x3.length:Int) (ck x4 (x3.length:Int) (cond (decide (wI (x5*List.getD x3 x4.toNat 0)≠0)) (z (max x1 (wI (Int.tdiv (wI (wI ((1000000000000:Int)+wI (x5*List.getD x3 x4.toNat 0)) - (1:Int))) (wI (x5*List.getD x3 x4.toNat 0)))),x13++[x3])) none))) none)
def gk (x0 x1 x2:Int) (x3:LI) (x4 x5:Int) (x6:LI) (x7:L3) (x8 x9:Int) (x10:LI) (x11:LL) (x12:LI) (x13:LL) (x14:LI):Option (Int×LL):=KP some x1 x3 x4 x5 x13
def K0:(Int×LL)->Ex×CS:=fun r=>(.normal,⟨[(1,.l 1 0),(2,.l 2 0),(3,vG 0),(7,vI x0),(9,.l 9 0),(10,vI r.1),(11,vI x2),(104,.l 1 1),(110,.l 1 1),(120,.l 1 1),(133,.l 1 0),(146,.l 9 0),(149,.s 149 1),(151,.l 9 0)],[(1,[kd0 x6,kd1 x7]),(2,[.g 1,.g 2,I4 x8]),(9,[.g 3,.g 4,I4 x9])],[rd0 x10,rd1 x11,rd0 x12,rd1 r.2,rd0 x14],0,false⟩)
abbrev qcg:CS:=⟨[(1,.l 1 0),(2,.l 2 0),(3,vG 0),(7,vI x0),(9,.l 9 0),(10,vI x1),(11,vI x2),(12,vd0 x3),(13,vI x4),(14,vI x5),(104,.l 1 1),(110,.l 1 1),(120,.l 1 1),(133,.l 1 0)],[(1,[kd0 x6,kd1 x7]),(2,[.g 1,.g 2,I4 x8]),(9,[.g 3,.g 4,I4 x9])],[rd0 x10,rd1 x11,rd0 x12,rd1 x13,rd0 x14],0,false⟩
theorem qeE {k:Nat} {r:Int×LL}:gk x0 x1 x2 x3 x4 x5 x6 x7 x8 x9 x10 x11 x12 x13 x14=some r->pE S176 18 204 7 k (qcg x0 x1 x2 x3 x4 x5 x6 x7 x8 x9 x10 x11 x12 x13 x14)=some (K0 x0 x2 x6 x7 x8 x9 x10 x11 x12 x14 r):=lP (qcW (sm (K0 x0 x2 x6 x7 x8 x9 x10 x11 x12 x14)) x1 x3 x4 x5 x13) (by kernel_rfl) (by unfold gk KP qcW;with_reducible repeat' first|apply gT ‹_›|apply gF ‹_›|(apply zz<;>intro _)|exact nX|exact sX)
end
def S177:=S176.pc 18 204 7 (qcg 0 0 0 [] 0 0 [] [] 0 0 [] [] [] [] []) (fun x0 x1 x2 x3 x4 x5 x6 x7 x8 x9 x10 x11 x12 x13 x14=>some (y1 (gk x0 x1 x2 x3 x4 x5 x6 x7 x8 x9 x10 x11 x12 x13 x14) (K0 x0 x2 x6 x7 x8 x9 x10 x11 x12 x14))) (by kernel_rfl) rfl fun _=>w1 fun h=>qeE _ _ _ _ _ _ _ _ _ _ _ _ _ _ _ h
section
variable {β:Type} (y:Int->Int->Int->LI->L3->Int->Int->LI->LL->LI->LL->LI->Option β) (z:(Int × LL)->Option β) (x0 x1 x2:Int) (x3:LI) (x4:L3) (x5 x6:Int) (x7:LI) (x8:LL) (x9:LI) (x10:LL) (x11:LI)
def G6:Option β:=(cond (decide (x2 < (x4.length:Int))) (cond (decide (0<=x2)) (cond (decide ((↑(List.length (List.getD x4 x2.toNat [])):Int)<=(↑(List.length (List.getD x4 x2.toNat [])):Int))) (cond (decide ((↑(List.length (List.getD x4 x2.toNat [])):Int)<=(↑(nat_lit 2147483648):Int))) (ob (v35 x3 x4 x2) fun r1=>(ck r1 (↑(List.length (List.getD x4 x2.toNat [])):Int) (cond (decide ((↑(List.length (List.getD (List.getD x4 x2.toNat []) r1.toNat [])):Int)≠0)) (ck x0 (x3.length:Int) (cond (decide (x0 < (x7.length:Int))) (cond (decide (x0.toNat < List.length x7)) (cond (decide (List.getD x7 x0.toNat 0≠0)) (cond (decide (r1 < (↑(List.length (List.replicate (↑(List.length (List.getD x4 x2.toNat [])):Int).toNat (0:Int))):Int))) (cond (decide (r1.toNat < List.length (List.replicate (↑(List.length (List.getD x4 x2.toNat [])):Int).toNat (0:Int)))) (ob (gk x0 x1 x2 (List.set (List.replicate (↑(List.length (List.getD x4 x2.toNat [])):Int).toNat 0) r1.toNat (wI (Int.tdiv (wI (wI (wI (Int.tdiv (1000000000:Int) (↑(List.length (List.getD (List.getD x4 x2.toNat []) r1.toNat [])):Int))*List.getD x3 x0.toNat 0)*1000000)) (List.getD x7 x0.toNat 0)))) r1 (↑(List.length (List.getD (List.getD x4 x2.toNat []) r1.toNat [])):Int) x3 x4 x5 x6 x7 x8 x9 x10 x11) fun r2=>(y x0 (r2.1) (wI (x2+1)) x3 x4 x5 x6 x7 x8 x9 (r2.2) x11)) none) none) none) none) none)) none))) none) none) none) (z (x1,x10)))
def qdA:Option β:=(cond (decide (x2 < (x4.length:Int))) (ck x2 (x4.length:Int) (cond (decide ((↑(List.length (List.getD x4 x2.toNat [])):Int)<=(↑(List.length (List.getD x4 x2.toNat [])):Int))) (cond (decide ((↑(List.length (List.getD x4 x2.toNat [])):Int)<=(↑(nat_lit 2147483648):Int))) (ob (v35 x3 x4 x2) fun r1=>(ck x2 (x4.length:Int) (ck r1 (↑(List.length (List.getD x4 x2.toNat [])):Int) (cond (decide ((↑(List.length (List.getD (List.getD x4 x2.toNat []) r1.toNat [])):Int)≠0)) (ck x0 (x3.length:Int) (ck x0 (x7.length:Int) (cond (decide (x0.toNat < List.length x7)) (cond (decide (List.getD x7 x0.toNat 0≠0)) (ck r1 (↑(List.length (List.replicate (↑(List.length (List.getD x4 x2.toNat [])):Int).toNat (0:Int))):Int) (cond (decide (r1.toNat < List.length (List.replicate (↑(List.length (List.getD x4 x2.toNat [])):Int).toNat (0:Int)))) (ob (gk x0 x1 x2 (List.set (List.replicate (↑(List.length (List.getD x4 x2.toNat [])):Int).toNat 0) r1.toNat (wI (Int.tdiv (wI (wI (wI (Int.tdiv (1000000000:Int) (↑(List.length (List.getD (List.getD x4 x2.toNat []) r1.toNat [])):Int))*List.getD x3 x0.toNat 0)*1000000)) (List.getD x7 x0.toNat 0)))) r1 (↑(List.length (List.getD (List.getD x4 x2.toNat []) r1.toNat [])):Int) x3 x4 x5 x6 x7 x8 x9 x10 x11) fun r2=>(y x0 (r2.1) (wI (x2+1)) x3 x4 x5 x6 x7 x8 x9 (r2.2) x11)) none)) none) none))) none)))) none) none)) (z (x1,x10)))
def jg:=itL (fun _ _ _ _ _ _ _ _ _ _ _ _=>none) fun f=>G6 f some
theorem DW (n:Nat):jg (n+1)=G6 (jg n) some:=rfl
def SM:(Int×LL)->Ex×CS:=fun r=>((.exit 6),⟨[(1,.l 1 0),(2,.l 2 0),(9,.l 9 0),(10,vI r.1),(104,.l 1 1)],[(1,[kd0 x3,kd1 x4]),(2,[.g 0,.g 1,I4 x5]),(9,[.g 2,.g 3,I4 x6])],[rd1 x8,rd0 x9,rd1 r.2,rd0 x11],0,false⟩)
abbrev Dn:CS:=⟨[(1,.l 1 0),(2,.l 2 0),(3,vG 0),(7,vI x0),(9,.l 9 0),(10,vI x1),(11,vI x2)],[(1,[kd0 x3,kd1 x4]),(2,[.g 1,.g 2,I4 x5]),(9,[.g 3,.g 4,I4 x6])],[rd0 x7,rd1 x8,rd0 x9,rd1 x10,rd0 x11],0,false⟩
theorem qfL {k m n:Nat} {r:Int×LL} (h:jg n x0 x1 x2 x3 x4 x5 x6 x7 x8 x9 x10 x11=some r):lE S177 18 6 k (n+m) (Dn x0 x1 x2 x3 x4 x5 x6 x7 x8 x9 x10 x11)=some (SM x3 x4 x5 x6 x8 x9 x11 r):=by
 induction n generalizing x1 x2 x10 with
 |zero=>cases h
 |succ n ih=>
 exact lS (qdA (fun x0 x1 x2 x3 x4 x5 x6 x7 x8 x9 x10 x11=>lE S177 18 6 k (n+m) (Dn x0 x1 x2 x3 x4 x5 x6 x7 x8 x9 x10 x11)) (sm (SM x3 x4 x5 x6 x8 x9 x11)) x0 x1 x2 x3 x4 x5 x6 x7 x8 x9 x10 x11) (by kernel_rfl) (by rw [DW];unfold G6 qdA;with_reducible repeat' first|apply gT ‹_›|apply gF ‹_›|(apply zz<;>intro _)|exact ih _ _ _|exact nX|exact sX) h
end
def S178:=S177.lp 18 6 (Dn 0 0 0 [] [] 0 0 [] [] [] [] []) (fun x0 x1 x2 x3 x4 x5 x6 x7 x8 x9 x10 x11=>some (y1 (jg FU x0 x1 x2 x3 x4 x5 x6 x7 x8 x9 x10 x11) (SM x3 x4 x5 x6 x8 x9 x11))) (by kernel_rfl) fun _=>w1 fun h=>qfL _ _ _ _ _ _ _ _ _ _ _ _ h
section
variable {β:Type} (y:LI->Int->Int->Option β) (z:(Bool ⊕ Unit)->Option β) (x0:LI) (x1 x2:Int)
def J5:Option β:=(cond (decide (x2 < (x0.length:Int))) (cond (decide (0<=x2)) (cond (List.getD x0 x2.toNat 0==x1) (z (.inl (true))) (y x0 x1 (wI (x2+1)))) none) (z (.inr ())))
def qee:Option β:=(cond (decide (x2 < (x0.length:Int))) (ck x2 (x0.length:Int) (cond (List.getD x0 x2.toNat 0==x1) (z (.inl (true))) (y x0 x1 (wI (x2+1))))) (z (.inr ())))
def j4:=itL (fun _ _ _=>none) fun f=>J5 f some
theorem qa3 (n:Nat):j4 (n+1)=J5 (j4 n) some:=rfl
def qbP:(Bool ⊕ Unit)->Ex×CS:=Sum.elim (fun r=>(.ret,⟨[(4,vB r)],[],[],0,true⟩)) fun r=>((.exit 0),⟨[],[],[],0,false⟩)
abbrev qag:CS:=⟨[(0,vd0 x0),(1,vI x1),(5,vI x2)],[],[],0,false⟩
theorem qhq {k m n:Nat} {r:Bool ⊕ Unit} (h:j4 n x0 x1 x2=some r):lE S178 37 0 k (n+m) (qag x0 x1 x2)=some (qbP r):=by
 induction n generalizing x2 with
 |zero=>cases h
 |succ n ih=>
 exact lS (qee (fun x0 x1 x2=>lE S178 37 0 k (n+m) (qag x0 x1 x2)) (sm qbP) x0 x1 x2) (by kernel_rfl) (by rw [qa3];unfold J5 qee;with_reducible repeat' first|apply gT ‹_›|apply gF ‹_›|(apply zz<;>intro _)|exact ih _|exact nX|exact sX) h
end
def S179:=S178.lp 37 0 (qag [] 0 0) (fun x0 x1 x2=>some (y2 (j4 FU x0 x1 x2) qbP)) (by kernel_rfl) fun _=>w2 fun h=>qhq _ _ _ h
section
variable {β:Type} (z:Bool->Option β) (x0:LI) (x1:Int)
def tv37:Option β:=(cond (isL (j4 FU x0 x1 0)) (z (zx (j4 FU x0 x1 0))) (ob (zB (j4 FU x0 x1 0)) fun _=>(z false)))
def v37:=tv37 some x0 x1
abbrev aF37:List TA:=[.sc (kd0 x0),.sc (I4 x1)]
abbrev rF37:Bool->List TA×List TO:=fun r=>([.sc (.bool r)],[])
theorem ev37:fE S179 37 (aF37 x0 x1) []=(v37 x0 x1).bind (sm rF37):=zE (fun z=>tv37 z x0 x1) (by kernel_rfl) fun K=>by unfold v37 tv37;with_reducible repeat' first|apply zc|exact nB|exact sB
end
def S180:=S179.fn 37 (aF37 [] 0) [] (fun x0 x1=>some (y1 (v37 x0 x1) rF37)) rfl fun _=>w1 fun h=>(ev37 ..).trans (bD h)
section
variable {β:Type} (y:Int->Int->Int->Int->Int->LI->L3->Int->Int->LL->LI->LL->LI->Option β) (z:Int->Option β) (x0 x1 x2 x3 x4:Int) (x5:LI) (x6:L3) (x7 x8:Int) (x9:LL) (x10:LI) (x11:LL) (x12:LI)
def G8:Option β:=(ck x3 (x6.length:Int) (cond (decide (x4 < (↑(List.length (List.getD x6 x3.toNat [])):Int))) (cond (decide (0<=x4)) (ob (v37 (List.getD (List.getD x6 x3.toNat []) x4.toNat []) x1) fun r1=>(cond r1 (y x0 x1 x0 x3 (wI (x4+1)) x5 x6 x7 x8 x9 x10 x11 x12) (y x0 x1 x2 x3 (wI (x4+1)) x5 x6 x7 x8 x9 x10 x11 x12))) none) (z x2)))
def qdC:Option β:=(ck x3 (x6.length:Int) (cond (decide (x4 < (↑(List.length (List.getD x6 x3.toNat [])):Int))) (ck x3 (x6.length:Int) (ck x4 (↑(List.length (List.getD x6 x3.toNat [])):Int) (ob (v37 (List.getD (List.getD x6 x3.toNat []) x4.toNat []) x1) fun r1=>(cond r1 (y x0 x1 x0 x3 (wI (x4+1)) x5 x6 x7 x8 x9 x10 x11 x12) (y x0 x1 x2 x3 (wI (x4+1)) x5 x6 x7 x8 x9 x10 x11 x12))))) (z x2)))
def ji:=itL (fun _ _ _ _ _ _ _ _ _ _ _ _ _=>none) fun f=>G8 f some
theorem DZ (n:Nat):ji (n+1)=G8 (ji n) some:=rfl
def SP:Int->Ex×CS:=fun r=>((.exit 12),⟨[(1,.l 1 0),(2,.l 2 0),(9,.l 9 0),(10,vI x0),(15,vI x1),(16,vI r),(17,vI x3),(184,.l 1 1)],[(1,[kd0 x5,kd1 x6]),(2,[.g 0,.g 1,I4 x7]),(9,[.g 2,.g 3,I4 x8])],[rd1 x9,rd0 x10,rd1 x11,rd0 x12],0,false⟩)
abbrev Dq:CS:=⟨[(1,.l 1 0),(2,.l 2 0),(9,.l 9 0),(10,vI x0),(15,vI x1),(16,vI x2),(17,vI x3),(18,vI x4)],[(1,[kd0 x5,kd1 x6]),(2,[.g 0,.g 1,I4 x7]),(9,[.g 2,.g 3,I4 x8])],[rd1 x9,rd0 x10,rd1 x11,rd0 x12],0,false⟩
theorem qfO {k m n:Nat} {r:Int} (h:ji n x0 x1 x2 x3 x4 x5 x6 x7 x8 x9 x10 x11 x12=some r):lE S180 18 12 k (n+m) (Dq x0 x1 x2 x3 x4 x5 x6 x7 x8 x9 x10 x11 x12)=some (SP x0 x1 x3 x5 x6 x7 x8 x9 x10 x11 x12 r):=by
 induction n generalizing x2 x4 with
 |zero=>cases h
 |succ n ih=>
 exact lS (qdC (fun x0 x1 x2 x3 x4 x5 x6 x7 x8 x9 x10 x11 x12=>lE S180 18 12 k (n+m) (Dq x0 x1 x2 x3 x4 x5 x6 x7 x8 x9 x10 x11 x12)) (sm (SP x0 x1 x3 x5 x6 x7 x8 x9 x10 x11 x12)) x0 x1 x2 x3 x4 x5 x6 x7 x8 x9 x10 x11 x12) (by kernel_rfl) (by rw [DZ];unfold G8 qdC;with_reducible repeat' first|apply gT ‹_›|apply gF ‹_›|(apply zz<;>intro _)|exact ih _ _|exact nX|exact sX) h
end
def S181:=S180.lp 18 12 (Dq 0 0 0 0 0 [] [] 0 0 [] [] [] []) (fun x0 x1 x2 x3 x4 x5 x6 x7 x8 x9 x10 x11 x12=>some (y1 (ji FU x0 x1 x2 x3 x4 x5 x6 x7 x8 x9 x10 x11 x12) (SP x0 x1 x3 x5 x6 x7 x8 x9 x10 x11 x12))) (by kernel_rfl) fun _=>w1 fun h=>qfO _ _ _ _ _ _ _ _ _ _ _ _ _ h
section
variable {β:Type} (y:Int->Int->Int->Int->LI->L3->Int->Int->LL->LI->LL->LI->Option β) (z:Int->Option β) (x0 x1 x2 x3:Int) (x4:LI) (x5:L3) (x6 x7:Int) (x8:LL) (x9:LI) (x10:LL) (x11:LI)
def gO:Option β:=(cond (decide (x3 < (x5.length:Int))) (ob (ji FU x0 x1 x2 x3 0 x4 x5 x6 x7 x8 x9 x10 x11) fun r1=>(y x0 x1 r1 (wI (x3+1)) x4 x5 x6 x7 x8 x9 x10 x11)) (z x2))
def qU:=itL (fun _ _ _ _ _ _ _ _ _ _ _ _=>none) fun f=>gO f some
theorem DY (n:Nat):qU (n+1)=gO (qU n) some:=rfl
def SO:Int->Ex×CS:=fun r=>((.exit 10),⟨[(1,.l 1 0),(2,.l 2 0),(9,.l 9 0),(10,vI x0),(15,vI x1),(16,vI r),(177,.l 1 1)],[(1,[kd0 x4,kd1 x5]),(2,[.g 0,.g 1,I4 x6]),(9,[.g 2,.g 3,I4 x7])],[rd1 x8,rd0 x9,rd1 x10,rd0 x11],0,false⟩)
abbrev Dp:CS:=⟨[(1,.l 1 0),(2,.l 2 0),(9,.l 9 0),(10,vI x0),(15,vI x1),(16,vI x2),(17,vI x3)],[(1,[kd0 x4,kd1 x5]),(2,[.g 0,.g 1,I4 x6]),(9,[.g 2,.g 3,I4 x7])],[rd1 x8,rd0 x9,rd1 x10,rd0 x11],0,false⟩
theorem qfN {k m n:Nat} {r:Int} (h:qU n x0 x1 x2 x3 x4 x5 x6 x7 x8 x9 x10 x11=some r):lE S181 18 10 k (n+m) (Dp x0 x1 x2 x3 x4 x5 x6 x7 x8 x9 x10 x11)=some (SO x0 x1 x4 x5 x6 x7 x8 x9 x10 x11 r):=by
 induction n generalizing x2 x3 with
 |zero=>cases h
 |succ n ih=>
 exact lS (gO (fun x0 x1 x2 x3 x4 x5 x6 x7 x8 x9 x10 x11=>lE S181 18 10 k (n+m) (Dp x0 x1 x2 x3 x4 x5 x6 x7 x8 x9 x10 x11)) (sm (SO x0 x1 x4 x5 x6 x7 x8 x9 x10 x11)) x0 x1 x2 x3 x4 x5 x6 x7 x8 x9 x10 x11) (by kernel_rfl) (by rw [DY];unfold gO;with_reducible repeat' first|apply zd|exact ih _ _|exact nX|exact sX) h
end
def S182:=S181.lp 18 10 (Dp 0 0 0 0 [] [] 0 0 [] [] [] []) (fun x0 x1 x2 x3 x4 x5 x6 x7 x8 x9 x10 x11=>some (y1 (qU FU x0 x1 x2 x3 x4 x5 x6 x7 x8 x9 x10 x11) (SO x0 x1 x4 x5 x6 x7 x8 x9 x10 x11))) (by kernel_rfl) fun _=>w1 fun h=>qfN _ _ _ _ _ _ _ _ _ _ _ _ h
section
variable {β:Type} (y:Int->Int->LI->L3->Int->Int->LL->LI->LL->LI->Option β) (z:LI->Option β) (x0 x1:Int) (x2:LI) (x3:L3) (x4 x5:Int) (x6:LL) (x7:LI) (x8:LL) (x9:LI)
def G7:Option β:=(cond (decide (x1 < (x2.length:Int))) (ob (qU FU x0 x1 0 0 x2 x3 x4 x5 x6 x7 x8 x9) fun r1=>(cond (decide (0<=x1)) (cond (List.getD x2 x1.toNat 0==0) (cond (decide (List.length x9+List.length [(1000000000000:Int)]<=nat_lit 2147483648)) (y x0 (wI (x1+1)) x2 x3 x4 x5 x6 x7 x8 (x9++[(1000000000000:Int)])) none) (cond (decide (List.length x9+List.length [r1]<=nat_lit 2147483648)) (y x0 (wI (x1+1)) x2 x3 x4 x5 x6 x7 x8 (x9++[r1])) none)) none)) (z x9))
def qdB:Option β:=(cond (decide (x1 < (x2.length:Int))) (ob (qU FU x0 x1 0 0 x2 x3 x4 x5 x6 x7 x8 x9) fun r1=>(ck x1 (x2.length:Int) (cond (List.getD x2 x1.toNat 0==0) (cond (decide (List.length x9+List.length [(1000000000000:Int)]<=nat_lit 2147483648)) (y x0 (wI (x1+1)) x2 x3 x4 x5 x6 x7 x8 (x9++[(1000000000000:Int)])) none) (cond (decide (List.length x9+List.length [r1]<=nat_lit 2147483648)) (y x0 (wI (x1+1)) x2 x3 x4 x5 x6 x7 x8 (x9++[r1])) none)))) (z x9))
def jh:=itL (fun _ _ _ _ _ _ _ _ _ _=>none) fun f=>G7 f some
theorem DX (n:Nat):jh (n+1)=G7 (jh n) some:=rfl
def SN:LI->Ex×CS:=fun r=>((.exit 8),⟨[(1,.l 1 0),(2,.l 2 0),(9,.l 9 0),(170,.l 1 0)],[(1,[kd0 x2,kd1 x3]),(2,[.g 0,.g 1,I4 x4]),(9,[.g 2,.g 3,I4 x5])],[rd1 x6,rd0 x7,rd1 x8,rd0 r],0,false⟩)
abbrev Do:CS:=⟨[(1,.l 1 0),(2,.l 2 0),(9,.l 9 0),(10,vI x0),(15,vI x1)],[(1,[kd0 x2,kd1 x3]),(2,[.g 0,.g 1,I4 x4]),(9,[.g 2,.g 3,I4 x5])],[rd1 x6,rd0 x7,rd1 x8,rd0 x9],0,false⟩
theorem qfM {k m n:Nat} {r:LI} (h:jh n x0 x1 x2 x3 x4 x5 x6 x7 x8 x9=some r):lE S182 18 8 k (n+m) (Do x0 x1 x2 x3 x4 x5 x6 x7 x8 x9)=some (SN x2 x3 x4 x5 x6 x7 x8 r):=by
 induction n generalizing x1 x9 with
 |zero=>cases h
 |succ n ih=>
 exact lS (qdB (fun x0 x1 x2 x3 x4 x5 x6 x7 x8 x9=>lE S182 18 8 k (n+m) (Do x0 x1 x2 x3 x4 x5 x6 x7 x8 x9)) (sm (SN x2 x3 x4 x5 x6 x7 x8)) x0 x1 x2 x3 x4 x5 x6 x7 x8 x9) (by kernel_rfl) (by rw [DX];unfold G7 qdB;with_reducible repeat' first|apply gT ‹_›|apply gF ‹_›|(apply zz<;>intro _)|exact ih _ _|exact nX|exact sX) h
end
def S183:=S182.lp 18 8 (Do 0 0 [] [] 0 0 [] [] [] []) (fun x0 x1 x2 x3 x4 x5 x6 x7 x8 x9=>some (y1 (jh FU x0 x1 x2 x3 x4 x5 x6 x7 x8 x9) (SN x2 x3 x4 x5 x6 x7 x8))) (by kernel_rfl) fun _=>w1 fun h=>qfM _ _ _ _ _ _ _ _ _ _ h
section
variable {β:Type} (y:LL->Int->Int->LI->L3->Option β) (z:(Bool ⊕ Unit)->Option β) (x0:LL) (x1 x2:Int) (x3:LI) (x4:L3)
def G9:Option β:=(ck x1 (x0.length:Int) (cond (decide (x2 < (↑(List.length (List.getD x0 x1.toNat [])):Int))) (cond (decide (0<=x2)) (cond (decide (List.getD (List.getD x0 x1.toNat []) x2.toNat 0 < 0)) (z (.inl (false))) (cond (decide (List.getD (List.getD x0 x1.toNat []) x2.toNat 0 > (1000000000:Int))) (z (.inl (false))) (y x0 x1 (wI (x2+1)) x3 x4))) none) (z (.inr ()))))
def qdD:Option β:=(ck x1 (x0.length:Int) (cond (decide (x2 < (↑(List.length (List.getD x0 x1.toNat [])):Int))) (ck x1 (x0.length:Int) (ck x2 (↑(List.length (List.getD x0 x1.toNat [])):Int) (cond (decide (List.getD (List.getD x0 x1.toNat []) x2.toNat 0 < 0)) (z (.inl (false))) (ck x1 (x0.length:Int) (ck x2 (↑(List.length (List.getD x0 x1.toNat [])):Int) (cond (decide (List.getD (List.getD x0 x1.toNat []) x2.toNat 0 > (1000000000:Int))) (z (.inl (false))) (y x0 x1 (wI (x2+1)) x3 x4))))))) (z (.inr ()))))
def qI:=itL (fun _ _ _ _ _=>none) fun f=>G9 f some
theorem D0 (n:Nat):qI (n+1)=G9 (qI n) some:=rfl
def SQ:(Bool ⊕ Unit)->Ex×CS:=Sum.elim (fun r=>(.ret,⟨[(4,vB r)],[],[],0,true⟩)) fun r=>((.exit 2),⟨[(1,vd1 x0),(2,.l 2 0),(5,vI x1)],[(2,[kd0 x3,kd1 x4])],[],0,false⟩)
abbrev Dr:CS:=⟨[(1,vd1 x0),(2,.l 2 0),(5,vI x1),(6,vI x2)],[(2,[kd0 x3,kd1 x4])],[],0,false⟩
theorem qfP {k m n:Nat} {r:Bool ⊕ Unit} (h:qI n x0 x1 x2 x3 x4=some r):lE S183 19 2 k (n+m) (Dr x0 x1 x2 x3 x4)=some (SQ x0 x1 x3 x4 r):=by
 induction n generalizing x2 with
 |zero=>cases h
 |succ n ih=>
 exact lS (qdD (fun x0 x1 x2 x3 x4=>lE S183 19 2 k (n+m) (Dr x0 x1 x2 x3 x4)) (sm (SQ x0 x1 x3 x4)) x0 x1 x2 x3 x4) (by kernel_rfl) (by rw [D0];unfold G9 qdD;with_reducible repeat' first|apply gT ‹_›|apply gF ‹_›|(apply zz<;>intro _)|exact ih _|exact nX|exact sX) h
end
def S184:=S183.lp 19 2 (Dr [] 0 0 [] []) (fun x0 x1 x2 x3 x4=>some (y2 (qI FU x0 x1 x2 x3 x4) (SQ x0 x1 x3 x4))) (by kernel_rfl) fun _=>w2 fun h=>qfP _ _ _ _ _ h
section
variable {β:Type} (y:LL->Int->LI->L3->Option β) (z:(Bool ⊕ Unit)->Option β) (x0:LL) (x1:Int) (x2:LI) (x3:L3)
def JS:Option β:=(cond (decide (x1 < (x0.length:Int))) (ck x1 (x3.length:Int) (cond ((↑(List.length (List.getD x0 x1.toNat [])):Int) != (↑(List.length (List.getD x3 x1.toNat [])):Int)) (z (.inl (false))) (cond (isL (qI FU x0 x1 0 x2 x3)) (z (.inl (zx (qI FU x0 x1 0 x2 x3)))) (ob (zB (qI FU x0 x1 0 x2 x3)) fun _=>(y x0 (wI (x1+1)) x2 x3))))) (z (.inr ())))
def qd5:Option β:=(cond (decide (x1 < (x0.length:Int))) (ck x1 (x0.length:Int) (ck x1 (x3.length:Int) (cond ((↑(List.length (List.getD x0 x1.toNat [])):Int) != (↑(List.length (List.getD x3 x1.toNat [])):Int)) (z (.inl (false))) (cond (isL (qI FU x0 x1 0 x2 x3)) (z (.inl (zx (qI FU x0 x1 0 x2 x3)))) (ob (zB (qI FU x0 x1 0 x2 x3)) fun _=>(y x0 (wI (x1+1)) x2 x3)))))) (z (.inr ())))
def jy:=itL (fun _ _ _ _=>none) fun f=>JS f some
theorem qaN (n:Nat):jy (n+1)=JS (jy n) some:=rfl
def qby:(Bool ⊕ Unit)->Ex×CS:=Sum.elim (fun r=>(.ret,⟨[(4,vB r)],[],[],0,true⟩)) fun r=>((.exit 0),⟨[(2,.l 2 0)],[],[],0,false⟩)
abbrev HU:CS:=⟨[(1,vd1 x0),(2,.l 2 0),(5,vI x1)],[(2,[kd0 x2,kd1 x3])],[],0,false⟩
theorem qg9 {k m n:Nat} {r:Bool ⊕ Unit} (h:jy n x0 x1 x2 x3=some r):lE S184 19 0 k (n+m) (HU x0 x1 x2 x3)=some (qby r):=by
 induction n generalizing x1 with
 |zero=>cases h
 |succ n ih=>
 exact lS (qd5 (fun x0 x1 x2 x3=>lE S184 19 0 k (n+m) (HU x0 x1 x2 x3)) (sm qby) x0 x1 x2 x3) (by kernel_rfl) (by rw [qaN];unfold JS qd5;with_reducible repeat' first|apply gT ‹_›|apply gF ‹_›|(apply zz<;>intro _)|exact ih _|exact nX|exact sX) h
end
def S185:=S184.lp 19 0 (HU [] 0 [] []) (fun x0 x1 x2 x3=>some (y2 (jy FU x0 x1 x2 x3) qby)) (by kernel_rfl) fun _=>w2 fun h=>qg9 _ _ _ _ h
section
variable {β:Type} (z:Bool->Option β) (x0:LI) (x1:L3) (x2:LL)
def tv19:Option β:=(cond ((x2.length:Int) != (x1.length:Int)) (z false) (cond (isL (jy FU x2 0 x0 x1)) (z (zx (jy FU x2 0 x0 x1))) (ob (zB (jy FU x2 0 x0 x1)) fun _=>(z true))))
def v19:=tv19 some x0 x1 x2
abbrev aF19:List TA:=[.agg [kd0 x0,kd1 x1],.sc (kd2 x2)]
abbrev rF19:Bool->List TA×List TO:=fun r=>([.sc (.bool r)],[])
theorem ev19:fE S185 19 (aF19 x0 x1 x2) []=(v19 x0 x1 x2).bind (sm rF19):=zE (fun z=>tv19 z x0 x1 x2) (by kernel_rfl) fun K=>by unfold v19 tv19;with_reducible repeat' first|apply zc|exact nB|exact sB
end
def S186:=S185.fn 19 (aF19 [] [] []) [] (fun x0 x1 x2=>some (y1 (v19 x0 x1 x2) rF19)) rfl fun _=>w1 fun h=>(ev19 ..).trans (bD h)
section
variable {β:Type} (y:LI->Int->LI->L3->Option β) (z:(Bool ⊕ Unit)->Option β) (x0:LI) (x1:Int) (x2:LI) (x3:L3)
def JX:Option β:=(cond (decide (x1 < (x0.length:Int))) (cond (decide (0<=x1)) (cond (decide (List.getD x0 x1.toNat 0 < 0)) (z (.inl (false))) (cond (decide (List.getD x0 x1.toNat 0 > (1000000000000:Int))) (z (.inl (false))) (y x0 (wI (x1+1)) x2 x3))) none) (z (.inr ())))
def qea:Option β:=(cond (decide (x1 < (x0.length:Int))) (ck x1 (x0.length:Int) (cond (decide (List.getD x0 x1.toNat 0 < 0)) (z (.inl (false))) (ck x1 (x0.length:Int) (cond (decide (List.getD x0 x1.toNat 0 > (1000000000000:Int))) (z (.inl (false))) (y x0 (wI (x1+1)) x2 x3))))) (z (.inr ())))
def jB:=itL (fun _ _ _ _=>none) fun f=>JX f some
theorem qaT (n:Nat):jB (n+1)=JX (jB n) some:=rfl
def qbE:(Bool ⊕ Unit)->Ex×CS:=Sum.elim (fun r=>(.ret,⟨[(4,vB r)],[],[],0,true⟩)) fun r=>((.exit 0),⟨[(1,vd0 x0),(2,.l 2 0)],[(2,[kd0 x2,kd1 x3])],[],0,false⟩)
abbrev H5:CS:=⟨[(1,vd0 x0),(2,.l 2 0),(5,vI x1)],[(2,[kd0 x2,kd1 x3])],[],0,false⟩
theorem qhf {k m n:Nat} {r:Bool ⊕ Unit} (h:jB n x0 x1 x2 x3=some r):lE S186 30 0 k (n+m) (H5 x0 x1 x2 x3)=some (qbE x0 x2 x3 r):=by
 induction n generalizing x1 with
 |zero=>cases h
 |succ n ih=>
 exact lS (qea (fun x0 x1 x2 x3=>lE S186 30 0 k (n+m) (H5 x0 x1 x2 x3)) (sm (qbE x0 x2 x3)) x0 x1 x2 x3) (by kernel_rfl) (by rw [qaT];unfold JX qea;with_reducible repeat' first|apply gT ‹_›|apply gF ‹_›|(apply zz<;>intro _)|exact ih _|exact nX|exact sX) h
end
def S187:=S186.lp 30 0 (H5 [] 0 [] []) (fun x0 x1 x2 x3=>some (y2 (jB FU x0 x1 x2 x3) (qbE x0 x2 x3))) (by kernel_rfl) fun _=>w2 fun h=>qhf _ _ _ _ h
section
variable {β:Type} (z:Bool->Option β) (x0:LI) (x1:L3) (x2:LI)
def tv30:Option β:=(cond (isL (jB FU x2 0 x0 x1)) (z (zx (jB FU x2 0 x0 x1))) (ob (zB (jB FU x2 0 x0 x1)) fun _=>(z ((x2.length:Int)==(x0.length:Int)))))
def v30:=tv30 some x0 x1 x2
abbrev aF30:List TA:=[.agg [kd0 x0,kd1 x1],.sc (kd0 x2)]
abbrev rF30:Bool->List TA×List TO:=fun r=>([.sc (.bool r)],[])
theorem ev30:fE S187 30 (aF30 x0 x1 x2) []=(v30 x0 x1 x2).bind (sm rF30):=zE (fun z=>tv30 z x0 x1 x2) (by kernel_rfl) fun K=>by unfold v30 tv30;with_reducible repeat' first|apply zc|exact nB|exact sB
end
def S188:=S187.fn 30 (aF30 [] [] []) [] (fun x0 x1 x2=>some (y1 (v30 x0 x1 x2) rF30)) rfl fun _=>w1 fun h=>(ev30 ..).trans (bD h)
section
variable {β:Type} (y:LL->Int->Int->Int->Int->LI->L3->Option β) (z:Int->Option β) (x0:LL) (x1 x2 x3 x4:Int) (x5:LI) (x6:L3)
def Je:Option β:=(ck x3 (x6.length:Int) (cond (decide (x4 < (↑(List.length (List.getD x6 x3.toNat [])):Int))) (cond (decide (0<=x4)) (ob (v37 (List.getD (List.getD x6 x3.toNat []) x4.toNat []) x1) fun r1=>(cond r1 (cond (decide (x3 < (x0.length:Int))) (cond (decide (x4 < (↑(List.length (List.getD x0 x3.toNat [])):Int))) (y x0 x1 (wI (x2+List.getD (List.getD x0 x3.toNat []) x4.toNat 0)) x3 (wI (x4+1)) x5 x6) none) none) (y x0 x1 x2 x3 (wI (x4+1)) x5 x6))) none) (z x2)))
def qdI:Option β:=(ck x3 (x6.length:Int) (cond (decide (x4 < (↑(List.length (List.getD x6 x3.toNat [])):Int))) (ck x3 (x6.length:Int) (ck x4 (↑(List.length (List.getD x6 x3.toNat [])):Int) (ob (v37 (List.getD (List.getD x6 x3.toNat []) x4.toNat []) x1) fun r1=>(cond r1 (ck x3 (x0.length:Int) (ck x4 (↑(List.length (List.getD x0 x3.toNat [])):Int) (y x0 x1 (wI (x2+List.getD (List.getD x0 x3.toNat []) x4.toNat 0)) x3 (wI (x4+1)) x5 x6))) (y x0 x1 x2 x3 (wI (x4+1)) x5 x6))))) (z x2)))
def jp:=itL (fun _ _ _ _ _ _ _=>none) fun f=>Je f some
theorem Sa (n:Nat):jp (n+1)=Je (jp n) some:=rfl
def Hf:Int->Ex×CS:=fun r=>((.exit 2),⟨[(1,vd1 x0),(2,vI x1),(3,.l 3 0),(7,vI r),(8,vI x3),(18,.l 3 1)],[(3,[kd0 x5,kd1 x6])],[],0,false⟩)
abbrev DB:CS:=⟨[(1,vd1 x0),(2,vI x1),(3,.l 3 0),(7,vI x2),(8,vI x3),(9,vI x4)],[(3,[kd0 x5,kd1 x6])],[],0,false⟩
theorem qf2 {k m n:Nat} {r:Int} (h:jp n x0 x1 x2 x3 x4 x5 x6=some r):lE S188 39 2 k (n+m) (DB x0 x1 x2 x3 x4 x5 x6)=some (Hf x0 x1 x3 x5 x6 r):=by
 induction n generalizing x2 x4 with
 |zero=>cases h
 |succ n ih=>
 exact lS (qdI (fun x0 x1 x2 x3 x4 x5 x6=>lE S188 39 2 k (n+m) (DB x0 x1 x2 x3 x4 x5 x6)) (sm (Hf x0 x1 x3 x5 x6)) x0 x1 x2 x3 x4 x5 x6) (by kernel_rfl) (by rw [Sa];unfold Je qdI;with_reducible repeat' first|apply gT ‹_›|apply gF ‹_›|(apply zz<;>intro _)|exact ih _ _|exact nX|exact sX) h
end
def S189:=S188.lp 39 2 (DB [] 0 0 0 0 [] []) (fun x0 x1 x2 x3 x4 x5 x6=>some (y1 (jp FU x0 x1 x2 x3 x4 x5 x6) (Hf x0 x1 x3 x5 x6))) (by kernel_rfl) fun _=>w1 fun h=>qf2 _ _ _ _ _ _ _ h
section
variable {β:Type} (y:LL->Int->Int->Int->LI->L3->Option β) (z:Int->Option β) (x0:LL) (x1 x2 x3:Int) (x4:LI) (x5:L3)
def Gy:Option β:=(cond (decide (x3 < (x5.length:Int))) (ob (jp FU x0 x1 x2 x3 0 x4 x5) fun r1=>(y x0 x1 r1 (wI (x3+1)) x4 x5)) (z x2))
def j5:=itL (fun _ _ _ _ _ _=>none) fun f=>Gy f some
theorem qa4 (n:Nat):j5 (n+1)=Gy (j5 n) some:=rfl
def qbQ:Int->Ex×CS:=fun r=>((.exit 0),⟨[(3,.l 3 0),(7,vI r),(11,.l 3 1)],[],[],0,false⟩)
abbrev qah:CS:=⟨[(1,vd1 x0),(2,vI x1),(3,.l 3 0),(7,vI x2),(8,vI x3)],[(3,[kd0 x4,kd1 x5])],[],0,false⟩
theorem qhr {k m n:Nat} {r:Int} (h:j5 n x0 x1 x2 x3 x4 x5=some r):lE S189 39 0 k (n+m) (qah x0 x1 x2 x3 x4 x5)=some (qbQ r):=by
 induction n generalizing x2 x3 with
 |zero=>cases h
 |succ n ih=>
 exact lS (Gy (fun x0 x1 x2 x3 x4 x5=>lE S189 39 0 k (n+m) (qah x0 x1 x2 x3 x4 x5)) (sm qbQ) x0 x1 x2 x3 x4 x5) (by kernel_rfl) (by rw [qa4];unfold Gy;with_reducible repeat' first|apply zd|exact ih _ _|exact nX|exact sX) h
end
def S190:=S189.lp 39 0 (qah [] 0 0 0 [] []) (fun x0 x1 x2 x3 x4 x5=>some (y1 (j5 FU x0 x1 x2 x3 x4 x5) qbQ)) (by kernel_rfl) fun _=>w1 fun h=>qhr _ _ _ _ _ _ h
section
variable {β:Type} (z:Int->Option β) (x0:LI) (x1:L3) (x2:LL) (x3:Int)
def tv39:Option β:=(ob (j5 FU x2 x3 0 0 x0 x1) fun r1=>(z r1))
def v39:=tv39 some x0 x1 x2 x3
abbrev aF39:List TA:=[.agg [kd0 x0,kd1 x1],.sc (kd2 x2),.sc (I4 x3)]
abbrev rF39:Int->List TA×List TO:=fun r=>([.sc (I4 r)],[])
theorem ev39:fE S190 39 (aF39 x0 x1 x2 x3) []=(v39 x0 x1 x2 x3).bind (sm rF39):=zE (fun z=>tv39 z x0 x1 x2 x3) (by kernel_rfl) fun K=>by unfold v39 tv39;with_reducible repeat' first|apply zc|exact nB|exact sB
end
def S191:=S190.fn 39 (aF39 [] [] [] 0) [] (fun x0 x1 x2 x3=>some (y1 (v39 x0 x1 x2 x3) rF39)) rfl fun _=>w1 fun h=>(ev39 ..).trans (bD h)
section
variable {β:Type} (y:LL->Int->LI->L3->Option β) (z:(Bool ⊕ Unit)->Option β) (x0:LL) (x1:Int) (x2:LI) (x3:L3)
def JT:Option β:=(cond (decide (x1 < (x2.length:Int))) (ob (v39 x2 x3 x0 x1) fun r1=>(cond (decide (0<=x1)) (cond (decide (r1 > wI ((1000000:Int)*List.getD x2 x1.toNat 0))) (z (.inl (false))) (y x0 (wI (x1+1)) x2 x3)) none)) (z (.inr ())))
def qd6:Option β:=(cond (decide (x1 < (x2.length:Int))) (ob (v39 x2 x3 x0 x1) fun r1=>(ck x1 (x2.length:Int) (cond (decide (r1 > wI ((1000000:Int)*List.getD x2 x1.toNat 0))) (z (.inl (false))) (y x0 (wI (x1+1)) x2 x3)))) (z (.inr ())))
def jz:=itL (fun _ _ _ _=>none) fun f=>JT f some
theorem qaO (n:Nat):jz (n+1)=JT (jz n) some:=rfl
def qbz:(Bool ⊕ Unit)->Ex×CS:=Sum.elim (fun r=>(.ret,⟨[(4,vB r)],[],[],0,true⟩)) fun r=>((.exit 0),⟨[(2,.l 2 0),(7,.l 2 0)],[],[],0,false⟩)
abbrev HV:CS:=⟨[(1,vd1 x0),(2,.l 2 0),(5,vI x1)],[(2,[kd0 x2,kd1 x3])],[],0,false⟩
theorem qha {k m n:Nat} {r:Bool ⊕ Unit} (h:jz n x0 x1 x2 x3=some r):lE S191 20 0 k (n+m) (HV x0 x1 x2 x3)=some (qbz r):=by
 induction n generalizing x1 with
 |zero=>cases h
 |succ n ih=>
 exact lS (qd6 (fun x0 x1 x2 x3=>lE S191 20 0 k (n+m) (HV x0 x1 x2 x3)) (sm qbz) x0 x1 x2 x3) (by kernel_rfl) (by rw [qaO];unfold JT qd6;with_reducible repeat' first|apply gT ‹_›|apply gF ‹_›|(apply zz<;>intro _)|exact ih _|exact nX|exact sX) h
end
def S192:=S191.lp 20 0 (HV [] 0 [] []) (fun x0 x1 x2 x3=>some (y2 (jz FU x0 x1 x2 x3) qbz)) (by kernel_rfl) fun _=>w2 fun h=>qha _ _ _ _ h
section
variable {β:Type} (z:Bool->Option β) (x0:LI) (x1:L3) (x2:LL)
def tv20:Option β:=(cond (isL (jz FU x2 0 x0 x1)) (z (zx (jz FU x2 0 x0 x1))) (ob (zB (jz FU x2 0 x0 x1)) fun _=>(z true)))
def v20:=tv20 some x0 x1 x2
abbrev aF20:List TA:=[.agg [kd0 x0,kd1 x1],.sc (kd2 x2)]
abbrev rF20:Bool->List TA×List TO:=fun r=>([.sc (.bool r)],[])
theorem ev20:fE S192 20 (aF20 x0 x1 x2) []=(v20 x0 x1 x2).bind (sm rF20):=zE (fun z=>tv20 z x0 x1 x2) (by kernel_rfl) fun K=>by unfold v20 tv20;with_reducible repeat' first|apply zc|exact nB|exact sB
end
def S193:=S192.fn 20 (aF20 [] [] []) [] (fun x0 x1 x2=>some (y1 (v20 x0 x1 x2) rF20)) rfl fun _=>w1 fun h=>(ev20 ..).trans (bD h)
section
variable {β:Type} (y:LI->Int->Int->Option β) (z:Int->Option β) (x0:LI) (x1 x2:Int)
def JU:Option β:=(cond (decide (x2 < (x0.length:Int))) (cond (decide (0<=x2)) (y x0 (wI (x1+List.getD x0 x2.toNat 0)) (wI (x2+1))) none) (z x1))
def qd7:Option β:=(cond (decide (x2 < (x0.length:Int))) (ck x2 (x0.length:Int) (y x0 (wI (x1+List.getD x0 x2.toNat 0)) (wI (x2+1)))) (z x1))
def jP:=itL (fun _ _ _=>none) fun f=>JU f some
theorem qaP (n:Nat):jP (n+1)=JU (jP n) some:=rfl
def qbA:Int->Ex×CS:=fun r=>((.exit 0),⟨[(3,vI r)],[],[],0,false⟩)
abbrev HW:CS:=⟨[(0,vd0 x0),(3,vI x1),(4,vI x2)],[],[],0,false⟩
theorem qhb {k m n:Nat} {r:Int} (h:jP n x0 x1 x2=some r):lE S193 21 0 k (n+m) (HW x0 x1 x2)=some (qbA r):=by
 induction n generalizing x1 x2 with
 |zero=>cases h
 |succ n ih=>
 exact lS (qd7 (fun x0 x1 x2=>lE S193 21 0 k (n+m) (HW x0 x1 x2)) (sm qbA) x0 x1 x2) (by kernel_rfl) (by rw [qaP];unfold JU qd7;with_reducible repeat' first|apply gT ‹_›|apply gF ‹_›|(apply zz<;>intro _)|exact ih _ _|exact nX|exact sX) h
end
def S194:=S193.lp 21 0 (HW [] 0 0) (fun x0 x1 x2=>some (y1 (jP FU x0 x1 x2) qbA)) (by kernel_rfl) fun _=>w1 fun h=>qhb _ _ _ h
section
variable {β:Type} (z:Int->Option β) (x0:LI)
def tv21:Option β:=(ob (jP FU x0 0 0) fun r1=>(z r1))
def v21:=tv21 some x0
abbrev aF21:List TA:=[.sc (kd0 x0)]
abbrev rF21:Int->List TA×List TO:=fun r=>([.sc (I4 r)],[])
theorem ev21:fE S194 21 (aF21 x0) []=(v21 x0).bind (sm rF21):=zE (fun z=>tv21 z x0) (by kernel_rfl) fun K=>by unfold v21 tv21;with_reducible repeat' first|apply zc|exact nB|exact sB
end
def S195:=S194.fn 21 (aF21 []) [] (fun x0=>some (y1 (v21 x0) rF21)) rfl fun _=>w1 fun h=>(ev21 ..).trans (bD h)
section
variable {β:Type} (y:LI->LI->Int->Int->Option β) (z:Int->Option β) (x0 x1:LI) (x2 x3:Int)
def JV:Option β:=(cond (decide (x3 < (x0.length:Int))) (cond (decide (0<=x3)) (ck (List.getD x0 x3.toNat 0) (x1.length:Int) (y x0 x1 (wI (x2+List.getD x1 (List.getD x0 x3.toNat 0).toNat 0)) (wI (x3+1)))) none) (z x2))
def qd8:Option β:=(cond (decide (x3 < (x0.length:Int))) (ck x3 (x0.length:Int) (ck (List.getD x0 x3.toNat 0) (x1.length:Int) (y x0 x1 (wI (x2+List.getD x1 (List.getD x0 x3.toNat 0).toNat 0)) (wI (x3+1))))) (z x2))
def jQ:=itL (fun _ _ _ _=>none) fun f=>JV f some
theorem qaQ (n:Nat):jQ (n+1)=JV (jQ n) some:=rfl
def qbB:Int->Ex×CS:=fun r=>((.exit 0),⟨[(5,vI r)],[],[],0,false⟩)
abbrev HX:CS:=⟨[(0,vd0 x0),(1,vd0 x1),(5,vI x2),(6,vI x3)],[],[],0,false⟩
theorem qhc {k m n:Nat} {r:Int} (h:jQ n x0 x1 x2 x3=some r):lE S195 23 0 k (n+m) (HX x0 x1 x2 x3)=some (qbB r):=by
 induction n generalizing x2 x3 with
 |zero=>cases h
 |succ n ih=>
 exact lS (qd8 (fun x0 x1 x2 x3=>lE S195 23 0 k (n+m) (HX x0 x1 x2 x3)) (sm qbB) x0 x1 x2 x3) (by kernel_rfl) (by rw [qaQ];unfold JV qd8;with_reducible repeat' first|apply gT ‹_›|apply gF ‹_›|(apply zz<;>intro _)|exact ih _ _|exact nX|exact sX) h
end
def S196:=S195.lp 23 0 (HX [] [] 0 0) (fun x0 x1 x2 x3=>some (y1 (jQ FU x0 x1 x2 x3) qbB)) (by kernel_rfl) fun _=>w1 fun h=>qhc _ _ _ _ h
section
variable {β:Type} (z:Int->Option β) (x0 x1:LI)
def tv23:Option β:=(ob (jQ FU x0 x1 0 0) fun r1=>(z r1))
def v23:=tv23 some x0 x1
abbrev aF23:List TA:=[.sc (kd0 x0),.sc (kd0 x1)]
abbrev rF23:Int->List TA×List TO:=fun r=>([.sc (I4 r)],[])
theorem ev23:fE S196 23 (aF23 x0 x1) []=(v23 x0 x1).bind (sm rF23):=zE (fun z=>tv23 z x0 x1) (by kernel_rfl) fun K=>by unfold v23 tv23;with_reducible repeat' first|apply zc|exact nB|exact sB
end
def S197:=S196.fn 23 (aF23 [] []) [] (fun x0 x1=>some (y1 (v23 x0 x1) rF23)) rfl fun _=>w1 fun h=>(ev23 ..).trans (bD h)
section
variable {β:Type} (y:LL->LI->Int->Int->Int->LI->L3->Option β) (z:(Bool ⊕ Unit)->Option β) (x0:LL) (x1:LI) (x2 x3 x4:Int) (x5:LI) (x6:L3)
def Jf:Option β:=(ck x2 (x6.length:Int) (cond (decide (x4 < (↑(List.length (List.getD x6 x2.toNat [])):Int))) (cond (decide (0<=x4)) (ob (v23 (List.getD (List.getD x6 x2.toNat []) x4.toNat []) x1) fun r1=>(cond (decide (r1 < x3)) (z (.inl (false))) (y x0 x1 x2 x3 (wI (x4+1)) x5 x6))) none) (z (.inr ()))))
def qdJ:Option β:=(ck x2 (x6.length:Int) (cond (decide (x4 < (↑(List.length (List.getD x6 x2.toNat [])):Int))) (ck x2 (x6.length:Int) (ck x4 (↑(List.length (List.getD x6 x2.toNat [])):Int) (ob (v23 (List.getD (List.getD x6 x2.toNat []) x4.toNat []) x1) fun r1=>(cond (decide (r1 < x3)) (z (.inl (false))) (y x0 x1 x2 x3 (wI (x4+1)) x5 x6))))) (z (.inr ()))))
def qX:=itL (fun _ _ _ _ _ _ _=>none) fun f=>Jf f some
theorem Sb (n:Nat):qX (n+1)=Jf (qX n) some:=rfl
def Hg:(Bool ⊕ Unit)->Ex×CS:=Sum.elim (fun r=>(.ret,⟨[(6,vB r)],[],[],0,true⟩)) fun r=>((.exit 2),⟨[(1,vd1 x0),(2,vd0 x1),(3,.l 3 0),(7,vI x2),(35,.l 3 1)],[(3,[kd0 x5,kd1 x6])],[],0,false⟩)
abbrev DC:CS:=⟨[(1,vd1 x0),(2,vd0 x1),(3,.l 3 0),(7,vI x2),(9,vI x3),(10,vI x4)],[(3,[kd0 x5,kd1 x6])],[],0,false⟩
theorem qf3 {k m n:Nat} {r:Bool ⊕ Unit} (h:qX n x0 x1 x2 x3 x4 x5 x6=some r):lE S197 40 2 k (n+m) (DC x0 x1 x2 x3 x4 x5 x6)=some (Hg x0 x1 x2 x5 x6 r):=by
 induction n generalizing x4 with
 |zero=>cases h
 |succ n ih=>
 exact lS (qdJ (fun x0 x1 x2 x3 x4 x5 x6=>lE S197 40 2 k (n+m) (DC x0 x1 x2 x3 x4 x5 x6)) (sm (Hg x0 x1 x2 x5 x6)) x0 x1 x2 x3 x4 x5 x6) (by kernel_rfl) (by rw [Sb];unfold Jf qdJ;with_reducible repeat' first|apply gT ‹_›|apply gF ‹_›|(apply zz<;>intro _)|exact ih _|exact nX|exact sX) h
end
def S198:=S197.lp 40 2 (DC [] [] 0 0 0 [] []) (fun x0 x1 x2 x3 x4 x5 x6=>some (y2 (qX FU x0 x1 x2 x3 x4 x5 x6) (Hg x0 x1 x2 x5 x6))) (by kernel_rfl) fun _=>w2 fun h=>qf3 _ _ _ _ _ _ _ h
section
variable {β:Type} (y:LL->LI->Int->LI->L3->Option β) (z:(Bool ⊕ Unit)->Option β) (x0:LL) (x1:LI) (x2:Int) (x3:LI) (x4:L3)
def Gz:Option β:=(cond (decide (x2 < (x4.length:Int))) (ck x2 (x0.length:Int) (ob (v21 (List.getD x0 x2.toNat [])) fun r1=>(cond (decide (r1 < (1:Int))) (z (.inl (false))) (cond (decide (r1≠0)) (cond (isL (qX FU x0 x1 x2 (wI (Int.tdiv (wI (wI ((1000000000000:Int)+r1) - (1:Int))) r1)) 0 x3 x4)) (z (.inl (zx (qX FU x0 x1 x2 (wI (Int.tdiv (wI (wI ((1000000000000:Int)+r1) - (1:Int))) r1)) 0 x3 x4)))) (ob (zB (qX FU x0 x1 x2 (wI (Int.tdiv (wI (wI ((1000000000000:Int)+r1) - (1:Int))) r1)) 0 x3 x4)) fun _=>(y x0 x1 (wI (x2+1)) x3 x4))) none)))) (z (.inr ())))
def jD:=itL (fun _ _ _ _ _=>none) fun f=>Gz f some
theorem qa5 (n:Nat):jD (n+1)=Gz (jD n) some:=rfl
def qbR:(Bool ⊕ Unit)->Ex×CS:=Sum.elim (fun r=>(.ret,⟨[(6,vB r)],[],[],0,true⟩)) fun r=>((.exit 0),⟨[(3,.l 3 0),(16,.l 3 1)],[],[],0,false⟩)
abbrev qai:CS:=⟨[(1,vd1 x0),(2,vd0 x1),(3,.l 3 0),(7,vI x2)],[(3,[kd0 x3,kd1 x4])],[],0,false⟩
theorem qhs {k m n:Nat} {r:Bool ⊕ Unit} (h:jD n x0 x1 x2 x3 x4=some r):lE S198 40 0 k (n+m) (qai x0 x1 x2 x3 x4)=some (qbR r):=by
 induction n generalizing x2 with
 |zero=>cases h
 |succ n ih=>
 exact lS (Gz (fun x0 x1 x2 x3 x4=>lE S198 40 0 k (n+m) (qai x0 x1 x2 x3 x4)) (sm qbR) x0 x1 x2 x3 x4) (by kernel_rfl) (by rw [qa5];unfold Gz;with_reducible repeat' first|apply zd|exact ih _|exact nX|exact sX) h
end
def S199:=S198.lp 40 0 (qai [] [] 0 [] []) (fun x0 x1 x2 x3 x4=>some (y2 (jD FU x0 x1 x2 x3 x4) qbR)) (by kernel_rfl) fun _=>w2 fun h=>qhs _ _ _ _ _ h
section
variable {β:Type} (z:Bool->Option β) (x0:LI) (x1:L3) (x2:LL) (x3:LI)
def tv40:Option β:=(ob (v20 x0 x1 x2) fun r1=>(cond (!r1) (z false) (cond (isL (jD FU x2 x3 0 x0 x1)) (z (zx (jD FU x2 x3 0 x0 x1))) (ob (zB (jD FU x2 x3 0 x0 x1)) fun _=>(z true)))))
def v40:=tv40 some x0 x1 x2 x3
abbrev aF40:List TA:=[.agg [kd0 x0,kd1 x1],.sc (kd2 x2),.sc (kd0 x3)]
abbrev rF40:Bool->List TA×List TO:=fun r=>([.sc (.bool r)],[])
theorem ev40:fE S199 40 (aF40 x0 x1 x2 x3) []=(v40 x0 x1 x2 x3).bind (sm rF40):=zE (fun z=>tv40 z x0 x1 x2 x3) (by kernel_rfl) fun K=>by unfold v40 tv40;with_reducible repeat' first|apply zc|exact nB|exact sB
end
def S200:=S199.fn 40 (aF40 [] [] [] []) [] (fun x0 x1 x2 x3=>some (y1 (v40 x0 x1 x2 x3) rF40)) rfl fun _=>w1 fun h=>(ev40 ..).trans (bD h)
section
variable {β:Type} (y:LI->Int->Int->LI->L3->Option β) (z:Int->Option β) (x0:LI) (x1 x2:Int) (x3:LI) (x4:L3)
def J6:Option β:=(cond (decide (x2 < (x0.length:Int))) (ck x2 (x3.length:Int) (y x0 (wI (x1+wI (List.getD x0 x2.toNat 0*List.getD x3 x2.toNat 0))) (wI (x2+1)) x3 x4)) (z x1))
def qef:Option β:=(cond (decide (x2 < (x0.length:Int))) (ck x2 (x0.length:Int) (ck x2 (x3.length:Int) (y x0 (wI (x1+wI (List.getD x0 x2.toNat 0*List.getD x3 x2.toNat 0))) (wI (x2+1)) x3 x4))) (z x1))
def j6:=itL (fun _ _ _ _ _=>none) fun f=>J6 f some
theorem qa6 (n:Nat):j6 (n+1)=J6 (j6 n) some:=rfl
def qbS:Int->Ex×CS:=fun r=>((.exit 0),⟨[(2,.l 2 0),(5,vI r)],[],[],0,false⟩)
abbrev qaj:CS:=⟨[(1,vd0 x0),(2,.l 2 0),(5,vI x1),(6,vI x2)],[(2,[kd0 x3,kd1 x4])],[],0,false⟩
theorem qht {k m n:Nat} {r:Int} (h:j6 n x0 x1 x2 x3 x4=some r):lE S200 41 0 k (n+m) (qaj x0 x1 x2 x3 x4)=some (qbS r):=by
 induction n generalizing x1 x2 with
 |zero=>cases h
 |succ n ih=>
 exact lS (qef (fun x0 x1 x2 x3 x4=>lE S200 41 0 k (n+m) (qaj x0 x1 x2 x3 x4)) (sm qbS) x0 x1 x2 x3 x4) (by kernel_rfl) (by rw [qa6];unfold J6 qef;with_reducible repeat' first|apply gT ‹_›|apply gF ‹_›|(apply zz<;>intro _)|exact ih _ _|exact nX|exact sX) h
end
def S201:=S200.lp 41 0 (qaj [] 0 0 [] []) (fun x0 x1 x2 x3 x4=>some (y1 (j6 FU x0 x1 x2 x3 x4) qbS)) (by kernel_rfl) fun _=>w1 fun h=>qht _ _ _ _ _ h
section
variable {β:Type} (z:Int->Option β) (x0:LI) (x1:L3) (x2:LI)
def tv41:Option β:=(ob (j6 FU x2 0 0 x0 x1) fun r1=>(z r1))
def v41:=tv41 some x0 x1 x2
abbrev aF41:List TA:=[.agg [kd0 x0,kd1 x1],.sc (kd0 x2)]
abbrev rF41:Int->List TA×List TO:=fun r=>([.sc (I4 r)],[])
theorem ev41:fE S201 41 (aF41 x0 x1 x2) []=(v41 x0 x1 x2).bind (sm rF41):=zE (fun z=>tv41 z x0 x1 x2) (by kernel_rfl) fun K=>by unfold v41 tv41;with_reducible repeat' first|apply zc|exact nB|exact sB
end
def S202:=S201.fn 41 (aF41 [] [] []) [] (fun x0 x1 x2=>some (y1 (v41 x0 x1 x2) rF41)) rfl fun _=>w1 fun h=>(ev41 ..).trans (bD h)
section
variable {β:Type} (z:(Int × Int)->Option β) (x0:LI) (x1:L3) (x2:LL) (x3:LI)
def tv38:Option β:=(ob (v24 x0 x1) fun r1=>(cond (!r1) (z (0,(1:Int))) (ob (v19 x0 x1 x2) fun r2=>(cond (!r2) (z (0,(1:Int))) (ob (v30 x0 x1 x3) fun r3=>(cond (!r3) (z (0,(1:Int))) (ob (v40 x0 x1 x2 x3) fun r4=>(cond (!r4) (z (0,(17:Int))) (ob (v41 x0 x1 x3) fun r5=>(cond (decide (max 0 (wI (r5 - wI ((1000000:Int)*(x1.length:Int)))) > (1000000000000:Int))) (z (0,(3:Int))) (z (max 0 (wI (r5 - wI ((1000000:Int)*(x1.length:Int)))),0))))))))))))
def v38:=tv38 some x0 x1 x2 x3
abbrev aF38:List TA:=[.agg [kd0 x0,kd1 x1],.sc (kd2 x2),.sc (kd0 x3)]
abbrev rF38:(Int×Int)->List TA×List TO:=fun r=>([.sc (I4 r.1),.sc (I4 r.2)],[])
theorem ev38:fE S202 38 (aF38 x0 x1 x2 x3) []=(v38 x0 x1 x2 x3).bind (sm rF38):=zE (fun z=>tv38 z x0 x1 x2 x3) (by kernel_rfl) fun K=>by unfold v38 tv38;with_reducible repeat' first|apply zc|exact nB|exact sB
end
def S203:=S202.fn 38 (aF38 [] [] [] []) [] (fun x0 x1 x2 x3=>some (y1 (v38 x0 x1 x2 x3) rF38)) rfl fun _=>w1 fun h=>(ev38 ..).trans (bD h)
section
variable {β:Type} (z:(LL × LI × Int)->Option β) (x0:LI) (x1:L3)
def tv18:Option β:=(cond (decide ((x0.length:Int)<=(x0.length:Int))) (cond (decide ((x0.length:Int)<=(↑(nat_lit 2147483648):Int))) (ob (jO FU 0 x0 x1 0 (List.replicate (x0.length:Int).toNat 0) [] []) fun r1=>(ob (jf FU (-1:Int) 0 x0 x1 0 r1 [] []) fun r2=>(ob (jg FU r2 0 0 x0 x1 0 0 r1 [] [] [] []) fun r3=>(ob (jh FU r3.1 0 x0 x1 0 0 [] [] r3.2 []) fun r4=>(ob (v38 x0 x1 r3.2 r4) fun r5=>(z (r3.2,r4,r5.1))))))) none) none)
def v18:=tv18 some x0 x1
abbrev aF18:List TA:=[.agg [kd0 x0,kd1 x1]]
abbrev rF18:(LL×LI×Int)->List TA×List TO:=fun r=>([.agg [kd2 r.1,kd0 r.2.1,I4 r.2.2]],[])
theorem ev18:fE S203 18 (aF18 x0 x1) []=(v18 x0 x1).bind (sm rF18):=zE (fun z=>tv18 z x0 x1) (by kernel_rfl) fun K=>by unfold v18 tv18;with_reducible repeat' first|apply zc|exact nB|exact sB
end
def S204:=S203.fn 18 (aF18 [] []) [] (fun x0 x1=>some (y1 (v18 x0 x1) rF18)) rfl fun _=>w1 fun h=>(ev18 ..).trans (bD h)
section
variable {β:Type} (z:(LL × LI × Int × Int)->Option β) (x0:LI) (x1:L3) (x2:Int)
def tv15:Option β:=(ob (v24 x0 x1) fun r1=>(cond (!r1) (z ([],[],0,(1:Int))) (cond (decide (x2 < 0)) (z ([],[],0,(1:Int))) (cond (decide (x2 > (1000:Int))) (z ([],[],0,(1:Int))) (cond (isL (ja FU 0 x0 x1 0 [] [])) (z ([],[],(zx (ja FU 0 x0 x1 0 [] [])).2,(zx (ja FU 0 x0 x1 0 [] [])).1)) (ob (zB (ja FU 0 x0 x1 0 [] [])) fun _=>(ob (v18 x0 x1) fun r3=>(z (r3.1,r3.2.1,r3.2.2,0)))))))))
def v15:=tv15 some x0 x1 x2
abbrev aF15:List TA:=[.agg [kd0 x0,kd1 x1],.sc (I4 x2)]
abbrev rF15:(LL×LI×Int×Int)->List TA×List TO:=fun r=>([.agg [kd2 r.1,kd0 r.2.1,I4 r.2.2.1],.sc (I4 r.2.2.2)],[])
theorem ev15:fE S204 15 (aF15 x0 x1 x2) []=(v15 x0 x1 x2).bind (sm rF15):=zE (fun z=>tv15 z x0 x1 x2) (by kernel_rfl) fun K=>by unfold v15 tv15;with_reducible repeat' first|apply zc|exact nB|exact sB
end
def S205:=S204.fn 15 (aF15 [] [] 0) [] (fun x0 x1 x2=>some (y1 (v15 x0 x1 x2) rF15)) rfl fun _=>w1 fun h=>(ev15 ..).trans (bD h)
section
variable {β:Type} (z:Bool->Option β) (x0:LI) (x1:L3) (x2:LL) (x3:LI) (x4:Int)
def tv25:Option β:=(ob (v26 x0 x1 x2 x3) fun r1=>(cond (r1.2==0) (ob (v43 x4 r1.1 (1000000000000:Int)) fun r2=>(z r2)) (z false)))
def v25:=tv25 some x0 x1 x2 x3 x4
abbrev aF25:List TA:=[.agg [kd0 x0,kd1 x1],.agg [kd2 x2,kd0 x3,I4 x4]]
abbrev rF25:Bool->List TA×List TO:=fun r=>([.sc (.bool r)],[])
theorem ev25:fE S205 25 (aF25 x0 x1 x2 x3 x4) []=(v25 x0 x1 x2 x3 x4).bind (sm rF25):=zE (fun z=>tv25 z x0 x1 x2 x3 x4) (by kernel_rfl) fun K=>by unfold v25 tv25;with_reducible repeat' first|apply zc|exact nB|exact sB
end
def S206:=S205.fn 25 (aF25 [] [] [] [] 0) [] (fun x0 x1 x2 x3 x4=>some (y1 (v25 x0 x1 x2 x3 x4) rF25)) rfl fun _=>w1 fun h=>(ev25 ..).trans (bD h)
section
variable {β:Type} (z:Bool->Option β) (x0:LI) (x1:L3)
def tv17:Option β:=(ob (v11 x0 x1 [] []) fun r1=>(cond (!r1) (z false) (ob (v15 x0 x1 0) fun r2=>(z (r2.2.2.2==0)))))
def v17:=tv17 some x0 x1
abbrev aF17:List TA:=[.agg [kd0 x0,kd1 x1]]
abbrev rF17:Bool->List TA×List TO:=fun r=>([.sc (.bool r)],[])
theorem ev17:fE S206 17 (aF17 x0 x1) []=(v17 x0 x1).bind (sm rF17):=zE (fun z=>tv17 z x0 x1) (by kernel_rfl) fun K=>by unfold v17 tv17;with_reducible repeat' first|apply zc|exact nB|exact sB
end
def S207:=S206.fn 17 (aF17 [] []) [] (fun x0 x1=>some (y1 (v17 x0 x1) rF17)) rfl fun _=>w1 fun h=>(ev17 ..).trans (bD h)
section
variable {β:Type} (z:Bool->Option β) (x0:Int) (x1:Bool) (x2:LI) (x3:L3)
def KQ:Option β:=(ob (v14 x2 x3 x0) fun r1=>(ob (v25 x2 x3 r1.1 r1.2.1 r1.2.2.1) fun r2=>(ob (v26 x2 x3 r1.1 r1.2.1) fun r3=>(ob (v25 x2 x3 r1.1 r1.2.1 (wI (r1.2.2.1 - (1:Int)))) fun r4=>(cond x1 (cond (r1.2.2.2==0) (cond r2 (cond (!r4) (cond (r3.2==0) (z (r3.1==wI (wI (r1.2.2.1 - (1:Int))+1))) (z false)) (z false)) (z false)) (z false)) (z false))))))
def JI:=KQ some x0 x1 x2 x3
def qcd:Bool->Ex×CS:=fun r=>(.ret,⟨[(4,vB r)],[],[],0,true⟩)
abbrev qdS:CS:=⟨[(1,vI x0),(2,.l 2 0),(5,vB x1)],[(2,[kd0 x2,kd1 x3])],[],0,false⟩
theorem qhO {k:Nat} {r:Bool}:JI x0 x1 x2 x3=some r->pE S207 9 44 0 k (qdS x0 x1 x2 x3)=some (qcd r):=lP (KQ (sm qcd) x0 x1 x2 x3) (by kernel_rfl) (by unfold JI KQ;with_reducible repeat' first|apply zd|exact nX|exact sX)
end
def S208:=S207.pc 9 44 0 (qdS 0 false [] []) (fun x0 x1 x2 x3=>some (y1 (JI x0 x1 x2 x3) qcd)) (by kernel_rfl) rfl fun _=>w1 fun h=>qhO _ _ _ _ h
section
variable {β:Type} (z:Bool->Option β) (x0:LI) (x1:L3) (x2:Int)
def tv9:Option β:=(ob (v17 x0 x1) fun r1=>(cond (!r1) (z true) (cond (decide (x2 < 0)) (z true) (cond (decide (x2 > (1000:Int))) (z true) (ob (JI x2 (val v10) x0 x1) fun r2=>(z r2))))))
def v9:=tv9 some x0 x1 x2
abbrev aF9:List TA:=[.agg [kd0 x0,kd1 x1],.sc (I4 x2)]
abbrev rF9:Bool->List TA×List TO:=fun r=>([.sc (.bool r)],[])
theorem ev9:fE S208 9 (aF9 x0 x1 x2) []=(v9 x0 x1 x2).bind (sm rF9):=zE (fun z=>tv9 z x0 x1 x2) (by kernel_rfl) fun K=>by unfold v9 tv9;with_reducible repeat' first|apply zc|exact nB|exact sB
end
end
end Go.Proofs.Ytpfphfobneehmaa
