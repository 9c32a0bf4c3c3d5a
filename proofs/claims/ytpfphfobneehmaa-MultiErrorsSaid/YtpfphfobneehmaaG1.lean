/- What some functions and loops come to: printed and checked. Written by a program of ours. -/
import Derived.Test.YtpfphfobneehmaaG0
set_option linter.all false
set_option maxRecDepth 1000000
set_option maxHeartbeats 4000000
namespace Go.Proofs.Ytpfphfobneehmaa
open Go Go.AM Go.TM Go.Proofs
noncomputable section
section
variable {β:Type} (y:Int->Int->Int->Int->Int->Int->Int->Int->Int->Option β) (z:Int->Option β) (x0 x1 x2 x3 x4 x5 x6 x7 x8:Int)
def Gl:Option β:=(cond (decide (x8≥(4294967296:Int))) (cond (decide (wU (x6+x2)≥(4294967296:Int))) (z (wU (x8 - (1:Int)))) (y x0 x1 x2 x3 x4 x5 (wU (x6+x2)) x7 (wU (x8 - (1:Int))))) (cond (decide (wU (x8*x3) > wU (wU ((4294967296:Int)*x6)+x4))) (cond (decide (wU (x6+x2)≥(4294967296:Int))) (z (wU (x8 - (1:Int)))) (y x0 x1 x2 x3 x4 x5 (wU (x6+x2)) x7 (wU (x8 - (1:Int))))) (z x8)))
def jP:=itL (fun _ _ _ _ _ _ _ _ _=>none) fun f=>Gl f some
theorem qbd (n:Nat):jP (n+1)=Gl (jP n) some:=rfl
def Dt:Int->Ex×CS:=fun r=>((.exit 2),⟨[(2,.v (.sc (.int .u64 x0))),(8,.v (.sc (.int .u64 x1))),(14,.v (.sc (.int .u64 x4))),(15,.v (.sc (.int .u64 x5))),(17,.v (.sc (.int .u64 x7))),(18,.v (.sc (.int .u64 r)))],[],[],0,false⟩)
abbrev Kj:CS:=⟨[(2,.v (.sc (.int .u64 x0))),(8,.v (.sc (.int .u64 x1))),(9,.v (.sc (.int .u64 x2))),(10,.v (.sc (.int .u64 x3))),(14,.v (.sc (.int .u64 x4))),(15,.v (.sc (.int .u64 x5))),(16,.v (.sc (.int .u64 x6))),(17,.v (.sc (.int .u64 x7))),(18,.v (.sc (.int .u64 x8)))],[],[],0,false⟩
theorem qdw {k m n:Nat} {r:Int} (h:jP n x0 x1 x2 x3 x4 x5 x6 x7 x8=some r):lE S77 74 2 k (n+m) (Kj x0 x1 x2 x3 x4 x5 x6 x7 x8)=some (Dt x0 x1 x4 x5 x7 r):=by
 induction n generalizing x6 x8 with
 |zero=>cases h
 |succ n ih=>
 exact lS (Gl (fun x0 x1 x2 x3 x4 x5 x6 x7 x8=>lE S77 74 2 k (n+m) (Kj x0 x1 x2 x3 x4 x5 x6 x7 x8)) (sm (Dt x0 x1 x4 x5 x7)) x0 x1 x2 x3 x4 x5 x6 x7 x8) (by kernel_rfl) (by rw [qbd];unfold Gl;with_reducible repeat' first|apply zd|exact ih _ _|exact nX|exact sX) h
end
def S78:=S77.lp 74 2 (Kj 0 0 0 0 0 0 0 0 0) (fun x0 x1 x2 x3 x4 x5 x6 x7 x8=>some (y1 (jP FU x0 x1 x2 x3 x4 x5 x6 x7 x8) (Dt x0 x1 x4 x5 x7))) (by kernel_rfl) fun _=>w1 fun h=>qdw _ _ _ _ _ _ _ _ _ h
section
variable {β:Type} (z:(Int × Int)->Option β) (x0 x1 x2 x3 x4 x5:Int)
def GD:Option β:=(cond (decide (0<=x1)) (z (wU (wU (x3*4294967296)+x5),Int.fdiv (wU (wU (wU (x4*4294967296)+x2) - wU (x5*x0))) ((2:Int) ^ min x1.toNat (IntKind.bits IntKind.u64)))) none)
def g8:=GD some x0 x1 x2 x3 x4 x5
def JQ:(Int×Int)->Ex×CS:=fun r=>(.ret,⟨[(6,.v (.sc (.int .u64 r.1))),(7,.v (.sc (.int .u64 r.2)))],[],[],0,true⟩)
abbrev qab:CS:=⟨[(2,.v (.sc (.int .u64 x0))),(8,.v (.sc (.int .u64 x1))),(14,.v (.sc (.int .u64 x2))),(15,.v (.sc (.int .u64 x3))),(17,.v (.sc (.int .u64 x4))),(18,.v (.sc (.int .u64 x5)))],[],[],0,false⟩
theorem qci {k:Nat} {r:Int×Int}:g8 x0 x1 x2 x3 x4 x5=some r->pE S78 74 228 0 k (qab x0 x1 x2 x3 x4 x5)=some (JQ r):=lP (GD (sm JQ) x0 x1 x2 x3 x4 x5) (by kernel_rfl) (by unfold g8 GD;with_reducible repeat' first|apply zd|exact nX|exact sX)
end
def S79:=S78.pc 74 228 0 (qab 0 0 0 0 0 0) (fun x0 x1 x2 x3 x4 x5=>some (y1 (g8 x0 x1 x2 x3 x4 x5) JQ)) (by kernel_rfl) rfl fun _=>w1 fun h=>qci _ _ _ _ _ _ h
section
variable {β:Type} (z:(Int × Int)->Option β) (x0 x1 x2 x3 x4 x5 x6 x7:Int)
def GC:Option β:=(ob (jP FU x0 x1 x2 x3 x4 x5 (wU (x6 - wU (x7*x2))) x6 x7) fun r1=>(ob (g8 x0 x1 x4 x5 x6 r1) fun r2=>(z (r2.1,r2.2))))
def gZ:=GC some x0 x1 x2 x3 x4 x5 x6 x7
def JP:(Int×Int)->Ex×CS:=fun r=>(.ret,⟨[(6,.v (.sc (.int .u64 r.1))),(7,.v (.sc (.int .u64 r.2)))],[],[],0,true⟩)
abbrev qaa:CS:=⟨[(2,.v (.sc (.int .u64 x0))),(8,.v (.sc (.int .u64 x1))),(9,.v (.sc (.int .u64 x2))),(10,.v (.sc (.int .u64 x3))),(14,.v (.sc (.int .u64 x4))),(15,.v (.sc (.int .u64 x5))),(17,.v (.sc (.int .u64 x6))),(18,.v (.sc (.int .u64 x7)))],[],[],0,false⟩
theorem qch {k:Nat} {r:Int×Int}:gZ x0 x1 x2 x3 x4 x5 x6 x7=some r->pE S79 74 188 0 k (qaa x0 x1 x2 x3 x4 x5 x6 x7)=some (JP r):=lP (GC (sm JP) x0 x1 x2 x3 x4 x5 x6 x7) (by kernel_rfl) (by unfold gZ GC;with_reducible repeat' first|apply zd|exact nX|exact sX)
end
def S80:=S79.pc 74 188 0 (qaa 0 0 0 0 0 0 0 0) (fun x0 x1 x2 x3 x4 x5 x6 x7=>some (y1 (gZ x0 x1 x2 x3 x4 x5 x6 x7) JP)) (by kernel_rfl) rfl fun _=>w1 fun h=>qch _ _ _ _ _ _ _ _ h
section
variable {β:Type} (z:(Int × Int)->Option β) (x0 x1 x2 x3 x4 x5 x6:Int)
def GB:Option β:=(cond (decide (x2≠0)) (ob (gZ x0 x1 x2 x3 x4 x5 x6 (wU (Int.tdiv x6 x2))) fun r1=>(z (r1.1,r1.2))) none)
def gY:=GB some x0 x1 x2 x3 x4 x5 x6
def JO:(Int×Int)->Ex×CS:=fun r=>(.ret,⟨[(6,.v (.sc (.int .u64 r.1))),(7,.v (.sc (.int .u64 r.2)))],[],[],0,true⟩)
abbrev H9:CS:=⟨[(2,.v (.sc (.int .u64 x0))),(8,.v (.sc (.int .u64 x1))),(9,.v (.sc (.int .u64 x2))),(10,.v (.sc (.int .u64 x3))),(14,.v (.sc (.int .u64 x4))),(15,.v (.sc (.int .u64 x5))),(17,.v (.sc (.int .u64 x6)))],[],[],0,false⟩
theorem qcg {k:Nat} {r:Int×Int}:gY x0 x1 x2 x3 x4 x5 x6=some r->pE S80 74 180 0 k (H9 x0 x1 x2 x3 x4 x5 x6)=some (JO r):=lP (GB (sm JO) x0 x1 x2 x3 x4 x5 x6) (by kernel_rfl) (by unfold gY GB;with_reducible repeat' first|apply zd|exact nX|exact sX)
end
def S81:=S80.pc 74 180 0 (H9 0 0 0 0 0 0 0) (fun x0 x1 x2 x3 x4 x5 x6=>some (y1 (gY x0 x1 x2 x3 x4 x5 x6) JO)) (by kernel_rfl) rfl fun _=>w1 fun h=>qcg _ _ _ _ _ _ _ h
section
variable {β:Type} (z:(Int × Int)->Option β) (x0 x1 x2 x3 x4 x5 x6 x7:Int)
def GA:Option β:=(ob (gY x0 x1 x2 x3 x6 x7 (wU (wU (wU (x4*4294967296)+x5) - wU (x7*x0)))) fun r1=>(z (r1.1,r1.2)))
def gX:=GA some x0 x1 x2 x3 x4 x5 x6 x7
def JN:(Int×Int)->Ex×CS:=fun r=>(.ret,⟨[(6,.v (.sc (.int .u64 r.1))),(7,.v (.sc (.int .u64 r.2)))],[],[],0,true⟩)
abbrev H8:CS:=⟨[(2,.v (.sc (.int .u64 x0))),(8,.v (.sc (.int .u64 x1))),(9,.v (.sc (.int .u64 x2))),(10,.v (.sc (.int .u64 x3))),(11,.v (.sc (.int .u64 x4))),(13,.v (.sc (.int .u64 x5))),(14,.v (.sc (.int .u64 x6))),(15,.v (.sc (.int .u64 x7)))],[],[],0,false⟩
theorem qcf {k:Nat} {r:Int×Int}:gX x0 x1 x2 x3 x4 x5 x6 x7=some r->pE S81 74 172 0 k (H8 x0 x1 x2 x3 x4 x5 x6 x7)=some (JN r):=lP (GA (sm JN) x0 x1 x2 x3 x4 x5 x6 x7) (by kernel_rfl) (by unfold gX GA;with_reducible repeat' first|apply zd|exact nX|exact sX)
end
def S82:=S81.pc 74 172 0 (H8 0 0 0 0 0 0 0 0) (fun x0 x1 x2 x3 x4 x5 x6 x7=>some (y1 (gX x0 x1 x2 x3 x4 x5 x6 x7) JN)) (by kernel_rfl) rfl fun _=>w1 fun h=>qcf _ _ _ _ _ _ _ _ h
section
variable {β:Type} (z:(Int × Int)->Option β) (x0 x1 x2 x3 x4 x5 x6 x7:Int)
def Gz:Option β:=(ob (gh FU x0 x1 x2 x3 x4 x5 x6 x7 (wU (x4 - wU (x7*x2)))) fun r1=>(ob (gX x0 x1 x2 x3 x4 x5 x6 r1) fun r2=>(z (r2.1,r2.2))))
def gW:=Gz some x0 x1 x2 x3 x4 x5 x6 x7
def JM:(Int×Int)->Ex×CS:=fun r=>(.ret,⟨[(6,.v (.sc (.int .u64 r.1))),(7,.v (.sc (.int .u64 r.2)))],[],[],0,true⟩)
abbrev H7:CS:=⟨[(2,.v (.sc (.int .u64 x0))),(8,.v (.sc (.int .u64 x1))),(9,.v (.sc (.int .u64 x2))),(10,.v (.sc (.int .u64 x3))),(11,.v (.sc (.int .u64 x4))),(13,.v (.sc (.int .u64 x5))),(14,.v (.sc (.int .u64 x6))),(15,.v (.sc (.int .u64 x7)))],[],[],0,false⟩
theorem qce {k:Nat} {r:Int×Int}:gW x0 x1 x2 x3 x4 x5 x6 x7=some r->pE S82 74 132 0 k (H7 x0 x1 x2 x3 x4 x5 x6 x7)=some (JM r):=lP (Gz (sm JM) x0 x1 x2 x3 x4 x5 x6 x7) (by kernel_rfl) (by unfold gW Gz;with_reducible repeat' first|apply zd|exact nX|exact sX)
end
def S83:=S82.pc 74 132 0 (H7 0 0 0 0 0 0 0 0) (fun x0 x1 x2 x3 x4 x5 x6 x7=>some (y1 (gW x0 x1 x2 x3 x4 x5 x6 x7) JM)) (by kernel_rfl) rfl fun _=>w1 fun h=>qce _ _ _ _ _ _ _ _ h
section
variable {β:Type} (z:(Int × Int)->Option β) (x0 x1 x2 x3 x4 x5 x6:Int)
def Gy:Option β:=(cond (decide (x2≠0)) (ob (gW x0 x1 x2 x3 x4 x5 x6 (wU (Int.tdiv x4 x2))) fun r1=>(z (r1.1,r1.2))) none)
def jV:=Gy some x0 x1 x2 x3 x4 x5 x6
def JL:(Int×Int)->Ex×CS:=fun r=>(.ret,⟨[(6,.v (.sc (.int .u64 r.1))),(7,.v (.sc (.int .u64 r.2)))],[],[],0,true⟩)
abbrev H6:CS:=⟨[(2,.v (.sc (.int .u64 x0))),(8,.v (.sc (.int .u64 x1))),(9,.v (.sc (.int .u64 x2))),(10,.v (.sc (.int .u64 x3))),(11,.v (.sc (.int .u64 x4))),(13,.v (.sc (.int .u64 x5))),(14,.v (.sc (.int .u64 x6)))],[],[],0,false⟩
theorem qcd {k:Nat} {r:Int×Int}:jV x0 x1 x2 x3 x4 x5 x6=some r->pE S83 74 124 0 k (H6 x0 x1 x2 x3 x4 x5 x6)=some (JL r):=lP (Gy (sm JL) x0 x1 x2 x3 x4 x5 x6) (by kernel_rfl) (by unfold jV Gy;with_reducible repeat' first|apply zd|exact nX|exact sX)
end
def S84:=S83.pc 74 124 0 (H6 0 0 0 0 0 0 0) (fun x0 x1 x2 x3 x4 x5 x6=>some (y1 (jV x0 x1 x2 x3 x4 x5 x6) JL)) (by kernel_rfl) rfl fun _=>w1 fun h=>qcd _ _ _ _ _ _ _ h
section
variable {β:Type} (z:(Int × Int)->Option β) (x0 x1 x2 x3 x4 x5:Int)
def Gx:Option β:=(cond (decide (0<=x2)) (ob (jV x1 x2 x3 x4 x5 (Int.fdiv (wU (x0*2 ^ min x2.toNat (IntKind.bits IntKind.u64))) ((2:Int) ^ min (Int.toNat (32:Int)) (IntKind.bits IntKind.u64))) (wU (↑(BitVec.toNat (BitVec.ofInt (IntKind.bits IntKind.u64) (wU (x0*2 ^ min x2.toNat (IntKind.bits IntKind.u64))) &&& BitVec.ofInt (IntKind.bits IntKind.u64) (4294967295:Int))):Int))) fun r1=>(z (r1.1,r1.2))) none)
def gV:=Gx some x0 x1 x2 x3 x4 x5
def JK:(Int×Int)->Ex×CS:=fun r=>(.ret,⟨[(6,.v (.sc (.int .u64 r.1))),(7,.v (.sc (.int .u64 r.2)))],[],[],0,true⟩)
abbrev H5:CS:=⟨[(1,.v (.sc (.int .u64 x0))),(2,.v (.sc (.int .u64 x1))),(8,.v (.sc (.int .u64 x2))),(9,.v (.sc (.int .u64 x3))),(10,.v (.sc (.int .u64 x4))),(11,.v (.sc (.int .u64 x5)))],[],[],0,false⟩
theorem qcc {k:Nat} {r:Int×Int}:gV x0 x1 x2 x3 x4 x5=some r->pE S84 74 100 0 k (H5 x0 x1 x2 x3 x4 x5)=some (JK r):=lP (Gx (sm JK) x0 x1 x2 x3 x4 x5) (by kernel_rfl) (by unfold gV Gx;with_reducible repeat' first|apply zd|exact nX|exact sX)
end
def S85:=S84.pc 74 100 0 (H5 0 0 0 0 0 0) (fun x0 x1 x2 x3 x4 x5=>some (y1 (gV x0 x1 x2 x3 x4 x5) JK)) (by kernel_rfl) rfl fun _=>w1 fun h=>qcc _ _ _ _ _ _ h
section
variable {β:Type} (z:(Int × Int)->Option β) (x0 x1 x2 x3:Int)
def G9:Option β:=(cond (decide (0<=x3)) (cond (decide (0<=wU ((64:Int) - x3))) (ob (gV x1 x2 x3 (Int.fdiv x2 ((2:Int) ^ min (Int.toNat (32:Int)) (IntKind.bits IntKind.u64))) (wU (↑(BitVec.toNat (BitVec.ofInt (IntKind.bits IntKind.u64) x2 &&& BitVec.ofInt (IntKind.bits IntKind.u64) (4294967295:Int))):Int)) (wU (↑(BitVec.toNat (BitVec.ofInt (IntKind.bits IntKind.u64) (wU (x0*2 ^ min x3.toNat (IntKind.bits IntKind.u64))) ||| BitVec.ofInt (IntKind.bits IntKind.u64) (Int.fdiv x1 ((2:Int) ^ min (wU ((64:Int) - x3)).toNat (IntKind.bits IntKind.u64))))):Int))) fun r1=>(z (r1.1,r1.2))) none) none)
def gi:=G9 some x0 x1 x2 x3
def Du:(Int×Int)->Ex×CS:=fun r=>(.ret,⟨[(6,.v (.sc (.int .u64 r.1))),(7,.v (.sc (.int .u64 r.2)))],[],[],0,true⟩)
abbrev qa4:CS:=⟨[(0,.v (.sc (.int .u64 x0))),(1,.v (.sc (.int .u64 x1))),(2,.v (.sc (.int .u64 x2))),(8,.v (.sc (.int .u64 x3)))],[],[],0,false⟩
theorem qdx {k:Nat} {r:Int×Int}:gi x0 x1 x2 x3=some r->pE S85 74 76 0 k (qa4 x0 x1 x2 x3)=some (Du r):=lP (G9 (sm Du) x0 x1 x2 x3) (by kernel_rfl) (by unfold gi G9;with_reducible repeat' first|apply zd|exact nX|exact sX)
end
def S86:=S85.pc 74 76 0 (qa4 0 0 0 0) (fun x0 x1 x2 x3=>some (y1 (gi x0 x1 x2 x3) Du)) (by kernel_rfl) rfl fun _=>w1 fun h=>qdx _ _ _ _ h
section
variable {β:Type} (z:(Int × Int)->Option β) (x0 x1 x2:Int)
def tv74:Option β:=(cond (x2==0) none (cond (decide (x2<=x0)) none (cond (x0==0) (cond (decide (x2≠0)) (z (wU (Int.tdiv x1 x2),Int.tmod x1 x2)) none) (ob (v80 x2) fun r1=>(cond (decide (0<=wU r1)) (ob (gi x0 x1 (wU (x2*2 ^ min (wU r1).toNat (IntKind.bits IntKind.u64))) (wU r1)) fun r2=>(z (r2.1,r2.2))) none)))))
def v74:=tv74 some x0 x1 x2
def uv74:Option β:=(cond (x2==0) none (cond (decide (x2<=x0)) none (cond (x0==0) (cond (decide (x2≠0)) (cond (decide (x2≠0)) (z (wU (Int.tdiv x1 x2),Int.tmod x1 x2)) none) none) (ob (v80 x2) fun r1=>(cond (decide (0<=wU r1)) (ob (gi x0 x1 (wU (x2*2 ^ min (wU r1).toNat (IntKind.bits IntKind.u64))) (wU r1)) fun r2=>(z (r2.1,r2.2))) none)))))
abbrev aF74:List TA:=[.sc (.int .u64 x0),.sc (.int .u64 x1),.sc (.int .u64 x2)]
abbrev rF74:(Int×Int)->List TA×List TO:=fun r=>([.sc (.int .u64 r.1),.sc (.int .u64 r.2)],[])
theorem ev74:fE S86 74 (aF74 x0 x1 x2) []=(v74 x0 x1 x2).bind (sm rF74):=zE (fun z=>uv74 z x0 x1 x2) (by kernel_rfl) fun K=>by unfold v74 tv74 uv74;with_reducible repeat' first|apply bT ‹_›|apply bF ‹_›|(apply Yi<;>intro _)|exact nB|exact sB
end
def S87:=S86.fn 74 (aF74 0 0 0) [] (fun x0 x1 x2=>some (y1 (v74 x0 x1 x2) rF74)) rfl fun _=>w1 fun h=>(ev74 ..).trans (bD h)
section
variable {β:Type} (z:Int->Option β) (x0 x1 x2:Int)
def tv56:Option β:=(ob (v74 (val (v73 (wU x0) (wU x1))).1 (val (v73 (wU x0) (wU x1))).2 (wU x2)) fun r1=>(z (wI r1.1)))
def v56:=tv56 some x0 x1 x2
abbrev aF56:List TA:=[.sc (I4 x0),.sc (I4 x1),.sc (I4 x2)]
abbrev rF56:Int->List TA×List TO:=fun r=>([.sc (I4 r)],[])
theorem ev56:fE S87 56 (aF56 x0 x1 x2) []=(v56 x0 x1 x2).bind (sm rF56):=zE (fun z=>tv56 z x0 x1 x2) (by kernel_rfl) fun K=>by unfold v56 tv56;with_reducible repeat' first|apply zc|exact nB|exact sB
end
def S88:=S87.fn 56 (aF56 0 0 0) [] (fun x0 x1 x2=>some (y1 (v56 x0 x1 x2) rF56)) rfl fun _=>w1 fun h=>(ev56 ..).trans (bD h)
section
variable {β:Type} (z:Int->Option β) (x0 x1:Int) (x2:LI) (x3:L3) (x4 x5:LL) (x6:LI) (x7:Int) (x8 x9:LI)
def tv55:Option β:=(ob (v33 x0 x2 x3 x4 x5 x6 x7 x8 x9) fun r1=>(cond (r1.1==x1) (ob (v56 (1000000000:Int) (1024:Int) r1.2) fun r2=>(z r2)) (z 0)))
def v55:=tv55 some x0 x1 x2 x3 x4 x5 x6 x7 x8 x9
abbrev aF55:List TA:=[.sc (I4 x0),.sc (I4 x1),.sc (.ptr 0 0)]
abbrev hF55:List TO:=[.box 53 [.ptr 1 0],bx1 x2 x3 x4 x5 x6 x7,rd0 x8,rd0 x9]
abbrev rF55:Int->List TA×List TO:=fun r=>([.sc (I4 r)],[.box 53 [.ptr 1 0],bx1 x2 x3 x4 x5 x6 x7,rd0 x8,rd0 x9])
theorem ev55:fE S88 55 (aF55 x0 x1) (hF55 x2 x3 x4 x5 x6 x7 x8 x9)=(v55 x0 x1 x2 x3 x4 x5 x6 x7 x8 x9).bind (sm (rF55 x2 x3 x4 x5 x6 x7 x8 x9)):=zE (fun z=>tv55 z x0 x1 x2 x3 x4 x5 x6 x7 x8 x9) (by kernel_rfl) fun K=>by unfold v55 tv55;with_reducible repeat' first|apply zc|exact nB|exact sB
end
def S89:=S88.fn 55 (aF55 0 0) (hF55 [] [] [] [] [] 0 [] []) (fun x0 x1 x2 x3 x4 x5 x6 x7 x8 x9=>some (y1 (v55 x0 x1 x2 x3 x4 x5 x6 x7 x8 x9) (rF55 x2 x3 x4 x5 x6 x7 x8 x9))) rfl fun _=>w1 fun h=>(ev55 ..).trans (bD h)
section
variable {β:Type} (y:Int->L3->Int->Int->Int->Int->LI->L3->LL->LL->LI->Int->LI->LI->LI->LL->Option β) (z:LI->Option β) (x0:Int) (x1:L3) (x2 x3 x4 x5:Int) (x6:LI) (x7:L3) (x8 x9:LL) (x10:LI) (x11:Int) (x12 x13 x14:LI) (x15:LL)
def jZ:Option β:=(cond (decide (x5 < x4)) (ob (v55 x0 x5 x6 x7 x8 x9 x10 x11 x12 x13) fun r1=>(ck x5 (x14.length:Int) (cond (decide (x5.toNat < List.length x14)) (y x0 x1 x2 x3 x4 (wI (x5+1)) x6 x7 x8 x9 x10 x11 x12 x13 (List.set x14 x5.toNat r1) x15) none))) (z x14))
def qR:=itL (fun _ _ _ _ _ _ _ _ _ _ _ _ _ _ _ _=>none) fun f=>jZ f some
theorem Ky (n:Nat):qR (n+1)=jZ (qR n) some:=rfl
def De:LI->Ex×CS:=fun r=>((.exit 2),⟨[(1,.v (.sc (.fn 55 0 [none] [.ptr 3 0]))),(5,vG 5),(8,vG 4),(14,vd2 x1),(15,vI x2),(16,vI x3)],[],[bx2 x6 x7 x8 x9 x10 x11,rd0 x12,rd0 x13,.box 53 [.ptr 0 0],rd0 r,rd1 x15],4,false⟩)
abbrev J7:CS:=⟨[(1,.v (.sc (.fn 55 0 [none] [.ptr 3 0]))),(5,vG 5),(6,vI x0),(8,vG 4),(14,vd2 x1),(15,vI x2),(16,vI x3),(25,vI x4),(26,vI x5)],[],[bx2 x6 x7 x8 x9 x10 x11,rd0 x12,rd0 x13,.box 53 [.ptr 0 0],rd0 x14,rd1 x15],4,false⟩
theorem qdi {k m n:Nat} {r:LI} (h:qR n x0 x1 x2 x3 x4 x5 x6 x7 x8 x9 x10 x11 x12 x13 x14 x15=some r):lE S89 31 2 k (n+m) (J7 x0 x1 x2 x3 x4 x5 x6 x7 x8 x9 x10 x11 x12 x13 x14 x15)=some (De x1 x2 x3 x6 x7 x8 x9 x10 x11 x12 x13 x15 r):=by
 induction n generalizing x5 x14 with
 |zero=>cases h
 |succ n ih=>
 exact lS (jZ (fun x0 x1 x2 x3 x4 x5 x6 x7 x8 x9 x10 x11 x12 x13 x14 x15=>lE S89 31 2 k (n+m) (J7 x0 x1 x2 x3 x4 x5 x6 x7 x8 x9 x10 x11 x12 x13 x14 x15)) (sm (De x1 x2 x3 x6 x7 x8 x9 x10 x11 x12 x13 x15)) x0 x1 x2 x3 x4 x5 x6 x7 x8 x9 x10 x11 x12 x13 x14 x15) (by kernel_rfl) (by rw [Ky];unfold jZ;with_reducible repeat' first|apply zd|exact ih _ _|exact nX|exact sX) h
end
def S90:=S89.lp 31 2 (J7 0 [] 0 0 0 0 [] [] [] [] [] 0 [] [] [] []) (fun x0 x1 x2 x3 x4 x5 x6 x7 x8 x9 x10 x11 x12 x13 x14 x15=>some (y1 (qR FU x0 x1 x2 x3 x4 x5 x6 x7 x8 x9 x10 x11 x12 x13 x14 x15) (De x1 x2 x3 x6 x7 x8 x9 x10 x11 x12 x13 x15))) (by kernel_rfl) fun _=>w1 fun h=>qdi _ _ _ _ _ _ _ _ _ _ _ _ _ _ _ _ h
section
variable {β:Type} (y:L3->Int->Int->LI->L3->LL->LL->LI->Int->LI->LI->LL->Option β) (z:LL->Option β) (x0:L3) (x1 x2:Int) (x3:LI) (x4:L3) (x5 x6:LL) (x7:LI) (x8:Int) (x9 x10:LI) (x11:LL)
def gq:Option β:=(cond (decide (x2 < x1)) (ck x2 (x0.length:Int) (cond (decide ((↑(List.length (List.getD x0 x2.toNat [])):Int)<=(↑(List.length (List.getD x0 x2.toNat [])):Int))) (cond (decide ((↑(List.length (List.getD x0 x2.toNat [])):Int)<=(↑(nat_lit 2147483648):Int))) (ob (qR FU x2 x0 x1 x2 (↑(List.length (List.replicate (↑(List.length (List.getD x0 x2.toNat [])):Int).toNat (0:Int))):Int) 0 x3 x4 x5 x6 x7 x8 x9 x10 (List.replicate (↑(List.length (List.getD x0 x2.toNat [])):Int).toNat 0) x11) fun r1=>(cond (decide (List.length x11+List.length [r1]<=nat_lit 2147483648)) (y x0 x1 (wI (x2+1)) x3 x4 x5 x6 x7 x8 x9 x10 (x11++[r1])) none)) none) none)) (z x11))
def jp:=itL (fun _ _ _ _ _ _ _ _ _ _ _ _=>none) fun f=>gq f some
theorem SC (n:Nat):jp (n+1)=gq (jp n) some:=rfl
def Hq:LL->Ex×CS:=fun r=>((.exit 0),⟨[(5,vG 4)],[],[bx2 x3 x4 x5 x6 x7 x8,rd0 x9,rd0 x10,.box 53 [.ptr 0 0],rd1 r],4,false⟩)
abbrev DZ:CS:=⟨[(1,.v (.sc (.fn 55 0 [none] [.ptr 3 0]))),(5,vG 4),(14,vd2 x0),(15,vI x1),(16,vI x2)],[],[bx2 x3 x4 x5 x6 x7 x8,rd0 x9,rd0 x10,.box 53 [.ptr 0 0],rd1 x11],4,false⟩
theorem qex {k m n:Nat} {r:LL} (h:jp n x0 x1 x2 x3 x4 x5 x6 x7 x8 x9 x10 x11=some r):lE S90 31 0 k (n+m) (DZ x0 x1 x2 x3 x4 x5 x6 x7 x8 x9 x10 x11)=some (Hq x3 x4 x5 x6 x7 x8 x9 x10 r):=by
 induction n generalizing x2 x11 with
 |zero=>cases h
 |succ n ih=>
 exact lS (gq (fun x0 x1 x2 x3 x4 x5 x6 x7 x8 x9 x10 x11=>lE S90 31 0 k (n+m) (DZ x0 x1 x2 x3 x4 x5 x6 x7 x8 x9 x10 x11)) (sm (Hq x3 x4 x5 x6 x7 x8 x9 x10)) x0 x1 x2 x3 x4 x5 x6 x7 x8 x9 x10 x11) (by kernel_rfl) (by rw [SC];unfold gq;with_reducible repeat' first|apply zd|exact ih _ _|exact nX|exact sX) h
end
def S91:=S90.lp 31 0 (DZ [] 0 0 [] [] [] [] [] 0 [] [] []) (fun x0 x1 x2 x3 x4 x5 x6 x7 x8 x9 x10 x11=>some (y1 (jp FU x0 x1 x2 x3 x4 x5 x6 x7 x8 x9 x10 x11) (Hq x3 x4 x5 x6 x7 x8 x9 x10))) (by kernel_rfl) fun _=>w1 fun h=>qex _ _ _ _ _ _ _ _ _ _ _ _ h
section
variable {β:Type} (z:LL->Option β) (x0:LI) (x1:L3) (x2 x3:LL) (x4:LI) (x5:Int) (x6 x7:LI)
def qan:Option β:=(ob (jp FU x1 (x1.length:Int) 0 x0 x1 x2 x3 x4 x5 x6 x7 []) fun r1=>(z r1))
def JA:=qan some x0 x1 x2 x3 x4 x5 x6 x7
abbrev qco:List TA:=[.sc (.ptr 0 0),.sc (.fn 55 0 [none] [.ptr 3 0])]
abbrev qcK:List TO:=[bx2 x0 x1 x2 x3 x4 x5,rd0 x6,rd0 x7,.box 53 [.ptr 0 0]]
abbrev qdN:LL->List TA×List TO:=fun r=>([.sc (kd2 r)],[bx2 x0 x1 x2 x3 x4 x5,rd0 x6,rd0 x7,.box 53 [.ptr 0 0]])
theorem ev31_1:fE S91 31 qco (qcK x0 x1 x2 x3 x4 x5 x6 x7)=(JA x0 x1 x2 x3 x4 x5 x6 x7).bind (sm (qdN x0 x1 x2 x3 x4 x5 x6 x7)):=zE (fun z=>qan z x0 x1 x2 x3 x4 x5 x6 x7) (by kernel_rfl) fun K=>by unfold JA qan;with_reducible repeat' first|apply zc|exact nB|exact sB
end
def S92:=S91.fn 31 qco (qcK [] [] [] [] [] 0 [] []) (fun x0 x1 x2 x3 x4 x5 x6 x7=>some (y1 (JA x0 x1 x2 x3 x4 x5 x6 x7) (qdN x0 x1 x2 x3 x4 x5 x6 x7))) rfl fun _=>w1 fun h=>(ev31_1 ..).trans (bD h)
section
variable {β:Type} (z:Int->Option β) (x0 x1:Int) (x2:LI) (x3:L3) (x4 x5:LL) (x6:LI) (x7:Int) (x8 x9:LI) (x10:LL)
def tv57:Option β:=(ck x0 (x4.length:Int) (ck x1 (↑(List.length (List.getD x4 x0.toNat [])):Int) (cond (decide (x0 < (x10.length:Int))) (cond (decide (x1 < (↑(List.length (List.getD x10 x0.toNat [])):Int))) (z (wI (List.getD (List.getD x4 x0.toNat []) x1.toNat 0+List.getD (List.getD x10 x0.toNat []) x1.toNat 0))) none) none)))
def v57 (x0 x1:Int) (x2:LI) (x3:L3) (x4 x5:LL) (x6:LI) (x7:Int) (x8 x9:LI) (x10:LL):Option Int:=tv57 some x0 x1 x4 x10
def uv57:Option β:=(ck x0 (x4.length:Int) (ck x1 (↑(List.length (List.getD x4 x0.toNat [])):Int) (ck x0 (x10.length:Int) (ck x1 (↑(List.length (List.getD x10 x0.toNat [])):Int) (z (wI (List.getD (List.getD x4 x0.toNat []) x1.toNat 0+List.getD (List.getD x10 x0.toNat []) x1.toNat 0)))))))
abbrev aF57:List TA:=[.sc (I4 x0),.sc (I4 x1),.sc (.ptr 0 0),.sc (.ptr 4 0)]
abbrev hF57:List TO:=[.box 53 [.ptr 1 0],bx1 x2 x3 x4 x5 x6 x7,rd0 x8,rd0 x9,.box 31 [kd2 x10]]
abbrev rF57:Int->List TA×List TO:=fun r=>([.sc (I4 r)],[.box 53 [.ptr 1 0],bx1 x2 x3 x4 x5 x6 x7,rd0 x8,rd0 x9,.box 31 [kd2 x10]])
theorem ev57:fE S92 57 (aF57 x0 x1) (hF57 x2 x3 x4 x5 x6 x7 x8 x9 x10)=(v57 x0 x1 x2 x3 x4 x5 x6 x7 x8 x9 x10).bind (sm (rF57 x2 x3 x4 x5 x6 x7 x8 x9 x10)):=zE (fun z=>uv57 z x0 x1 x4 x10) (by kernel_rfl) fun K=>by unfold v57 tv57 uv57;with_reducible repeat' first|apply bT ‹_›|apply bF ‹_›|(apply Yi<;>intro _)|exact nB|exact sB
end
def S93:=S92.fn 57 (aF57 0 0) (hF57 [] [] [] [] [] 0 [] [] []) (fun x0 x1 x2 x3 x4 x5 x6 x7 x8 x9 x10=>some (y1 (v57 x0 x1 x2 x3 x4 x5 x6 x7 x8 x9 x10) (rF57 x2 x3 x4 x5 x6 x7 x8 x9 x10))) rfl fun _=>w1 fun h=>(ev57 ..).trans (bD h)
section
variable {β:Type} (y:Int->L3->Int->Int->Int->Int->LI->L3->LL->LL->LI->Int->LI->LI->LL->LI->LL->Option β) (z:LI->Option β) (x0:Int) (x1:L3) (x2 x3 x4 x5:Int) (x6:LI) (x7:L3) (x8 x9:LL) (x10:LI) (x11:Int) (x12 x13:LI) (x14:LL) (x15:LI) (x16:LL)
def j4:Option β:=(cond (decide (x5 < x4)) (ob (v57 x0 x5 x6 x7 x8 x9 x10 x11 x12 x13 x14) fun r1=>(ck x5 (x15.length:Int) (cond (decide (x5.toNat < List.length x15)) (y x0 x1 x2 x3 x4 (wI (x5+1)) x6 x7 x8 x9 x10 x11 x12 x13 x14 (List.set x15 x5.toNat r1) x16) none))) (z x15))
def qS:=itL (fun _ _ _ _ _ _ _ _ _ _ _ _ _ _ _ _ _=>none) fun f=>j4 f some
theorem Kz (n:Nat):qS (n+1)=j4 (qS n) some:=rfl
def Dg:LI->Ex×CS:=fun r=>((.exit 2),⟨[(1,.v (.sc (.fn 57 0 [none,none] [.ptr 3 0,.ptr 4 0]))),(5,vG 6),(8,vG 5),(14,vd2 x1),(15,vI x2),(16,vI x3)],[],[bx2 x6 x7 x8 x9 x10 x11,rd0 x12,rd0 x13,.box 53 [.ptr 0 0],.box 31 [kd2 x14],rd0 r,rd1 x16],5,false⟩)
abbrev J8:CS:=⟨[(1,.v (.sc (.fn 57 0 [none,none] [.ptr 3 0,.ptr 4 0]))),(5,vG 6),(6,vI x0),(8,vG 5),(14,vd2 x1),(15,vI x2),(16,vI x3),(25,vI x4),(26,vI x5)],[],[bx2 x6 x7 x8 x9 x10 x11,rd0 x12,rd0 x13,.box 53 [.ptr 0 0],.box 31 [kd2 x14],rd0 x15,rd1 x16],5,false⟩
theorem qdj {k m n:Nat} {r:LI} (h:qS n x0 x1 x2 x3 x4 x5 x6 x7 x8 x9 x10 x11 x12 x13 x14 x15 x16=some r):lE S93 31 2 k (n+m) (J8 x0 x1 x2 x3 x4 x5 x6 x7 x8 x9 x10 x11 x12 x13 x14 x15 x16)=some (Dg x1 x2 x3 x6 x7 x8 x9 x10 x11 x12 x13 x14 x16 r):=by
 induction n generalizing x5 x15 with
 |zero=>cases h
 |succ n ih=>
 exact lS (j4 (fun x0 x1 x2 x3 x4 x5 x6 x7 x8 x9 x10 x11 x12 x13 x14 x15 x16=>lE S93 31 2 k (n+m) (J8 x0 x1 x2 x3 x4 x5 x6 x7 x8 x9 x10 x11 x12 x13 x14 x15 x16)) (sm (Dg x1 x2 x3 x6 x7 x8 x9 x10 x11 x12 x13 x14 x16)) x0 x1 x2 x3 x4 x5 x6 x7 x8 x9 x10 x11 x12 x13 x14 x15 x16) (by kernel_rfl) (by rw [Kz];unfold j4;with_reducible repeat' first|apply zd|exact ih _ _|exact nX|exact sX) h
end
def S94:=S93.lp 31 2 (J8 0 [] 0 0 0 0 [] [] [] [] [] 0 [] [] [] [] []) (fun x0 x1 x2 x3 x4 x5 x6 x7 x8 x9 x10 x11 x12 x13 x14 x15 x16=>some (y1 (qS FU x0 x1 x2 x3 x4 x5 x6 x7 x8 x9 x10 x11 x12 x13 x14 x15 x16) (Dg x1 x2 x3 x6 x7 x8 x9 x10 x11 x12 x13 x14 x16))) (by kernel_rfl) fun _=>w1 fun h=>qdj _ _ _ _ _ _ _ _ _ _ _ _ _ _ _ _ _ h
section
variable {β:Type} (y:L3->Int->Int->LI->L3->LL->LL->LI->Int->LI->LI->LL->LL->Option β) (z:LL->Option β) (x0:L3) (x1 x2:Int) (x3:LI) (x4:L3) (x5 x6:LL) (x7:LI) (x8:Int) (x9 x10:LI) (x11 x12:LL)
def gt:Option β:=(cond (decide (x2 < x1)) (ck x2 (x0.length:Int) (cond (decide ((↑(List.length (List.getD x0 x2.toNat [])):Int)<=(↑(List.length (List.getD x0 x2.toNat [])):Int))) (cond (decide ((↑(List.length (List.getD x0 x2.toNat [])):Int)<=(↑(nat_lit 2147483648):Int))) (ob (qS FU x2 x0 x1 x2 (↑(List.length (List.replicate (↑(List.length (List.getD x0 x2.toNat [])):Int).toNat (0:Int))):Int) 0 x3 x4 x5 x6 x7 x8 x9 x10 x11 (List.replicate (↑(List.length (List.getD x0 x2.toNat [])):Int).toNat 0) x12) fun r1=>(cond (decide (List.length x12+List.length [r1]<=nat_lit 2147483648)) (y x0 x1 (wI (x2+1)) x3 x4 x5 x6 x7 x8 x9 x10 x11 (x12++[r1])) none)) none) none)) (z x12))
def jq:=itL (fun _ _ _ _ _ _ _ _ _ _ _ _ _=>none) fun f=>gt f some
theorem SD (n:Nat):jq (n+1)=gt (jq n) some:=rfl
def Hr:LL->Ex×CS:=fun r=>((.exit 0),⟨[(5,vG 5)],[],[bx2 x3 x4 x5 x6 x7 x8,rd0 x9,rd0 x10,.box 53 [.ptr 0 0],.box 31 [kd2 x11],rd1 r],5,false⟩)
abbrev D0:CS:=⟨[(1,.v (.sc (.fn 57 0 [none,none] [.ptr 3 0,.ptr 4 0]))),(5,vG 5),(14,vd2 x0),(15,vI x1),(16,vI x2)],[],[bx2 x3 x4 x5 x6 x7 x8,rd0 x9,rd0 x10,.box 53 [.ptr 0 0],.box 31 [kd2 x11],rd1 x12],5,false⟩
theorem qey {k m n:Nat} {r:LL} (h:jq n x0 x1 x2 x3 x4 x5 x6 x7 x8 x9 x10 x11 x12=some r):lE S94 31 0 k (n+m) (D0 x0 x1 x2 x3 x4 x5 x6 x7 x8 x9 x10 x11 x12)=some (Hr x3 x4 x5 x6 x7 x8 x9 x10 x11 r):=by
 induction n generalizing x2 x12 with
 |zero=>cases h
 |succ n ih=>
 exact lS (gt (fun x0 x1 x2 x3 x4 x5 x6 x7 x8 x9 x10 x11 x12=>lE S94 31 0 k (n+m) (D0 x0 x1 x2 x3 x4 x5 x6 x7 x8 x9 x10 x11 x12)) (sm (Hr x3 x4 x5 x6 x7 x8 x9 x10 x11)) x0 x1 x2 x3 x4 x5 x6 x7 x8 x9 x10 x11 x12) (by kernel_rfl) (by rw [SD];unfold gt;with_reducible repeat' first|apply zd|exact ih _ _|exact nX|exact sX) h
end
def S95:=S94.lp 31 0 (D0 [] 0 0 [] [] [] [] [] 0 [] [] [] []) (fun x0 x1 x2 x3 x4 x5 x6 x7 x8 x9 x10 x11 x12=>some (y1 (jq FU x0 x1 x2 x3 x4 x5 x6 x7 x8 x9 x10 x11 x12) (Hr x3 x4 x5 x6 x7 x8 x9 x10 x11))) (by kernel_rfl) fun _=>w1 fun h=>qey _ _ _ _ _ _ _ _ _ _ _ _ _ h
section
variable {β:Type} (z:LL->Option β) (x0:LI) (x1:L3) (x2 x3:LL) (x4:LI) (x5:Int) (x6 x7:LI) (x8:LL)
def qao:Option β:=(ob (jq FU x1 (x1.length:Int) 0 x0 x1 x2 x3 x4 x5 x6 x7 x8 []) fun r1=>(z r1))
def JB:=qao some x0 x1 x2 x3 x4 x5 x6 x7 x8
abbrev qcp:List TA:=[.sc (.ptr 0 0),.sc (.fn 57 0 [none,none] [.ptr 3 0,.ptr 4 0])]
abbrev qcL:List TO:=[bx2 x0 x1 x2 x3 x4 x5,rd0 x6,rd0 x7,.box 53 [.ptr 0 0],.box 31 [kd2 x8]]
abbrev qdO:LL->List TA×List TO:=fun r=>([.sc (kd2 r)],[bx2 x0 x1 x2 x3 x4 x5,rd0 x6,rd0 x7,.box 53 [.ptr 0 0],.box 31 [kd2 x8]])
theorem ev31_2:fE S95 31 qcp (qcL x0 x1 x2 x3 x4 x5 x6 x7 x8)=(JB x0 x1 x2 x3 x4 x5 x6 x7 x8).bind (sm (qdO x0 x1 x2 x3 x4 x5 x6 x7 x8)):=zE (fun z=>qao z x0 x1 x2 x3 x4 x5 x6 x7 x8) (by kernel_rfl) fun K=>by unfold JB qao;with_reducible repeat' first|apply zc|exact nB|exact sB
end
def S96:=S95.fn 31 qcp (qcL [] [] [] [] [] 0 [] [] []) (fun x0 x1 x2 x3 x4 x5 x6 x7 x8=>some (y1 (JB x0 x1 x2 x3 x4 x5 x6 x7 x8) (qdO x0 x1 x2 x3 x4 x5 x6 x7 x8))) rfl fun _=>w1 fun h=>(ev31_2 ..).trans (bD h)
section
variable {β:Type} (y:Int->Int->LI->L3->LL->LL->LI->Int->LI->LI->LL->Option β) (z:LI->Option β) (x0 x1:Int) (x2:LI) (x3:L3) (x4 x5:LL) (x6:LI) (x7:Int) (x8 x9:LI) (x10:LL)
def GT:Option β:=(cond (decide (x1 < x0)) (ck x1 (x8.length:Int) (cond (decide (x1.toNat < List.length x8)) (cond (decide (x1 < (x9.length:Int))) (cond (decide (x1.toNat < List.length x9)) (y x0 (wI (x1+1)) x2 x3 x4 x5 x6 x7 x8 (List.set x9 x1.toNat (wI (List.getD x9 x1.toNat 0+List.getD x8 x1.toNat 0))) x10) none) none) none)) (z x9))
def qbN:Option β:=(cond (decide (x1 < x0)) (ck x1 (x8.length:Int) (cond (decide (x1.toNat < List.length x8)) (ck x1 (x9.length:Int) (cond (decide (x1.toNat < List.length x9)) (ck x1 (x9.length:Int) (cond (decide (x1.toNat < List.length x9)) (y x0 (wI (x1+1)) x2 x3 x4 x5 x6 x7 x8 (List.set x9 x1.toNat (wI (List.getD x9 x1.toNat 0+List.getD x8 x1.toNat 0))) x10) none)) none)) none)) (z x9))
def jc:=itL (fun _ _ _ _ _ _ _ _ _ _ _=>none) fun f=>GT f some
theorem SI (n:Nat):jc (n+1)=GT (jc n) some:=rfl
def Hw:LI->Ex×CS:=fun r=>((.exit 0),⟨[(1,vP 4),(2,vP 3)],[],[bx2 x2 x3 x4 x5 x6 x7,rd0 x8,rd0 r,.box 31 [kd2 x10],.box 53 [.ptr 0 0]],3,false⟩)
abbrev D5:CS:=⟨[(1,vP 4),(2,vP 3),(25,vG 1),(26,vI x0),(27,vI x1)],[],[bx2 x2 x3 x4 x5 x6 x7,rd0 x8,rd0 x9,.box 31 [kd2 x10],.box 53 [.ptr 0 0]],3,false⟩
theorem qeD {k m n:Nat} {r:LI} (h:jc n x0 x1 x2 x3 x4 x5 x6 x7 x8 x9 x10=some r):lE S96 34 0 k (n+m) (D5 x0 x1 x2 x3 x4 x5 x6 x7 x8 x9 x10)=some (Hw x2 x3 x4 x5 x6 x7 x8 x10 r):=by
 induction n generalizing x1 x9 with
 |zero=>cases h
 |succ n ih=>
 exact lS (qbN (fun x0 x1 x2 x3 x4 x5 x6 x7 x8 x9 x10=>lE S96 34 0 k (n+m) (D5 x0 x1 x2 x3 x4 x5 x6 x7 x8 x9 x10)) (sm (Hw x2 x3 x4 x5 x6 x7 x8 x10)) x0 x1 x2 x3 x4 x5 x6 x7 x8 x9 x10) (by kernel_rfl) (by rw [SI];unfold GT qbN;with_reducible repeat' first|apply gT ‹_›|apply gF ‹_›|(apply zz<;>intro _)|exact ih _ _|exact nX|exact sX) h
end
def S97:=S96.lp 34 0 (D5 0 0 [] [] [] [] [] 0 [] [] []) (fun x0 x1 x2 x3 x4 x5 x6 x7 x8 x9 x10=>some (y1 (jc FU x0 x1 x2 x3 x4 x5 x6 x7 x8 x9 x10) (Hw x2 x3 x4 x5 x6 x7 x8 x10))) (by kernel_rfl) fun _=>w1 fun h=>qeD _ _ _ _ _ _ _ _ _ _ _ h
section
variable {β:Type} (y:LL->Int->Int->L3->Int->Int->LL->Int->Int->LI->Int->Int->LI->L3->LL->LL->LI->Int->LI->LI->LI->Option β) (z:LI->Option β) (x0:LL) (x1 x2:Int) (x3:L3) (x4 x5:Int) (x6:LL) (x7 x8:Int) (x9:LI) (x10 x11:Int) (x12:LI) (x13:L3) (x14 x15:LL) (x16:LI) (x17:Int) (x18 x19 x20:LI)
def Gk:Option β:=(cond (decide (x11 < x10)) (ck x11 (x9.length:Int) (ck (List.getD x9 x11.toNat 0) (x20.length:Int) (cond (decide ((List.getD x9 x11.toNat 0).toNat < List.length x20)) (ck x1 (x0.length:Int) (ck x2 (↑(List.length (List.getD x0 x1.toNat [])):Int) (y x0 x1 x2 x3 x4 x5 x6 x7 x8 x9 x10 (wI (x11+1)) x12 x13 x14 x15 x16 x17 x18 x19 (List.set x20 (List.getD x9 x11.toNat 0).toNat (wI (List.getD x20 (List.getD x9 x11.toNat 0).toNat 0+List.getD (List.getD x0 x1.toNat []) x2.toNat 0)))))) none))) (z x20))
def qbo:Option β:=(cond (decide (x11 < x10)) (ck x11 (x9.length:Int) (ck (List.getD x9 x11.toNat 0) (x20.length:Int) (cond (decide ((List.getD x9 x11.toNat 0).toNat < List.length x20)) (ck x1 (x0.length:Int) (ck x2 (↑(List.length (List.getD x0 x1.toNat [])):Int) (ck (List.getD x9 x11.toNat 0) (x20.length:Int) (cond (decide ((List.getD x9 x11.toNat 0).toNat < List.length x20)) (y x0 x1 x2 x3 x4 x5 x6 x7 x8 x9 x10 (wI (x11+1)) x12 x13 x14 x15 x16 x17 x18 x19 (List.set x20 (List.getD x9 x11.toNat 0).toNat (wI (List.getD x20 (List.getD x9 x11.toNat 0).toNat 0+List.getD (List.getD x0 x1.toNat []) x2.toNat 0)))) none)))) none))) (z x20))
def qY:=itL (fun _ _ _ _ _ _ _ _ _ _ _ _ _ _ _ _ _ _ _ _ _=>none) fun f=>Gk f some
theorem KI (n:Nat):qY (n+1)=Gk (qY n) some:=rfl
def Ds:LI->Ex×CS:=fun r=>((.exit 4),⟨[(1,vd1 x0),(5,vG 3),(6,vI x1),(23,vd2 x3),(24,vI x4),(25,vI x5),(30,vd1 x6),(31,vI x7),(32,vI x8)],[],[bx2 x12 x13 x14 x15 x16 x17,rd0 x18,rd0 x19,rd0 r],3,false⟩)
abbrev Ki:CS:=⟨[(1,vd1 x0),(5,vG 3),(6,vI x1),(8,vI x2),(23,vd2 x3),(24,vI x4),(25,vI x5),(30,vd1 x6),(31,vI x7),(32,vI x8),(37,vd0 x9),(38,vI x10),(39,vI x11)],[],[bx2 x12 x13 x14 x15 x16 x17,rd0 x18,rd0 x19,rd0 x20],3,false⟩
theorem qdv {k m n:Nat} {r:LI} (h:qY n x0 x1 x2 x3 x4 x5 x6 x7 x8 x9 x10 x11 x12 x13 x14 x15 x16 x17 x18 x19 x20=some r):lE S97 60 4 k (n+m) (Ki x0 x1 x2 x3 x4 x5 x6 x7 x8 x9 x10 x11 x12 x13 x14 x15 x16 x17 x18 x19 x20)=some (Ds x0 x1 x3 x4 x5 x6 x7 x8 x12 x13 x14 x15 x16 x17 x18 x19 r):=by
 induction n generalizing x11 x20 with
 |zero=>cases h
 |succ n ih=>
 exact lS (qbo (fun x0 x1 x2 x3 x4 x5 x6 x7 x8 x9 x10 x11 x12 x13 x14 x15 x16 x17 x18 x19 x20=>lE S97 60 4 k (n+m) (Ki x0 x1 x2 x3 x4 x5 x6 x7 x8 x9 x10 x11 x12 x13 x14 x15 x16 x17 x18 x19 x20)) (sm (Ds x0 x1 x3 x4 x5 x6 x7 x8 x12 x13 x14 x15 x16 x17 x18 x19)) x0 x1 x2 x3 x4 x5 x6 x7 x8 x9 x10 x11 x12 x13 x14 x15 x16 x17 x18 x19 x20) (by kernel_rfl) (by rw [KI];unfold Gk qbo;with_reducible repeat' first|apply gT ‹_›|apply gF ‹_›|(apply zz<;>intro _)|exact ih _ _|exact nX|exact sX) h
end
def S98:=S97.lp 60 4 (Ki [] 0 0 [] 0 0 [] 0 0 [] 0 0 [] [] [] [] [] 0 [] [] []) (fun x0 x1 x2 x3 x4 x5 x6 x7 x8 x9 x10 x11 x12 x13 x14 x15 x16 x17 x18 x19 x20=>some (y1 (qY FU x0 x1 x2 x3 x4 x5 x6 x7 x8 x9 x10 x11 x12 x13 x14 x15 x16 x17 x18 x19 x20) (Ds x0 x1 x3 x4 x5 x6 x7 x8 x12 x13 x14 x15 x16 x17 x18 x19))) (by kernel_rfl) fun _=>w1 fun h=>qdv _ _ _ _ _ _ _ _ _ _ _ _ _ _ _ _ _ _ _ _ _ h
section
variable {β:Type} (y:LL->Int->L3->Int->Int->LL->Int->Int->LI->L3->LL->LL->LI->Int->LI->LI->LI->Option β) (z:LI->Option β) (x0:LL) (x1:Int) (x2:L3) (x3 x4:Int) (x5:LL) (x6 x7:Int) (x8:LI) (x9:L3) (x10 x11:LL) (x12:LI) (x13:Int) (x14 x15 x16:LI)
def j8:Option β:=(cond (decide (x7 < x6)) (ck x7 (x5.length:Int) (ob (qY FU x0 x1 x7 x2 x3 x4 x5 x6 x7 (List.getD x5 x7.toNat []) (↑(List.length (List.getD x5 x7.toNat [])):Int) 0 x8 x9 x10 x11 x12 x13 x14 x15 x16) fun r1=>(y x0 x1 x2 x3 x4 x5 x6 (wI (x7+1)) x8 x9 x10 x11 x12 x13 x14 x15 r1))) (z x16))
def qX:=itL (fun _ _ _ _ _ _ _ _ _ _ _ _ _ _ _ _ _=>none) fun f=>j8 f some
theorem KH (n:Nat):qX (n+1)=j8 (qX n) some:=rfl
def Dr:LI->Ex×CS:=fun r=>((.exit 2),⟨[(1,vd1 x0),(5,vG 3),(23,vd2 x2),(24,vI x3),(25,vI x4)],[],[bx2 x8 x9 x10 x11 x12 x13,rd0 x14,rd0 x15,rd0 r],3,false⟩)
abbrev Kh:CS:=⟨[(1,vd1 x0),(5,vG 3),(6,vI x1),(23,vd2 x2),(24,vI x3),(25,vI x4),(30,vd1 x5),(31,vI x6),(32,vI x7)],[],[bx2 x8 x9 x10 x11 x12 x13,rd0 x14,rd0 x15,rd0 x16],3,false⟩
theorem qdu {k m n:Nat} {r:LI} (h:qX n x0 x1 x2 x3 x4 x5 x6 x7 x8 x9 x10 x11 x12 x13 x14 x15 x16=some r):lE S98 60 2 k (n+m) (Kh x0 x1 x2 x3 x4 x5 x6 x7 x8 x9 x10 x11 x12 x13 x14 x15 x16)=some (Dr x0 x2 x3 x4 x8 x9 x10 x11 x12 x13 x14 x15 r):=by
 induction n generalizing x7 x16 with
 |zero=>cases h
 |succ n ih=>
 exact lS (j8 (fun x0 x1 x2 x3 x4 x5 x6 x7 x8 x9 x10 x11 x12 x13 x14 x15 x16=>lE S98 60 2 k (n+m) (Kh x0 x1 x2 x3 x4 x5 x6 x7 x8 x9 x10 x11 x12 x13 x14 x15 x16)) (sm (Dr x0 x2 x3 x4 x8 x9 x10 x11 x12 x13 x14 x15)) x0 x1 x2 x3 x4 x5 x6 x7 x8 x9 x10 x11 x12 x13 x14 x15 x16) (by kernel_rfl) (by rw [KH];unfold j8;with_reducible repeat' first|apply zd|exact ih _ _|exact nX|exact sX) h
end
def S99:=S98.lp 60 2 (Kh [] 0 [] 0 0 [] 0 0 [] [] [] [] [] 0 [] [] []) (fun x0 x1 x2 x3 x4 x5 x6 x7 x8 x9 x10 x11 x12 x13 x14 x15 x16=>some (y1 (qX FU x0 x1 x2 x3 x4 x5 x6 x7 x8 x9 x10 x11 x12 x13 x14 x15 x16) (Dr x0 x2 x3 x4 x8 x9 x10 x11 x12 x13 x14 x15))) (by kernel_rfl) fun _=>w1 fun h=>qdu _ _ _ _ _ _ _ _ _ _ _ _ _ _ _ _ _ h
section
variable {β:Type} (y:LL->L3->Int->Int->LI->L3->LL->LL->LI->Int->LI->LI->LI->Option β) (z:LI->Option β) (x0:LL) (x1:L3) (x2 x3:Int) (x4:LI) (x5:L3) (x6 x7:LL) (x8:LI) (x9:Int) (x10 x11 x12:LI)
def gz:Option β:=(cond (decide (x3 < x2)) (ck x3 (x1.length:Int) (ob (qX FU x0 x3 x1 x2 x3 (List.getD x1 x3.toNat []) (↑(List.length (List.getD x1 x3.toNat [])):Int) 0 x4 x5 x6 x7 x8 x9 x10 x11 x12) fun r1=>(y x0 x1 x2 (wI (x3+1)) x4 x5 x6 x7 x8 x9 x10 x11 r1))) (z x12))
def jw:=itL (fun _ _ _ _ _ _ _ _ _ _ _ _ _=>none) fun f=>gz f some
theorem SO (n:Nat):jw (n+1)=gz (jw n) some:=rfl
def HF:LI->Ex×CS:=fun r=>((.exit 0),⟨[(5,vG 3)],[],[bx2 x4 x5 x6 x7 x8 x9,rd0 x10,rd0 x11,rd0 r],3,false⟩)
abbrev Sd:CS:=⟨[(1,vd1 x0),(5,vG 3),(23,vd2 x1),(24,vI x2),(25,vI x3)],[],[bx2 x4 x5 x6 x7 x8 x9,rd0 x10,rd0 x11,rd0 x12],3,false⟩
theorem qeK {k m n:Nat} {r:LI} (h:jw n x0 x1 x2 x3 x4 x5 x6 x7 x8 x9 x10 x11 x12=some r):lE S99 60 0 k (n+m) (Sd x0 x1 x2 x3 x4 x5 x6 x7 x8 x9 x10 x11 x12)=some (HF x4 x5 x6 x7 x8 x9 x10 x11 r):=by
 induction n generalizing x3 x12 with
 |zero=>cases h
 |succ n ih=>
 exact lS (gz (fun x0 x1 x2 x3 x4 x5 x6 x7 x8 x9 x10 x11 x12=>lE S99 60 0 k (n+m) (Sd x0 x1 x2 x3 x4 x5 x6 x7 x8 x9 x10 x11 x12)) (sm (HF x4 x5 x6 x7 x8 x9 x10 x11)) x0 x1 x2 x3 x4 x5 x6 x7 x8 x9 x10 x11 x12) (by kernel_rfl) (by rw [SO];unfold gz;with_reducible repeat' first|apply zd|exact ih _ _|exact nX|exact sX) h
end
def S100:=S99.lp 60 0 (Sd [] [] 0 0 [] [] [] [] [] 0 [] [] []) (fun x0 x1 x2 x3 x4 x5 x6 x7 x8 x9 x10 x11 x12=>some (y1 (jw FU x0 x1 x2 x3 x4 x5 x6 x7 x8 x9 x10 x11 x12) (HF x4 x5 x6 x7 x8 x9 x10 x11))) (by kernel_rfl) fun _=>w1 fun h=>qeK _ _ _ _ _ _ _ _ _ _ _ _ _ h
section
variable {β:Type} (z:LI->Option β) (x0:LL) (x1:LI) (x2:L3) (x3 x4:LL) (x5:LI) (x6:Int) (x7 x8:LI)
def tv60:Option β:=(cond (decide ((x1.length:Int)<=(x1.length:Int))) (cond (decide ((x1.length:Int)<=(↑(nat_lit 2147483648):Int))) (ob (jw FU x0 x2 (x2.length:Int) 0 x1 x2 x3 x4 x5 x6 x7 x8 (List.replicate (x1.length:Int).toNat 0)) fun r1=>(z r1)) none) none)
def v60:=tv60 some x0 x1 x2 x3 x4 x5 x6 x7 x8
abbrev aF60:List TA:=[.sc (.ptr 0 0),.sc (kd2 x0)]
abbrev hF60:List TO:=[bx2 x1 x2 x3 x4 x5 x6,rd0 x7,rd0 x8]
abbrev rF60:LI->List TA×List TO:=fun r=>([.sc (kd0 r)],[bx2 x1 x2 x3 x4 x5 x6,rd0 x7,rd0 x8])
theorem ev60:fE S100 60 (aF60 x0) (hF60 x1 x2 x3 x4 x5 x6 x7 x8)=(v60 x0 x1 x2 x3 x4 x5 x6 x7 x8).bind (sm (rF60 x1 x2 x3 x4 x5 x6 x7 x8)):=zE (fun z=>tv60 z x0 x1 x2 x3 x4 x5 x6 x7 x8) (by kernel_rfl) fun K=>by unfold v60 tv60;with_reducible repeat' first|apply zc|exact nB|exact sB
end
def S101:=S100.fn 60 (aF60 []) (hF60 [] [] [] [] [] 0 [] []) (fun x0 x1 x2 x3 x4 x5 x6 x7 x8=>some (y1 (v60 x0 x1 x2 x3 x4 x5 x6 x7 x8) (rF60 x1 x2 x3 x4 x5 x6 x7 x8))) rfl fun _=>w1 fun h=>(ev60 ..).trans (bD h)
section
variable {β:Type} (y:LI->Int->LI->Int->Int->LI->L3->LL->LL->LI->Int->LI->LI->Option β) (z:Int->Option β) (x0:LI) (x1:Int) (x2:LI) (x3 x4:Int) (x5:LI) (x6:L3) (x7 x8:LL) (x9:LI) (x10:Int) (x11 x12:LI)
def GY:Option β:=(cond (decide (x4 < x3)) (ck x4 (x2.length:Int) (cond (decide (List.getD x2 x4.toNat 0 > 0)) (cond (decide (x1 < 0)) (y x0 x4 x2 x3 (wI (x4+1)) x5 x6 x7 x8 x9 x10 x11 x12) (cond (decide (x4 < (x5.length:Int))) (ck x1 (x0.length:Int) (cond (decide (x1 < (x5.length:Int))) (cond (decide (wI (List.getD x5 x4.toNat 0*List.getD x0 x1.toNat 0) < wI (List.getD x5 x1.toNat 0*List.getD x2 x4.toNat 0))) (y x0 x4 x2 x3 (wI (x4+1)) x5 x6 x7 x8 x9 x10 x11 x12) (y x0 x1 x2 x3 (wI (x4+1)) x5 x6 x7 x8 x9 x10 x11 x12)) none)) none)) (y x0 x1 x2 x3 (wI (x4+1)) x5 x6 x7 x8 x9 x10 x11 x12))) (z x1))
def qbT:Option β:=(cond (decide (x4 < x3)) (ck x4 (x2.length:Int) (cond (decide (List.getD x2 x4.toNat 0 > 0)) (cond (decide (x1 < 0)) (y x0 x4 x2 x3 (wI (x4+1)) x5 x6 x7 x8 x9 x10 x11 x12) (ck x4 (x5.length:Int) (ck x1 (x0.length:Int) (ck x1 (x5.length:Int) (cond (decide (wI (List.getD x5 x4.toNat 0*List.getD x0 x1.toNat 0) < wI (List.getD x5 x1.toNat 0*List.getD x2 x4.toNat 0))) (y x0 x4 x2 x3 (wI (x4+1)) x5 x6 x7 x8 x9 x10 x11 x12) (y x0 x1 x2 x3 (wI (x4+1)) x5 x6 x7 x8 x9 x10 x11 x12)))))) (y x0 x1 x2 x3 (wI (x4+1)) x5 x6 x7 x8 x9 x10 x11 x12))) (z x1))
def jx:=itL (fun _ _ _ _ _ _ _ _ _ _ _ _ _=>none) fun f=>GY f some
theorem SP (n:Nat):jx (n+1)=GY (jx n) some:=rfl
def HG:Int->Ex×CS:=fun r=>((.exit 0),⟨[(5,vI r)],[],[bx2 x5 x6 x7 x8 x9 x10,rd0 x11,rd0 x12],3,false⟩)
abbrev Se:CS:=⟨[(0,vP 0),(1,vd0 x0),(5,vI x1),(8,vd0 x2),(9,vI x3),(10,vI x4)],[],[bx2 x5 x6 x7 x8 x9 x10,rd0 x11,rd0 x12],3,false⟩
theorem qeL {k m n:Nat} {r:Int} (h:jx n x0 x1 x2 x3 x4 x5 x6 x7 x8 x9 x10 x11 x12=some r):lE S101 61 0 k (n+m) (Se x0 x1 x2 x3 x4 x5 x6 x7 x8 x9 x10 x11 x12)=some (HG x5 x6 x7 x8 x9 x10 x11 x12 r):=by
 induction n generalizing x1 x4 with
 |zero=>cases h
 |succ n ih=>
 exact lS (qbT (fun x0 x1 x2 x3 x4 x5 x6 x7 x8 x9 x10 x11 x12=>lE S101 61 0 k (n+m) (Se x0 x1 x2 x3 x4 x5 x6 x7 x8 x9 x10 x11 x12)) (sm (HG x5 x6 x7 x8 x9 x10 x11 x12)) x0 x1 x2 x3 x4 x5 x6 x7 x8 x9 x10 x11 x12) (by kernel_rfl) (by rw [SP];unfold GY qbT;with_reducible repeat' first|apply gT ‹_›|apply gF ‹_›|(apply zz<;>intro _)|exact ih _ _|exact nX|exact sX) h
end
def S102:=S101.lp 61 0 (Se [] 0 [] 0 0 [] [] [] [] [] 0 [] []) (fun x0 x1 x2 x3 x4 x5 x6 x7 x8 x9 x10 x11 x12=>some (y1 (jx FU x0 x1 x2 x3 x4 x5 x6 x7 x8 x9 x10 x11 x12) (HG x5 x6 x7 x8 x9 x10 x11 x12))) (by kernel_rfl) fun _=>w1 fun h=>qeL _ _ _ _ _ _ _ _ _ _ _ _ _ h
section
variable {β:Type} (z:Int->Option β) (x0 x1:LI) (x2:L3) (x3 x4:LL) (x5:LI) (x6:Int) (x7 x8:LI)
def tv61:Option β:=(ob (jx FU x0 (-1:Int) x0 (x0.length:Int) 0 x1 x2 x3 x4 x5 x6 x7 x8) fun r1=>(z r1))
def v61:=tv61 some x0 x1 x2 x3 x4 x5 x6 x7 x8
abbrev aF61:List TA:=[.sc (.ptr 0 0),.sc (kd0 x0)]
abbrev hF61:List TO:=[bx2 x1 x2 x3 x4 x5 x6,rd0 x7,rd0 x8]
abbrev rF61:Int->List TA×List TO:=fun r=>([.sc (I4 r)],[bx2 x1 x2 x3 x4 x5 x6,rd0 x7,rd0 x8])
theorem ev61:fE S102 61 (aF61 x0) (hF61 x1 x2 x3 x4 x5 x6 x7 x8)=(v61 x0 x1 x2 x3 x4 x5 x6 x7 x8).bind (sm (rF61 x1 x2 x3 x4 x5 x6 x7 x8)):=zE (fun z=>tv61 z x0 x1 x2 x3 x4 x5 x6 x7 x8) (by kernel_rfl) fun K=>by unfold v61 tv61;with_reducible repeat' first|apply zc|exact nB|exact sB
end
def S103:=S102.fn 61 (aF61 []) (hF61 [] [] [] [] [] 0 [] []) (fun x0 x1 x2 x3 x4 x5 x6 x7 x8=>some (y1 (v61 x0 x1 x2 x3 x4 x5 x6 x7 x8) (rF61 x1 x2 x3 x4 x5 x6 x7 x8))) rfl fun _=>w1 fun h=>(ev61 ..).trans (bD h)
abbrev bx3 (y0:LI) (y1:L3) (y2:LL) (y3:LL) (y4:LI) (y5:Int):TO:=.box 55 [kd0 y0,kd1 y1,.g 3,kd2 y2,.g 4,kd2 y3,kd0 y4,I4 y5]
section
variable {β:Type} (z:Int->Option β) (x0 x1:Int) (x2:LL) (x3:LI) (x4:L3) (x5 x6:LL) (x7:LI) (x8:Int) (x9 x10:LI) (x11:Int) (x12:LI)
def tv81:Option β:=(ck x0 (x2.length:Int) (ck x1 (↑(List.length (List.getD x2 x0.toNat [])):Int) (ck x11 (x3.length:Int) (cond (decide (x11 < (x12.length:Int))) (ob (v56 (List.getD (List.getD x2 x0.toNat []) x1.toNat 0) (wI ((1000000:Int)*List.getD x3 x11.toNat 0)) (List.getD x12 x11.toNat 0)) fun r1=>(z r1)) none))))
def v81 (x0 x1:Int) (x2:LL) (x3:LI) (x4:L3) (x5 x6:LL) (x7:LI) (x8:Int) (x9 x10:LI) (x11:Int) (x12:LI):Option Int:=tv81 some x0 x1 x2 x3 x11 x12
def uv81:Option β:=(ck x0 (x2.length:Int) (ck x1 (↑(List.length (List.getD x2 x0.toNat [])):Int) (ck x11 (x3.length:Int) (ck x11 (x12.length:Int) (ob (v56 (List.getD (List.getD x2 x0.toNat []) x1.toNat 0) (wI ((1000000:Int)*List.getD x3 x11.toNat 0)) (List.getD x12 x11.toNat 0)) fun r1=>(z r1))))))
abbrev aF81:List TA:=[.sc (I4 x0),.sc (I4 x1),.sc (.ptr 0 0),.sc (.ptr 1 0),.sc (.ptr 5 0),.sc (.ptr 6 0)]
abbrev hF81:List TO:=[.box 31 [kd2 x2],.box 53 [.ptr 2 0],bx3 x3 x4 x5 x6 x7 x8,rd0 x9,rd0 x10,.box 3 [I4 x11],.box 22 [kd0 x12]]
abbrev rF81:Int->List TA×List TO:=fun r=>([.sc (I4 r)],[.box 31 [kd2 x2],.box 53 [.ptr 2 0],bx3 x3 x4 x5 x6 x7 x8,rd0 x9,rd0 x10,.box 3 [I4 x11],.box 22 [kd0 x12]])
theorem ev81:fE S103 81 (aF81 x0 x1) (hF81 x2 x3 x4 x5 x6 x7 x8 x9 x10 x11 x12)=(v81 x0 x1 x2 x3 x4 x5 x6 x7 x8 x9 x10 x11 x12).bind (sm (rF81 x2 x3 x4 x5 x6 x7 x8 x9 x10 x11 x12)):=zE (fun z=>uv81 z x0 x1 x2 x3 x11 x12) (by kernel_rfl) fun K=>by unfold v81 tv81 uv81;with_reducible repeat' first|apply bT ‹_›|apply bF ‹_›|(apply Yi<;>intro _)|exact nB|exact sB
end
def S104:=S103.fn 81 (aF81 0 0) (hF81 [] [] [] [] [] [] 0 [] [] 0 []) (fun x0 x1 x2 x3 x4 x5 x6 x7 x8 x9 x10 x11 x12=>some (y1 (v81 x0 x1 x2 x3 x4 x5 x6 x7 x8 x9 x10 x11 x12) (rF81 x2 x3 x4 x5 x6 x7 x8 x9 x10 x11 x12))) rfl fun _=>w1 fun h=>(ev81 ..).trans (bD h)
section
variable {β:Type} (y:Int->L3->Int->Int->Int->Int->LI->L3->LL->LL->LI->Int->LI->LI->LL->Int->LI->LI->LL->Option β) (z:LI->Option β) (x0:Int) (x1:L3) (x2 x3 x4 x5:Int) (x6:LI) (x7:L3) (x8 x9:LL) (x10:LI) (x11:Int) (x12 x13:LI) (x14:LL) (x15:Int) (x16 x17:LI) (x18:LL)
def j5:Option β:=(cond (decide (x5 < x4)) (ob (v81 x0 x5 x14 x6 x7 x8 x9 x10 x11 x12 x13 x15 x16) fun r1=>(ck x5 (x17.length:Int) (cond (decide (x5.toNat < List.length x17)) (y x0 x1 x2 x3 x4 (wI (x5+1)) x6 x7 x8 x9 x10 x11 x12 x13 x14 x15 x16 (List.set x17 x5.toNat r1) x18) none))) (z x17))
def qT:=itL (fun _ _ _ _ _ _ _ _ _ _ _ _ _ _ _ _ _ _ _=>none) fun f=>j5 f some
theorem KA (n:Nat):qT (n+1)=j5 (qT n) some:=rfl
def Dh:LI->Ex×CS:=fun r=>((.exit 2),⟨[(1,.v (.sc (.fn 81 0 [none,none,none,none] [.ptr 3 0,.ptr 4 0,.ptr 5 0,.ptr 6 0]))),(5,vG 8),(8,vG 7),(14,vd2 x1),(15,vI x2),(16,vI x3)],[],[bx2 x6 x7 x8 x9 x10 x11,rd0 x12,rd0 x13,.box 31 [kd2 x14],.box 53 [.ptr 0 0],.box 3 [I4 x15],.box 22 [kd0 x16],rd0 r,rd1 x18],7,false⟩)
abbrev J9:CS:=⟨[(1,.v (.sc (.fn 81 0 [none,none,none,none] [.ptr 3 0,.ptr 4 0,.ptr 5 0,.ptr 6 0]))),(5,vG 8),(6,vI x0),(8,vG 7),(14,vd2 x1),(15,vI x2),(16,vI x3),(25,vI x4),(26,vI x5)],[],[bx2 x6 x7 x8 x9 x10 x11,rd0 x12,rd0 x13,.box 31 [kd2 x14],.box 53 [.ptr 0 0],.box 3 [I4 x15],.box 22 [kd0 x16],rd0 x17,rd1 x18],7,false⟩
theorem qdk {k m n:Nat} {r:LI} (h:qT n x0 x1 x2 x3 x4 x5 x6 x7 x8 x9 x10 x11 x12 x13 x14 x15 x16 x17 x18=some r):lE S104 31 2 k (n+m) (J9 x0 x1 x2 x3 x4 x5 x6 x7 x8 x9 x10 x11 x12 x13 x14 x15 x16 x17 x18)=some (Dh x1 x2 x3 x6 x7 x8 x9 x10 x11 x12 x13 x14 x15 x16 x18 r):=by
 induction n generalizing x5 x17 with
 |zero=>cases h
 |succ n ih=>
 exact lS (j5 (fun x0 x1 x2 x3 x4 x5 x6 x7 x8 x9 x10 x11 x12 x13 x14 x15 x16 x17 x18=>lE S104 31 2 k (n+m) (J9 x0 x1 x2 x3 x4 x5 x6 x7 x8 x9 x10 x11 x12 x13 x14 x15 x16 x17 x18)) (sm (Dh x1 x2 x3 x6 x7 x8 x9 x10 x11 x12 x13 x14 x15 x16 x18)) x0 x1 x2 x3 x4 x5 x6 x7 x8 x9 x10 x11 x12 x13 x14 x15 x16 x17 x18) (by kernel_rfl) (by rw [KA];unfold j5;with_reducible repeat' first|apply zd|exact ih _ _|exact nX|exact sX) h
end
def S105:=S104.lp 31 2 (J9 0 [] 0 0 0 0 [] [] [] [] [] 0 [] [] [] 0 [] [] []) (fun x0 x1 x2 x3 x4 x5 x6 x7 x8 x9 x10 x11 x12 x13 x14 x15 x16 x17 x18=>some (y1 (qT FU x0 x1 x2 x3 x4 x5 x6 x7 x8 x9 x10 x11 x12 x13 x14 x15 x16 x17 x18) (Dh x1 x2 x3 x6 x7 x8 x9 x10 x11 x12 x13 x14 x15 x16 x18))) (by kernel_rfl) fun _=>w1 fun h=>qdk _ _ _ _ _ _ _ _ _ _ _ _ _ _ _ _ _ _ _ h
section
variable {β:Type} (y:L3->Int->Int->LI->L3->LL->LL->LI->Int->LI->LI->LL->Int->LI->LL->Option β) (z:LL->Option β) (x0:L3) (x1 x2:Int) (x3:LI) (x4:L3) (x5 x6:LL) (x7:LI) (x8:Int) (x9 x10:LI) (x11:LL) (x12:Int) (x13:LI) (x14:LL)
def gu:Option β:=(cond (decide (x2 < x1)) (ck x2 (x0.length:Int) (cond (decide ((↑(List.length (List.getD x0 x2.toNat [])):Int)<=(↑(List.length (List.getD x0 x2.toNat [])):Int))) (cond (decide ((↑(List.length (List.getD x0 x2.toNat [])):Int)<=(↑(nat_lit 2147483648):Int))) (ob (qT FU x2 x0 x1 x2 (↑(List.length (List.replicate (↑(List.length (List.getD x0 x2.toNat [])):Int).toNat (0:Int))):Int) 0 x3 x4 x5 x6 x7 x8 x9 x10 x11 x12 x13 (List.replicate (↑(List.length (List.getD x0 x2.toNat [])):Int).toNat 0) x14) fun r1=>(cond (decide (List.length x14+List.length [r1]<=nat_lit 2147483648)) (y x0 x1 (wI (x2+1)) x3 x4 x5 x6 x7 x8 x9 x10 x11 x12 x13 (x14++[r1])) none)) none) none)) (z x14))
def jr:=itL (fun _ _ _ _ _ _ _ _ _ _ _ _ _ _ _=>none) fun f=>gu f some
theorem SE (n:Nat):jr (n+1)=gu (jr n) some:=rfl
def Hs:LL->Ex×CS:=fun r=>((.exit 0),⟨[(5,vG 7)],[],[bx2 x3 x4 x5 x6 x7 x8,rd0 x9,rd0 x10,.box 31 [kd2 x11],.box 53 [.ptr 0 0],.box 3 [I4 x12],.box 22 [kd0 x13],rd1 r],7,false⟩)
abbrev D1:CS:=⟨[(1,.v (.sc (.fn 81 0 [none,none,none,none] [.ptr 3 0,.ptr 4 0,.ptr 5 0,.ptr 6 0]))),(5,vG 7),(14,vd2 x0),(15,vI x1),(16,vI x2)],[],[bx2 x3 x4 x5 x6 x7 x8,rd0 x9,rd0 x10,.box 31 [kd2 x11],.box 53 [.ptr 0 0],.box 3 [I4 x12],.box 22 [kd0 x13],rd1 x14],7,false⟩
theorem qez {k m n:Nat} {r:LL} (h:jr n x0 x1 x2 x3 x4 x5 x6 x7 x8 x9 x10 x11 x12 x13 x14=some r):lE S105 31 0 k (n+m) (D1 x0 x1 x2 x3 x4 x5 x6 x7 x8 x9 x10 x11 x12 x13 x14)=some (Hs x3 x4 x5 x6 x7 x8 x9 x10 x11 x12 x13 r):=by
 induction n generalizing x2 x14 with
 |zero=>cases h
 |succ n ih=>
 exact lS (gu (fun x0 x1 x2 x3 x4 x5 x6 x7 x8 x9 x10 x11 x12 x13 x14=>lE S105 31 0 k (n+m) (D1 x0 x1 x2 x3 x4 x5 x6 x7 x8 x9 x10 x11 x12 x13 x14)) (sm (Hs x3 x4 x5 x6 x7 x8 x9 x10 x11 x12 x13)) x0 x1 x2 x3 x4 x5 x6 x7 x8 x9 x10 x11 x12 x13 x14) (by kernel_rfl) (by rw [SE];unfold gu;with_reducible repeat' first|apply zd|exact ih _ _|exact nX|exact sX) h
end
def S106:=S105.lp 31 0 (D1 [] 0 0 [] [] [] [] [] 0 [] [] [] 0 [] []) (fun x0 x1 x2 x3 x4 x5 x6 x7 x8 x9 x10 x11 x12 x13 x14=>some (y1 (jr FU x0 x1 x2 x3 x4 x5 x6 x7 x8 x9 x10 x11 x12 x13 x14) (Hs x3 x4 x5 x6 x7 x8 x9 x10 x11 x12 x13))) (by kernel_rfl) fun _=>w1 fun h=>qez _ _ _ _ _ _ _ _ _ _ _ _ _ _ _ h
section
variable {β:Type} (z:LL->Option β) (x0:LI) (x1:L3) (x2 x3:LL) (x4:LI) (x5:Int) (x6 x7:LI) (x8:LL) (x9:Int) (x10:LI)
def qap:Option β:=(ob (jr FU x1 (x1.length:Int) 0 x0 x1 x2 x3 x4 x5 x6 x7 x8 x9 x10 []) fun r1=>(z r1))
def GG:=qap some x0 x1 x2 x3 x4 x5 x6 x7 x8 x9 x10
abbrev qcq:List TA:=[.sc (.ptr 0 0),.sc (.fn 81 0 [none,none,none,none] [.ptr 3 0,.ptr 4 0,.ptr 5 0,.ptr 6 0])]
abbrev qcM:List TO:=[bx2 x0 x1 x2 x3 x4 x5,rd0 x6,rd0 x7,.box 31 [kd2 x8],.box 53 [.ptr 0 0],.box 3 [I4 x9],.box 22 [kd0 x10]]
abbrev qdP:LL->List TA×List TO:=fun r=>([.sc (kd2 r)],[bx2 x0 x1 x2 x3 x4 x5,rd0 x6,rd0 x7,.box 31 [kd2 x8],.box 53 [.ptr 0 0],.box 3 [I4 x9],.box 22 [kd0 x10]])
theorem ev31_3:fE S106 31 qcq (qcM x0 x1 x2 x3 x4 x5 x6 x7 x8 x9 x10)=(GG x0 x1 x2 x3 x4 x5 x6 x7 x8 x9 x10).bind (sm (qdP x0 x1 x2 x3 x4 x5 x6 x7 x8 x9 x10)):=zE (fun z=>qap z x0 x1 x2 x3 x4 x5 x6 x7 x8 x9 x10) (by kernel_rfl) fun K=>by unfold GG qap;with_reducible repeat' first|apply zc|exact nB|exact sB
end
def S107:=S106.fn 31 qcq (qcM [] [] [] [] [] 0 [] [] [] 0 []) (fun x0 x1 x2 x3 x4 x5 x6 x7 x8 x9 x10=>some (y1 (GG x0 x1 x2 x3 x4 x5 x6 x7 x8 x9 x10) (qdP x0 x1 x2 x3 x4 x5 x6 x7 x8 x9 x10))) rfl fun _=>w1 fun h=>(ev31_3 ..).trans (bD h)
section
variable {β:Type} (y:Int->LI->Int->Int->Option β) (z:Int->Option β) (x0:Int) (x1:LI) (x2 x3:Int)
def gN:Option β:=(cond (decide (x3 < x2)) (ck x3 (x1.length:Int) (y (wI (x0+List.getD x1 x3.toNat 0)) x1 x2 (wI (x3+1)))) (z x0))
def jF:=itL (fun _ _ _ _=>none) fun f=>gN f some
theorem Hc (n:Nat):jF (n+1)=gN (jF n) some:=rfl
def HT:Int->Ex×CS:=fun r=>((.exit 0),⟨[(3,vI r)],[],[],0,false⟩)
abbrev Sr:CS:=⟨[(3,vI x0),(6,vd0 x1),(7,vI x2),(8,vI x3)],[],[],0,false⟩
theorem qeX {k m n:Nat} {r:Int} (h:jF n x0 x1 x2 x3=some r):lE S107 82 0 k (n+m) (Sr x0 x1 x2 x3)=some (HT r):=by
 induction n generalizing x0 x3 with
 |zero=>cases h
 |succ n ih=>
 exact lS (gN (fun x0 x1 x2 x3=>lE S107 82 0 k (n+m) (Sr x0 x1 x2 x3)) (sm HT) x0 x1 x2 x3) (by kernel_rfl) (by rw [Hc];unfold gN;with_reducible repeat' first|apply zd|exact ih _ _|exact nX|exact sX) h
end
def S108:=S107.lp 82 0 (Sr 0 [] 0 0) (fun x0 x1 x2 x3=>some (y1 (jF FU x0 x1 x2 x3) HT)) (by kernel_rfl) fun _=>w1 fun h=>qeX _ _ _ _ h
section
variable {β:Type} (z:Int->Option β) (x0:LI)
def tv82:Option β:=(ob (jF FU 0 x0 (x0.length:Int) 0) fun r1=>(z r1))
def v82:=tv82 some x0
abbrev aF82:List TA:=[.sc (kd0 x0)]
abbrev rF82:Int->List TA×List TO:=fun r=>([.sc (I4 r)],[])
theorem ev82:fE S108 82 (aF82 x0) []=(v82 x0).bind (sm rF82):=zE (fun z=>tv82 z x0) (by kernel_rfl) fun K=>by unfold v82 tv82;with_reducible repeat' first|apply zc|exact nB|exact sB
end
def S109:=S108.fn 82 (aF82 []) [] (fun x0=>some (y1 (v82 x0) rF82)) rfl fun _=>w1 fun h=>(ev82 ..).trans (bD h)
section
variable {β:Type} (y:Int->Int->LL->Int->Int->Int->LL->Int->LI->L3->LL->LL->LI->Int->LI->LI->LI->LL->LI->Option β) (z:(Bool ⊕ (Int × Int))->Option β) (x0 x1:Int) (x2:LL) (x3 x4 x5:Int) (x6:LL) (x7:Int) (x8:LI) (x9:L3) (x10 x11:LL) (x12:LI) (x13:Int) (x14 x15 x16:LI) (x17:LL) (x18:LI)
def gC:Option β:=(cond (decide (x4 < x3)) (ck x4 (x2.length:Int) (ob (v82 (List.getD x2 x4.toNat [])) fun r1=>(cond (r1==0) (z (.inl (false))) (cond (decide (r1≠0)) (ob (v33 x4 x8 x9 x10 x11 x12 x13 x14 x15) fun r2=>(cond (decide (wI (x0*r2.2) < wI (wI (Int.tdiv (wI (wI ((1000000000000:Int)+r1) - (1:Int))) r1)*x1))) (y (wI (Int.tdiv (wI (wI ((1000000000000:Int)+r1) - (1:Int))) r1)) (r2.2) x2 x3 (wI (x4+1)) x5 x6 x7 x8 x9 x10 x11 x12 x13 x14 x15 x16 x17 x18) (y x0 x1 x2 x3 (wI (x4+1)) x5 x6 x7 x8 x9 x10 x11 x12 x13 x14 x15 x16 x17 x18))) none)))) (z (.inr (x0,x1))))
def qM:=itL (fun _ _ _ _ _ _ _ _ _ _ _ _ _ _ _ _ _ _ _=>none) fun f=>gC f some
theorem SQ (n:Nat):qM (n+1)=gC (qM n) some:=rfl
def HI:(Bool ⊕ (Int×Int))->Ex×CS:=Sum.elim (fun r=>(.ret,⟨[(6,.l 6 0),(7,vB r)],[(6,[kd2 x6,.g 3,I4 x7])],[bx2 x8 x9 x10 x11 x12 x13,rd0 x14,rd0 x15,rd0 x16],3,true⟩)) fun r=>((.exit 0),⟨[(2,vG 1),(3,vP 3),(6,.l 6 0),(10,.l 10 0),(11,vI r.1),(12,vI r.2)],[(6,[.g 5,.g 6,I4 x5]),(10,[kd2 x6,.g 4,I4 x7])],[bx2 x8 x9 x10 x11 x12 x13,rd0 x14,rd0 x15,.box 53 [.ptr 0 0],rd0 x16,rd1 x17,rd0 x18],3,false⟩)
abbrev Sg:CS:=⟨[(2,vG 1),(3,vP 3),(6,.l 6 0),(10,.l 10 0),(11,vI x0),(12,vI x1),(43,vd1 x2),(44,vI x3),(45,vI x4)],[(6,[.g 5,.g 6,I4 x5]),(10,[kd2 x6,.g 4,I4 x7])],[bx2 x8 x9 x10 x11 x12 x13,rd0 x14,rd0 x15,.box 53 [.ptr 0 0],rd0 x16,rd1 x17,rd0 x18],3,false⟩
theorem qeN {k m n:Nat} {r:Bool ⊕ (Int×Int)} (h:qM n x0 x1 x2 x3 x4 x5 x6 x7 x8 x9 x10 x11 x12 x13 x14 x15 x16 x17 x18=some r):lE S109 75 0 k (n+m) (Sg x0 x1 x2 x3 x4 x5 x6 x7 x8 x9 x10 x11 x12 x13 x14 x15 x16 x17 x18)=some (HI x5 x6 x7 x8 x9 x10 x11 x12 x13 x14 x15 x16 x17 x18 r):=by
 induction n generalizing x0 x1 x4 with
 |zero=>cases h
 |succ n ih=>
 exact lS (gC (fun x0 x1 x2 x3 x4 x5 x6 x7 x8 x9 x10 x11 x12 x13 x14 x15 x16 x17 x18=>lE S109 75 0 k (n+m) (Sg x0 x1 x2 x3 x4 x5 x6 x7 x8 x9 x10 x11 x12 x13 x14 x15 x16 x17 x18)) (sm (HI x5 x6 x7 x8 x9 x10 x11 x12 x13 x14 x15 x16 x17 x18)) x0 x1 x2 x3 x4 x5 x6 x7 x8 x9 x10 x11 x12 x13 x14 x15 x16 x17 x18) (by kernel_rfl) (by rw [SQ];unfold gC;with_reducible repeat' first|apply zd|exact ih _ _ _|exact nX|exact sX) h
end
def S110:=S109.lp 75 0 (Sg 0 0 [] 0 0 0 [] 0 [] [] [] [] [] 0 [] [] [] [] []) (fun x0 x1 x2 x3 x4 x5 x6 x7 x8 x9 x10 x11 x12 x13 x14 x15 x16 x17 x18=>some (y2 (qM FU x0 x1 x2 x3 x4 x5 x6 x7 x8 x9 x10 x11 x12 x13 x14 x15 x16 x17 x18) (HI x5 x6 x7 x8 x9 x10 x11 x12 x13 x14 x15 x16 x17 x18))) (by kernel_rfl) fun _=>w2 fun h=>qeN _ _ _ _ _ _ _ _ _ _ _ _ _ _ _ _ _ _ _ h
section
variable {β:Type} (z:Int->Option β) (x0 x1:Int)
def tv83:Option β:=(z ((1:Int)))
def v83 (x0 x1:Int):Option Int:=tv83 some
abbrev aF83:List TA:=[.sc (I4 x0),.sc (I4 x1)]
abbrev rF83:Int->List TA×List TO:=fun r=>([.sc (I4 r)],[])
theorem ev83:fE S110 83 (aF83 x0 x1) []=(v83 x0 x1).bind (sm rF83):=zE (fun z=>tv83 z) (by kernel_rfl) fun K=>by unfold v83 tv83;with_reducible repeat' first|apply zc|exact nB|exact sB
end
def S111:=S110.fn 83 (aF83 0 0) [] (fun x0 x1=>some (y1 (v83 x0 x1) rF83)) rfl fun _=>w1 fun h=>(ev83 ..).trans (bD h)
section
variable {β:Type} (y:Int->L3->Int->Int->Int->Int->LI->L3->LL->LL->LI->Int->LI->LI->LI->LL->Option β) (z:LI->Option β) (x0:Int) (x1:L3) (x2 x3 x4 x5:Int) (x6:LI) (x7:L3) (x8 x9:LL) (x10:LI) (x11:Int) (x12 x13 x14:LI) (x15:LL)
def j6:Option β:=(cond (decide (x5 < x4)) (ck x5 (x14.length:Int) (cond (decide (x5.toNat < List.length x14)) (y x0 x1 x2 x3 x4 (wI (x5+1)) x6 x7 x8 x9 x10 x11 x12 x13 (List.set x14 x5.toNat (val (v83 x0 x5))) x15) none)) (z x14))
def qU:=itL (fun _ _ _ _ _ _ _ _ _ _ _ _ _ _ _ _=>none) fun f=>j6 f some
theorem KB (n:Nat):qU (n+1)=j6 (qU n) some:=rfl
def Di:LI->Ex×CS:=fun r=>((.exit 2),⟨[(1,.v (.sc (.fn 83 0 [] []))),(5,vG 4),(8,vG 3),(14,vd2 x1),(15,vI x2),(16,vI x3)],[],[bx2 x6 x7 x8 x9 x10 x11,rd0 x12,rd0 x13,rd0 r,rd1 x15],3,false⟩)
abbrev Ka:CS:=⟨[(1,.v (.sc (.fn 83 0 [] []))),(5,vG 4),(6,vI x0),(8,vG 3),(14,vd2 x1),(15,vI x2),(16,vI x3),(25,vI x4),(26,vI x5)],[],[bx2 x6 x7 x8 x9 x10 x11,rd0 x12,rd0 x13,rd0 x14,rd1 x15],3,false⟩
theorem qdl {k m n:Nat} {r:LI} (h:qU n x0 x1 x2 x3 x4 x5 x6 x7 x8 x9 x10 x11 x12 x13 x14 x15=some r):lE S111 31 2 k (n+m) (Ka x0 x1 x2 x3 x4 x5 x6 x7 x8 x9 x10 x11 x12 x13 x14 x15)=some (Di x1 x2 x3 x6 x7 x8 x9 x10 x11 x12 x13 x15 r):=by
 induction n generalizing x5 x14 with
 |zero=>cases h
 |succ n ih=>
 exact lS (j6 (fun x0 x1 x2 x3 x4 x5 x6 x7 x8 x9 x10 x11 x12 x13 x14 x15=>lE S111 31 2 k (n+m) (Ka x0 x1 x2 x3 x4 x5 x6 x7 x8 x9 x10 x11 x12 x13 x14 x15)) (sm (Di x1 x2 x3 x6 x7 x8 x9 x10 x11 x12 x13 x15)) x0 x1 x2 x3 x4 x5 x6 x7 x8 x9 x10 x11 x12 x13 x14 x15) (by kernel_rfl) (by rw [KB];unfold j6;with_reducible repeat' first|apply zd|exact ih _ _|exact nX|exact sX) h
end
def S112:=S111.lp 31 2 (Ka 0 [] 0 0 0 0 [] [] [] [] [] 0 [] [] [] []) (fun x0 x1 x2 x3 x4 x5 x6 x7 x8 x9 x10 x11 x12 x13 x14 x15=>some (y1 (qU FU x0 x1 x2 x3 x4 x5 x6 x7 x8 x9 x10 x11 x12 x13 x14 x15) (Di x1 x2 x3 x6 x7 x8 x9 x10 x11 x12 x13 x15))) (by kernel_rfl) fun _=>w1 fun h=>qdl _ _ _ _ _ _ _ _ _ _ _ _ _ _ _ _ h
section
variable {β:Type} (y:L3->Int->Int->LI->L3->LL->LL->LI->Int->LI->LI->LL->Option β) (z:LL->Option β) (x0:L3) (x1 x2:Int) (x3:LI) (x4:L3) (x5 x6:LL) (x7:LI) (x8:Int) (x9 x10:LI) (x11:LL)
def gv:Option β:=(cond (decide (x2 < x1)) (ck x2 (x0.length:Int) (cond (decide ((↑(List.length (List.getD x0 x2.toNat [])):Int)<=(↑(List.length (List.getD x0 x2.toNat [])):Int))) (cond (decide ((↑(List.length (List.getD x0 x2.toNat [])):Int)<=(↑(nat_lit 2147483648):Int))) (ob (qU FU x2 x0 x1 x2 (↑(List.length (List.replicate (↑(List.length (List.getD x0 x2.toNat [])):Int).toNat (0:Int))):Int) 0 x3 x4 x5 x6 x7 x8 x9 x10 (List.replicate (↑(List.length (List.getD x0 x2.toNat [])):Int).toNat 0) x11) fun r1=>(cond (decide (List.length x11+List.length [r1]<=nat_lit 2147483648)) (y x0 x1 (wI (x2+1)) x3 x4 x5 x6 x7 x8 x9 x10 (x11++[r1])) none)) none) none)) (z x11))
def js:=itL (fun _ _ _ _ _ _ _ _ _ _ _ _=>none) fun f=>gv f some
theorem SF (n:Nat):js (n+1)=gv (js n) some:=rfl
def Ht:LL->Ex×CS:=fun r=>((.exit 0),⟨[(5,vG 3)],[],[bx2 x3 x4 x5 x6 x7 x8,rd0 x9,rd0 x10,rd1 r],3,false⟩)
abbrev D2:CS:=⟨[(1,.v (.sc (.fn 83 0 [] []))),(5,vG 3),(14,vd2 x0),(15,vI x1),(16,vI x2)],[],[bx2 x3 x4 x5 x6 x7 x8,rd0 x9,rd0 x10,rd1 x11],3,false⟩
theorem qeA {k m n:Nat} {r:LL} (h:js n x0 x1 x2 x3 x4 x5 x6 x7 x8 x9 x10 x11=some r):lE S112 31 0 k (n+m) (D2 x0 x1 x2 x3 x4 x5 x6 x7 x8 x9 x10 x11)=some (Ht x3 x4 x5 x6 x7 x8 x9 x10 r):=by
 induction n generalizing x2 x11 with
 |zero=>cases h
 |succ n ih=>
 exact lS (gv (fun x0 x1 x2 x3 x4 x5 x6 x7 x8 x9 x10 x11=>lE S112 31 0 k (n+m) (D2 x0 x1 x2 x3 x4 x5 x6 x7 x8 x9 x10 x11)) (sm (Ht x3 x4 x5 x6 x7 x8 x9 x10)) x0 x1 x2 x3 x4 x5 x6 x7 x8 x9 x10 x11) (by kernel_rfl) (by rw [SF];unfold gv;with_reducible repeat' first|apply zd|exact ih _ _|exact nX|exact sX) h
end
def S113:=S112.lp 31 0 (D2 [] 0 0 [] [] [] [] [] 0 [] [] []) (fun x0 x1 x2 x3 x4 x5 x6 x7 x8 x9 x10 x11=>some (y1 (js FU x0 x1 x2 x3 x4 x5 x6 x7 x8 x9 x10 x11) (Ht x3 x4 x5 x6 x7 x8 x9 x10))) (by kernel_rfl) fun _=>w1 fun h=>qeA _ _ _ _ _ _ _ _ _ _ _ _ h
section
variable {β:Type} (z:LL->Option β) (x0:LI) (x1:L3) (x2 x3:LL) (x4:LI) (x5:Int) (x6 x7:LI)
def qaq:Option β:=(ob (js FU x1 (x1.length:Int) 0 x0 x1 x2 x3 x4 x5 x6 x7 []) fun r1=>(z r1))
def GH:=qaq some x0 x1 x2 x3 x4 x5 x6 x7
abbrev qcr:List TA:=[.sc (.ptr 0 0),.sc (.fn 83 0 [] [])]
abbrev qcN:List TO:=[bx2 x0 x1 x2 x3 x4 x5,rd0 x6,rd0 x7]
abbrev qdQ:LL->List TA×List TO:=fun r=>([.sc (kd2 r)],[bx2 x0 x1 x2 x3 x4 x5,rd0 x6,rd0 x7])
theorem ev31_4:fE S113 31 qcr (qcN x0 x1 x2 x3 x4 x5 x6 x7)=(GH x0 x1 x2 x3 x4 x5 x6 x7).bind (sm (qdQ x0 x1 x2 x3 x4 x5 x6 x7)):=zE (fun z=>qaq z x0 x1 x2 x3 x4 x5 x6 x7) (by kernel_rfl) fun K=>by unfold GH qaq;with_reducible repeat' first|apply zc|exact nB|exact sB
end
def S114:=S113.fn 31 qcr (qcN [] [] [] [] [] 0 [] []) (fun x0 x1 x2 x3 x4 x5 x6 x7=>some (y1 (GH x0 x1 x2 x3 x4 x5 x6 x7) (qdQ x0 x1 x2 x3 x4 x5 x6 x7))) rfl fun _=>w1 fun h=>(ev31_4 ..).trans (bD h)
section
variable {β:Type} (y:Int->Int->LI->LI->Int->Int->Int->LL->Int->LI->L3->LL->LL->LI->Int->LI->LI->LI->LL->LI->Option β) (z:LI->Option β) (x0 x1:Int) (x2 x3:LI) (x4 x5 x6:Int) (x7:LL) (x8:Int) (x9:LI) (x10:L3) (x11 x12:LL) (x13:LI) (x14:Int) (x15 x16 x17:LI) (x18:LL) (x19:LI)
def Gm:Option β:=(cond (decide (x5 < x4)) (ck x5 (x3.length:Int) (cond (List.getD x3 x5.toNat 0==0) (cond (decide (x5 < (x17.length:Int))) (cond (decide (x5.toNat < List.length x17)) (y x0 x1 x2 x3 x4 (wI (x5+1)) x6 x7 x8 x9 x10 x11 x12 x13 x14 x15 x16 (List.set x17 x5.toNat (1000000000000:Int)) x18 x19) none) none) (cond (decide (x5 < (x2.length:Int))) (cond (decide (List.getD x2 x5.toNat 0 > 0)) (cond (decide (x5 < (x15.length:Int))) (cond (decide (x5.toNat < List.length x15)) (cond (decide (x1≠0)) (cond (decide (x5 < (x17.length:Int))) (cond (decide (x5.toNat < List.length x17)) (y x0 x1 x2 x3 x4 (wI (x5+1)) x6 x7 x8 x9 x10 x11 x12 x13 x14 x15 x16 (List.set x17 x5.toNat (wI (Int.tdiv (wI (wI (wI (x0*List.getD x15 x5.toNat 0)+x1) - (1:Int))) x1))) x18 x19) none) none) none) none) none) (y x0 x1 x2 x3 x4 (wI (x5+1)) x6 x7 x8 x9 x10 x11 x12 x13 x14 x15 x16 x17 x18 x19)) none))) (z x17))
def qbp:Option β:=(cond (decide (x5 < x4)) (ck x5 (x3.length:Int) (cond (List.getD x3 x5.toNat 0==0) (ck x5 (x17.length:Int) (cond (decide (x5.toNat < List.length x17)) (y x0 x1 x2 x3 x4 (wI (x5+1)) x6 x7 x8 x9 x10 x11 x12 x13 x14 x15 x16 (List.set x17 x5.toNat (1000000000000:Int)) x18 x19) none)) (ck x5 (x2.length:Int) (cond (decide (List.getD x2 x5.toNat 0 > 0)) (ck x5 (x15.length:Int) (cond (decide (x5.toNat < List.length x15)) (cond (decide (x1≠0)) (ck x5 (x17.length:Int) (cond (decide (x5.toNat < List.length x17)) (y x0 x1 x2 x3 x4 (wI (x5+1)) x6 x7 x8 x9 x10 x11 x12 x13 x14 x15 x16 (List.set x17 x5.toNat (wI (Int.tdiv (wI (wI (wI (x0*List.getD x15 x5.toNat 0)+x1) - (1:Int))) x1))) x18 x19) none)) none) none)) (y x0 x1 x2 x3 x4 (wI (x5+1)) x6 x7 x8 x9 x10 x11 x12 x13 x14 x15 x16 x17 x18 x19))))) (z x17))
def qZ:=itL (fun _ _ _ _ _ _ _ _ _ _ _ _ _ _ _ _ _ _ _ _=>none) fun f=>Gm f some
theorem KJ (n:Nat):qZ (n+1)=Gm (qZ n) some:=rfl
def Dv:LI->Ex×CS:=fun r=>((.exit 2),⟨[(3,vP 3),(6,.l 6 0),(10,.l 10 0)],[(6,[.g 5,.g 6,I4 x6]),(10,[kd2 x7,.g 4,I4 x8])],[bx2 x9 x10 x11 x12 x13 x14,rd0 x15,rd0 x16,.box 53 [.ptr 0 0],rd0 r,rd1 x18,rd0 x19],3,false⟩)
abbrev Kk:CS:=⟨[(2,vG 1),(3,vP 3),(6,.l 6 0),(10,.l 10 0),(11,vI x0),(12,vI x1),(19,vd0 x2),(85,vd0 x3),(86,vI x4),(87,vI x5)],[(6,[.g 5,.g 6,I4 x6]),(10,[kd2 x7,.g 4,I4 x8])],[bx2 x9 x10 x11 x12 x13 x14,rd0 x15,rd0 x16,.box 53 [.ptr 0 0],rd0 x17,rd1 x18,rd0 x19],3,false⟩
theorem qdy {k m n:Nat} {r:LI} (h:qZ n x0 x1 x2 x3 x4 x5 x6 x7 x8 x9 x10 x11 x12 x13 x14 x15 x16 x17 x18 x19=some r):lE S114 75 2 k (n+m) (Kk x0 x1 x2 x3 x4 x5 x6 x7 x8 x9 x10 x11 x12 x13 x14 x15 x16 x17 x18 x19)=some (Dv x6 x7 x8 x9 x10 x11 x12 x13 x14 x15 x16 x18 x19 r):=by
 induction n generalizing x5 x17 with
 |zero=>cases h
 |succ n ih=>
 exact lS (qbp (fun x0 x1 x2 x3 x4 x5 x6 x7 x8 x9 x10 x11 x12 x13 x14 x15 x16 x17 x18 x19=>lE S114 75 2 k (n+m) (Kk x0 x1 x2 x3 x4 x5 x6 x7 x8 x9 x10 x11 x12 x13 x14 x15 x16 x17 x18 x19)) (sm (Dv x6 x7 x8 x9 x10 x11 x12 x13 x14 x15 x16 x18 x19)) x0 x1 x2 x3 x4 x5 x6 x7 x8 x9 x10 x11 x12 x13 x14 x15 x16 x17 x18 x19) (by kernel_rfl) (by rw [KJ];unfold Gm qbp;with_reducible repeat' first|apply gT ‹_›|apply gF ‹_›|(apply zz<;>intro _)|exact ih _ _|exact nX|exact sX) h
end
def S115:=S114.lp 75 2 (Kk 0 0 [] [] 0 0 0 [] 0 [] [] [] [] [] 0 [] [] [] [] []) (fun x0 x1 x2 x3 x4 x5 x6 x7 x8 x9 x10 x11 x12 x13 x14 x15 x16 x17 x18 x19=>some (y1 (qZ FU x0 x1 x2 x3 x4 x5 x6 x7 x8 x9 x10 x11 x12 x13 x14 x15 x16 x17 x18 x19) (Dv x6 x7 x8 x9 x10 x11 x12 x13 x14 x15 x16 x18 x19))) (by kernel_rfl) fun _=>w1 fun h=>qdy _ _ _ _ _ _ _ _ _ _ _ _ _ _ _ _ _ _ _ _ h
section
variable {β:Type} (z:(Bool × Int)->Option β) (x0:Int) (x1:LL) (x2:Int) (x3:LI) (x4:L3) (x5 x6:LL) (x7:LI) (x8:Int) (x9 x10 x11:LI) (x12:LL) (x13:LI)
def ga:Option β:=(ob (v26 x3 x4 x1 x11) fun r1=>(z (r1.2==0,r1.1)))
def jJ (x0:Int) (x1:LL) (x2:Int) (x3:LI) (x4:L3) (x5 x6:LL) (x7:LI) (x8:Int) (x9 x10 x11:LI) (x12:LL) (x13:LI):Option (Bool×Int):=ga some x1 x3 x4 x11
def JT:(Bool×Int)->Ex×CS:=fun r=>(.ret,⟨[(6,.l 6 0),(7,vB r.1)],[(6,[kd2 x1,.g 3,I4 r.2])],[bx2 x3 x4 x5 x6 x7 x8,rd0 x9,rd0 x10,rd0 x11],3,true⟩)
abbrev qae:CS:=⟨[(3,vP 3),(6,.l 6 0),(10,.l 10 0)],[(6,[.g 5,.g 6,I4 x0]),(10,[kd2 x1,.g 4,I4 x2])],[bx2 x3 x4 x5 x6 x7 x8,rd0 x9,rd0 x10,.box 53 [.ptr 0 0],rd0 x11,rd1 x12,rd0 x13],3,false⟩
theorem qcl {k:Nat} {r:Bool×Int}:jJ x0 x1 x2 x3 x4 x5 x6 x7 x8 x9 x10 x11 x12 x13=some r->pE S115 75 212 0 k (qae x0 x1 x2 x3 x4 x5 x6 x7 x8 x9 x10 x11 x12 x13)=some (JT x1 x3 x4 x5 x6 x7 x8 x9 x10 x11 r):=lP (ga (sm (JT x1 x3 x4 x5 x6 x7 x8 x9 x10 x11)) x1 x3 x4 x11) (by kernel_rfl) (by unfold jJ ga;with_reducible repeat' first|apply zd|exact nX|exact sX)
end
def S116:=S115.pc 75 212 0 (qae 0 [] 0 [] [] [] [] [] 0 [] [] [] [] []) (fun x0 x1 x2 x3 x4 x5 x6 x7 x8 x9 x10 x11 x12 x13=>some (y1 (jJ x0 x1 x2 x3 x4 x5 x6 x7 x8 x9 x10 x11 x12 x13) (JT x1 x3 x4 x5 x6 x7 x8 x9 x10 x11))) (by kernel_rfl) rfl fun _=>w1 fun h=>qcl _ _ _ _ _ _ _ _ _ _ _ _ _ _ h
section
variable {β:Type} (z:(Bool × Int × LI)->Option β) (x0 x1:Int) (x2:LI) (x3:Int) (x4:LL) (x5:Int) (x6:LI) (x7:L3) (x8 x9:LL) (x10:LI) (x11:Int) (x12 x13 x14:LI) (x15:LL) (x16:LI)
def GE:Option β:=(ob (qZ FU x0 x1 x2 x6 (x6.length:Int) 0 x3 x4 x5 x6 x7 x8 x9 x10 x11 x12 x13 x14 x15 x16) fun r1=>(ob (jJ x3 x4 x5 x6 x7 x8 x9 x10 x11 x12 x13 r1 x15 x16) fun r2=>(z (r2.1,r2.2,r1))))
def g9:=GE some x0 x1 x2 x3 x4 x5 x6 x7 x8 x9 x10 x11 x12 x13 x14 x15 x16
def JR:(Bool×Int×LI)->Ex×CS:=fun r=>(.ret,⟨[(6,.l 6 0),(7,vB r.1)],[(6,[kd2 x4,.g 3,I4 r.2.1])],[bx2 x6 x7 x8 x9 x10 x11,rd0 x12,rd0 x13,rd0 r.2.2],3,true⟩)
abbrev qac:CS:=⟨[(2,vG 1),(3,vP 3),(6,.l 6 0),(10,.l 10 0),(11,vI x0),(12,vI x1),(19,vd0 x2)],[(6,[.g 5,.g 6,I4 x3]),(10,[kd2 x4,.g 4,I4 x5])],[bx2 x6 x7 x8 x9 x10 x11,rd0 x12,rd0 x13,.box 53 [.ptr 0 0],rd0 x14,rd1 x15,rd0 x16],3,false⟩
theorem qcj {k:Nat} {r:Bool×Int×LI}:g9 x0 x1 x2 x3 x4 x5 x6 x7 x8 x9 x10 x11 x12 x13 x14 x15 x16=some r->pE S116 75 148 0 k (qac x0 x1 x2 x3 x4 x5 x6 x7 x8 x9 x10 x11 x12 x13 x14 x15 x16)=some (JR x4 x6 x7 x8 x9 x10 x11 x12 x13 r):=lP (GE (sm (JR x4 x6 x7 x8 x9 x10 x11 x12 x13)) x0 x1 x2 x3 x4 x5 x6 x7 x8 x9 x10 x11 x12 x13 x14 x15 x16) (by kernel_rfl) (by unfold g9 GE;with_reducible repeat' first|apply zd|exact nX|exact sX)
end
def S117:=S116.pc 75 148 0 (qac 0 0 [] 0 [] 0 [] [] [] [] [] 0 [] [] [] [] []) (fun x0 x1 x2 x3 x4 x5 x6 x7 x8 x9 x10 x11 x12 x13 x14 x15 x16=>some (y1 (g9 x0 x1 x2 x3 x4 x5 x6 x7 x8 x9 x10 x11 x12 x13 x14 x15 x16) (JR x4 x6 x7 x8 x9 x10 x11 x12 x13))) (by kernel_rfl) rfl fun _=>w1 fun h=>qcj _ _ _ _ _ _ _ _ _ _ _ _ _ _ _ _ _ h
section
variable {β:Type} (z:(Bool × Int × LI)->Option β) (x0:Int) (x1:LL) (x2:Int) (x3:LI) (x4:L3) (x5 x6:LL) (x7:LI) (x8:Int) (x9 x10 x11:LI) (x12:LL) (x13:LI)
def Jc:Option β:=(cond (isL (qM FU 0 (1:Int) x1 (x1.length:Int) 0 x0 x1 x2 x3 x4 x5 x6 x7 x8 x9 x10 x11 x12 x13)) (z (zx (qM FU 0 (1:Int) x1 (x1.length:Int) 0 x0 x1 x2 x3 x4 x5 x6 x7 x8 x9 x10 x11 x12 x13),x2,x11)) (ob (zB (qM FU 0 (1:Int) x1 (x1.length:Int) 0 x0 x1 x2 x3 x4 x5 x6 x7 x8 x9 x10 x11 x12 x13)) fun r1=>(ob (GH x3 x4 x5 x6 x7 x8 x9 x10) fun r2=>(ob (v60 r2 x3 x4 x5 x6 x7 x8 x9 x10) fun r3=>(ob (g9 r1.1 r1.2 r3 x0 x1 x2 x3 x4 x5 x6 x7 x8 x9 x10 x11 x12 x13) fun r4=>(z (r4.1,r4.2.1,r4.2.2)))))))
def GO:=Jc some x0 x1 x2 x3 x4 x5 x6 x7 x8 x9 x10 x11 x12 x13
def Dz:(Bool×Int×LI)->Ex×CS:=fun r=>(.ret,⟨[(6,.l 6 0),(7,vB r.1)],[(6,[kd2 x1,.g 3,I4 r.2.1])],[bx2 x3 x4 x5 x6 x7 x8,rd0 x9,rd0 x10,rd0 r.2.2],3,true⟩)
abbrev qa7:CS:=⟨[(2,vG 1),(3,vP 3),(6,.l 6 0),(10,.l 10 0),(41,.l 10 0)],[(6,[.g 5,.g 6,I4 x0]),(10,[kd2 x1,.g 4,I4 x2])],[bx2 x3 x4 x5 x6 x7 x8,rd0 x9,rd0 x10,.box 53 [.ptr 0 0],rd0 x11,rd1 x12,rd0 x13],3,false⟩
theorem qdC {k:Nat} {r:Bool×Int×LI}:GO x0 x1 x2 x3 x4 x5 x6 x7 x8 x9 x10 x11 x12 x13=some r->pE S117 75 44 0 k (qa7 x0 x1 x2 x3 x4 x5 x6 x7 x8 x9 x10 x11 x12 x13)=some (Dz x1 x3 x4 x5 x6 x7 x8 x9 x10 r):=lP (Jc (sm (Dz x1 x3 x4 x5 x6 x7 x8 x9 x10)) x0 x1 x2 x3 x4 x5 x6 x7 x8 x9 x10 x11 x12 x13) (by kernel_rfl) (by unfold GO Jc;with_reducible repeat' first|apply zd|exact nX|exact sX)
end
def S118:=S117.pc 75 44 0 (qa7 0 [] 0 [] [] [] [] [] 0 [] [] [] [] []) (fun x0 x1 x2 x3 x4 x5 x6 x7 x8 x9 x10 x11 x12 x13=>some (y1 (GO x0 x1 x2 x3 x4 x5 x6 x7 x8 x9 x10 x11 x12 x13) (Dz x1 x3 x4 x5 x6 x7 x8 x9 x10))) (by kernel_rfl) rfl fun _=>w1 fun h=>qdC _ _ _ _ _ _ _ _ _ _ _ _ _ _ h
section
variable {β:Type} (z:(Bool × LL × Int × LI)->Option β) (x0 x1:Int) (x2:LI) (x3:L3) (x4 x5:LL) (x6:LI) (x7:Int) (x8 x9 x10:LI) (x11:LL) (x12:Int) (x13:LL) (x14:LI) (x15:LL) (x16:LI)
def Ja:Option β:=(ob (GG x2 x3 x4 x5 x6 x7 x8 x9 x11 x12 x10) fun r1=>(ob (GO x0 r1 x1 x2 x3 x4 x5 x6 x7 x8 x9 x14 x15 x16) fun r2=>(z (r2.1,r1,r2.2.1,r2.2.2))))
def gj (x0 x1:Int) (x2:LI) (x3:L3) (x4 x5:LL) (x6:LI) (x7:Int) (x8 x9 x10:LI) (x11:LL) (x12:Int) (x13:LL) (x14:LI) (x15:LL) (x16:LI):Option (Bool×LL×Int×LI):=Ja some x0 x1 x2 x3 x4 x5 x6 x7 x8 x9 x10 x11 x12 x14 x15 x16
def Dx:(Bool×LL×Int×LI)->Ex×CS:=fun r=>(.ret,⟨[(6,.l 6 0),(7,vB r.1)],[(6,[kd2 r.2.1,.g 3,I4 r.2.2.1])],[bx2 x2 x3 x4 x5 x6 x7,rd0 x8,rd0 x9,rd0 r.2.2.2],3,true⟩)
abbrev qa5:CS:=⟨[(2,vG 1),(3,vP 6),(4,vP 4),(6,.l 6 0),(8,vP 3),(9,vP 5),(10,.l 10 0)],[(6,[.g 9,.g 10,I4 x0]),(10,[.g 7,.g 8,I4 x1])],[bx2 x2 x3 x4 x5 x6 x7,rd0 x8,rd0 x9,.box 22 [kd0 x10],.box 31 [kd2 x11],.box 3 [I4 x12],.box 53 [.ptr 0 0],rd1 x13,rd0 x14,rd1 x15,rd0 x16],3,false⟩
theorem qdA {k:Nat} {r:Bool×LL×Int×LI}:gj x0 x1 x2 x3 x4 x5 x6 x7 x8 x9 x10 x11 x12 x13 x14 x15 x16=some r->pE S118 75 36 0 k (qa5 x0 x1 x2 x3 x4 x5 x6 x7 x8 x9 x10 x11 x12 x13 x14 x15 x16)=some (Dx x2 x3 x4 x5 x6 x7 x8 x9 r):=lP (Ja (sm (Dx x2 x3 x4 x5 x6 x7 x8 x9)) x0 x1 x2 x3 x4 x5 x6 x7 x8 x9 x10 x11 x12 x14 x15 x16) (by kernel_rfl) (by unfold gj Ja;with_reducible repeat' first|apply zd|exact nX|exact sX)
end
def S119:=S118.pc 75 36 0 (qa5 0 0 [] [] [] [] [] 0 [] [] [] [] 0 [] [] [] []) (fun x0 x1 x2 x3 x4 x5 x6 x7 x8 x9 x10 x11 x12 x13 x14 x15 x16=>some (y1 (gj x0 x1 x2 x3 x4 x5 x6 x7 x8 x9 x10 x11 x12 x13 x14 x15 x16) (Dx x2 x3 x4 x5 x6 x7 x8 x9))) (by kernel_rfl) rfl fun _=>w1 fun h=>qdA _ _ _ _ _ _ _ _ _ _ _ _ _ _ _ _ _ h
section
variable {β:Type} (z:(LL × LI × Int × Bool)->Option β) (x0:LL) (x1:LI) (x2:L3) (x3 x4:LL) (x5:LI) (x6:Int) (x7 x8:LI)
def tv75:Option β:=(ob (v60 x0 x1 x2 x3 x4 x5 x6 x7 x8) fun r1=>(ob (v61 r1 x1 x2 x3 x4 x5 x6 x7 x8) fun r2=>(cond (decide ((x1.length:Int)<=(x1.length:Int))) (cond (decide ((x1.length:Int)<=(↑(nat_lit 2147483648):Int))) (ob (gj 0 0 x1 x2 x3 x4 x5 x6 x7 x8 r1 x0 r2 [] (List.replicate (x1.length:Int).toNat 0) [] []) fun r3=>(z (r3.2.1,r3.2.2.2,r3.2.2.1,r3.1))) none) none)))
def v75:=tv75 some x0 x1 x2 x3 x4 x5 x6 x7 x8
abbrev aF75:List TA:=[.sc (.ptr 0 0),.sc (kd2 x0),.sc (.g 1)]
abbrev hF75:List TO:=[bx2 x1 x2 x3 x4 x5 x6,rd0 x7,rd0 x8]
abbrev rF75:(LL×LI×Int×Bool)->List TA×List TO:=fun r=>([.agg [kd2 r.1,kd0 r.2.1,I4 r.2.2.1],.sc (.bool r.2.2.2)],[bx2 x1 x2 x3 x4 x5 x6,rd0 x7,rd0 x8])
theorem ev75:fE S119 75 (aF75 x0) (hF75 x1 x2 x3 x4 x5 x6 x7 x8)=(v75 x0 x1 x2 x3 x4 x5 x6 x7 x8).bind (sm (rF75 x1 x2 x3 x4 x5 x6 x7 x8)):=zE (fun z=>tv75 z x0 x1 x2 x3 x4 x5 x6 x7 x8) (by kernel_rfl) fun K=>by unfold v75 tv75;with_reducible repeat' first|apply zc|exact nB|exact sB
end
def S120:=S119.fn 75 (aF75 []) (hF75 [] [] [] [] [] 0 [] []) (fun x0 x1 x2 x3 x4 x5 x6 x7 x8=>some (y1 (v75 x0 x1 x2 x3 x4 x5 x6 x7 x8) (rF75 x1 x2 x3 x4 x5 x6 x7 x8))) rfl fun _=>w1 fun h=>(ev75 ..).trans (bD h)
section
variable {β:Type} (z:(LL × LI × Int)->Option β) (x0:LL) (x1:LI) (x2:L3) (x3 x4:LL) (x5:LI) (x6:Int) (x7 x8:LI)
def tv58:Option β:=(ob (v75 x0 x1 x2 x3 x4 x5 x6 x7 x8) fun r1=>(cond (r1.2.2.2) (cond ((x4.length:Int)==0) (z (r1.1,r1.2.1,r1.2.2.1)) (cond (decide (r1.2.2.1 < x6)) (z (r1.1,r1.2.1,r1.2.2.1)) (z (x4,x5,x6)))) (z (x4,x5,x6))))
def v58:=tv58 some x0 x1 x2 x3 x4 x5 x6 x7 x8
abbrev aF58:List TA:=[.sc (.ptr 0 0),.sc (kd2 x0),.sc (.g 1)]
abbrev hF58:List TO:=[bx2 x1 x2 x3 x4 x5 x6,rd0 x7,rd0 x8]
abbrev rF58:(LL×LI×Int)->List TA×List TO:=fun r=>([],[bx2 x1 x2 x3 r.1 r.2.1 r.2.2,rd0 x7,rd0 x8])
theorem ev58:fE S120 58 (aF58 x0) (hF58 x1 x2 x3 x4 x5 x6 x7 x8)=(v58 x0 x1 x2 x3 x4 x5 x6 x7 x8).bind (sm (rF58 x1 x2 x3 x7 x8)):=zE (fun z=>tv58 z x0 x1 x2 x3 x4 x5 x6 x7 x8) (by kernel_rfl) fun K=>by unfold v58 tv58;with_reducible repeat' first|apply zc|exact nB|exact sB
end
def S121:=S120.fn 58 (aF58 []) (hF58 [] [] [] [] [] 0 [] []) (fun x0 x1 x2 x3 x4 x5 x6 x7 x8=>some (y1 (v58 x0 x1 x2 x3 x4 x5 x6 x7 x8) (rF58 x1 x2 x3 x7 x8))) rfl fun _=>w1 fun h=>(ev58 ..).trans (bD h)
section
variable {β:Type} (y:LI->Int->Int->Option β) (z:Int->Option β) (x0:LI) (x1 x2:Int)
def GX:Option β:=(cond (decide (x2 < (x0.length:Int))) (cond (decide (0<=x2)) (y x0 (max x1 (List.getD x0 x2.toNat 0)) (wI (x2+1))) none) (z x1))
def qbS:Option β:=(cond (decide (x2 < (x0.length:Int))) (ck x2 (x0.length:Int) (y x0 (max x1 (List.getD x0 x2.toNat 0)) (wI (x2+1)))) (z x1))
def GI:=itL (fun _ _ _=>none) fun f=>GX f some
theorem SN (n:Nat):GI (n+1)=GX (GI n) some:=rfl
def HE:Int->Ex×CS:=fun r=>((.exit 0),⟨[(3,vI r)],[],[],0,false⟩)
abbrev Sb:CS:=⟨[(0,vd0 x0),(3,vI x1),(4,vI x2)],[],[],0,false⟩
theorem qeJ {k m n:Nat} {r:Int} (h:GI n x0 x1 x2=some r):lE S121 59 0 k (n+m) (Sb x0 x1 x2)=some (HE r):=by
 induction n generalizing x1 x2 with
 |zero=>cases h
 |succ n ih=>
 exact lS (qbS (fun x0 x1 x2=>lE S121 59 0 k (n+m) (Sb x0 x1 x2)) (sm HE) x0 x1 x2) (by kernel_rfl) (by rw [SN];unfold GX qbS;with_reducible repeat' first|apply gT ‹_›|apply gF ‹_›|(apply zz<;>intro _)|exact ih _ _|exact nX|exact sX) h
end
def S122:=S121.lp 59 0 (Sb [] 0 0) (fun x0 x1 x2=>some (y1 (GI FU x0 x1 x2) HE)) (by kernel_rfl) fun _=>w1 fun h=>qeJ _ _ _ h
section
variable {β:Type} (z:Int->Option β) (x0:LI)
def tv59:Option β:=(cond (decide ((x0.length:Int) < (1:Int))) none (cond (decide (0 < (x0.length:Int))) (ob (GI FU x0 (List.getD x0 (Int.toNat 0) 0) (1:Int)) fun r1=>(z r1)) none))
def v59:=tv59 some x0
abbrev aF59:List TA:=[.sc (kd0 x0)]
abbrev rF59:Int->List TA×List TO:=fun r=>([.sc (I4 r)],[])
theorem ev59:fE S122 59 (aF59 x0) []=(v59 x0).bind (sm rF59):=zE (fun z=>tv59 z x0) (by kernel_rfl) fun K=>by unfold v59 tv59;with_reducible repeat' first|apply zc|exact nB|exact sB
end
def S123:=S122.fn 59 (aF59 []) [] (fun x0=>some (y1 (v59 x0) rF59)) rfl fun _=>w1 fun h=>(ev59 ..).trans (bD h)
section
variable {β:Type} (y:Int->Int->LI->L3->LL->LL->LI->Int->LI->LI->LL->LI->Option β) (z:LI->Option β) (x0 x1:Int) (x2:LI) (x3:L3) (x4 x5:LL) (x6:LI) (x7:Int) (x8 x9:LI) (x10:LL) (x11:LI)
def Gg:Option β:=(cond (decide (x1 < x0)) (ck x1 (x9.length:Int) (cond (decide (x1.toNat < List.length x9)) (ob (v59 x9) fun r1=>(cond (decide (max (1:Int) r1≠0)) (cond (decide (x1 < (x11.length:Int))) (cond (decide (x1.toNat < List.length x11)) (y x0 (wI (x1+1)) x2 x3 x4 x5 x6 x7 x8 x9 x10 (List.set x11 x1.toNat (max (16:Int) (wI (Int.tdiv (wI (List.getD x9 x1.toNat 0*1024)) (max (1:Int) r1)))))) none) none) none)) none)) (z x11))
def qbk:Option β:=(cond (decide (x1 < x0)) (ck x1 (x9.length:Int) (cond (decide (x1.toNat < List.length x9)) (ob (v59 x9) fun r1=>(cond (decide (max (1:Int) r1≠0)) (ck x1 (x11.length:Int) (cond (decide (x1.toNat < List.length x11)) (y x0 (wI (x1+1)) x2 x3 x4 x5 x6 x7 x8 x9 x10 (List.set x11 x1.toNat (max (16:Int) (wI (Int.tdiv (wI (List.getD x9 x1.toNat 0*1024)) (max (1:Int) r1)))))) none)) none)) none)) (z x11))
def qV:=itL (fun _ _ _ _ _ _ _ _ _ _ _ _=>none) fun f=>Gg f some
theorem KC (n:Nat):qV (n+1)=Gg (qV n) some:=rfl
def Dj:LI->Ex×CS:=fun r=>((.exit 2),⟨[(1,vP 4),(2,vP 3),(5,vG 5)],[],[bx2 x2 x3 x4 x5 x6 x7,rd0 x8,rd0 x9,.box 31 [kd2 x10],.box 53 [.ptr 0 0],rd0 r],3,false⟩)
abbrev Kb:CS:=⟨[(1,vP 4),(2,vP 3),(5,vG 5),(59,vG 2),(60,vI x0),(61,vI x1)],[],[bx2 x2 x3 x4 x5 x6 x7,rd0 x8,rd0 x9,.box 31 [kd2 x10],.box 53 [.ptr 0 0],rd0 x11],3,false⟩
theorem qdm {k m n:Nat} {r:LI} (h:qV n x0 x1 x2 x3 x4 x5 x6 x7 x8 x9 x10 x11=some r):lE S123 34 2 k (n+m) (Kb x0 x1 x2 x3 x4 x5 x6 x7 x8 x9 x10 x11)=some (Dj x2 x3 x4 x5 x6 x7 x8 x9 x10 r):=by
 induction n generalizing x1 x11 with
 |zero=>cases h
 |succ n ih=>
 exact lS (qbk (fun x0 x1 x2 x3 x4 x5 x6 x7 x8 x9 x10 x11=>lE S123 34 2 k (n+m) (Kb x0 x1 x2 x3 x4 x5 x6 x7 x8 x9 x10 x11)) (sm (Dj x2 x3 x4 x5 x6 x7 x8 x9 x10)) x0 x1 x2 x3 x4 x5 x6 x7 x8 x9 x10 x11) (by kernel_rfl) (by rw [KC];unfold Gg qbk;with_reducible repeat' first|apply gT ‹_›|apply gF ‹_›|(apply zz<;>intro _)|exact ih _ _|exact nX|exact sX) h
end
def S124:=S123.lp 34 2 (Kb 0 0 [] [] [] [] [] 0 [] [] [] []) (fun x0 x1 x2 x3 x4 x5 x6 x7 x8 x9 x10 x11=>some (y1 (qV FU x0 x1 x2 x3 x4 x5 x6 x7 x8 x9 x10 x11) (Dj x2 x3 x4 x5 x6 x7 x8 x9 x10))) (by kernel_rfl) fun _=>w1 fun h=>qdm _ _ _ _ _ _ _ _ _ _ _ _ h
section
variable {β:Type} (y:LI->Int->Int->LL->Int->Int->LI->L3->LL->LL->LI->Int->LI->LI->Option β) (z:(Int × Int)->Option β) (x0:LI) (x1 x2:Int) (x3:LL) (x4 x5:Int) (x6:LI) (x7:L3) (x8 x9:LL) (x10:LI) (x11:Int) (x12 x13:LI)
def gx:Option β:=(cond (decide (x5 < x4)) (ck x5 (x3.length:Int) (ob (v29 (List.getD x3 x5.toNat []) x0) fun r1=>(ob (v54 (List.getD x3 x5.toNat []) x6 x7 x8 x9 x10 x11 x12 x13) fun r2=>(cond r2 (cond (decide (x1 < 0)) (y x0 x5 r1 x3 x4 (wI (x5+1)) x6 x7 x8 x9 x10 x11 x12 x13) (cond (decide (r1 < x2)) (y x0 x5 r1 x3 x4 (wI (x5+1)) x6 x7 x8 x9 x10 x11 x12 x13) (y x0 x1 x2 x3 x4 (wI (x5+1)) x6 x7 x8 x9 x10 x11 x12 x13))) (y x0 x1 x2 x3 x4 (wI (x5+1)) x6 x7 x8 x9 x10 x11 x12 x13))))) (z (x1,x2)))
def ju:=itL (fun _ _ _ _ _ _ _ _ _ _ _ _ _ _=>none) fun f=>gx f some
theorem SH (n:Nat):ju (n+1)=gx (ju n) some:=rfl
def Hv:(Int×Int)->Ex×CS:=fun r=>((.exit 0),⟨[(8,vI r.1),(9,vI r.2)],[],[bx2 x6 x7 x8 x9 x10 x11,rd0 x12,rd0 x13],3,false⟩)
abbrev D4:CS:=⟨[(0,vP 0),(2,vd0 x0),(8,vI x1),(9,vI x2),(20,vd1 x3),(21,vI x4),(22,vI x5)],[],[bx2 x6 x7 x8 x9 x10 x11,rd0 x12,rd0 x13],3,false⟩
theorem qeC {k m n:Nat} {r:Int×Int} (h:ju n x0 x1 x2 x3 x4 x5 x6 x7 x8 x9 x10 x11 x12 x13=some r):lE S124 33 0 k (n+m) (D4 x0 x1 x2 x3 x4 x5 x6 x7 x8 x9 x10 x11 x12 x13)=some (Hv x6 x7 x8 x9 x10 x11 x12 x13 r):=by
 induction n generalizing x1 x2 x5 with
 |zero=>cases h
 |succ n ih=>
 exact lS (gx (fun x0 x1 x2 x3 x4 x5 x6 x7 x8 x9 x10 x11 x12 x13=>lE S124 33 0 k (n+m) (D4 x0 x1 x2 x3 x4 x5 x6 x7 x8 x9 x10 x11 x12 x13)) (sm (Hv x6 x7 x8 x9 x10 x11 x12 x13)) x0 x1 x2 x3 x4 x5 x6 x7 x8 x9 x10 x11 x12 x13) (by kernel_rfl) (by rw [SH];unfold gx;with_reducible repeat' first|apply zd|exact ih _ _ _|exact nX|exact sX) h
end
def S125:=S124.lp 33 0 (D4 [] 0 0 [] 0 0 [] [] [] [] [] 0 [] []) (fun x0 x1 x2 x3 x4 x5 x6 x7 x8 x9 x10 x11 x12 x13=>some (y1 (ju FU x0 x1 x2 x3 x4 x5 x6 x7 x8 x9 x10 x11 x12 x13) (Hv x6 x7 x8 x9 x10 x11 x12 x13))) (by kernel_rfl) fun _=>w1 fun h=>qeC _ _ _ _ _ _ _ _ _ _ _ _ _ _ h
section
variable {β:Type} (z:(Int × Int)->Option β) (x0:Int) (x1 x2:LI) (x3:L3) (x4 x5:LL) (x6:LI) (x7:Int) (x8 x9:LI)
def qar:Option β:=(ck x0 (x3.length:Int) (ob (ju FU x1 (-1:Int) 0 (List.getD x3 x0.toNat []) (↑(List.length (List.getD x3 x0.toNat [])):Int) 0 x2 x3 x4 x5 x6 x7 x8 x9) fun r1=>(z (r1.1,r1.2))))
def DM:=qar some x0 x1 x2 x3 x4 x5 x6 x7 x8 x9
abbrev qcs:List TA:=[.sc (.ptr 0 0),.sc (I4 x0),.sc (kd0 x1)]
abbrev qcO:List TO:=[bx2 x2 x3 x4 x5 x6 x7,rd0 x8,rd0 x9]
abbrev qdR:(Int×Int)->List TA×List TO:=fun r=>([.sc (I4 r.1),.sc (I4 r.2)],[bx2 x2 x3 x4 x5 x6 x7,rd0 x8,rd0 x9])
theorem ev33_1:fE S125 33 (qcs x0 x1) (qcO x2 x3 x4 x5 x6 x7 x8 x9)=(DM x0 x1 x2 x3 x4 x5 x6 x7 x8 x9).bind (sm (qdR x2 x3 x4 x5 x6 x7 x8 x9)):=zE (fun z=>qar z x0 x1 x2 x3 x4 x5 x6 x7 x8 x9) (by kernel_rfl) fun K=>by unfold DM qar;with_reducible repeat' first|apply zc|exact nB|exact sB
end
def S126:=S125.fn 33 (qcs 0 []) (qcO [] [] [] [] [] 0 [] []) (fun x0 x1 x2 x3 x4 x5 x6 x7 x8 x9=>some (y1 (DM x0 x1 x2 x3 x4 x5 x6 x7 x8 x9) (qdR x2 x3 x4 x5 x6 x7 x8 x9))) rfl fun _=>w1 fun h=>(ev33_1 ..).trans (bD h)
section
variable {β:Type} (y:LI->Int->Int->LL->Int->Int->Int->LL->Int->LI->L3->LL->LL->LI->Int->LI->LI->LI->LL->LI->Option β) (z:(Bool ⊕ (Int × Int))->Option β) (x0:LI) (x1 x2:Int) (x3:LL) (x4 x5 x6:Int) (x7:LL) (x8:Int) (x9:LI) (x10:L3) (x11 x12:LL) (x13:LI) (x14:Int) (x15 x16 x17:LI) (x18:LL) (x19:LI)
def gD:Option β:=(cond (decide (x5 < x4)) (ck x5 (x3.length:Int) (ob (v82 (List.getD x3 x5.toNat [])) fun r1=>(cond (r1==0) (z (.inl (false))) (cond (decide (r1≠0)) (ob (DM x5 x0 x9 x10 x11 x12 x13 x14 x15 x16) fun r2=>(cond (decide (wI (x1*r2.2) < wI (wI (Int.tdiv (wI (wI ((1000000000000:Int)+r1) - (1:Int))) r1)*x2))) (y x0 (wI (Int.tdiv (wI (wI ((1000000000000:Int)+r1) - (1:Int))) r1)) (r2.2) x3 x4 (wI (x5+1)) x6 x7 x8 x9 x10 x11 x12 x13 x14 x15 x16 x17 x18 x19) (y x0 x1 x2 x3 x4 (wI (x5+1)) x6 x7 x8 x9 x10 x11 x12 x13 x14 x15 x16 x17 x18 x19))) none)))) (z (.inr (x1,x2))))
def qN:=itL (fun _ _ _ _ _ _ _ _ _ _ _ _ _ _ _ _ _ _ _ _=>none) fun f=>gD f some
theorem SS (n:Nat):qN (n+1)=gD (qN n) some:=rfl
def HJ:(Bool ⊕ (Int×Int))->Ex×CS:=Sum.elim (fun r=>(.ret,⟨[(6,.l 6 0),(7,vB r)],[(6,[kd2 x7,.g 3,I4 x8])],[bx2 x9 x10 x11 x12 x13 x14,rd0 x15,rd0 x16,rd0 x17],3,true⟩)) fun r=>((.exit 0),⟨[(2,vd0 x0),(3,vP 3),(6,.l 6 0),(10,.l 10 0),(11,vI r.1),(12,vI r.2)],[(6,[.g 5,.g 6,I4 x6]),(10,[kd2 x7,.g 4,I4 x8])],[bx2 x9 x10 x11 x12 x13 x14,rd0 x15,rd0 x16,.box 53 [.ptr 0 0],rd0 x17,rd1 x18,rd0 x19],3,false⟩)
abbrev Sh:CS:=⟨[(2,vd0 x0),(3,vP 3),(6,.l 6 0),(10,.l 10 0),(11,vI x1),(12,vI x2),(43,vd1 x3),(44,vI x4),(45,vI x5)],[(6,[.g 5,.g 6,I4 x6]),(10,[kd2 x7,.g 4,I4 x8])],[bx2 x9 x10 x11 x12 x13 x14,rd0 x15,rd0 x16,.box 53 [.ptr 0 0],rd0 x17,rd1 x18,rd0 x19],3,false⟩
theorem qeO {k m n:Nat} {r:Bool ⊕ (Int×Int)} (h:qN n x0 x1 x2 x3 x4 x5 x6 x7 x8 x9 x10 x11 x12 x13 x14 x15 x16 x17 x18 x19=some r):lE S126 75 0 k (n+m) (Sh x0 x1 x2 x3 x4 x5 x6 x7 x8 x9 x10 x11 x12 x13 x14 x15 x16 x17 x18 x19)=some (HJ x0 x6 x7 x8 x9 x10 x11 x12 x13 x14 x15 x16 x17 x18 x19 r):=by
 induction n generalizing x1 x2 x5 with
 |zero=>cases h
 |succ n ih=>
 exact lS (gD (fun x0 x1 x2 x3 x4 x5 x6 x7 x8 x9 x10 x11 x12 x13 x14 x15 x16 x17 x18 x19=>lE S126 75 0 k (n+m) (Sh x0 x1 x2 x3 x4 x5 x6 x7 x8 x9 x10 x11 x12 x13 x14 x15 x16 x17 x18 x19)) (sm (HJ x0 x6 x7 x8 x9 x10 x11 x12 x13 x14 x15 x16 x17 x18 x19)) x0 x1 x2 x3 x4 x5 x6 x7 x8 x9 x10 x11 x12 x13 x14 x15 x16 x17 x18 x19) (by kernel_rfl) (by rw [SS];unfold gD;with_reducible repeat' first|apply zd|exact ih _ _ _|exact nX|exact sX) h
end
def S127:=S126.lp 75 0 (Sh [] 0 0 [] 0 0 0 [] 0 [] [] [] [] [] 0 [] [] [] [] []) (fun x0 x1 x2 x3 x4 x5 x6 x7 x8 x9 x10 x11 x12 x13 x14 x15 x16 x17 x18 x19=>some (y2 (qN FU x0 x1 x2 x3 x4 x5 x6 x7 x8 x9 x10 x11 x12 x13 x14 x15 x16 x17 x18 x19) (HJ x0 x6 x7 x8 x9 x10 x11 x12 x13 x14 x15 x16 x17 x18 x19))) (by kernel_rfl) fun _=>w2 fun h=>qeO _ _ _ _ _ _ _ _ _ _ _ _ _ _ _ _ _ _ _ _ h
section
variable {β:Type} (y:LI->Int->Int->LI->LI->Int->Int->Int->LL->Int->LI->L3->LL->LL->LI->Int->LI->LI->LI->LL->LI->Option β) (z:LI->Option β) (x0:LI) (x1 x2:Int) (x3 x4:LI) (x5 x6 x7:Int) (x8:LL) (x9:Int) (x10:LI) (x11:L3) (x12 x13:LL) (x14:LI) (x15:Int) (x16 x17 x18:LI) (x19:LL) (x20:LI)
def Gn:Option β:=(cond (decide (x6 < x5)) (ck x6 (x4.length:Int) (cond (List.getD x4 x6.toNat 0==0) (cond (decide (x6 < (x18.length:Int))) (cond (decide (x6.toNat < List.length x18)) (y x0 x1 x2 x3 x4 x5 (wI (x6+1)) x7 x8 x9 x10 x11 x12 x13 x14 x15 x16 x17 (List.set x18 x6.toNat (1000000000000:Int)) x19 x20) none) none) (cond (decide (x6 < (x3.length:Int))) (cond (decide (List.getD x3 x6.toNat 0 > 0)) (cond (decide (x6 < (x0.length:Int))) (cond (decide (x2≠0)) (cond (decide (x6 < (x18.length:Int))) (cond (decide (x6.toNat < List.length x18)) (y x0 x1 x2 x3 x4 x5 (wI (x6+1)) x7 x8 x9 x10 x11 x12 x13 x14 x15 x16 x17 (List.set x18 x6.toNat (wI (Int.tdiv (wI (wI (wI (x1*List.getD x0 x6.toNat 0)+x2) - (1:Int))) x2))) x19 x20) none) none) none) none) (y x0 x1 x2 x3 x4 x5 (wI (x6+1)) x7 x8 x9 x10 x11 x12 x13 x14 x15 x16 x17 x18 x19 x20)) none))) (z x18))
def qbq:Option β:=(cond (decide (x6 < x5)) (ck x6 (x4.length:Int) (cond (List.getD x4 x6.toNat 0==0) (ck x6 (x18.length:Int) (cond (decide (x6.toNat < List.length x18)) (y x0 x1 x2 x3 x4 x5 (wI (x6+1)) x7 x8 x9 x10 x11 x12 x13 x14 x15 x16 x17 (List.set x18 x6.toNat (1000000000000:Int)) x19 x20) none)) (ck x6 (x3.length:Int) (cond (decide (List.getD x3 x6.toNat 0 > 0)) (ck x6 (x0.length:Int) (cond (decide (x2≠0)) (ck x6 (x18.length:Int) (cond (decide (x6.toNat < List.length x18)) (y x0 x1 x2 x3 x4 x5 (wI (x6+1)) x7 x8 x9 x10 x11 x12 x13 x14 x15 x16 x17 (List.set x18 x6.toNat (wI (Int.tdiv (wI (wI (wI (x1*List.getD x0 x6.toNat 0)+x2) - (1:Int))) x2))) x19 x20) none)) none)) (y x0 x1 x2 x3 x4 x5 (wI (x6+1)) x7 x8 x9 x10 x11 x12 x13 x14 x15 x16 x17 x18 x19 x20))))) (z x18))
def q6:=itL (fun _ _ _ _ _ _ _ _ _ _ _ _ _ _ _ _ _ _ _ _ _=>none) fun f=>Gn f some
theorem KK (n:Nat):q6 (n+1)=Gn (q6 n) some:=rfl
def Dw:LI->Ex×CS:=fun r=>((.exit 2),⟨[(3,vP 3),(6,.l 6 0),(10,.l 10 0)],[(6,[.g 5,.g 6,I4 x7]),(10,[kd2 x8,.g 4,I4 x9])],[bx2 x10 x11 x12 x13 x14 x15,rd0 x16,rd0 x17,.box 53 [.ptr 0 0],rd0 r,rd1 x19,rd0 x20],3,false⟩)
abbrev Kl:CS:=⟨[(2,vd0 x0),(3,vP 3),(6,.l 6 0),(10,.l 10 0),(11,vI x1),(12,vI x2),(19,vd0 x3),(85,vd0 x4),(86,vI x5),(87,vI x6)],[(6,[.g 5,.g 6,I4 x7]),(10,[kd2 x8,.g 4,I4 x9])],[bx2 x10 x11 x12 x13 x14 x15,rd0 x16,rd0 x17,.box 53 [.ptr 0 0],rd0 x18,rd1 x19,rd0 x20],3,false⟩
theorem qdz {k m n:Nat} {r:LI} (h:q6 n x0 x1 x2 x3 x4 x5 x6 x7 x8 x9 x10 x11 x12 x13 x14 x15 x16 x17 x18 x19 x20=some r):lE S127 75 2 k (n+m) (Kl x0 x1 x2 x3 x4 x5 x6 x7 x8 x9 x10 x11 x12 x13 x14 x15 x16 x17 x18 x19 x20)=some (Dw x7 x8 x9 x10 x11 x12 x13 x14 x15 x16 x17 x19 x20 r):=by
 induction n generalizing x6 x18 with
 |zero=>cases h
 |succ n ih=>
 exact lS (qbq (fun x0 x1 x2 x3 x4 x5 x6 x7 x8 x9 x10 x11 x12 x13 x14 x15 x16 x17 x18 x19 x20=>lE S127 75 2 k (n+m) (Kl x0 x1 x2 x3 x4 x5 x6 x7 x8 x9 x10 x11 x12 x13 x14 x15 x16 x17 x18 x19 x20)) (sm (Dw x7 x8 x9 x10 x11 x12 x13 x14 x15 x16 x17 x19 x20)) x0 x1 x2 x3 x4 x5 x6 x7 x8 x9 x10 x11 x12 x13 x14 x15 x16 x17 x18 x19 x20) (by kernel_rfl) (by rw [KK];unfold Gn qbq;with_reducible repeat' first|apply gT ‹_›|apply gF ‹_›|(apply zz<;>intro _)|exact ih _ _|exact nX|exact sX) h
end
def S128:=S127.lp 75 2 (Kl [] 0 0 [] [] 0 0 0 [] 0 [] [] [] [] [] 0 [] [] [] [] []) (fun x0 x1 x2 x3 x4 x5 x6 x7 x8 x9 x10 x11 x12 x13 x14 x15 x16 x17 x18 x19 x20=>some (y1 (q6 FU x0 x1 x2 x3 x4 x5 x6 x7 x8 x9 x10 x11 x12 x13 x14 x15 x16 x17 x18 x19 x20) (Dw x7 x8 x9 x10 x11 x12 x13 x14 x15 x16 x17 x19 x20))) (by kernel_rfl) fun _=>w1 fun h=>qdz _ _ _ _ _ _ _ _ _ _ _ _ _ _ _ _ _ _ _ _ _ h
section
variable {β:Type} (z:(Bool × Int × LI)->Option β) (x0:LI) (x1 x2:Int) (x3:LI) (x4:Int) (x5:LL) (x6:Int) (x7:LI) (x8:L3) (x9 x10:LL) (x11:LI) (x12:Int) (x13 x14 x15:LI) (x16:LL) (x17:LI)
def GF:Option β:=(ob (q6 FU x0 x1 x2 x3 x7 (x7.length:Int) 0 x4 x5 x6 x7 x8 x9 x10 x11 x12 x13 x14 x15 x16 x17) fun r1=>(ob (jJ x4 x5 x6 x7 x8 x9 x10 x11 x12 x13 x14 r1 x16 x17) fun r2=>(z (r2.1,r2.2,r1))))
def Ga:=GF some x0 x1 x2 x3 x4 x5 x6 x7 x8 x9 x10 x11 x12 x13 x14 x15 x16 x17
def JS:(Bool×Int×LI)->Ex×CS:=fun r=>(.ret,⟨[(6,.l 6 0),(7,vB r.1)],[(6,[kd2 x5,.g 3,I4 r.2.1])],[bx2 x7 x8 x9 x10 x11 x12,rd0 x13,rd0 x14,rd0 r.2.2],3,true⟩)
abbrev qad:CS:=⟨[(2,vd0 x0),(3,vP 3),(6,.l 6 0),(10,.l 10 0),(11,vI x1),(12,vI x2),(19,vd0 x3)],[(6,[.g 5,.g 6,I4 x4]),(10,[kd2 x5,.g 4,I4 x6])],[bx2 x7 x8 x9 x10 x11 x12,rd0 x13,rd0 x14,.box 53 [.ptr 0 0],rd0 x15,rd1 x16,rd0 x17],3,false⟩
theorem qck {k:Nat} {r:Bool×Int×LI}:Ga x0 x1 x2 x3 x4 x5 x6 x7 x8 x9 x10 x11 x12 x13 x14 x15 x16 x17=some r->pE S128 75 148 0 k (qad x0 x1 x2 x3 x4 x5 x6 x7 x8 x9 x10 x11 x12 x13 x14 x15 x16 x17)=some (JS x5 x7 x8 x9 x10 x11 x12 x13 x14 r):=lP (GF (sm (JS x5 x7 x8 x9 x10 x11 x12 x13 x14)) x0 x1 x2 x3 x4 x5 x6 x7 x8 x9 x10 x11 x12 x13 x14 x15 x16 x17) (by kernel_rfl) (by unfold Ga GF;with_reducible repeat' first|apply zd|exact nX|exact sX)
end
def S129:=S128.pc 75 148 0 (qad [] 0 0 [] 0 [] 0 [] [] [] [] [] 0 [] [] [] [] []) (fun x0 x1 x2 x3 x4 x5 x6 x7 x8 x9 x10 x11 x12 x13 x14 x15 x16 x17=>some (y1 (Ga x0 x1 x2 x3 x4 x5 x6 x7 x8 x9 x10 x11 x12 x13 x14 x15 x16 x17) (JS x5 x7 x8 x9 x10 x11 x12 x13 x14))) (by kernel_rfl) rfl fun _=>w1 fun h=>qck _ _ _ _ _ _ _ _ _ _ _ _ _ _ _ _ _ _ h
section
variable {β:Type} (z:(Bool × Int × LI)->Option β) (x0:LI) (x1:Int) (x2:LL) (x3:Int) (x4:LI) (x5:L3) (x6 x7:LL) (x8:LI) (x9:Int) (x10 x11 x12:LI) (x13:LL) (x14:LI)
def Jd:Option β:=(cond (isL (qN FU x0 0 (1:Int) x2 (x2.length:Int) 0 x1 x2 x3 x4 x5 x6 x7 x8 x9 x10 x11 x12 x13 x14)) (z (zx (qN FU x0 0 (1:Int) x2 (x2.length:Int) 0 x1 x2 x3 x4 x5 x6 x7 x8 x9 x10 x11 x12 x13 x14),x3,x12)) (ob (zB (qN FU x0 0 (1:Int) x2 (x2.length:Int) 0 x1 x2 x3 x4 x5 x6 x7 x8 x9 x10 x11 x12 x13 x14)) fun r1=>(ob (GH x4 x5 x6 x7 x8 x9 x10 x11) fun r2=>(ob (v60 r2 x4 x5 x6 x7 x8 x9 x10 x11) fun r3=>(ob (Ga x0 r1.1 r1.2 r3 x1 x2 x3 x4 x5 x6 x7 x8 x9 x10 x11 x12 x13 x14) fun r4=>(z (r4.1,r4.2.1,r4.2.2)))))))
def GP:=Jd some x0 x1 x2 x3 x4 x5 x6 x7 x8 x9 x10 x11 x12 x13 x14
def DA:(Bool×Int×LI)->Ex×CS:=fun r=>(.ret,⟨[(6,.l 6 0),(7,vB r.1)],[(6,[kd2 x2,.g 3,I4 r.2.1])],[bx2 x4 x5 x6 x7 x8 x9,rd0 x10,rd0 x11,rd0 r.2.2],3,true⟩)
abbrev qa8:CS:=⟨[(2,vd0 x0),(3,vP 3),(6,.l 6 0),(10,.l 10 0),(41,.l 10 0)],[(6,[.g 5,.g 6,I4 x1]),(10,[kd2 x2,.g 4,I4 x3])],[bx2 x4 x5 x6 x7 x8 x9,rd0 x10,rd0 x11,.box 53 [.ptr 0 0],rd0 x12,rd1 x13,rd0 x14],3,false⟩
theorem qdD {k:Nat} {r:Bool×Int×LI}:GP x0 x1 x2 x3 x4 x5 x6 x7 x8 x9 x10 x11 x12 x13 x14=some r->pE S129 75 44 0 k (qa8 x0 x1 x2 x3 x4 x5 x6 x7 x8 x9 x10 x11 x12 x13 x14)=some (DA x2 x4 x5 x6 x7 x8 x9 x10 x11 r):=lP (Jd (sm (DA x2 x4 x5 x6 x7 x8 x9 x10 x11)) x0 x1 x2 x3 x4 x5 x6 x7 x8 x9 x10 x11 x12 x13 x14) (by kernel_rfl) (by unfold GP Jd;with_reducible repeat' first|apply zd|exact nX|exact sX)
end
def S130:=S129.pc 75 44 0 (qa8 [] 0 [] 0 [] [] [] [] [] 0 [] [] [] [] []) (fun x0 x1 x2 x3 x4 x5 x6 x7 x8 x9 x10 x11 x12 x13 x14=>some (y1 (GP x0 x1 x2 x3 x4 x5 x6 x7 x8 x9 x10 x11 x12 x13 x14) (DA x2 x4 x5 x6 x7 x8 x9 x10 x11))) (by kernel_rfl) rfl fun _=>w1 fun h=>qdD _ _ _ _ _ _ _ _ _ _ _ _ _ _ _ h
section
variable {β:Type} (z:(Bool × LL × Int × LI)->Option β) (x0:LI) (x1 x2:Int) (x3:LI) (x4:L3) (x5 x6:LL) (x7:LI) (x8:Int) (x9 x10 x11:LI) (x12:LL) (x13:Int) (x14:LL) (x15:LI) (x16:LL) (x17:LI)
def Jb:Option β:=(ob (GG x3 x4 x5 x6 x7 x8 x9 x10 x12 x13 x11) fun r1=>(ob (GP x0 x1 r1 x2 x3 x4 x5 x6 x7 x8 x9 x10 x15 x16 x17) fun r2=>(z (r2.1,r1,r2.2.1,r2.2.2))))
def gk (x0:LI) (x1 x2:Int) (x3:LI) (x4:L3) (x5 x6:LL) (x7:LI) (x8:Int) (x9 x10 x11:LI) (x12:LL) (x13:Int) (x14:LL) (x15:LI) (x16:LL) (x17:LI):Option (Bool×LL×Int×LI):=Jb some x0 x1 x2 x3 x4 x5 x6 x7 x8 x9 x10 x11 x12 x13 x15 x16 x17
def Dy:(Bool×LL×Int×LI)->Ex×CS:=fun r=>(.ret,⟨[(6,.l 6 0),(7,vB r.1)],[(6,[kd2 r.2.1,.g 3,I4 r.2.2.1])],[bx2 x3 x4 x5 x6 x7 x8,rd0 x9,rd0 x10,rd0 r.2.2.2],3,true⟩)
abbrev qa6:CS:=⟨[(2,vd0 x0),(3,vP 6),(4,vP 4),(6,.l 6 0),(8,vP 3),(9,vP 5),(10,.l 10 0)],[(6,[.g 9,.g 10,I4 x1]),(10,[.g 7,.g 8,I4 x2])],[bx2 x3 x4 x5 x6 x7 x8,rd0 x9,rd0 x10,.box 22 [kd0 x11],.box 31 [kd2 x12],.box 3 [I4 x13],.box 53 [.ptr 0 0],rd1 x14,rd0 x15,rd1 x16,rd0 x17],3,false⟩
theorem qdB {k:Nat} {r:Bool×LL×Int×LI}:gk x0 x1 x2 x3 x4 x5 x6 x7 x8 x9 x10 x11 x12 x13 x14 x15 x16 x17=some r->pE S130 75 36 0 k (qa6 x0 x1 x2 x3 x4 x5 x6 x7 x8 x9 x10 x11 x12 x13 x14 x15 x16 x17)=some (Dy x3 x4 x5 x6 x7 x8 x9 x10 r):=lP (Jb (sm (Dy x3 x4 x5 x6 x7 x8 x9 x10)) x0 x1 x2 x3 x4 x5 x6 x7 x8 x9 x10 x11 x12 x13 x15 x16 x17) (by kernel_rfl) (by unfold gk Jb;with_reducible repeat' first|apply zd|exact nX|exact sX)
end
def S131:=S130.pc 75 36 0 (qa6 [] 0 0 [] [] [] [] [] 0 [] [] [] [] 0 [] [] [] []) (fun x0 x1 x2 x3 x4 x5 x6 x7 x8 x9 x10 x11 x12 x13 x14 x15 x16 x17=>some (y1 (gk x0 x1 x2 x3 x4 x5 x6 x7 x8 x9 x10 x11 x12 x13 x14 x15 x16 x17) (Dy x3 x4 x5 x6 x7 x8 x9 x10))) (by kernel_rfl) rfl fun _=>w1 fun h=>qdB _ _ _ _ _ _ _ _ _ _ _ _ _ _ _ _ _ _ h
section
variable {β:Type} (z:(LL × LI × Int × Bool)->Option β) (x0:LL) (x1 x2:LI) (x3:L3) (x4 x5:LL) (x6:LI) (x7:Int) (x8 x9:LI)
def qaA:Option β:=(ob (v60 x0 x2 x3 x4 x5 x6 x7 x8 x9) fun r1=>(ob (v61 r1 x2 x3 x4 x5 x6 x7 x8 x9) fun r2=>(cond (decide ((x2.length:Int)<=(x2.length:Int))) (cond (decide ((x2.length:Int)<=(↑(nat_lit 2147483648):Int))) (ob (gk x1 0 0 x2 x3 x4 x5 x6 x7 x8 x9 r1 x0 r2 [] (List.replicate (x2.length:Int).toNat 0) [] []) fun r3=>(z (r3.2.1,r3.2.2.2,r3.2.2.1,r3.1))) none) none)))
def DO:=qaA some x0 x1 x2 x3 x4 x5 x6 x7 x8 x9
abbrev qcB:List TA:=[.sc (.ptr 0 0),.sc (kd2 x0),.sc (kd0 x1)]
abbrev qcV:List TO:=[bx2 x2 x3 x4 x5 x6 x7,rd0 x8,rd0 x9]
abbrev qd0:(LL×LI×Int×Bool)->List TA×List TO:=fun r=>([.agg [kd2 r.1,kd0 r.2.1,I4 r.2.2.1],.sc (.bool r.2.2.2)],[bx2 x2 x3 x4 x5 x6 x7,rd0 x8,rd0 x9])
theorem ev75_1:fE S131 75 (qcB x0 x1) (qcV x2 x3 x4 x5 x6 x7 x8 x9)=(DO x0 x1 x2 x3 x4 x5 x6 x7 x8 x9).bind (sm (qd0 x2 x3 x4 x5 x6 x7 x8 x9)):=zE (fun z=>qaA z x0 x1 x2 x3 x4 x5 x6 x7 x8 x9) (by kernel_rfl) fun K=>by unfold DO qaA;with_reducible repeat' first|apply zc|exact nB|exact sB
end
def S132:=S131.fn 75 (qcB [] []) (qcV [] [] [] [] [] 0 [] []) (fun x0 x1 x2 x3 x4 x5 x6 x7 x8 x9=>some (y1 (DO x0 x1 x2 x3 x4 x5 x6 x7 x8 x9) (qd0 x2 x3 x4 x5 x6 x7 x8 x9))) rfl fun _=>w1 fun h=>(ev75_1 ..).trans (bD h)
section
variable {β:Type} (z:(LL × LI × Int)->Option β) (x0:LL) (x1 x2:LI) (x3:L3) (x4 x5:LL) (x6:LI) (x7:Int) (x8 x9:LI)
def qau:Option β:=(ob (DO x0 x1 x2 x3 x4 x5 x6 x7 x8 x9) fun r1=>(cond (r1.2.2.2) (cond ((x5.length:Int)==0) (z (r1.1,r1.2.1,r1.2.2.1)) (cond (decide (r1.2.2.1 < x7)) (z (r1.1,r1.2.1,r1.2.2.1)) (z (x5,x6,x7)))) (z (x5,x6,x7))))
def JD:=qau some x0 x1 x2 x3 x4 x5 x6 x7 x8 x9
abbrev qcv:List TA:=[.sc (.ptr 0 0),.sc (kd2 x0),.sc (kd0 x1)]
abbrev qcP:List TO:=[bx2 x2 x3 x4 x5 x6 x7,rd0 x8,rd0 x9]
abbrev qdU:(LL×LI×Int)->List TA×List TO:=fun r=>([],[bx2 x2 x3 x4 r.1 r.2.1 r.2.2,rd0 x8,rd0 x9])
theorem ev58_1:fE S132 58 (qcv x0 x1) (qcP x2 x3 x4 x5 x6 x7 x8 x9)=(JD x0 x1 x2 x3 x4 x5 x6 x7 x8 x9).bind (sm (qdU x2 x3 x4 x8 x9)):=zE (fun z=>qau z x0 x1 x2 x3 x4 x5 x6 x7 x8 x9) (by kernel_rfl) fun K=>by unfold JD qau;with_reducible repeat' first|apply zc|exact nB|exact sB
end
def S133:=S132.fn 58 (qcv [] []) (qcP [] [] [] [] [] 0 [] []) (fun x0 x1 x2 x3 x4 x5 x6 x7 x8 x9=>some (y1 (JD x0 x1 x2 x3 x4 x5 x6 x7 x8 x9) (qdU x2 x3 x4 x8 x9))) rfl fun _=>w1 fun h=>(ev58_1 ..).trans (bD h)
section
variable {β:Type} (y:LI->Int->Int->Int->LI->L3->LL->LL->LI->Int->LI->LI->Option β) (z:LI->Option β) (x0:LI) (x1 x2 x3:Int) (x4:LI) (x5:L3) (x6 x7:LL) (x8:LI) (x9:Int) (x10 x11:LI)
def Gh:Option β:=(cond (decide (x3 < x2)) (ck x3 (x10.length:Int) (cond (decide (x3.toNat < List.length x10)) (cond (decide (x3 < (x4.length:Int))) (cond (decide (List.getD x4 x3.toNat 0 > 0)) (cond (decide (x3 < (x0.length:Int))) (ck x1 (x4.length:Int) (cond (decide (x1 < (x0.length:Int))) (cond (decide (List.getD x0 x1.toNat 0≠0)) (cond (decide (List.getD x4 x3.toNat 0≠0)) (y x0 x1 x2 (wI (x3+1)) x4 x5 x6 x7 x8 x9 (List.set x10 x3.toNat (min (1048576:Int) (max (16:Int) (wI (Int.tdiv (wI (List.getD x10 x3.toNat 0*wI ((1000:Int)+min (wI (Int.tdiv (wI (wI (Int.tdiv (wI (List.getD x0 x3.toNat 0*List.getD x4 x1.toNat 0)) (List.getD x0 x1.toNat 0))*1000)) (List.getD x4 x3.toNat 0))) (1000:Int)))) (1500:Int)))))) x11) none) none) none)) none) (y x0 x1 x2 (wI (x3+1)) x4 x5 x6 x7 x8 x9 x10 x11)) none) none)) (z x10))
def qbl:Option β:=(cond (decide (x3 < x2)) (ck x3 (x10.length:Int) (cond (decide (x3.toNat < List.length x10)) (ck x3 (x4.length:Int) (cond (decide (List.getD x4 x3.toNat 0 > 0)) (ck x3 (x0.length:Int) (ck x1 (x4.length:Int) (ck x1 (x0.length:Int) (cond (decide (List.getD x0 x1.toNat 0≠0)) (ck x3 (x4.length:Int) (cond (decide (List.getD x4 x3.toNat 0≠0)) (ck x3 (x10.length:Int) (cond (decide (x3.toNat < List.length x10)) (y x0 x1 x2 (wI (x3+1)) x4 x5 x6 x7 x8 x9 (List.set x10 x3.toNat (min (1048576:Int) (max (16:Int) (wI (Int.tdiv (wI (List.getD x10 x3.toNat 0*wI ((1000:Int)+min (wI (Int.tdiv (wI (wI (Int.tdiv (wI (List.getD x0 x3.toNat 0*List.getD x4 x1.toNat 0)) (List.getD x0 x1.toNat 0))*1000)) (List.getD x4 x3.toNat 0))) (1000:Int)))) (1500:Int)))))) x11) none)) none)) none)))) (y x0 x1 x2 (wI (x3+1)) x4 x5 x6 x7 x8 x9 x10 x11))) none)) (z x10))
def qH:=itL (fun _ _ _ _ _ _ _ _ _ _ _ _=>none) fun f=>Gh f some
theorem KD (n:Nat):qH (n+1)=Gh (qH n) some:=rfl
def Dl:LI->Ex×CS:=fun r=>((.exit 4),⟨[],[],[bx2 x4 x5 x6 x7 x8 x9,rd0 r,rd0 x11],3,false⟩)
abbrev Kc:CS:=⟨[(1,vP 3),(8,vd0 x0),(9,vI x1),(96,vG 1),(97,vI x2),(98,vI x3)],[],[bx2 x4 x5 x6 x7 x8 x9,rd0 x10,rd0 x11,.box 53 [.ptr 0 0]],3,false⟩
theorem qdo {k m n:Nat} {r:LI} (h:qH n x0 x1 x2 x3 x4 x5 x6 x7 x8 x9 x10 x11=some r):lE S133 34 4 k (n+m) (Kc x0 x1 x2 x3 x4 x5 x6 x7 x8 x9 x10 x11)=some (Dl x4 x5 x6 x7 x8 x9 x11 r):=by
 induction n generalizing x3 x10 with
 |zero=>cases h
 |succ n ih=>
 exact lS (qbl (fun x0 x1 x2 x3 x4 x5 x6 x7 x8 x9 x10 x11=>lE S133 34 4 k (n+m) (Kc x0 x1 x2 x3 x4 x5 x6 x7 x8 x9 x10 x11)) (sm (Dl x4 x5 x6 x7 x8 x9 x11)) x0 x1 x2 x3 x4 x5 x6 x7 x8 x9 x10 x11) (by kernel_rfl) (by rw [KD];unfold Gh qbl;with_reducible repeat' first|apply gT ‹_›|apply gF ‹_›|(apply zz<;>intro _)|exact ih _ _|exact nX|exact sX) h
end
def S134:=S133.lp 34 4 (Kc [] 0 0 0 [] [] [] [] [] 0 [] []) (fun x0 x1 x2 x3 x4 x5 x6 x7 x8 x9 x10 x11=>some (y1 (qH FU x0 x1 x2 x3 x4 x5 x6 x7 x8 x9 x10 x11) (Dl x4 x5 x6 x7 x8 x9 x11))) (by kernel_rfl) fun _=>w1 fun h=>qdo _ _ _ _ _ _ _ _ _ _ _ _ h
section
variable {β:Type} (z:LI->Option β) (x0:LI) (x1:Int) (x2:LI) (x3:L3) (x4 x5:LL) (x6:LI) (x7:Int) (x8 x9:LI)
def Gw:Option β:=(ob (qH FU x0 x1 (x8.length:Int) 0 x2 x3 x4 x5 x6 x7 x8 x9) fun r1=>(z r1))
def gU:=Gw some x0 x1 x2 x3 x4 x5 x6 x7 x8 x9
def JJ:LI->Ex×CS:=fun r=>(.normal,⟨[],[],[bx2 x2 x3 x4 x5 x6 x7,rd0 r,rd0 x9],3,false⟩)
abbrev HZ:CS:=⟨[(1,vP 3),(8,vd0 x0),(9,vI x1)],[],[bx2 x2 x3 x4 x5 x6 x7,rd0 x8,rd0 x9,.box 53 [.ptr 0 0]],3,false⟩
theorem qcb {k:Nat} {r:LI}:gU x0 x1 x2 x3 x4 x5 x6 x7 x8 x9=some r->pE S134 34 148 0 k (HZ x0 x1 x2 x3 x4 x5 x6 x7 x8 x9)=some (JJ x2 x3 x4 x5 x6 x7 x9 r):=lP (Gw (sm (JJ x2 x3 x4 x5 x6 x7 x9)) x0 x1 x2 x3 x4 x5 x6 x7 x8 x9) (by kernel_rfl) (by unfold gU Gw;with_reducible repeat' first|apply zd|exact nX|exact sX)
end
def S135:=S134.pc 34 148 0 (HZ [] 0 [] [] [] [] [] 0 [] []) (fun x0 x1 x2 x3 x4 x5 x6 x7 x8 x9=>some (y1 (gU x0 x1 x2 x3 x4 x5 x6 x7 x8 x9) (JJ x2 x3 x4 x5 x6 x7 x9))) (by kernel_rfl) rfl fun _=>w1 fun h=>qcb _ _ _ _ _ _ _ _ _ _ h
section
variable {β:Type} (z:LI->Option β) (x0:LI) (x1:L3) (x2 x3:LL) (x4:LI) (x5:Int) (x6 x7:LI) (x8:LL)
def Gv:Option β:=(ob (v60 x8 x0 x1 x2 x3 x4 x5 x6 x7) fun r1=>(ob (v61 r1 x0 x1 x2 x3 x4 x5 x6 x7) fun r2=>(ob (gU r1 r2 x0 x1 x2 x3 x4 x5 x6 x7) fun r3=>(z r3))))
def jT:=Gv some x0 x1 x2 x3 x4 x5 x6 x7 x8
def JI:LI->Ex×CS:=fun r=>(.normal,⟨[],[],[bx2 x0 x1 x2 x3 x4 x5,rd0 r,rd0 x7],3,false⟩)
abbrev HY:CS:=⟨[(1,vP 4),(2,vP 3)],[],[bx2 x0 x1 x2 x3 x4 x5,rd0 x6,rd0 x7,.box 31 [kd2 x8],.box 53 [.ptr 0 0]],3,false⟩
theorem qca {k:Nat} {r:LI}:jT x0 x1 x2 x3 x4 x5 x6 x7 x8=some r->pE S135 34 132 0 k (HY x0 x1 x2 x3 x4 x5 x6 x7 x8)=some (JI x0 x1 x2 x3 x4 x5 x7 r):=lP (Gv (sm (JI x0 x1 x2 x3 x4 x5 x7)) x0 x1 x2 x3 x4 x5 x6 x7 x8) (by kernel_rfl) (by unfold jT Gv;with_reducible repeat' first|apply zd|exact nX|exact sX)
end
def S136:=S135.pc 34 132 0 (HY [] [] [] [] [] 0 [] [] []) (fun x0 x1 x2 x3 x4 x5 x6 x7 x8=>some (y1 (jT x0 x1 x2 x3 x4 x5 x6 x7 x8) (JI x0 x1 x2 x3 x4 x5 x7))) (by kernel_rfl) rfl fun _=>w1 fun h=>qca _ _ _ _ _ _ _ _ _ h
section
variable {β:Type} (z:(LL × LI × Int × LI)->Option β) (x0:LI) (x1:L3) (x2 x3:LL) (x4:LI) (x5:Int) (x6 x7:LI) (x8:LL) (x9:LI)
def Gu:Option β:=(ob (JD x2 x9 x0 x1 x2 x3 x4 x5 x6 x7) fun r1=>(ob (jT x0 x1 x2 r1.1 r1.2.1 r1.2.2 x6 x7 x8) fun r2=>(z (r1.1,r1.2.1,r1.2.2,r2))))
def gS:=Gu some x0 x1 x2 x3 x4 x5 x6 x7 x8 x9
def JH:(LL×LI×Int×LI)->Ex×CS:=fun r=>(.normal,⟨[],[],[bx2 x0 x1 x2 r.1 r.2.1 r.2.2.1,rd0 r.2.2.2,rd0 x7],3,false⟩)
abbrev HX:CS:=⟨[(1,vP 4),(2,vP 3),(5,vG 5)],[],[bx2 x0 x1 x2 x3 x4 x5,rd0 x6,rd0 x7,.box 31 [kd2 x8],.box 53 [.ptr 0 0],rd0 x9],3,false⟩
theorem qb9 {k:Nat} {r:LL×LI×Int×LI}:gS x0 x1 x2 x3 x4 x5 x6 x7 x8 x9=some r->pE S136 34 124 0 k (HX x0 x1 x2 x3 x4 x5 x6 x7 x8 x9)=some (JH x0 x1 x2 x7 r):=lP (Gu (sm (JH x0 x1 x2 x7)) x0 x1 x2 x3 x4 x5 x6 x7 x8 x9) (by kernel_rfl) (by unfold gS Gu;with_reducible repeat' first|apply zd|exact nX|exact sX)
end
def S137:=S136.pc 34 124 0 (HX [] [] [] [] [] 0 [] [] [] []) (fun x0 x1 x2 x3 x4 x5 x6 x7 x8 x9=>some (y1 (gS x0 x1 x2 x3 x4 x5 x6 x7 x8 x9) (JH x0 x1 x2 x7))) (by kernel_rfl) rfl fun _=>w1 fun h=>qb9 _ _ _ _ _ _ _ _ _ _ h
section
variable {β:Type} (z:(LL × LI × Int × LI)->Option β) (x0:LI) (x1:L3) (x2 x3:LL) (x4:LI) (x5:Int) (x6 x7:LI) (x8:LL)
def G8:Option β:=(cond (decide ((x7.length:Int)<=(x7.length:Int))) (cond (decide ((x7.length:Int)<=(↑(nat_lit 2147483648):Int))) (ob (qV FU (x7.length:Int) 0 x0 x1 x2 x3 x4 x5 x6 x7 x8 (List.replicate (x7.length:Int).toNat 0)) fun r1=>(ob (gS x0 x1 x2 x3 x4 x5 x6 x7 x8 r1) fun r2=>(z (r2.1,r2.2.1,r2.2.2.1,r2.2.2.2)))) none) none)
def gf:=G8 some x0 x1 x2 x3 x4 x5 x6 x7 x8
def Dn:(LL×LI×Int×LI)->Ex×CS:=fun r=>(.normal,⟨[],[],[bx2 x0 x1 x2 r.1 r.2.1 r.2.2.1,rd0 r.2.2.2,rd0 x7],3,false⟩)
abbrev qa3:CS:=⟨[(1,vP 4),(2,vP 3)],[],[bx2 x0 x1 x2 x3 x4 x5,rd0 x6,rd0 x7,.box 31 [kd2 x8],.box 53 [.ptr 0 0]],3,false⟩
theorem qdq {k:Nat} {r:LL×LI×Int×LI}:gf x0 x1 x2 x3 x4 x5 x6 x7 x8=some r->pE S137 34 76 0 k (qa3 x0 x1 x2 x3 x4 x5 x6 x7 x8)=some (Dn x0 x1 x2 x7 r):=lP (G8 (sm (Dn x0 x1 x2 x7)) x0 x1 x2 x3 x4 x5 x6 x7 x8) (by kernel_rfl) (by unfold gf G8;with_reducible repeat' first|apply zd|exact nX|exact sX)
end
def S138:=S137.pc 34 76 0 (qa3 [] [] [] [] [] 0 [] [] []) (fun x0 x1 x2 x3 x4 x5 x6 x7 x8=>some (y1 (gf x0 x1 x2 x3 x4 x5 x6 x7 x8) (Dn x0 x1 x2 x7))) (by kernel_rfl) rfl fun _=>w1 fun h=>qdq _ _ _ _ _ _ _ _ _ h
section
variable {β:Type} (z:(LL × LI × Int × LI)->Option β) (x0:LI) (x1:L3) (x2 x3:LL) (x4:LI) (x5:Int) (x6 x7:LI) (x8:LL)
def G7:Option β:=(ob (v58 x8 x0 x1 x2 x3 x4 x5 x6 x7) fun r1=>(ob (gf x0 x1 x2 r1.1 r1.2.1 r1.2.2 x6 x7 x8) fun r2=>(z (r2.1,r2.2.1,r2.2.2.1,r2.2.2.2))))
def GN:=G7 some x0 x1 x2 x3 x4 x5 x6 x7 x8
def Dm:(LL×LI×Int×LI)->Ex×CS:=fun r=>(.normal,⟨[],[],[bx2 x0 x1 x2 r.1 r.2.1 r.2.2.1,rd0 r.2.2.2,rd0 x7],3,false⟩)
abbrev qa2:CS:=⟨[(1,vP 4),(2,vP 3)],[],[bx2 x0 x1 x2 x3 x4 x5,rd0 x6,rd0 x7,.box 31 [kd2 x8],.box 53 [.ptr 0 0]],3,false⟩
theorem qdp {k:Nat} {r:LL×LI×Int×LI}:GN x0 x1 x2 x3 x4 x5 x6 x7 x8=some r->pE S138 34 68 0 k (qa2 x0 x1 x2 x3 x4 x5 x6 x7 x8)=some (Dm x0 x1 x2 x7 r):=lP (G7 (sm (Dm x0 x1 x2 x7)) x0 x1 x2 x3 x4 x5 x6 x7 x8) (by kernel_rfl) (by unfold GN G7;with_reducible repeat' first|apply zd|exact nX|exact sX)
end
def S139:=S138.pc 34 68 0 (qa2 [] [] [] [] [] 0 [] [] []) (fun x0 x1 x2 x3 x4 x5 x6 x7 x8=>some (y1 (GN x0 x1 x2 x3 x4 x5 x6 x7 x8) (Dm x0 x1 x2 x7))) (by kernel_rfl) rfl fun _=>w1 fun h=>qdp _ _ _ _ _ _ _ _ _ h
section
variable {β:Type} (z:(LL × LL × LI × Int × LI × LI)->Option β) (x0:LI) (x1:L3) (x2 x3:LL) (x4:LI) (x5:Int) (x6 x7:LI) (x8:LL)
def G6:Option β:=(ob (JB x0 x1 x2 x3 x4 x5 x6 x7 x8) fun r1=>(ob (jc FU (x6.length:Int) 0 x0 x1 r1 x3 x4 x5 x6 x7 x8) fun r2=>(ob (GN x0 x1 r1 x3 x4 x5 x6 r2 x8) fun r3=>(z (r1,r3.1,r3.2.1,r3.2.2.1,r3.2.2.2,r2)))))
def GM:=G6 some x0 x1 x2 x3 x4 x5 x6 x7 x8
def Dk:(LL×LL×LI×Int×LI×LI)->Ex×CS:=fun r=>(.normal,⟨[],[],[bx2 x0 x1 r.1 r.2.1 r.2.2.1 r.2.2.2.1,rd0 r.2.2.2.2.1,rd0 r.2.2.2.2.2],3,false⟩)
abbrev qa1:CS:=⟨[(1,vP 4),(2,vP 3)],[],[bx2 x0 x1 x2 x3 x4 x5,rd0 x6,rd0 x7,.box 31 [kd2 x8],.box 53 [.ptr 0 0]],3,false⟩
theorem qdn {k:Nat} {r:LL×LL×LI×Int×LI×LI}:GM x0 x1 x2 x3 x4 x5 x6 x7 x8=some r->pE S139 34 20 0 k (qa1 x0 x1 x2 x3 x4 x5 x6 x7 x8)=some (Dk x0 x1 r):=lP (G6 (sm (Dk x0 x1)) x0 x1 x2 x3 x4 x5 x6 x7 x8) (by kernel_rfl) (by unfold GM G6;with_reducible repeat' first|apply zd|exact nX|exact sX)
end
def S140:=S139.pc 34 20 0 (qa1 [] [] [] [] [] 0 [] [] []) (fun x0 x1 x2 x3 x4 x5 x6 x7 x8=>some (y1 (GM x0 x1 x2 x3 x4 x5 x6 x7 x8) (Dk x0 x1))) (by kernel_rfl) rfl fun _=>w1 fun h=>qdn _ _ _ _ _ _ _ _ _ h
section
variable {β:Type} (z:(LL × LL × LI × Int × LI × LI)->Option β) (x0:LI) (x1:L3) (x2 x3:LL) (x4:LI) (x5:Int) (x6 x7:LI)
def tv34:Option β:=(ob (JA x0 x1 x2 x3 x4 x5 x6 x7) fun r1=>(ob (GM x0 x1 x2 x3 x4 x5 x6 x7 r1) fun r2=>(z (r2.1,r2.2.1,r2.2.2.1,r2.2.2.2.1,r2.2.2.2.2.1,r2.2.2.2.2.2))))
def v34:=tv34 some x0 x1 x2 x3 x4 x5 x6 x7
abbrev aF34:List TA:=[.sc (.ptr 0 0)]
abbrev hF34:List TO:=[bx2 x0 x1 x2 x3 x4 x5,rd0 x6,rd0 x7]
abbrev rF34:(LL×LL×LI×Int×LI×LI)->List TA×List TO:=fun r=>([],[bx2 x0 x1 r.1 r.2.1 r.2.2.1 r.2.2.2.1,rd0 r.2.2.2.2.1,rd0 r.2.2.2.2.2])
theorem ev34:fE S140 34 aF34 (hF34 x0 x1 x2 x3 x4 x5 x6 x7)=(v34 x0 x1 x2 x3 x4 x5 x6 x7).bind (sm (rF34 x0 x1)):=zE (fun z=>tv34 z x0 x1 x2 x3 x4 x5 x6 x7) (by kernel_rfl) fun K=>by unfold v34 tv34;with_reducible repeat' first|apply zc|exact nB|exact sB
end
def S141:=S140.fn 34 aF34 (hF34 [] [] [] [] [] 0 [] []) (fun x0 x1 x2 x3 x4 x5 x6 x7=>some (y1 (v34 x0 x1 x2 x3 x4 x5 x6 x7) (rF34 x0 x1))) rfl fun _=>w1 fun h=>(ev34 ..).trans (bD h)
section
variable {β:Type} (y:Int->Int->Int->LI->L3->LL->LL->LI->Int->LI->LI->LL->LI->Option β) (z:(LL × LL × LI × Int × LI × LI)->Option β) (x0 x1 x2:Int) (x3:LI) (x4:L3) (x5 x6:LL) (x7:LI) (x8:Int) (x9 x10:LI) (x11:LL) (x12:LI)
def jX:Option β:=(cond (decide (x1 < x0)) (ob (v34 x3 x4 x5 x6 x7 x8 x9 x10) fun r1=>(y x0 (wI (x1+1)) x2 x3 x4 (r1.1) (r1.2.1) (r1.2.2.1) (r1.2.2.2.1) (r1.2.2.2.2.1) (r1.2.2.2.2.2) x11 x12)) (z (x5,x6,x7,x8,x9,x10)))
def qP:=itL (fun _ _ _ _ _ _ _ _ _ _ _ _ _=>none) fun f=>jX f some
theorem Ku (n:Nat):qP (n+1)=jX (qP n) some:=rfl
def K8:(LL×LL×LI×Int×LI×LI)->Ex×CS:=fun r=>((.exit 4),⟨[(4,.l 4 0),(6,vP 0)],[(4,[.g 3,.g 4,I4 x2])],[bx2 x3 x4 r.1 r.2.1 r.2.2.1 r.2.2.2.1,rd0 r.2.2.2.2.1,rd0 r.2.2.2.2.2,rd1 x11,rd0 x12],0,false⟩)
abbrev JY:CS:=⟨[(4,.l 4 0),(6,vP 0),(75,vI x0),(76,vI x1)],[(4,[.g 3,.g 4,I4 x2])],[bx2 x3 x4 x5 x6 x7 x8,rd0 x9,rd0 x10,rd1 x11,rd0 x12],0,false⟩
theorem qdc {k m n:Nat} {r:LL×LL×LI×Int×LI×LI} (h:qP n x0 x1 x2 x3 x4 x5 x6 x7 x8 x9 x10 x11 x12=some r):lE S141 14 4 k (n+m) (JY x0 x1 x2 x3 x4 x5 x6 x7 x8 x9 x10 x11 x12)=some (K8 x2 x3 x4 x11 x12 r):=by
 induction n generalizing x1 x5 x6 x7 x8 x9 x10 with
 |zero=>cases h
 |succ n ih=>
 exact lS (jX (fun x0 x1 x2 x3 x4 x5 x6 x7 x8 x9 x10 x11 x12=>lE S141 14 4 k (n+m) (JY x0 x1 x2 x3 x4 x5 x6 x7 x8 x9 x10 x11 x12)) (sm (K8 x2 x3 x4 x11 x12)) x0 x1 x2 x3 x4 x5 x6 x7 x8 x9 x10 x11 x12) (by kernel_rfl) (by rw [Ku];unfold jX;with_reducible repeat' first|apply zd|exact ih _ _ _ _ _ _ _|exact nX|exact sX) h
end
def S142:=S141.lp 14 4 (JY 0 0 0 [] [] [] [] [] 0 [] [] [] []) (fun x0 x1 x2 x3 x4 x5 x6 x7 x8 x9 x10 x11 x12=>some (y1 (qP FU x0 x1 x2 x3 x4 x5 x6 x7 x8 x9 x10 x11 x12) (K8 x2 x3 x4 x11 x12))) (by kernel_rfl) fun _=>w1 fun h=>qdc _ _ _ _ _ _ _ _ _ _ _ _ _ h
section
variable {β:Type} (z:(Int × LL × LI × Int)->Option β) (x0 x1:Int) (x2:LI) (x3:L3) (x4 x5:LL) (x6:LI) (x7:Int) (x8 x9:LI) (x10:LL) (x11:LI)
def Gt:Option β:=(ob (qP FU (wI (x0+1)) 0 x1 x2 x3 x4 x5 x6 x7 x8 x9 x10 x11) fun r1=>(z (0,r1.2.1,r1.2.2.1,r1.2.2.2.1)))
def gR:=Gt some x0 x1 x2 x3 x4 x5 x6 x7 x8 x9 x10 x11
def JG:(Int×LL×LI×Int)->Ex×CS:=fun r=>(.ret,⟨[(4,.l 4 0),(5,vI r.1)],[(4,[kd2 r.2.1,kd0 r.2.2.1,I4 r.2.2.2])],[],0,true⟩)
abbrev HW:CS:=⟨[(1,vI x0),(4,.l 4 0),(6,vP 0)],[(4,[.g 3,.g 4,I4 x1])],[bx2 x2 x3 x4 x5 x6 x7,rd0 x8,rd0 x9,rd1 x10,rd0 x11],0,false⟩
theorem qb8 {k:Nat} {r:Int×LL×LI×Int}:gR x0 x1 x2 x3 x4 x5 x6 x7 x8 x9 x10 x11=some r->pE S142 14 140 0 k (HW x0 x1 x2 x3 x4 x5 x6 x7 x8 x9 x10 x11)=some (JG r):=lP (Gt (sm JG) x0 x1 x2 x3 x4 x5 x6 x7 x8 x9 x10 x11) (by kernel_rfl) (by unfold gR Gt;with_reducible repeat' first|apply zd|exact nX|exact sX)
end
def S143:=S142.pc 14 140 0 (HW 0 0 [] [] [] [] [] 0 [] [] [] []) (fun x0 x1 x2 x3 x4 x5 x6 x7 x8 x9 x10 x11=>some (y1 (gR x0 x1 x2 x3 x4 x5 x6 x7 x8 x9 x10 x11) JG)) (by kernel_rfl) rfl fun _=>w1 fun h=>qb8 _ _ _ _ _ _ _ _ _ _ _ _ h
section
variable {β:Type} (z:((Int × Int) ⊕ (Int × LL × LI × Int))->Option β) (x0:Int) (x1:LI) (x2:L3) (x3:Int) (x4:LI) (x5:L3) (x6 x7:LL) (x8:LI) (x9:Int) (x10 x11:LI) (x12:LL) (x13:LI)
def G5:Option β:=(cond (isL (qD FU x0 (x2.length:Int) 0 x3 x4 x5 x6 x7 x8 x9 x10 x11 x12 x13)) (z (.inl ((zx (qD FU x0 (x2.length:Int) 0 x3 x4 x5 x6 x7 x8 x9 x10 x11 x12 x13)).1,(zx (qD FU x0 (x2.length:Int) 0 x3 x4 x5 x6 x7 x8 x9 x10 x11 x12 x13)).2))) (ob (zB (qD FU x0 (x2.length:Int) 0 x3 x4 x5 x6 x7 x8 x9 x10 x11 x12 x13)) fun _=>(ob (gR x0 x3 x4 x5 x6 x7 x8 x9 x10 x11 x12 x13) fun r2=>(z (.inr (r2.1,r2.2.1,r2.2.2.1,r2.2.2.2))))))
def jI (x0:Int) (x1:LI) (x2:L3) (x3:Int) (x4:LI) (x5:L3) (x6 x7:LL) (x8:LI) (x9:Int) (x10 x11:LI) (x12:LL) (x13:LI):Option ((Int×Int) ⊕ (Int×LL×LI×Int)):=G5 some x0 x2 x3 x4 x5 x6 x7 x8 x9 x10 x11 x12 x13
def Da:((Int×Int) ⊕ (Int×LL×LI×Int))->Ex×CS:=Sum.elim (fun r=>(.ret,⟨[(4,.l 4 0),(5,vI r.1)],[(4,[.nil,.nil,I4 r.2])],[],0,true⟩)) fun r=>(.ret,⟨[(4,.l 4 0),(5,vI r.1)],[(4,[kd2 r.2.1,kd0 r.2.2.1,I4 r.2.2.2])],[],0,true⟩)
abbrev qa0:CS:=⟨[(1,vI x0),(2,.l 2 0),(4,.l 4 0),(6,vP 0)],[(2,[kd0 x1,kd1 x2]),(4,[.g 3,.g 4,I4 x3])],[bx2 x4 x5 x6 x7 x8 x9,rd0 x10,rd0 x11,rd1 x12,rd0 x13],0,false⟩
theorem qde {k:Nat} {r:(Int×Int) ⊕ (Int×LL×LI×Int)}:jI x0 x1 x2 x3 x4 x5 x6 x7 x8 x9 x10 x11 x12 x13=some r->pE S143 14 84 0 k (qa0 x0 x1 x2 x3 x4 x5 x6 x7 x8 x9 x10 x11 x12 x13)=some (Da r):=lP (G5 (sm Da) x0 x2 x3 x4 x5 x6 x7 x8 x9 x10 x11 x12 x13) (by kernel_rfl) (by unfold jI G5;with_reducible repeat' first|apply zd|exact nX|exact sX)
end
def S144:=S143.pc 14 84 0 (qa0 0 [] [] 0 [] [] [] [] [] 0 [] [] [] []) (fun x0 x1 x2 x3 x4 x5 x6 x7 x8 x9 x10 x11 x12 x13=>some (y2 (jI x0 x1 x2 x3 x4 x5 x6 x7 x8 x9 x10 x11 x12 x13) Da)) (by kernel_rfl) rfl fun _=>w2 fun h=>qde _ _ _ _ _ _ _ _ _ _ _ _ _ _ h
section
variable {β:Type} (z:((Int × Int) ⊕ (Int × LL × LI × Int))->Option β) (x0:Int) (x1:LI) (x2:L3) (x3:Int) (x4:LI) (x5:L3) (x6:LL) (x7:LI) (x8:Int) (x9 x10:LI) (x11:LL) (x12:LI)
def G4:Option β:=(ob (jm FU x0 (x9.length:Int) 0 x1 x2 x3 x4 x5 x6 x7 x8 x9 x10 x11 x12) fun r1=>(ob (v31 x4 x5 x6 x7 x8 r1 x10) fun r2=>(cond (isL (jI x0 x1 x2 x3 x4 x5 r2 x6 x7 x8 r1 x10 x11 x12)) (z (.inl ((zx (jI x0 x1 x2 x3 x4 x5 r2 x6 x7 x8 r1 x10 x11 x12)).1,(zx (jI x0 x1 x2 x3 x4 x5 r2 x6 x7 x8 r1 x10 x11 x12)).2))) (ob (zB (jI x0 x1 x2 x3 x4 x5 r2 x6 x7 x8 r1 x10 x11 x12)) fun r3=>(z (.inr (r3.1,r3.2.1,r3.2.2.1,r3.2.2.2)))))))
def qz:=G4 some x0 x1 x2 x3 x4 x5 x6 x7 x8 x9 x10 x11 x12
def K9:((Int×Int) ⊕ (Int×LL×LI×Int))->Ex×CS:=Sum.elim (fun r=>(.ret,⟨[(4,.l 4 0),(5,vI r.1)],[(4,[.nil,.nil,I4 r.2])],[],0,true⟩)) fun r=>(.ret,⟨[(4,.l 4 0),(5,vI r.1)],[(4,[kd2 r.2.1,kd0 r.2.2.1,I4 r.2.2.2])],[],0,true⟩)
abbrev qaZ:CS:=⟨[(1,vI x0),(2,.l 2 0),(4,.l 4 0),(6,vP 0),(24,.l 2 0),(28,.l 2 0)],[(2,[kd0 x1,kd1 x2]),(4,[.g 3,.g 4,I4 x3])],[bx0 x4 x5 x6 x7 x8,rd0 x9,rd0 x10,rd1 x11,rd0 x12],0,false⟩
theorem qdd {k:Nat} {r:(Int×Int) ⊕ (Int×LL×LI×Int)}:qz x0 x1 x2 x3 x4 x5 x6 x7 x8 x9 x10 x11 x12=some r->pE S144 14 36 0 k (qaZ x0 x1 x2 x3 x4 x5 x6 x7 x8 x9 x10 x11 x12)=some (K9 r):=lP (G4 (sm K9) x0 x1 x2 x3 x4 x5 x6 x7 x8 x9 x10 x11 x12) (by kernel_rfl) (by unfold qz G4;with_reducible repeat' first|apply zd|exact nX|exact sX)
end
def S145:=S144.pc 14 36 0 (qaZ 0 [] [] 0 [] [] [] [] 0 [] [] [] []) (fun x0 x1 x2 x3 x4 x5 x6 x7 x8 x9 x10 x11 x12=>some (y2 (qz x0 x1 x2 x3 x4 x5 x6 x7 x8 x9 x10 x11 x12) K9)) (by kernel_rfl) rfl fun _=>w2 fun h=>qdd _ _ _ _ _ _ _ _ _ _ _ _ _ h
section
variable {β:Type} (z:(LL × LI × Int × Int)->Option β) (x0:LI) (x1:L3) (x2:Int)
def tv14:Option β:=(ob (v28 x0 x1) fun r1=>(cond (!r1) (z ([],[],0,(1:Int))) (cond (decide (x2 < 0)) (z ([],[],0,(1:Int))) (cond (decide (x2 > (1000:Int))) (z ([],[],0,(1:Int))) (cond (decide ((x0.length:Int)<=(x0.length:Int))) (cond (decide ((x0.length:Int)<=(↑(nat_lit 2147483648):Int))) (cond (isL (qz x2 x0 x1 0 x0 x1 [] [] 0 (List.replicate (x0.length:Int).toNat 0) (List.replicate (x0.length:Int).toNat 0) [] [])) (z ([],[],(zx (qz x2 x0 x1 0 x0 x1 [] [] 0 (List.replicate (x0.length:Int).toNat 0) (List.replicate (x0.length:Int).toNat 0) [] [])).2,(zx (qz x2 x0 x1 0 x0 x1 [] [] 0 (List.replicate (x0.length:Int).toNat 0) (List.replicate (x0.length:Int).toNat 0) [] [])).1)) (ob (zB (qz x2 x0 x1 0 x0 x1 [] [] 0 (List.replicate (x0.length:Int).toNat 0) (List.replicate (x0.length:Int).toNat 0) [] [])) fun r2=>(z (r2.2.1,r2.2.2.1,r2.2.2.2,r2.1)))) none) none)))))
def v14:=tv14 some x0 x1 x2
def uv14:Option β:=(ob (v28 x0 x1) fun r1=>(cond (!r1) (z ([],[],0,(1:Int))) (cond (decide (x2 < 0)) (z ([],[],0,(1:Int))) (cond (decide (x2 > (1000:Int))) (z ([],[],0,(1:Int))) (cond (decide ((x0.length:Int)<=(x0.length:Int))) (cond (decide ((x0.length:Int)<=(↑(nat_lit 2147483648):Int))) (cond (decide ((x0.length:Int)<=(x0.length:Int))) (cond (decide ((x0.length:Int)<=(↑(nat_lit 2147483648):Int))) (cond (isL (qz x2 x0 x1 0 x0 x1 [] [] 0 (List.replicate (x0.length:Int).toNat 0) (List.replicate (x0.length:Int).toNat 0) [] [])) (z ([],[],(zx (qz x2 x0 x1 0 x0 x1 [] [] 0 (List.replicate (x0.length:Int).toNat 0) (List.replicate (x0.length:Int).toNat 0) [] [])).2,(zx (qz x2 x0 x1 0 x0 x1 [] [] 0 (List.replicate (x0.length:Int).toNat 0) (List.replicate (x0.length:Int).toNat 0) [] [])).1)) (ob (zB (qz x2 x0 x1 0 x0 x1 [] [] 0 (List.replicate (x0.length:Int).toNat 0) (List.replicate (x0.length:Int).toNat 0) [] [])) fun r2=>(z (r2.2.1,r2.2.2.1,r2.2.2.2,r2.1)))) none) none) none) none)))))
abbrev aF14:List TA:=[.agg [kd0 x0,kd1 x1],.sc (I4 x2)]
abbrev rF14:(LL×LI×Int×Int)->List TA×List TO:=fun r=>([.agg [kd2 r.1,kd0 r.2.1,I4 r.2.2.1],.sc (I4 r.2.2.2)],[])
theorem ev14:fE S145 14 (aF14 x0 x1 x2) []=(v14 x0 x1 x2).bind (sm rF14):=zE (fun z=>uv14 z x0 x1 x2) (by kernel_rfl) fun K=>by unfold v14 tv14 uv14;with_reducible repeat' first|apply bT ‹_›|apply bF ‹_›|(apply Yi<;>intro _)|exact nB|exact sB
end
def S146:=S145.fn 14 (aF14 [] [] 0) [] (fun x0 x1 x2=>some (y1 (v14 x0 x1 x2) rF14)) rfl fun _=>w1 fun h=>(ev14 ..).trans (bD h)
section
variable {β:Type} (y:LL->Int->Int->LI->L3->Option β) (z:(Bool ⊕ Unit)->Option β) (x0:LL) (x1 x2:Int) (x3:LI) (x4:L3)
def Gc:Option β:=(ck x1 (x4.length:Int) (cond (decide (x2 < (↑(List.length (List.getD x4 x1.toNat [])):Int))) (cond (decide (0<=x2)) (cond (decide ((↑(List.length (List.getD (List.getD x4 x1.toNat []) x2.toNat [])):Int) > (20:Int))) (z (.inl (false))) (y x0 x1 (wI (x2+1)) x3 x4)) none) (z (.inr ()))))
def qbg:Option β:=(ck x1 (x4.length:Int) (cond (decide (x2 < (↑(List.length (List.getD x4 x1.toNat [])):Int))) (ck x1 (x4.length:Int) (ck x2 (↑(List.length (List.getD x4 x1.toNat [])):Int) (cond (decide ((↑(List.length (List.getD (List.getD x4 x1.toNat []) x2.toNat [])):Int) > (20:Int))) (z (.inl (false))) (y x0 x1 (wI (x2+1)) x3 x4)))) (z (.inr ()))))
def qx:=itL (fun _ _ _ _ _=>none) fun f=>Gc f some
theorem Kr (n:Nat):qx (n+1)=Gc (qx n) some:=rfl
def K4:(Bool ⊕ Unit)->Ex×CS:=Sum.elim (fun r=>(.ret,⟨[(6,vB r)],[],[],0,true⟩)) fun r=>((.exit 2),⟨[(1,vd1 x0),(3,.l 3 0),(7,vI x1),(45,.l 3 1)],[(3,[kd0 x3,kd1 x4])],[],0,false⟩)
abbrev JU:CS:=⟨[(1,vd1 x0),(3,.l 3 0),(7,vI x1),(8,vI x2)],[(3,[kd0 x3,kd1 x4])],[],0,false⟩
theorem qc8 {k m n:Nat} {r:Bool ⊕ Unit} (h:qx n x0 x1 x2 x3 x4=some r):lE S146 11 2 k (n+m) (JU x0 x1 x2 x3 x4)=some (K4 x0 x1 x3 x4 r):=by
 induction n generalizing x2 with
 |zero=>cases h
 |succ n ih=>
 exact lS (qbg (fun x0 x1 x2 x3 x4=>lE S146 11 2 k (n+m) (JU x0 x1 x2 x3 x4)) (sm (K4 x0 x1 x3 x4)) x0 x1 x2 x3 x4) (by kernel_rfl) (by rw [Kr];unfold Gc qbg;with_reducible repeat' first|apply gT ‹_›|apply gF ‹_›|(apply zz<;>intro _)|exact ih _|exact nX|exact sX) h
end
def S147:=S146.lp 11 2 (JU [] 0 0 [] []) (fun x0 x1 x2 x3 x4=>some (y2 (qx FU x0 x1 x2 x3 x4) (K4 x0 x1 x3 x4))) (by kernel_rfl) fun _=>w2 fun h=>qc8 _ _ _ _ _ h
section
variable {β:Type} (y:LL->Int->LI->L3->Option β) (z:(Bool ⊕ Unit)->Option β) (x0:LL) (x1:Int) (x2:LI) (x3:L3)
def GR:Option β:=(cond (decide (x1 < (x3.length:Int))) (cond (decide (0<=x1)) (cond (decide ((↑(List.length (List.getD x3 x1.toNat [])):Int) > (20:Int))) (z (.inl (false))) (cond (isL (qx FU x0 x1 0 x2 x3)) (z (.inl (zx (qx FU x0 x1 0 x2 x3)))) (ob (zB (qx FU x0 x1 0 x2 x3)) fun _=>(y x0 (wI (x1+1)) x2 x3)))) none) (z (.inr ())))
def qbK:Option β:=(cond (decide (x1 < (x3.length:Int))) (ck x1 (x3.length:Int) (cond (decide ((↑(List.length (List.getD x3 x1.toNat [])):Int) > (20:Int))) (z (.inl (false))) (cond (isL (qx FU x0 x1 0 x2 x3)) (z (.inl (zx (qx FU x0 x1 0 x2 x3)))) (ob (zB (qx FU x0 x1 0 x2 x3)) fun _=>(y x0 (wI (x1+1)) x2 x3))))) (z (.inr ())))
def ja:=itL (fun _ _ _ _=>none) fun f=>GR f some
theorem Sx (n:Nat):ja (n+1)=GR (ja n) some:=rfl
def Hj:(Bool ⊕ Unit)->Ex×CS:=Sum.elim (fun r=>(.ret,⟨[(6,vB r)],[],[],0,true⟩)) fun r=>((.exit 0),⟨[(1,vd1 x0),(3,.l 3 0),(31,.l 3 1)],[],[],0,false⟩)
abbrev DS:CS:=⟨[(1,vd1 x0),(3,.l 3 0),(7,vI x1)],[(3,[kd0 x2,kd1 x3])],[],0,false⟩
theorem qeq {k m n:Nat} {r:Bool ⊕ Unit} (h:ja n x0 x1 x2 x3=some r):lE S147 11 0 k (n+m) (DS x0 x1 x2 x3)=some (Hj x0 r):=by
 induction n generalizing x1 with
 |zero=>cases h
 |succ n ih=>
 exact lS (qbK (fun x0 x1 x2 x3=>lE S147 11 0 k (n+m) (DS x0 x1 x2 x3)) (sm (Hj x0)) x0 x1 x2 x3) (by kernel_rfl) (by rw [Sx];unfold GR qbK;with_reducible repeat' first|apply gT ‹_›|apply gF ‹_›|(apply zz<;>intro _)|exact ih _|exact nX|exact sX) h
end
def S148:=S147.lp 11 0 (DS [] 0 [] []) (fun x0 x1 x2 x3=>some (y2 (ja FU x0 x1 x2 x3) (Hj x0))) (by kernel_rfl) fun _=>w2 fun h=>qeq _ _ _ _ h
section
variable {β:Type} (y:LL->Int->Option β) (z:(Bool ⊕ Unit)->Option β) (x0:LL) (x1:Int)
def Gd:Option β:=(cond (decide (x1 < (x0.length:Int))) (cond (decide (0<=x1)) (cond (decide ((↑(List.length (List.getD x0 x1.toNat [])):Int) > (20:Int))) (z (.inl (false))) (y x0 (wI (x1+1)))) none) (z (.inr ())))
def qbh:Option β:=(cond (decide (x1 < (x0.length:Int))) (ck x1 (x0.length:Int) (cond (decide ((↑(List.length (List.getD x0 x1.toNat [])):Int) > (20:Int))) (z (.inl (false))) (y x0 (wI (x1+1))))) (z (.inr ())))
def qF:=itL (fun _ _=>none) fun f=>Gd f some
theorem Ks (n:Nat):qF (n+1)=Gd (qF n) some:=rfl
def K5:(Bool ⊕ Unit)->Ex×CS:=Sum.elim (fun r=>(.ret,⟨[(6,vB r)],[],[],0,true⟩)) fun r=>((.exit 4),⟨[],[],[],0,false⟩)
abbrev JV:CS:=⟨[(1,vd1 x0),(9,vI x1)],[],[],0,false⟩
theorem qc9 {k m n:Nat} {r:Bool ⊕ Unit} (h:qF n x0 x1=some r):lE S148 11 4 k (n+m) (JV x0 x1)=some (K5 r):=by
 induction n generalizing x1 with
 |zero=>cases h
 |succ n ih=>
 exact lS (qbh (fun x0 x1=>lE S148 11 4 k (n+m) (JV x0 x1)) (sm K5) x0 x1) (by kernel_rfl) (by rw [Ks];unfold Gd qbh;with_reducible repeat' first|apply gT ‹_›|apply gF ‹_›|(apply zz<;>intro _)|exact ih _|exact nX|exact sX) h
end
def S149:=S148.lp 11 4 (JV [] 0) (fun x0 x1=>some (y2 (qF FU x0 x1) K5)) (by kernel_rfl) fun _=>w2 fun h=>qc9 _ _ h
section
variable {β:Type} (z:Bool->Option β) (x0:LI) (x1:L3) (x2:LL) (x3:LI)
def tv11:Option β:=(cond (decide ((x0.length:Int) > (20:Int))) (z false) (cond (decide ((x1.length:Int) > (20:Int))) (z false) (cond (decide ((x2.length:Int) > (20:Int))) (z false) (cond (decide ((x3.length:Int) > (20:Int))) (z false) (cond (isL (ja FU x2 0 x0 x1)) (z (zx (ja FU x2 0 x0 x1))) (ob (zB (ja FU x2 0 x0 x1)) fun _=>(cond (isL (qF FU x2 0)) (z (zx (qF FU x2 0))) (ob (zB (qF FU x2 0)) fun _=>(z true)))))))))
def v11:=tv11 some x0 x1 x2 x3
abbrev aF11:List TA:=[.agg [kd0 x0,kd1 x1],.sc (kd2 x2),.sc (kd0 x3)]
abbrev rF11:Bool->List TA×List TO:=fun r=>([.sc (.bool r)],[])
theorem ev11:fE S149 11 (aF11 x0 x1 x2 x3) []=(v11 x0 x1 x2 x3).bind (sm rF11):=zE (fun z=>tv11 z x0 x1 x2 x3) (by kernel_rfl) fun K=>by unfold v11 tv11;with_reducible repeat' first|apply zc|exact nB|exact sB
end
def S150:=S149.fn 11 (aF11 [] [] [] []) [] (fun x0 x1 x2 x3=>some (y1 (v11 x0 x1 x2 x3) rF11)) rfl fun _=>w1 fun h=>(ev11 ..).trans (bD h)
end
end Go.Proofs.Ytpfphfobneehmaa
