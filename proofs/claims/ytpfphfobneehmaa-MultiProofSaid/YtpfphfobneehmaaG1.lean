/- What some functions and loops come to: printed and checked. Written by a program of ours. -/
import Derived.Test.YtpfphfobneehmaaG0
set_option linter.all false
set_option maxRecDepth 1000000
set_option maxHeartbeats 4000000
namespace Go.Proofs.Ytpfphfobneehmaa
open Go Go.AM Go.TM Go.Proofs
noncomputable section
section
variable {β:Type} (y:Int->Int->Int->Int->Int->Int->Int->Int->Int->Option β) (z:Int->Option β) (x0 x1 x2 x3 x4 x5 x6 x7 x8:Int)
def Jj:Option β:=(cond (decide (x8≥(4294967296:Int))) (cond (decide (wU (x6+x2)≥(4294967296:Int))) (z (wU (x8 - (1:Int)))) (y x0 x1 x2 x3 x4 x5 (wU (x6+x2)) x7 (wU (x8 - (1:Int))))) (cond (decide (wU (x8*x3) > wU (wU ((4294967296:Int)*x6)+x4))) (cond (decide (wU (x6+x2)≥(4294967296:Int))) (z (wU (x8 - (1:Int)))) (y x0 x1 x2 x3 x4 x5 (wU (x6+x2)) x7 (wU (x8 - (1:Int))))) (z x8)))
def gC:=itL (fun _ _ _ _ _ _ _ _ _=>none) fun f=>Jj f some
theorem qdt (n:Nat):gC (n+1)=Jj (gC n) some:=rfl
def Hm:Int->Ex×CS:=fun r=>((.exit 2),⟨[(2,.v (.sc (.int .u64 x0))),(8,.v (.sc (.int .u64 x1))),(14,.v (.sc (.int .u64 x4))),(15,.v (.sc (.int .u64 x5))),(17,.v (.sc (.int .u64 x7))),(18,.v (.sc (.int .u64 r)))],[],[],0,false⟩)
abbrev DI:CS:=⟨[(2,.v (.sc (.int .u64 x0))),(8,.v (.sc (.int .u64 x1))),(9,.v (.sc (.int .u64 x2))),(10,.v (.sc (.int .u64 x3))),(14,.v (.sc (.int .u64 x4))),(15,.v (.sc (.int .u64 x5))),(16,.v (.sc (.int .u64 x6))),(17,.v (.sc (.int .u64 x7))),(18,.v (.sc (.int .u64 x8)))],[],[],0,false⟩
theorem qf9 {k m n:Nat} {r:Int} (h:gC n x0 x1 x2 x3 x4 x5 x6 x7 x8=some r):lE S77 74 2 k (n+m) (DI x0 x1 x2 x3 x4 x5 x6 x7 x8)=some (Hm x0 x1 x4 x5 x7 r):=by
 induction n generalizing x6 x8 with
 |zero=>cases h
 |succ n ih=>
 exact lS (Jj (fun x0 x1 x2 x3 x4 x5 x6 x7 x8=>lE S77 74 2 k (n+m) (DI x0 x1 x2 x3 x4 x5 x6 x7 x8)) (sm (Hm x0 x1 x4 x5 x7)) x0 x1 x2 x3 x4 x5 x6 x7 x8) (by kernel_rfl) (by rw [qdt];unfold Jj;with_reducible repeat' first|apply zd|exact ih _ _|exact nX|exact sX) h
end
def S78:=S77.lp 74 2 (DI 0 0 0 0 0 0 0 0 0) (fun x0 x1 x2 x3 x4 x5 x6 x7 x8=>some (y1 (gC FU x0 x1 x2 x3 x4 x5 x6 x7 x8) (Hm x0 x1 x4 x5 x7))) (by kernel_rfl) fun _=>w1 fun h=>qf9 _ _ _ _ _ _ _ _ _ h
section
variable {β:Type} (z:(Int × Int)->Option β) (x0 x1 x2 x3 x4 x5:Int)
def JB:Option β:=(cond (decide (0<=x1)) (z (wU (wU (x3*4294967296)+x5),Int.fdiv (wU (wU (wU (x4*4294967296)+x2) - wU (x5*x0))) ((2:Int) ^ min x1.toNat (IntKind.bits IntKind.u64)))) none)
def GV:=JB some x0 x1 x2 x3 x4 x5
def Db:(Int×Int)->Ex×CS:=fun r=>(.ret,⟨[(6,.v (.sc (.int .u64 r.1))),(7,.v (.sc (.int .u64 r.2)))],[],[],0,true⟩)
abbrev qcq:CS:=⟨[(2,.v (.sc (.int .u64 x0))),(8,.v (.sc (.int .u64 x1))),(14,.v (.sc (.int .u64 x2))),(15,.v (.sc (.int .u64 x3))),(17,.v (.sc (.int .u64 x4))),(18,.v (.sc (.int .u64 x5)))],[],[],0,false⟩
theorem qeO {k:Nat} {r:Int×Int}:GV x0 x1 x2 x3 x4 x5=some r->pE S78 74 228 0 k (qcq x0 x1 x2 x3 x4 x5)=some (Db r):=lP (JB (sm Db) x0 x1 x2 x3 x4 x5) (by kernel_rfl) (by unfold GV JB;with_reducible repeat' first|apply zd|exact nX|exact sX)
end
def S79:=S78.pc 74 228 0 (qcq 0 0 0 0 0 0) (fun x0 x1 x2 x3 x4 x5=>some (y1 (GV x0 x1 x2 x3 x4 x5) Db)) (by kernel_rfl) rfl fun _=>w1 fun h=>qeO _ _ _ _ _ _ h
section
variable {β:Type} (z:(Int × Int)->Option β) (x0 x1 x2 x3 x4 x5 x6 x7:Int)
def JA:Option β:=(ob (gC FU x0 x1 x2 x3 x4 x5 (wU (x6 - wU (x7*x2))) x6 x7) fun r1=>(ob (GV x0 x1 x4 x5 x6 r1) fun r2=>(z (r2.1,r2.2))))
def GU:=JA some x0 x1 x2 x3 x4 x5 x6 x7
def Da:(Int×Int)->Ex×CS:=fun r=>(.ret,⟨[(6,.v (.sc (.int .u64 r.1))),(7,.v (.sc (.int .u64 r.2)))],[],[],0,true⟩)
abbrev qcp:CS:=⟨[(2,.v (.sc (.int .u64 x0))),(8,.v (.sc (.int .u64 x1))),(9,.v (.sc (.int .u64 x2))),(10,.v (.sc (.int .u64 x3))),(14,.v (.sc (.int .u64 x4))),(15,.v (.sc (.int .u64 x5))),(17,.v (.sc (.int .u64 x6))),(18,.v (.sc (.int .u64 x7)))],[],[],0,false⟩
theorem qeN {k:Nat} {r:Int×Int}:GU x0 x1 x2 x3 x4 x5 x6 x7=some r->pE S79 74 188 0 k (qcp x0 x1 x2 x3 x4 x5 x6 x7)=some (Da r):=lP (JA (sm Da) x0 x1 x2 x3 x4 x5 x6 x7) (by kernel_rfl) (by unfold GU JA;with_reducible repeat' first|apply zd|exact nX|exact sX)
end
def S80:=S79.pc 74 188 0 (qcp 0 0 0 0 0 0 0 0) (fun x0 x1 x2 x3 x4 x5 x6 x7=>some (y1 (GU x0 x1 x2 x3 x4 x5 x6 x7) Da)) (by kernel_rfl) rfl fun _=>w1 fun h=>qeN _ _ _ _ _ _ _ _ h
section
variable {β:Type} (z:(Int × Int)->Option β) (x0 x1 x2 x3 x4 x5 x6:Int)
def Jz:Option β:=(cond (decide (x2≠0)) (ob (GU x0 x1 x2 x3 x4 x5 x6 (wU (Int.tdiv x6 x2))) fun r1=>(z (r1.1,r1.2))) none)
def GT:=Jz some x0 x1 x2 x3 x4 x5 x6
def K9:(Int×Int)->Ex×CS:=fun r=>(.ret,⟨[(6,.v (.sc (.int .u64 r.1))),(7,.v (.sc (.int .u64 r.2)))],[],[],0,true⟩)
abbrev qco:CS:=⟨[(2,.v (.sc (.int .u64 x0))),(8,.v (.sc (.int .u64 x1))),(9,.v (.sc (.int .u64 x2))),(10,.v (.sc (.int .u64 x3))),(14,.v (.sc (.int .u64 x4))),(15,.v (.sc (.int .u64 x5))),(17,.v (.sc (.int .u64 x6)))],[],[],0,false⟩
theorem qeM {k:Nat} {r:Int×Int}:GT x0 x1 x2 x3 x4 x5 x6=some r->pE S80 74 180 0 k (qco x0 x1 x2 x3 x4 x5 x6)=some (K9 r):=lP (Jz (sm K9) x0 x1 x2 x3 x4 x5 x6) (by kernel_rfl) (by unfold GT Jz;with_reducible repeat' first|apply zd|exact nX|exact sX)
end
def S81:=S80.pc 74 180 0 (qco 0 0 0 0 0 0 0) (fun x0 x1 x2 x3 x4 x5 x6=>some (y1 (GT x0 x1 x2 x3 x4 x5 x6) K9)) (by kernel_rfl) rfl fun _=>w1 fun h=>qeM _ _ _ _ _ _ _ h
section
variable {β:Type} (z:(Int × Int)->Option β) (x0 x1 x2 x3 x4 x5 x6 x7:Int)
def Jy:Option β:=(ob (GT x0 x1 x2 x3 x6 x7 (wU (wU (wU (x4*4294967296)+x5) - wU (x7*x0)))) fun r1=>(z (r1.1,r1.2)))
def GS:=Jy some x0 x1 x2 x3 x4 x5 x6 x7
def K8:(Int×Int)->Ex×CS:=fun r=>(.ret,⟨[(6,.v (.sc (.int .u64 r.1))),(7,.v (.sc (.int .u64 r.2)))],[],[],0,true⟩)
abbrev qcn:CS:=⟨[(2,.v (.sc (.int .u64 x0))),(8,.v (.sc (.int .u64 x1))),(9,.v (.sc (.int .u64 x2))),(10,.v (.sc (.int .u64 x3))),(11,.v (.sc (.int .u64 x4))),(13,.v (.sc (.int .u64 x5))),(14,.v (.sc (.int .u64 x6))),(15,.v (.sc (.int .u64 x7)))],[],[],0,false⟩
theorem qeL {k:Nat} {r:Int×Int}:GS x0 x1 x2 x3 x4 x5 x6 x7=some r->pE S81 74 172 0 k (qcn x0 x1 x2 x3 x4 x5 x6 x7)=some (K8 r):=lP (Jy (sm K8) x0 x1 x2 x3 x4 x5 x6 x7) (by kernel_rfl) (by unfold GS Jy;with_reducible repeat' first|apply zd|exact nX|exact sX)
end
def S82:=S81.pc 74 172 0 (qcn 0 0 0 0 0 0 0 0) (fun x0 x1 x2 x3 x4 x5 x6 x7=>some (y1 (GS x0 x1 x2 x3 x4 x5 x6 x7) K8)) (by kernel_rfl) rfl fun _=>w1 fun h=>qeL _ _ _ _ _ _ _ _ h
section
variable {β:Type} (z:(Int × Int)->Option β) (x0 x1 x2 x3 x4 x5 x6 x7:Int)
def Jx:Option β:=(ob (Gh FU x0 x1 x2 x3 x4 x5 x6 x7 (wU (x4 - wU (x7*x2)))) fun r1=>(ob (GS x0 x1 x2 x3 x4 x5 x6 r1) fun r2=>(z (r2.1,r2.2))))
def GR:=Jx some x0 x1 x2 x3 x4 x5 x6 x7
def K7:(Int×Int)->Ex×CS:=fun r=>(.ret,⟨[(6,.v (.sc (.int .u64 r.1))),(7,.v (.sc (.int .u64 r.2)))],[],[],0,true⟩)
abbrev qcm:CS:=⟨[(2,.v (.sc (.int .u64 x0))),(8,.v (.sc (.int .u64 x1))),(9,.v (.sc (.int .u64 x2))),(10,.v (.sc (.int .u64 x3))),(11,.v (.sc (.int .u64 x4))),(13,.v (.sc (.int .u64 x5))),(14,.v (.sc (.int .u64 x6))),(15,.v (.sc (.int .u64 x7)))],[],[],0,false⟩
theorem qeK {k:Nat} {r:Int×Int}:GR x0 x1 x2 x3 x4 x5 x6 x7=some r->pE S82 74 132 0 k (qcm x0 x1 x2 x3 x4 x5 x6 x7)=some (K7 r):=lP (Jx (sm K7) x0 x1 x2 x3 x4 x5 x6 x7) (by kernel_rfl) (by unfold GR Jx;with_reducible repeat' first|apply zd|exact nX|exact sX)
end
def S83:=S82.pc 74 132 0 (qcm 0 0 0 0 0 0 0 0) (fun x0 x1 x2 x3 x4 x5 x6 x7=>some (y1 (GR x0 x1 x2 x3 x4 x5 x6 x7) K7)) (by kernel_rfl) rfl fun _=>w1 fun h=>qeK _ _ _ _ _ _ _ _ h
section
variable {β:Type} (z:(Int × Int)->Option β) (x0 x1 x2 x3 x4 x5 x6:Int)
def Jw:Option β:=(cond (decide (x2≠0)) (ob (GR x0 x1 x2 x3 x4 x5 x6 (wU (Int.tdiv x4 x2))) fun r1=>(z (r1.1,r1.2))) none)
def gK:=Jw some x0 x1 x2 x3 x4 x5 x6
def K6:(Int×Int)->Ex×CS:=fun r=>(.ret,⟨[(6,.v (.sc (.int .u64 r.1))),(7,.v (.sc (.int .u64 r.2)))],[],[],0,true⟩)
abbrev qcl:CS:=⟨[(2,.v (.sc (.int .u64 x0))),(8,.v (.sc (.int .u64 x1))),(9,.v (.sc (.int .u64 x2))),(10,.v (.sc (.int .u64 x3))),(11,.v (.sc (.int .u64 x4))),(13,.v (.sc (.int .u64 x5))),(14,.v (.sc (.int .u64 x6)))],[],[],0,false⟩
theorem qeJ {k:Nat} {r:Int×Int}:gK x0 x1 x2 x3 x4 x5 x6=some r->pE S83 74 124 0 k (qcl x0 x1 x2 x3 x4 x5 x6)=some (K6 r):=lP (Jw (sm K6) x0 x1 x2 x3 x4 x5 x6) (by kernel_rfl) (by unfold gK Jw;with_reducible repeat' first|apply zd|exact nX|exact sX)
end
def S84:=S83.pc 74 124 0 (qcl 0 0 0 0 0 0 0) (fun x0 x1 x2 x3 x4 x5 x6=>some (y1 (gK x0 x1 x2 x3 x4 x5 x6) K6)) (by kernel_rfl) rfl fun _=>w1 fun h=>qeJ _ _ _ _ _ _ _ h
section
variable {β:Type} (z:(Int × Int)->Option β) (x0 x1 x2 x3 x4 x5:Int)
def Jv:Option β:=(cond (decide (0<=x2)) (ob (gK x1 x2 x3 x4 x5 (Int.fdiv (wU (x0*2 ^ min x2.toNat (IntKind.bits IntKind.u64))) ((2:Int) ^ min (Int.toNat (32:Int)) (IntKind.bits IntKind.u64))) (wU (↑(BitVec.toNat (BitVec.ofInt (IntKind.bits IntKind.u64) (wU (x0*2 ^ min x2.toNat (IntKind.bits IntKind.u64))) &&& BitVec.ofInt (IntKind.bits IntKind.u64) (4294967295:Int))):Int))) fun r1=>(z (r1.1,r1.2))) none)
def GQ:=Jv some x0 x1 x2 x3 x4 x5
def K5:(Int×Int)->Ex×CS:=fun r=>(.ret,⟨[(6,.v (.sc (.int .u64 r.1))),(7,.v (.sc (.int .u64 r.2)))],[],[],0,true⟩)
abbrev qck:CS:=⟨[(1,.v (.sc (.int .u64 x0))),(2,.v (.sc (.int .u64 x1))),(8,.v (.sc (.int .u64 x2))),(9,.v (.sc (.int .u64 x3))),(10,.v (.sc (.int .u64 x4))),(11,.v (.sc (.int .u64 x5)))],[],[],0,false⟩
theorem qeI {k:Nat} {r:Int×Int}:GQ x0 x1 x2 x3 x4 x5=some r->pE S84 74 100 0 k (qck x0 x1 x2 x3 x4 x5)=some (K5 r):=lP (Jv (sm K5) x0 x1 x2 x3 x4 x5) (by kernel_rfl) (by unfold GQ Jv;with_reducible repeat' first|apply zd|exact nX|exact sX)
end
def S85:=S84.pc 74 100 0 (qck 0 0 0 0 0 0) (fun x0 x1 x2 x3 x4 x5=>some (y1 (GQ x0 x1 x2 x3 x4 x5) K5)) (by kernel_rfl) rfl fun _=>w1 fun h=>qeI _ _ _ _ _ _ h
section
variable {β:Type} (z:(Int × Int)->Option β) (x0 x1 x2 x3:Int)
def Kq:Option β:=(cond (decide (0<=x3)) (cond (decide (0<=wU ((64:Int) - x3))) (ob (GQ x1 x2 x3 (Int.fdiv x2 ((2:Int) ^ min (Int.toNat (32:Int)) (IntKind.bits IntKind.u64))) (wU (↑(BitVec.toNat (BitVec.ofInt (IntKind.bits IntKind.u64) x2 &&& BitVec.ofInt (IntKind.bits IntKind.u64) (4294967295:Int))):Int)) (wU (↑(BitVec.toNat (BitVec.ofInt (IntKind.bits IntKind.u64) (wU (x0*2 ^ min x3.toNat (IntKind.bits IntKind.u64))) ||| BitVec.ofInt (IntKind.bits IntKind.u64) (Int.fdiv x1 ((2:Int) ^ min (wU ((64:Int) - x3)).toNat (IntKind.bits IntKind.u64))))):Int))) fun r1=>(z (r1.1,r1.2))) none) none)
def Gi:=Kq some x0 x1 x2 x3
def Hn:(Int×Int)->Ex×CS:=fun r=>(.ret,⟨[(6,.v (.sc (.int .u64 r.1))),(7,.v (.sc (.int .u64 r.2)))],[],[],0,true⟩)
abbrev qdi:CS:=⟨[(0,.v (.sc (.int .u64 x0))),(1,.v (.sc (.int .u64 x1))),(2,.v (.sc (.int .u64 x2))),(8,.v (.sc (.int .u64 x3)))],[],[],0,false⟩
theorem qga {k:Nat} {r:Int×Int}:Gi x0 x1 x2 x3=some r->pE S85 74 76 0 k (qdi x0 x1 x2 x3)=some (Hn r):=lP (Kq (sm Hn) x0 x1 x2 x3) (by kernel_rfl) (by unfold Gi Kq;with_reducible repeat' first|apply zd|exact nX|exact sX)
end
def S86:=S85.pc 74 76 0 (qdi 0 0 0 0) (fun x0 x1 x2 x3=>some (y1 (Gi x0 x1 x2 x3) Hn)) (by kernel_rfl) rfl fun _=>w1 fun h=>qga _ _ _ _ h
section
variable {β:Type} (z:(Int × Int)->Option β) (x0 x1 x2:Int)
def tv74:Option β:=(cond (x2==0) none (cond (decide (x2<=x0)) none (cond (x0==0) (cond (decide (x2≠0)) (z (wU (Int.tdiv x1 x2),Int.tmod x1 x2)) none) (ob (v80 x2) fun r1=>(cond (decide (0<=wU r1)) (ob (Gi x0 x1 (wU (x2*2 ^ min (wU r1).toNat (IntKind.bits IntKind.u64))) (wU r1)) fun r2=>(z (r2.1,r2.2))) none)))))
def v74:=tv74 some x0 x1 x2
def uv74:Option β:=(cond (x2==0) none (cond (decide (x2<=x0)) none (cond (x0==0) (cond (decide (x2≠0)) (cond (decide (x2≠0)) (z (wU (Int.tdiv x1 x2),Int.tmod x1 x2)) none) none) (ob (v80 x2) fun r1=>(cond (decide (0<=wU r1)) (ob (Gi x0 x1 (wU (x2*2 ^ min (wU r1).toNat (IntKind.bits IntKind.u64))) (wU r1)) fun r2=>(z (r2.1,r2.2))) none)))))
abbrev aF74:List TA:=[.sc (.int .u64 x0),.sc (.int .u64 x1),.sc (.int .u64 x2)]
abbrev rF74:(Int×Int)->List TA×List TO:=fun r=>([.sc (.int .u64 r.1),.sc (.int .u64 r.2)],[])
theorem ev74:fE S86 74 (aF74 x0 x1 x2) []=(v74 x0 x1 x2).bind (sm rF74):=zE (fun z=>uv74 z x0 x1 x2) (by kernel_rfl) fun K=>by unfold v74 tv74 uv74;with_reducible repeat' first|apply bT ‹_›|apply bF ‹_›|(apply Yi<;>intro _)|exact nB|exact sB
end
def S87:=S86.fn 74 (aF74 0 0 0) [] (fun x0 x1 x2=>some (y1 (v74 x0 x1 x2) rF74)) rfl fun _=>w1 fun h=>(ev74 ..).trans (bD h)
section
variable {β:Type} (z:Int->Option β) (x0 x1 x2:Int)
def tv56:Option β:=(ob (v74 (val (v73 (wU x0) (wU x1))).1 (val (v73 (wU x0) (wU x1))).2 (wU x2)) fun r1=>(z (wI r1.1)))
def v56:=tv56 some x0 x1 x2
abbrev aF56:List TA:=[.sc (I4 x0),.sc (I4 x1),.sc (I4 x2)]
abbrev rF56:Int->List TA×List TO:=fun r=>([.sc (I4 r)],[])
theorem ev56:fE S87 56 (aF56 x0 x1 x2) []=(v56 x0 x1 x2).bind (sm rF56):=zE (fun z=>tv56 z x0 x1 x2) (by kernel_rfl) fun K=>by unfold v56 tv56;with_reducible repeat' first|apply zc|exact nB|exact sB
end
def S88:=S87.fn 56 (aF56 0 0 0) [] (fun x0 x1 x2=>some (y1 (v56 x0 x1 x2) rF56)) rfl fun _=>w1 fun h=>(ev56 ..).trans (bD h)
section
variable {β:Type} (z:Int->Option β) (x0 x1:Int) (x2:LI) (x3:L3) (x4 x5:LL) (x6:LI) (x7:Int) (x8 x9:LI)
def tv55:Option β:=(ob (v33 x0 x2 x3 x4 x5 x6 x7 x8 x9) fun r1=>(cond (r1.1==x1) (ob (v56 (1000000000:Int) (1024:Int) r1.2) fun r2=>(z r2)) (z 0)))
def v55:=tv55 some x0 x1 x2 x3 x4 x5 x6 x7 x8 x9
abbrev aF55:List TA:=[.sc (I4 x0),.sc (I4 x1),.sc (.ptr 0 0)]
abbrev hF55:List TO:=[.box 53 [.ptr 1 0],bx1 x2 x3 x4 x5 x6 x7,rd0 x8,rd0 x9]
abbrev rF55:Int->List TA×List TO:=fun r=>([.sc (I4 r)],[.box 53 [.ptr 1 0],bx1 x2 x3 x4 x5 x6 x7,rd0 x8,rd0 x9])
theorem ev55:fE S88 55 (aF55 x0 x1) (hF55 x2 x3 x4 x5 x6 x7 x8 x9)=(v55 x0 x1 x2 x3 x4 x5 x6 x7 x8 x9).bind (sm (rF55 x2 x3 x4 x5 x6 x7 x8 x9)):=zE (fun z=>tv55 z x0 x1 x2 x3 x4 x5 x6 x7 x8 x9) (by kernel_rfl) fun K=>by unfold v55 tv55;with_reducible repeat' first|apply zc|exact nB|exact sB
end
def S89:=S88.fn 55 (aF55 0 0) (hF55 [] [] [] [] [] 0 [] []) (fun x0 x1 x2 x3 x4 x5 x6 x7 x8 x9=>some (y1 (v55 x0 x1 x2 x3 x4 x5 x6 x7 x8 x9) (rF55 x2 x3 x4 x5 x6 x7 x8 x9))) rfl fun _=>w1 fun h=>(ev55 ..).trans (bD h)
section
variable {β:Type} (y:Int->L3->Int->Int->Int->Int->LI->L3->LL->LL->LI->Int->LI->LI->LI->LL->Option β) (z:LI->Option β) (x0:Int) (x1:L3) (x2 x3 x4 x5:Int) (x6:LI) (x7:L3) (x8 x9:LL) (x10:LI) (x11:Int) (x12 x13 x14:LI) (x15:LL)
def gQ:Option β:=(cond (decide (x5 < x4)) (ob (v55 x0 x5 x6 x7 x8 x9 x10 x11 x12 x13) fun r1=>(ck x5 (x14.length:Int) (cond (decide (x5.toNat < List.length x14)) (y x0 x1 x2 x3 x4 (wI (x5+1)) x6 x7 x8 x9 x10 x11 x12 x13 (List.set x14 x5.toNat r1) x15) none))) (z x14))
def jk:=itL (fun _ _ _ _ _ _ _ _ _ _ _ _ _ _ _ _=>none) fun f=>gQ f some
theorem D4 (n:Nat):jk (n+1)=gQ (jk n) some:=rfl
def SW:LI->Ex×CS:=fun r=>((.exit 2),⟨[(1,.v (.sc (.fn 55 0 [none] [.ptr 3 0]))),(5,vG 5),(8,vG 4),(14,vd2 x1),(15,vI x2),(16,vI x3)],[],[bx2 x6 x7 x8 x9 x10 x11,rd0 x12,rd0 x13,.box 53 [.ptr 0 0],rd0 r,rd1 x15],4,false⟩)
abbrev Dv:CS:=⟨[(1,.v (.sc (.fn 55 0 [none] [.ptr 3 0]))),(5,vG 5),(6,vI x0),(8,vG 4),(14,vd2 x1),(15,vI x2),(16,vI x3),(25,vI x4),(26,vI x5)],[],[bx2 x6 x7 x8 x9 x10 x11,rd0 x12,rd0 x13,.box 53 [.ptr 0 0],rd0 x14,rd1 x15],4,false⟩
theorem qfT {k m n:Nat} {r:LI} (h:jk n x0 x1 x2 x3 x4 x5 x6 x7 x8 x9 x10 x11 x12 x13 x14 x15=some r):lE S89 31 2 k (n+m) (Dv x0 x1 x2 x3 x4 x5 x6 x7 x8 x9 x10 x11 x12 x13 x14 x15)=some (SW x1 x2 x3 x6 x7 x8 x9 x10 x11 x12 x13 x15 r):=by
 induction n generalizing x5 x14 with
 |zero=>cases h
 |succ n ih=>
 exact lS (gQ (fun x0 x1 x2 x3 x4 x5 x6 x7 x8 x9 x10 x11 x12 x13 x14 x15=>lE S89 31 2 k (n+m) (Dv x0 x1 x2 x3 x4 x5 x6 x7 x8 x9 x10 x11 x12 x13 x14 x15)) (sm (SW x1 x2 x3 x6 x7 x8 x9 x10 x11 x12 x13 x15)) x0 x1 x2 x3 x4 x5 x6 x7 x8 x9 x10 x11 x12 x13 x14 x15) (by kernel_rfl) (by rw [D4];unfold gQ;with_reducible repeat' first|apply zd|exact ih _ _|exact nX|exact sX) h
end
def S90:=S89.lp 31 2 (Dv 0 [] 0 0 0 0 [] [] [] [] [] 0 [] [] [] []) (fun x0 x1 x2 x3 x4 x5 x6 x7 x8 x9 x10 x11 x12 x13 x14 x15=>some (y1 (jk FU x0 x1 x2 x3 x4 x5 x6 x7 x8 x9 x10 x11 x12 x13 x14 x15) (SW x1 x2 x3 x6 x7 x8 x9 x10 x11 x12 x13 x15))) (by kernel_rfl) fun _=>w1 fun h=>qfT _ _ _ _ _ _ _ _ _ _ _ _ _ _ _ _ h
section
variable {β:Type} (y:L3->Int->Int->LI->L3->LL->LL->LI->Int->LI->LI->LL->Option β) (z:LL->Option β) (x0:L3) (x1 x2:Int) (x3:LI) (x4:L3) (x5 x6:LL) (x7:LI) (x8:Int) (x9 x10:LI) (x11:LL)
def Gs:Option β:=(cond (decide (x2 < x1)) (ck x2 (x0.length:Int) (cond (decide ((↑(List.length (List.getD x0 x2.toNat [])):Int)<=(↑(List.length (List.getD x0 x2.toNat [])):Int))) (cond (decide ((↑(List.length (List.getD x0 x2.toNat [])):Int)<=(↑(nat_lit 2147483648):Int))) (ob (jk FU x2 x0 x1 x2 (↑(List.length (List.replicate (↑(List.length (List.getD x0 x2.toNat [])):Int).toNat (0:Int))):Int) 0 x3 x4 x5 x6 x7 x8 x9 x10 (List.replicate (↑(List.length (List.getD x0 x2.toNat [])):Int).toNat 0) x11) fun r1=>(cond (decide (List.length x11+List.length [r1]<=nat_lit 2147483648)) (y x0 x1 (wI (x2+1)) x3 x4 x5 x6 x7 x8 x9 x10 (x11++[r1])) none)) none) none)) (z x11))
def jT:=itL (fun _ _ _ _ _ _ _ _ _ _ _ _=>none) fun f=>Gs f some
theorem qaV (n:Nat):jT (n+1)=Gs (jT n) some:=rfl
def qbG:LL->Ex×CS:=fun r=>((.exit 0),⟨[(5,vG 4)],[],[bx2 x3 x4 x5 x6 x7 x8,rd0 x9,rd0 x10,.box 53 [.ptr 0 0],rd1 r],4,false⟩)
abbrev H7:CS:=⟨[(1,.v (.sc (.fn 55 0 [none] [.ptr 3 0]))),(5,vG 4),(14,vd2 x0),(15,vI x1),(16,vI x2)],[],[bx2 x3 x4 x5 x6 x7 x8,rd0 x9,rd0 x10,.box 53 [.ptr 0 0],rd1 x11],4,false⟩
theorem qhh {k m n:Nat} {r:LL} (h:jT n x0 x1 x2 x3 x4 x5 x6 x7 x8 x9 x10 x11=some r):lE S90 31 0 k (n+m) (H7 x0 x1 x2 x3 x4 x5 x6 x7 x8 x9 x10 x11)=some (qbG x3 x4 x5 x6 x7 x8 x9 x10 r):=by
 induction n generalizing x2 x11 with
 |zero=>cases h
 |succ n ih=>
 exact lS (Gs (fun x0 x1 x2 x3 x4 x5 x6 x7 x8 x9 x10 x11=>lE S90 31 0 k (n+m) (H7 x0 x1 x2 x3 x4 x5 x6 x7 x8 x9 x10 x11)) (sm (qbG x3 x4 x5 x6 x7 x8 x9 x10)) x0 x1 x2 x3 x4 x5 x6 x7 x8 x9 x10 x11) (by kernel_rfl) (by rw [qaV];unfold Gs;with_reducible repeat' first|apply zd|exact ih _ _|exact nX|exact sX) h
end
def S91:=S90.lp 31 0 (H7 [] 0 0 [] [] [] [] [] 0 [] [] []) (fun x0 x1 x2 x3 x4 x5 x6 x7 x8 x9 x10 x11=>some (y1 (jT FU x0 x1 x2 x3 x4 x5 x6 x7 x8 x9 x10 x11) (qbG x3 x4 x5 x6 x7 x8 x9 x10))) (by kernel_rfl) fun _=>w1 fun h=>qhh _ _ _ _ _ _ _ _ _ _ _ _ h
section
variable {β:Type} (z:LL->Option β) (x0:LI) (x1:L3) (x2 x3:LL) (x4:LI) (x5:Int) (x6 x7:LI)
def qcE:Option β:=(ob (jT FU x1 (x1.length:Int) 0 x0 x1 x2 x3 x4 x5 x6 x7 []) fun r1=>(z r1))
def KU:=qcE some x0 x1 x2 x3 x4 x5 x6 x7
abbrev qeU:List TA:=[.sc (.ptr 0 0),.sc (.fn 55 0 [none] [.ptr 3 0])]
abbrev qff:List TO:=[bx2 x0 x1 x2 x3 x4 x5,rd0 x6,rd0 x7,.box 53 [.ptr 0 0]]
abbrev qgq:LL->List TA×List TO:=fun r=>([.sc (kd2 r)],[bx2 x0 x1 x2 x3 x4 x5,rd0 x6,rd0 x7,.box 53 [.ptr 0 0]])
theorem ev31_1:fE S91 31 qeU (qff x0 x1 x2 x3 x4 x5 x6 x7)=(KU x0 x1 x2 x3 x4 x5 x6 x7).bind (sm (qgq x0 x1 x2 x3 x4 x5 x6 x7)):=zE (fun z=>qcE z x0 x1 x2 x3 x4 x5 x6 x7) (by kernel_rfl) fun K=>by unfold KU qcE;with_reducible repeat' first|apply zc|exact nB|exact sB
end
def S92:=S91.fn 31 qeU (qff [] [] [] [] [] 0 [] []) (fun x0 x1 x2 x3 x4 x5 x6 x7=>some (y1 (KU x0 x1 x2 x3 x4 x5 x6 x7) (qgq x0 x1 x2 x3 x4 x5 x6 x7))) rfl fun _=>w1 fun h=>(ev31_1 ..).trans (bD h)
section
variable {β:Type} (z:Int->Option β) (x0 x1:Int) (x2:LI) (x3:L3) (x4 x5:LL) (x6:LI) (x7:Int) (x8 x9:LI) (x10:LL)
def tv57:Option β:=(ck x0 (x4.length:Int) (ck x1 (↑(List.length (List.getD x4 x0.toNat [])):Int) (cond (decide (x0 < (x10.length:Int))) (cond (decide (x1 < (↑(List.length (List.getD x10 x0.toNat [])):Int))) (z (wI (List.getD (List.getD x4 x0.toNat []) x1.toNat 0+List.getD (List.getD x10 x0.toNat []) x1.toNat 0))) none) none)))
def v57 (x0 x1:Int) (x2:LI) (x3:L3) (x4 x5:LL) (x6:LI) (x7:Int) (x8 x9:LI) (x10:LL):Option Int:=tv57 some x0 x1 x4 x10
def uv57:Option β:=(ck x0 (x4.length:Int) (ck x1 (↑(List.length (List.getD x4 x0.toNat [])):Int) (ck x0 (x10.length:Int) (ck x1 (↑(List.length (List.getD x10 x0.toNat [])):Int) (z (wI (List.getD (List.getD x4 x0.toNat []) x1.toNat 0+List.getD (List.getD x10 x0.toNat []) x1.toNat 0)))))))
abbrev aF57:List TA:=[.sc (I4 x0),.sc (I4 x1),.sc (.ptr 0 0),.sc (.ptr 4 0)]
abbrev hF57:List TO:=[.box 53 [.ptr 1 0],bx1 x2 x3 x4 x5 x6 x7,rd0 x8,rd0 x9,.box 31 [kd2 x10]]
abbrev rF57:Int->List TA×List TO:=fun r=>([.sc (I4 r)],[.box 53 [.ptr 1 0],bx1 x2 x3 x4 x5 x6 x7,rd0 x8,rd0 x9,.box 31 [kd2 x10]])
theorem ev57:fE S92 57 (aF57 x0 x1) (hF57 x2 x3 x4 x5 x6 x7 x8 x9 x10)=(v57 x0 x1 x2 x3 x4 x5 x6 x7 x8 x9 x10).bind (sm (rF57 x2 x3 x4 x5 x6 x7 x8 x9 x10)):=zE (fun z=>uv57 z x0 x1 x4 x10) (by kernel_rfl) fun K=>by unfold v57 tv57 uv57;with_reducible repeat' first|apply bT ‹_›|apply bF ‹_›|(apply Yi<;>intro _)|exact nB|exact sB
end
def S93:=S92.fn 57 (aF57 0 0) (hF57 [] [] [] [] [] 0 [] [] []) (fun x0 x1 x2 x3 x4 x5 x6 x7 x8 x9 x10=>some (y1 (v57 x0 x1 x2 x3 x4 x5 x6 x7 x8 x9 x10) (rF57 x2 x3 x4 x5 x6 x7 x8 x9 x10))) rfl fun _=>w1 fun h=>(ev57 ..).trans (bD h)
section
variable {β:Type} (y:Int->L3->Int->Int->Int->Int->LI->L3->LL->LL->LI->Int->LI->LI->LL->LI->LL->Option β) (z:LI->Option β) (x0:Int) (x1:L3) (x2 x3 x4 x5:Int) (x6:LI) (x7:L3) (x8 x9:LL) (x10:LI) (x11:Int) (x12 x13:LI) (x14:LL) (x15:LI) (x16:LL)
def gR:Option β:=(cond (decide (x5 < x4)) (ob (v57 x0 x5 x6 x7 x8 x9 x10 x11 x12 x13 x14) fun r1=>(ck x5 (x15.length:Int) (cond (decide (x5.toNat < List.length x15)) (y x0 x1 x2 x3 x4 (wI (x5+1)) x6 x7 x8 x9 x10 x11 x12 x13 x14 (List.set x15 x5.toNat r1) x16) none))) (z x15))
def jl:=itL (fun _ _ _ _ _ _ _ _ _ _ _ _ _ _ _ _ _=>none) fun f=>gR f some
theorem D5 (n:Nat):jl (n+1)=gR (jl n) some:=rfl
def SX:LI->Ex×CS:=fun r=>((.exit 2),⟨[(1,.v (.sc (.fn 57 0 [none,none] [.ptr 3 0,.ptr 4 0]))),(5,vG 6),(8,vG 5),(14,vd2 x1),(15,vI x2),(16,vI x3)],[],[bx2 x6 x7 x8 x9 x10 x11,rd0 x12,rd0 x13,.box 53 [.ptr 0 0],.box 31 [kd2 x14],rd0 r,rd1 x16],5,false⟩)
abbrev Dw:CS:=⟨[(1,.v (.sc (.fn 57 0 [none,none] [.ptr 3 0,.ptr 4 0]))),(5,vG 6),(6,vI x0),(8,vG 5),(14,vd2 x1),(15,vI x2),(16,vI x3),(25,vI x4),(26,vI x5)],[],[bx2 x6 x7 x8 x9 x10 x11,rd0 x12,rd0 x13,.box 53 [.ptr 0 0],.box 31 [kd2 x14],rd0 x15,rd1 x16],5,false⟩
theorem qfU {k m n:Nat} {r:LI} (h:jl n x0 x1 x2 x3 x4 x5 x6 x7 x8 x9 x10 x11 x12 x13 x14 x15 x16=some r):lE S93 31 2 k (n+m) (Dw x0 x1 x2 x3 x4 x5 x6 x7 x8 x9 x10 x11 x12 x13 x14 x15 x16)=some (SX x1 x2 x3 x6 x7 x8 x9 x10 x11 x12 x13 x14 x16 r):=by
 induction n generalizing x5 x15 with
 |zero=>cases h
 |succ n ih=>
 exact lS (gR (fun x0 x1 x2 x3 x4 x5 x6 x7 x8 x9 x10 x11 x12 x13 x14 x15 x16=>lE S93 31 2 k (n+m) (Dw x0 x1 x2 x3 x4 x5 x6 x7 x8 x9 x10 x11 x12 x13 x14 x15 x16)) (sm (SX x1 x2 x3 x6 x7 x8 x9 x10 x11 x12 x13 x14 x16)) x0 x1 x2 x3 x4 x5 x6 x7 x8 x9 x10 x11 x12 x13 x14 x15 x16) (by kernel_rfl) (by rw [D5];unfold gR;with_reducible repeat' first|apply zd|exact ih _ _|exact nX|exact sX) h
end
def S94:=S93.lp 31 2 (Dw 0 [] 0 0 0 0 [] [] [] [] [] 0 [] [] [] [] []) (fun x0 x1 x2 x3 x4 x5 x6 x7 x8 x9 x10 x11 x12 x13 x14 x15 x16=>some (y1 (jl FU x0 x1 x2 x3 x4 x5 x6 x7 x8 x9 x10 x11 x12 x13 x14 x15 x16) (SX x1 x2 x3 x6 x7 x8 x9 x10 x11 x12 x13 x14 x16))) (by kernel_rfl) fun _=>w1 fun h=>qfU _ _ _ _ _ _ _ _ _ _ _ _ _ _ _ _ _ h
section
variable {β:Type} (y:L3->Int->Int->LI->L3->LL->LL->LI->Int->LI->LI->LL->LL->Option β) (z:LL->Option β) (x0:L3) (x1 x2:Int) (x3:LI) (x4:L3) (x5 x6:LL) (x7:LI) (x8:Int) (x9 x10:LI) (x11 x12:LL)
def Gt:Option β:=(cond (decide (x2 < x1)) (ck x2 (x0.length:Int) (cond (decide ((↑(List.length (List.getD x0 x2.toNat [])):Int)<=(↑(List.length (List.getD x0 x2.toNat [])):Int))) (cond (decide ((↑(List.length (List.getD x0 x2.toNat [])):Int)<=(↑(nat_lit 2147483648):Int))) (ob (jl FU x2 x0 x1 x2 (↑(List.length (List.replicate (↑(List.length (List.getD x0 x2.toNat [])):Int).toNat (0:Int))):Int) 0 x3 x4 x5 x6 x7 x8 x9 x10 x11 (List.replicate (↑(List.length (List.getD x0 x2.toNat [])):Int).toNat 0) x12) fun r1=>(cond (decide (List.length x12+List.length [r1]<=nat_lit 2147483648)) (y x0 x1 (wI (x2+1)) x3 x4 x5 x6 x7 x8 x9 x10 x11 (x12++[r1])) none)) none) none)) (z x12))
def jU:=itL (fun _ _ _ _ _ _ _ _ _ _ _ _ _=>none) fun f=>Gt f some
theorem qaW (n:Nat):jU (n+1)=Gt (jU n) some:=rfl
def qbH:LL->Ex×CS:=fun r=>((.exit 0),⟨[(5,vG 5)],[],[bx2 x3 x4 x5 x6 x7 x8,rd0 x9,rd0 x10,.box 53 [.ptr 0 0],.box 31 [kd2 x11],rd1 r],5,false⟩)
abbrev H8:CS:=⟨[(1,.v (.sc (.fn 57 0 [none,none] [.ptr 3 0,.ptr 4 0]))),(5,vG 5),(14,vd2 x0),(15,vI x1),(16,vI x2)],[],[bx2 x3 x4 x5 x6 x7 x8,rd0 x9,rd0 x10,.box 53 [.ptr 0 0],.box 31 [kd2 x11],rd1 x12],5,false⟩
theorem qhi {k m n:Nat} {r:LL} (h:jU n x0 x1 x2 x3 x4 x5 x6 x7 x8 x9 x10 x11 x12=some r):lE S94 31 0 k (n+m) (H8 x0 x1 x2 x3 x4 x5 x6 x7 x8 x9 x10 x11 x12)=some (qbH x3 x4 x5 x6 x7 x8 x9 x10 x11 r):=by
 induction n generalizing x2 x12 with
 |zero=>cases h
 |succ n ih=>
 exact lS (Gt (fun x0 x1 x2 x3 x4 x5 x6 x7 x8 x9 x10 x11 x12=>lE S94 31 0 k (n+m) (H8 x0 x1 x2 x3 x4 x5 x6 x7 x8 x9 x10 x11 x12)) (sm (qbH x3 x4 x5 x6 x7 x8 x9 x10 x11)) x0 x1 x2 x3 x4 x5 x6 x7 x8 x9 x10 x11 x12) (by kernel_rfl) (by rw [qaW];unfold Gt;with_reducible repeat' first|apply zd|exact ih _ _|exact nX|exact sX) h
end
def S95:=S94.lp 31 0 (H8 [] 0 0 [] [] [] [] [] 0 [] [] [] []) (fun x0 x1 x2 x3 x4 x5 x6 x7 x8 x9 x10 x11 x12=>some (y1 (jU FU x0 x1 x2 x3 x4 x5 x6 x7 x8 x9 x10 x11 x12) (qbH x3 x4 x5 x6 x7 x8 x9 x10 x11))) (by kernel_rfl) fun _=>w1 fun h=>qhi _ _ _ _ _ _ _ _ _ _ _ _ _ h
section
variable {β:Type} (z:LL->Option β) (x0:LI) (x1:L3) (x2 x3:LL) (x4:LI) (x5:Int) (x6 x7:LI) (x8:LL)
def qcF:Option β:=(ob (jU FU x1 (x1.length:Int) 0 x0 x1 x2 x3 x4 x5 x6 x7 x8 []) fun r1=>(z r1))
def KV:=qcF some x0 x1 x2 x3 x4 x5 x6 x7 x8
abbrev qeV:List TA:=[.sc (.ptr 0 0),.sc (.fn 57 0 [none,none] [.ptr 3 0,.ptr 4 0])]
abbrev qfg:List TO:=[bx2 x0 x1 x2 x3 x4 x5,rd0 x6,rd0 x7,.box 53 [.ptr 0 0],.box 31 [kd2 x8]]
abbrev qgr:LL->List TA×List TO:=fun r=>([.sc (kd2 r)],[bx2 x0 x1 x2 x3 x4 x5,rd0 x6,rd0 x7,.box 53 [.ptr 0 0],.box 31 [kd2 x8]])
theorem ev31_2:fE S95 31 qeV (qfg x0 x1 x2 x3 x4 x5 x6 x7 x8)=(KV x0 x1 x2 x3 x4 x5 x6 x7 x8).bind (sm (qgr x0 x1 x2 x3 x4 x5 x6 x7 x8)):=zE (fun z=>qcF z x0 x1 x2 x3 x4 x5 x6 x7 x8) (by kernel_rfl) fun K=>by unfold KV qcF;with_reducible repeat' first|apply zc|exact nB|exact sB
end
def S96:=S95.fn 31 qeV (qfg [] [] [] [] [] 0 [] [] []) (fun x0 x1 x2 x3 x4 x5 x6 x7 x8=>some (y1 (KV x0 x1 x2 x3 x4 x5 x6 x7 x8) (qgr x0 x1 x2 x3 x4 x5 x6 x7 x8))) rfl fun _=>w1 fun h=>(ev31_2 ..).trans (bD h)
section
variable {β:Type} (y:Int->Int->LI->L3->LL->LL->LI->Int->LI->LI->LL->Option β) (z:LI->Option β) (x0 x1:Int) (x2:LI) (x3:L3) (x4 x5:LL) (x6:LI) (x7:Int) (x8 x9:LI) (x10:LL)
def JY:Option β:=(cond (decide (x1 < x0)) (ck x1 (x8.length:Int) (cond (decide (x1.toNat < List.length x8)) (cond (decide (x1 < (x9.length:Int))) (cond (decide (x1.toNat < List.length x9)) (y x0 (wI (x1+1)) x2 x3 x4 x5 x6 x7 x8 (List.set x9 x1.toNat (wI (List.getD x9 x1.toNat 0+List.getD x8 x1.toNat 0))) x10) none) none) none)) (z x9))
def qeb:Option β:=(cond (decide (x1 < x0)) (ck x1 (x8.length:Int) (cond (decide (x1.toNat < List.length x8)) (ck x1 (x9.length:Int) (cond (decide (x1.toNat < List.length x9)) (ck x1 (x9.length:Int) (cond (decide (x1.toNat < List.length x9)) (y x0 (wI (x1+1)) x2 x3 x4 x5 x6 x7 x8 (List.set x9 x1.toNat (wI (List.getD x9 x1.toNat 0+List.getD x8 x1.toNat 0))) x10) none)) none)) none)) (z x9))
def jC:=itL (fun _ _ _ _ _ _ _ _ _ _ _=>none) fun f=>JY f some
theorem qa1 (n:Nat):jC (n+1)=JY (jC n) some:=rfl
def qbM:LI->Ex×CS:=fun r=>((.exit 0),⟨[(1,vP 4),(2,vP 3)],[],[bx2 x2 x3 x4 x5 x6 x7,rd0 x8,rd0 r,.box 31 [kd2 x10],.box 53 [.ptr 0 0]],3,false⟩)
abbrev qad:CS:=⟨[(1,vP 4),(2,vP 3),(25,vG 1),(26,vI x0),(27,vI x1)],[],[bx2 x2 x3 x4 x5 x6 x7,rd0 x8,rd0 x9,.box 31 [kd2 x10],.box 53 [.ptr 0 0]],3,false⟩
theorem qhn {k m n:Nat} {r:LI} (h:jC n x0 x1 x2 x3 x4 x5 x6 x7 x8 x9 x10=some r):lE S96 34 0 k (n+m) (qad x0 x1 x2 x3 x4 x5 x6 x7 x8 x9 x10)=some (qbM x2 x3 x4 x5 x6 x7 x8 x10 r):=by
 induction n generalizing x1 x9 with
 |zero=>cases h
 |succ n ih=>
 exact lS (qeb (fun x0 x1 x2 x3 x4 x5 x6 x7 x8 x9 x10=>lE S96 34 0 k (n+m) (qad x0 x1 x2 x3 x4 x5 x6 x7 x8 x9 x10)) (sm (qbM x2 x3 x4 x5 x6 x7 x8 x10)) x0 x1 x2 x3 x4 x5 x6 x7 x8 x9 x10) (by kernel_rfl) (by rw [qa1];unfold JY qeb;with_reducible repeat' first|apply gT ‹_›|apply gF ‹_›|(apply zz<;>intro _)|exact ih _ _|exact nX|exact sX) h
end
def S97:=S96.lp 34 0 (qad 0 0 [] [] [] [] [] 0 [] [] []) (fun x0 x1 x2 x3 x4 x5 x6 x7 x8 x9 x10=>some (y1 (jC FU x0 x1 x2 x3 x4 x5 x6 x7 x8 x9 x10) (qbM x2 x3 x4 x5 x6 x7 x8 x10))) (by kernel_rfl) fun _=>w1 fun h=>qhn _ _ _ _ _ _ _ _ _ _ _ h
section
variable {β:Type} (y:LL->Int->Int->L3->Int->Int->LL->Int->Int->LI->Int->Int->LI->L3->LL->LL->LI->Int->LI->LI->LI->Option β) (z:LI->Option β) (x0:LL) (x1 x2:Int) (x3:L3) (x4 x5:Int) (x6:LL) (x7 x8:Int) (x9:LI) (x10 x11:Int) (x12:LI) (x13:L3) (x14 x15:LL) (x16:LI) (x17:Int) (x18 x19 x20:LI)
def Ji:Option β:=(cond (decide (x11 < x10)) (ck x11 (x9.length:Int) (ck (List.getD x9 x11.toNat 0) (x20.length:Int) (cond (decide ((List.getD x9 x11.toNat 0).toNat < List.length x20)) (ck x1 (x0.length:Int) (ck x2 (↑(List.length (List.getD x0 x1.toNat [])):Int) (y x0 x1 x2 x3 x4 x5 x6 x7 x8 x9 x10 (wI (x11+1)) x12 x13 x14 x15 x16 x17 x18 x19 (List.set x20 (List.getD x9 x11.toNat 0).toNat (wI (List.getD x20 (List.getD x9 x11.toNat 0).toNat 0+List.getD (List.getD x0 x1.toNat []) x2.toNat 0)))))) none))) (z x20))
def qdM:Option β:=(cond (decide (x11 < x10)) (ck x11 (x9.length:Int) (ck (List.getD x9 x11.toNat 0) (x20.length:Int) (cond (decide ((List.getD x9 x11.toNat 0).toNat < List.length x20)) (ck x1 (x0.length:Int) (ck x2 (↑(List.length (List.getD x0 x1.toNat [])):Int) (ck (List.getD x9 x11.toNat 0) (x20.length:Int) (cond (decide ((List.getD x9 x11.toNat 0).toNat < List.length x20)) (y x0 x1 x2 x3 x4 x5 x6 x7 x8 x9 x10 (wI (x11+1)) x12 x13 x14 x15 x16 x17 x18 x19 (List.set x20 (List.getD x9 x11.toNat 0).toNat (wI (List.getD x20 (List.getD x9 x11.toNat 0).toNat 0+List.getD (List.getD x0 x1.toNat []) x2.toNat 0)))) none)))) none))) (z x20))
def js:=itL (fun _ _ _ _ _ _ _ _ _ _ _ _ _ _ _ _ _ _ _ _ _=>none) fun f=>Ji f some
theorem Sh (n:Nat):js (n+1)=Ji (js n) some:=rfl
def Hl:LI->Ex×CS:=fun r=>((.exit 4),⟨[(1,vd1 x0),(5,vG 3),(6,vI x1),(23,vd2 x3),(24,vI x4),(25,vI x5),(30,vd1 x6),(31,vI x7),(32,vI x8)],[],[bx2 x12 x13 x14 x15 x16 x17,rd0 x18,rd0 x19,rd0 r],3,false⟩)
abbrev DH:CS:=⟨[(1,vd1 x0),(5,vG 3),(6,vI x1),(8,vI x2),(23,vd2 x3),(24,vI x4),(25,vI x5),(30,vd1 x6),(31,vI x7),(32,vI x8),(37,vd0 x9),(38,vI x10),(39,vI x11)],[],[bx2 x12 x13 x14 x15 x16 x17,rd0 x18,rd0 x19,rd0 x20],3,false⟩
theorem qf8 {k m n:Nat} {r:LI} (h:js n x0 x1 x2 x3 x4 x5 x6 x7 x8 x9 x10 x11 x12 x13 x14 x15 x16 x17 x18 x19 x20=some r):lE S97 60 4 k (n+m) (DH x0 x1 x2 x3 x4 x5 x6 x7 x8 x9 x10 x11 x12 x13 x14 x15 x16 x17 x18 x19 x20)=some (Hl x0 x1 x3 x4 x5 x6 x7 x8 x12 x13 x14 x15 x16 x17 x18 x19 r):=by
 induction n generalizing x11 x20 with
 |zero=>cases h
 |succ n ih=>
 exact lS (qdM (fun x0 x1 x2 x3 x4 x5 x6 x7 x8 x9 x10 x11 x12 x13 x14 x15 x16 x17 x18 x19 x20=>lE S97 60 4 k (n+m) (DH x0 x1 x2 x3 x4 x5 x6 x7 x8 x9 x10 x11 x12 x13 x14 x15 x16 x17 x18 x19 x20)) (sm (Hl x0 x1 x3 x4 x5 x6 x7 x8 x12 x13 x14 x15 x16 x17 x18 x19)) x0 x1 x2 x3 x4 x5 x6 x7 x8 x9 x10 x11 x12 x13 x14 x15 x16 x17 x18 x19 x20) (by kernel_rfl) (by rw [Sh];unfold Ji qdM;with_reducible repeat' first|apply gT ‹_›|apply gF ‹_›|(apply zz<;>intro _)|exact ih _ _|exact nX|exact sX) h
end
def S98:=S97.lp 60 4 (DH [] 0 0 [] 0 0 [] 0 0 [] 0 0 [] [] [] [] [] 0 [] [] []) (fun x0 x1 x2 x3 x4 x5 x6 x7 x8 x9 x10 x11 x12 x13 x14 x15 x16 x17 x18 x19 x20=>some (y1 (js FU x0 x1 x2 x3 x4 x5 x6 x7 x8 x9 x10 x11 x12 x13 x14 x15 x16 x17 x18 x19 x20) (Hl x0 x1 x3 x4 x5 x6 x7 x8 x12 x13 x14 x15 x16 x17 x18 x19))) (by kernel_rfl) fun _=>w1 fun h=>qf8 _ _ _ _ _ _ _ _ _ _ _ _ _ _ _ _ _ _ _ _ _ h
section
variable {β:Type} (y:LL->Int->L3->Int->Int->LL->Int->Int->LI->L3->LL->LL->LI->Int->LI->LI->LI->Option β) (z:LI->Option β) (x0:LL) (x1:Int) (x2:L3) (x3 x4:Int) (x5:LL) (x6 x7:Int) (x8:LI) (x9:L3) (x10 x11:LL) (x12:LI) (x13:Int) (x14 x15 x16:LI)
def gW:Option β:=(cond (decide (x7 < x6)) (ck x7 (x5.length:Int) (ob (js FU x0 x1 x7 x2 x3 x4 x5 x6 x7 (List.getD x5 x7.toNat []) (↑(List.length (List.getD x5 x7.toNat [])):Int) 0 x8 x9 x10 x11 x12 x13 x14 x15 x16) fun r1=>(y x0 x1 x2 x3 x4 x5 x6 (wI (x7+1)) x8 x9 x10 x11 x12 x13 x14 x15 r1))) (z x16))
def jr:=itL (fun _ _ _ _ _ _ _ _ _ _ _ _ _ _ _ _ _=>none) fun f=>gW f some
theorem Sg (n:Nat):jr (n+1)=gW (jr n) some:=rfl
def Hk:LI->Ex×CS:=fun r=>((.exit 2),⟨[(1,vd1 x0),(5,vG 3),(23,vd2 x2),(24,vI x3),(25,vI x4)],[],[bx2 x8 x9 x10 x11 x12 x13,rd0 x14,rd0 x15,rd0 r],3,false⟩)
abbrev DG:CS:=⟨[(1,vd1 x0),(5,vG 3),(6,vI x1),(23,vd2 x2),(24,vI x3),(25,vI x4),(30,vd1 x5),(31,vI x6),(32,vI x7)],[],[bx2 x8 x9 x10 x11 x12 x13,rd0 x14,rd0 x15,rd0 x16],3,false⟩
theorem qf7 {k m n:Nat} {r:LI} (h:jr n x0 x1 x2 x3 x4 x5 x6 x7 x8 x9 x10 x11 x12 x13 x14 x15 x16=some r):lE S98 60 2 k (n+m) (DG x0 x1 x2 x3 x4 x5 x6 x7 x8 x9 x10 x11 x12 x13 x14 x15 x16)=some (Hk x0 x2 x3 x4 x8 x9 x10 x11 x12 x13 x14 x15 r):=by
 induction n generalizing x7 x16 with
 |zero=>cases h
 |succ n ih=>
 exact lS (gW (fun x0 x1 x2 x3 x4 x5 x6 x7 x8 x9 x10 x11 x12 x13 x14 x15 x16=>lE S98 60 2 k (n+m) (DG x0 x1 x2 x3 x4 x5 x6 x7 x8 x9 x10 x11 x12 x13 x14 x15 x16)) (sm (Hk x0 x2 x3 x4 x8 x9 x10 x11 x12 x13 x14 x15)) x0 x1 x2 x3 x4 x5 x6 x7 x8 x9 x10 x11 x12 x13 x14 x15 x16) (by kernel_rfl) (by rw [Sg];unfold gW;with_reducible repeat' first|apply zd|exact ih _ _|exact nX|exact sX) h
end
def S99:=S98.lp 60 2 (DG [] 0 [] 0 0 [] 0 0 [] [] [] [] [] 0 [] [] []) (fun x0 x1 x2 x3 x4 x5 x6 x7 x8 x9 x10 x11 x12 x13 x14 x15 x16=>some (y1 (jr FU x0 x1 x2 x3 x4 x5 x6 x7 x8 x9 x10 x11 x12 x13 x14 x15 x16) (Hk x0 x2 x3 x4 x8 x9 x10 x11 x12 x13 x14 x15))) (by kernel_rfl) fun _=>w1 fun h=>qf7 _ _ _ _ _ _ _ _ _ _ _ _ _ _ _ _ _ h
section
variable {β:Type} (y:LL->L3->Int->Int->LI->L3->LL->LL->LI->Int->LI->LI->LI->Option β) (z:LI->Option β) (x0:LL) (x1:L3) (x2 x3:Int) (x4:LI) (x5:L3) (x6 x7:LL) (x8:LI) (x9:Int) (x10 x11 x12:LI)
def GB:Option β:=(cond (decide (x3 < x2)) (ck x3 (x1.length:Int) (ob (jr FU x0 x3 x1 x2 x3 (List.getD x1 x3.toNat []) (↑(List.length (List.getD x1 x3.toNat [])):Int) 0 x4 x5 x6 x7 x8 x9 x10 x11 x12) fun r1=>(y x0 x1 x2 (wI (x3+1)) x4 x5 x6 x7 x8 x9 x10 x11 r1))) (z x12))
def j8:=itL (fun _ _ _ _ _ _ _ _ _ _ _ _ _=>none) fun f=>GB f some
theorem qbc (n:Nat):j8 (n+1)=GB (j8 n) some:=rfl
def qbY:LI->Ex×CS:=fun r=>((.exit 0),⟨[(5,vG 3)],[],[bx2 x4 x5 x6 x7 x8 x9,rd0 x10,rd0 x11,rd0 r],3,false⟩)
abbrev qap:CS:=⟨[(1,vd1 x0),(5,vG 3),(23,vd2 x1),(24,vI x2),(25,vI x3)],[],[bx2 x4 x5 x6 x7 x8 x9,rd0 x10,rd0 x11,rd0 x12],3,false⟩
theorem qhz {k m n:Nat} {r:LI} (h:j8 n x0 x1 x2 x3 x4 x5 x6 x7 x8 x9 x10 x11 x12=some r):lE S99 60 0 k (n+m) (qap x0 x1 x2 x3 x4 x5 x6 x7 x8 x9 x10 x11 x12)=some (qbY x4 x5 x6 x7 x8 x9 x10 x11 r):=by
 induction n generalizing x3 x12 with
 |zero=>cases h
 |succ n ih=>
 exact lS (GB (fun x0 x1 x2 x3 x4 x5 x6 x7 x8 x9 x10 x11 x12=>lE S99 60 0 k (n+m) (qap x0 x1 x2 x3 x4 x5 x6 x7 x8 x9 x10 x11 x12)) (sm (qbY x4 x5 x6 x7 x8 x9 x10 x11)) x0 x1 x2 x3 x4 x5 x6 x7 x8 x9 x10 x11 x12) (by kernel_rfl) (by rw [qbc];unfold GB;with_reducible repeat' first|apply zd|exact ih _ _|exact nX|exact sX) h
end
def S100:=S99.lp 60 0 (qap [] [] 0 0 [] [] [] [] [] 0 [] [] []) (fun x0 x1 x2 x3 x4 x5 x6 x7 x8 x9 x10 x11 x12=>some (y1 (j8 FU x0 x1 x2 x3 x4 x5 x6 x7 x8 x9 x10 x11 x12) (qbY x4 x5 x6 x7 x8 x9 x10 x11))) (by kernel_rfl) fun _=>w1 fun h=>qhz _ _ _ _ _ _ _ _ _ _ _ _ _ h
section
variable {β:Type} (z:LI->Option β) (x0:LL) (x1:LI) (x2:L3) (x3 x4:LL) (x5:LI) (x6:Int) (x7 x8:LI)
def tv60:Option β:=(cond (decide ((x1.length:Int)<=(x1.length:Int))) (cond (decide ((x1.length:Int)<=(↑(nat_lit 2147483648):Int))) (ob (j8 FU x0 x2 (x2.length:Int) 0 x1 x2 x3 x4 x5 x6 x7 x8 (List.replicate (x1.length:Int).toNat 0)) fun r1=>(z r1)) none) none)
def v60:=tv60 some x0 x1 x2 x3 x4 x5 x6 x7 x8
abbrev aF60:List TA:=[.sc (.ptr 0 0),.sc (kd2 x0)]
abbrev hF60:List TO:=[bx2 x1 x2 x3 x4 x5 x6,rd0 x7,rd0 x8]
abbrev rF60:LI->List TA×List TO:=fun r=>([.sc (kd0 r)],[bx2 x1 x2 x3 x4 x5 x6,rd0 x7,rd0 x8])
theorem ev60:fE S100 60 (aF60 x0) (hF60 x1 x2 x3 x4 x5 x6 x7 x8)=(v60 x0 x1 x2 x3 x4 x5 x6 x7 x8).bind (sm (rF60 x1 x2 x3 x4 x5 x6 x7 x8)):=zE (fun z=>tv60 z x0 x1 x2 x3 x4 x5 x6 x7 x8) (by kernel_rfl) fun K=>by unfold v60 tv60;with_reducible repeat' first|apply zc|exact nB|exact sB
end
def S101:=S100.fn 60 (aF60 []) (hF60 [] [] [] [] [] 0 [] []) (fun x0 x1 x2 x3 x4 x5 x6 x7 x8=>some (y1 (v60 x0 x1 x2 x3 x4 x5 x6 x7 x8) (rF60 x1 x2 x3 x4 x5 x6 x7 x8))) rfl fun _=>w1 fun h=>(ev60 ..).trans (bD h)
section
variable {β:Type} (y:LI->Int->LI->Int->Int->LI->L3->LL->LL->LI->Int->LI->LI->Option β) (z:Int->Option β) (x0:LI) (x1:Int) (x2:LI) (x3 x4:Int) (x5:LI) (x6:L3) (x7 x8:LL) (x9:LI) (x10:Int) (x11 x12:LI)
def Kb:Option β:=(cond (decide (x4 < x3)) (ck x4 (x2.length:Int) (cond (decide (List.getD x2 x4.toNat 0 > 0)) (cond (decide (x1 < 0)) (y x0 x4 x2 x3 (wI (x4+1)) x5 x6 x7 x8 x9 x10 x11 x12) (cond (decide (x4 < (x5.length:Int))) (ck x1 (x0.length:Int) (cond (decide (x1 < (x5.length:Int))) (cond (decide (wI (List.getD x5 x4.toNat 0*List.getD x0 x1.toNat 0) < wI (List.getD x5 x1.toNat 0*List.getD x2 x4.toNat 0))) (y x0 x4 x2 x3 (wI (x4+1)) x5 x6 x7 x8 x9 x10 x11 x12) (y x0 x1 x2 x3 (wI (x4+1)) x5 x6 x7 x8 x9 x10 x11 x12)) none)) none)) (y x0 x1 x2 x3 (wI (x4+1)) x5 x6 x7 x8 x9 x10 x11 x12))) (z x1))
def qek:Option β:=(cond (decide (x4 < x3)) (ck x4 (x2.length:Int) (cond (decide (List.getD x2 x4.toNat 0 > 0)) (cond (decide (x1 < 0)) (y x0 x4 x2 x3 (wI (x4+1)) x5 x6 x7 x8 x9 x10 x11 x12) (ck x4 (x5.length:Int) (ck x1 (x0.length:Int) (ck x1 (x5.length:Int) (cond (decide (wI (List.getD x5 x4.toNat 0*List.getD x0 x1.toNat 0) < wI (List.getD x5 x1.toNat 0*List.getD x2 x4.toNat 0))) (y x0 x4 x2 x3 (wI (x4+1)) x5 x6 x7 x8 x9 x10 x11 x12) (y x0 x1 x2 x3 (wI (x4+1)) x5 x6 x7 x8 x9 x10 x11 x12)))))) (y x0 x1 x2 x3 (wI (x4+1)) x5 x6 x7 x8 x9 x10 x11 x12))) (z x1))
def j9:=itL (fun _ _ _ _ _ _ _ _ _ _ _ _ _=>none) fun f=>Kb f some
theorem qbd (n:Nat):j9 (n+1)=Kb (j9 n) some:=rfl
def qbZ:Int->Ex×CS:=fun r=>((.exit 0),⟨[(5,vI r)],[],[bx2 x5 x6 x7 x8 x9 x10,rd0 x11,rd0 x12],3,false⟩)
abbrev qaq:CS:=⟨[(0,vP 0),(1,vd0 x0),(5,vI x1),(8,vd0 x2),(9,vI x3),(10,vI x4)],[],[bx2 x5 x6 x7 x8 x9 x10,rd0 x11,rd0 x12],3,false⟩
theorem qhA {k m n:Nat} {r:Int} (h:j9 n x0 x1 x2 x3 x4 x5 x6 x7 x8 x9 x10 x11 x12=some r):lE S101 61 0 k (n+m) (qaq x0 x1 x2 x3 x4 x5 x6 x7 x8 x9 x10 x11 x12)=some (qbZ x5 x6 x7 x8 x9 x10 x11 x12 r):=by
 induction n generalizing x1 x4 with
 |zero=>cases h
 |succ n ih=>
 exact lS (qek (fun x0 x1 x2 x3 x4 x5 x6 x7 x8 x9 x10 x11 x12=>lE S101 61 0 k (n+m) (qaq x0 x1 x2 x3 x4 x5 x6 x7 x8 x9 x10 x11 x12)) (sm (qbZ x5 x6 x7 x8 x9 x10 x11 x12)) x0 x1 x2 x3 x4 x5 x6 x7 x8 x9 x10 x11 x12) (by kernel_rfl) (by rw [qbd];unfold Kb qek;with_reducible repeat' first|apply gT ‹_›|apply gF ‹_›|(apply zz<;>intro _)|exact ih _ _|exact nX|exact sX) h
end
def S102:=S101.lp 61 0 (qaq [] 0 [] 0 0 [] [] [] [] [] 0 [] []) (fun x0 x1 x2 x3 x4 x5 x6 x7 x8 x9 x10 x11 x12=>some (y1 (j9 FU x0 x1 x2 x3 x4 x5 x6 x7 x8 x9 x10 x11 x12) (qbZ x5 x6 x7 x8 x9 x10 x11 x12))) (by kernel_rfl) fun _=>w1 fun h=>qhA _ _ _ _ _ _ _ _ _ _ _ _ _ h
section
variable {β:Type} (z:Int->Option β) (x0 x1:LI) (x2:L3) (x3 x4:LL) (x5:LI) (x6:Int) (x7 x8:LI)
def tv61:Option β:=(ob (j9 FU x0 (-1:Int) x0 (x0.length:Int) 0 x1 x2 x3 x4 x5 x6 x7 x8) fun r1=>(z r1))
def v61:=tv61 some x0 x1 x2 x3 x4 x5 x6 x7 x8
abbrev aF61:List TA:=[.sc (.ptr 0 0),.sc (kd0 x0)]
abbrev hF61:List TO:=[bx2 x1 x2 x3 x4 x5 x6,rd0 x7,rd0 x8]
abbrev rF61:Int->List TA×List TO:=fun r=>([.sc (I4 r)],[bx2 x1 x2 x3 x4 x5 x6,rd0 x7,rd0 x8])
theorem ev61:fE S102 61 (aF61 x0) (hF61 x1 x2 x3 x4 x5 x6 x7 x8)=(v61 x0 x1 x2 x3 x4 x5 x6 x7 x8).bind (sm (rF61 x1 x2 x3 x4 x5 x6 x7 x8)):=zE (fun z=>tv61 z x0 x1 x2 x3 x4 x5 x6 x7 x8) (by kernel_rfl) fun K=>by unfold v61 tv61;with_reducible repeat' first|apply zc|exact nB|exact sB
end
def S103:=S102.fn 61 (aF61 []) (hF61 [] [] [] [] [] 0 [] []) (fun x0 x1 x2 x3 x4 x5 x6 x7 x8=>some (y1 (v61 x0 x1 x2 x3 x4 x5 x6 x7 x8) (rF61 x1 x2 x3 x4 x5 x6 x7 x8))) rfl fun _=>w1 fun h=>(ev61 ..).trans (bD h)
abbrev bx3 (y0:LI) (y1:L3) (y2:LL) (y3:LL) (y4:LI) (y5:Int):TO:=.box 55 [kd0 y0,kd1 y1,.g 3,kd2 y2,.g 4,kd2 y3,kd0 y4,I4 y5]
section
variable {β:Type} (z:Int->Option β) (x0 x1:Int) (x2:LL) (x3:LI) (x4:L3) (x5 x6:LL) (x7:LI) (x8:Int) (x9 x10:LI) (x11:Int) (x12:LI)
def tv81:Option β:=(ck x0 (x2.length:Int) (ck x1 (↑(List.length (List.getD x2 x0.toNat [])):Int) (ck x11 (x3.length:Int) (cond (decide (x11 < (x12.length:Int))) (ob (v56 (List.getD (List.getD x2 x0.toNat []) x1.toNat 0) (wI ((1000000:Int)*List.getD x3 x11.toNat 0)) (List.getD x12 x11.toNat 0)) fun r1=>(z r1)) none))))
def v81 (x0 x1:Int) (x2:LL) (x3:LI) (x4:L3) (x5 x6:LL) (x7:LI) (x8:Int) (x9 x10:LI) (x11:Int) (x12:LI):Option Int:=tv81 some x0 x1 x2 x3 x11 x12
def uv81:Option β:=(ck x0 (x2.length:Int) (ck x1 (↑(List.length (List.getD x2 x0.toNat [])):Int) (ck x11 (x3.length:Int) (ck x11 (x12.length:Int) (ob (v56 (List.getD (List.getD x2 x0.toNat []) x1.toNat 0) (wI ((1000000:Int)*List.getD x3 x11.toNat 0)) (List.getD x12 x11.toNat 0)) fun r1=>(z r1))))))
abbrev aF81:List TA:=[.sc (I4 x0),.sc (I4 x1),.sc (.ptr 0 0),.sc (.ptr 1 0),.sc (.ptr 5 0),.sc (.ptr 6 0)]
abbrev hF81:List TO:=[.box 31 [kd2 x2],.box 53 [.ptr 2 0],bx3 x3 x4 x5 x6 x7 x8,rd0 x9,rd0 x10,.box 3 [I4 x11],.box 22 [kd0 x12]]
abbrev rF81:Int->List TA×List TO:=fun r=>([.sc (I4 r)],[.box 31 [kd2 x2],.box 53 [.ptr 2 0],bx3 x3 x4 x5 x6 x7 x8,rd0 x9,rd0 x10,.box 3 [I4 x11],.box 22 [kd0 x12]])
theorem ev81:fE S103 81 (aF81 x0 x1) (hF81 x2 x3 x4 x5 x6 x7 x8 x9 x10 x11 x12)=(v81 x0 x1 x2 x3 x4 x5 x6 x7 x8 x9 x10 x11 x12).bind (sm (rF81 x2 x3 x4 x5 x6 x7 x8 x9 x10 x11 x12)):=zE (fun z=>uv81 z x0 x1 x2 x3 x11 x12) (by kernel_rfl) fun K=>by unfold v81 tv81 uv81;with_reducible repeat' first|apply bT ‹_›|apply bF ‹_›|(apply Yi<;>intro _)|exact nB|exact sB
end
def S104:=S103.fn 81 (aF81 0 0) (hF81 [] [] [] [] [] [] 0 [] [] 0 []) (fun x0 x1 x2 x3 x4 x5 x6 x7 x8 x9 x10 x11 x12=>some (y1 (v81 x0 x1 x2 x3 x4 x5 x6 x7 x8 x9 x10 x11 x12) (rF81 x2 x3 x4 x5 x6 x7 x8 x9 x10 x11 x12))) rfl fun _=>w1 fun h=>(ev81 ..).trans (bD h)
section
variable {β:Type} (y:Int->L3->Int->Int->Int->Int->LI->L3->LL->LL->LI->Int->LI->LI->LL->Int->LI->LI->LL->Option β) (z:LI->Option β) (x0:Int) (x1:L3) (x2 x3 x4 x5:Int) (x6:LI) (x7:L3) (x8 x9:LL) (x10:LI) (x11:Int) (x12 x13:LI) (x14:LL) (x15:Int) (x16 x17:LI) (x18:LL)
def gS:Option β:=(cond (decide (x5 < x4)) (ob (v81 x0 x5 x14 x6 x7 x8 x9 x10 x11 x12 x13 x15 x16) fun r1=>(ck x5 (x17.length:Int) (cond (decide (x5.toNat < List.length x17)) (y x0 x1 x2 x3 x4 (wI (x5+1)) x6 x7 x8 x9 x10 x11 x12 x13 x14 x15 x16 (List.set x17 x5.toNat r1) x18) none))) (z x17))
def jm:=itL (fun _ _ _ _ _ _ _ _ _ _ _ _ _ _ _ _ _ _ _=>none) fun f=>gS f some
theorem D6 (n:Nat):jm (n+1)=gS (jm n) some:=rfl
def SY:LI->Ex×CS:=fun r=>((.exit 2),⟨[(1,.v (.sc (.fn 81 0 [none,none,none,none] [.ptr 3 0,.ptr 4 0,.ptr 5 0,.ptr 6 0]))),(5,vG 8),(8,vG 7),(14,vd2 x1),(15,vI x2),(16,vI x3)],[],[bx2 x6 x7 x8 x9 x10 x11,rd0 x12,rd0 x13,.box 31 [kd2 x14],.box 53 [.ptr 0 0],.box 3 [I4 x15],.box 22 [kd0 x16],rd0 r,rd1 x18],7,false⟩)
abbrev Dx:CS:=⟨[(1,.v (.sc (.fn 81 0 [none,none,none,none] [.ptr 3 0,.ptr 4 0,.ptr 5 0,.ptr 6 0]))),(5,vG 8),(6,vI x0),(8,vG 7),(14,vd2 x1),(15,vI x2),(16,vI x3),(25,vI x4),(26,vI x5)],[],[bx2 x6 x7 x8 x9 x10 x11,rd0 x12,rd0 x13,.box 31 [kd2 x14],.box 53 [.ptr 0 0],.box 3 [I4 x15],.box 22 [kd0 x16],rd0 x17,rd1 x18],7,false⟩
theorem qfV {k m n:Nat} {r:LI} (h:jm n x0 x1 x2 x3 x4 x5 x6 x7 x8 x9 x10 x11 x12 x13 x14 x15 x16 x17 x18=some r):lE S104 31 2 k (n+m) (Dx x0 x1 x2 x3 x4 x5 x6 x7 x8 x9 x10 x11 x12 x13 x14 x15 x16 x17 x18)=some (SY x1 x2 x3 x6 x7 x8 x9 x10 x11 x12 x13 x14 x15 x16 x18 r):=by
 induction n generalizing x5 x17 with
 |zero=>cases h
 |succ n ih=>
 exact lS (gS (fun x0 x1 x2 x3 x4 x5 x6 x7 x8 x9 x10 x11 x12 x13 x14 x15 x16 x17 x18=>lE S104 31 2 k (n+m) (Dx x0 x1 x2 x3 x4 x5 x6 x7 x8 x9 x10 x11 x12 x13 x14 x15 x16 x17 x18)) (sm (SY x1 x2 x3 x6 x7 x8 x9 x10 x11 x12 x13 x14 x15 x16 x18)) x0 x1 x2 x3 x4 x5 x6 x7 x8 x9 x10 x11 x12 x13 x14 x15 x16 x17 x18) (by kernel_rfl) (by rw [D6];unfold gS;with_reducible repeat' first|apply zd|exact ih _ _|exact nX|exact sX) h
end
def S105:=S104.lp 31 2 (Dx 0 [] 0 0 0 0 [] [] [] [] [] 0 [] [] [] 0 [] [] []) (fun x0 x1 x2 x3 x4 x5 x6 x7 x8 x9 x10 x11 x12 x13 x14 x15 x16 x17 x18=>some (y1 (jm FU x0 x1 x2 x3 x4 x5 x6 x7 x8 x9 x10 x11 x12 x13 x14 x15 x16 x17 x18) (SY x1 x2 x3 x6 x7 x8 x9 x10 x11 x12 x13 x14 x15 x16 x18))) (by kernel_rfl) fun _=>w1 fun h=>qfV _ _ _ _ _ _ _ _ _ _ _ _ _ _ _ _ _ _ _ h
section
variable {β:Type} (y:L3->Int->Int->LI->L3->LL->LL->LI->Int->LI->LI->LL->Int->LI->LL->Option β) (z:LL->Option β) (x0:L3) (x1 x2:Int) (x3:LI) (x4:L3) (x5 x6:LL) (x7:LI) (x8:Int) (x9 x10:LI) (x11:LL) (x12:Int) (x13:LI) (x14:LL)
def Gu:Option β:=(cond (decide (x2 < x1)) (ck x2 (x0.length:Int) (cond (decide ((↑(List.length (List.getD x0 x2.toNat [])):Int)<=(↑(List.length (List.getD x0 x2.toNat [])):Int))) (cond (decide ((↑(List.length (List.getD x0 x2.toNat [])):Int)<=(↑(nat_lit 2147483648):Int))) (ob (jm FU x2 x0 x1 x2 (↑(List.length (List.replicate (↑(List.length (List.getD x0 x2.toNat [])):Int).toNat (0:Int))):Int) 0 x3 x4 x5 x6 x7 x8 x9 x10 x11 x12 x13 (List.replicate (↑(List.length (List.getD x0 x2.toNat [])):Int).toNat 0) x14) fun r1=>(cond (decide (List.length x14+List.length [r1]<=nat_lit 2147483648)) (y x0 x1 (wI (x2+1)) x3 x4 x5 x6 x7 x8 x9 x10 x11 x12 x13 (x14++[r1])) none)) none) none)) (z x14))
def jV:=itL (fun _ _ _ _ _ _ _ _ _ _ _ _ _ _ _=>none) fun f=>Gu f some
theorem qaX (n:Nat):jV (n+1)=Gu (jV n) some:=rfl
def qbI:LL->Ex×CS:=fun r=>((.exit 0),⟨[(5,vG 7)],[],[bx2 x3 x4 x5 x6 x7 x8,rd0 x9,rd0 x10,.box 31 [kd2 x11],.box 53 [.ptr 0 0],.box 3 [I4 x12],.box 22 [kd0 x13],rd1 r],7,false⟩)
abbrev H9:CS:=⟨[(1,.v (.sc (.fn 81 0 [none,none,none,none] [.ptr 3 0,.ptr 4 0,.ptr 5 0,.ptr 6 0]))),(5,vG 7),(14,vd2 x0),(15,vI x1),(16,vI x2)],[],[bx2 x3 x4 x5 x6 x7 x8,rd0 x9,rd0 x10,.box 31 [kd2 x11],.box 53 [.ptr 0 0],.box 3 [I4 x12],.box 22 [kd0 x13],rd1 x14],7,false⟩
theorem qhj {k m n:Nat} {r:LL} (h:jV n x0 x1 x2 x3 x4 x5 x6 x7 x8 x9 x10 x11 x12 x13 x14=some r):lE S105 31 0 k (n+m) (H9 x0 x1 x2 x3 x4 x5 x6 x7 x8 x9 x10 x11 x12 x13 x14)=some (qbI x3 x4 x5 x6 x7 x8 x9 x10 x11 x12 x13 r):=by
 induction n generalizing x2 x14 with
 |zero=>cases h
 |succ n ih=>
 exact lS (Gu (fun x0 x1 x2 x3 x4 x5 x6 x7 x8 x9 x10 x11 x12 x13 x14=>lE S105 31 0 k (n+m) (H9 x0 x1 x2 x3 x4 x5 x6 x7 x8 x9 x10 x11 x12 x13 x14)) (sm (qbI x3 x4 x5 x6 x7 x8 x9 x10 x11 x12 x13)) x0 x1 x2 x3 x4 x5 x6 x7 x8 x9 x10 x11 x12 x13 x14) (by kernel_rfl) (by rw [qaX];unfold Gu;with_reducible repeat' first|apply zd|exact ih _ _|exact nX|exact sX) h
end
def S106:=S105.lp 31 0 (H9 [] 0 0 [] [] [] [] [] 0 [] [] [] 0 [] []) (fun x0 x1 x2 x3 x4 x5 x6 x7 x8 x9 x10 x11 x12 x13 x14=>some (y1 (jV FU x0 x1 x2 x3 x4 x5 x6 x7 x8 x9 x10 x11 x12 x13 x14) (qbI x3 x4 x5 x6 x7 x8 x9 x10 x11 x12 x13))) (by kernel_rfl) fun _=>w1 fun h=>qhj _ _ _ _ _ _ _ _ _ _ _ _ _ _ _ h
section
variable {β:Type} (z:LL->Option β) (x0:LI) (x1:L3) (x2 x3:LL) (x4:LI) (x5:Int) (x6 x7:LI) (x8:LL) (x9:Int) (x10:LI)
def qcG:Option β:=(ob (jV FU x1 (x1.length:Int) 0 x0 x1 x2 x3 x4 x5 x6 x7 x8 x9 x10 []) fun r1=>(z r1))
def JF:=qcG some x0 x1 x2 x3 x4 x5 x6 x7 x8 x9 x10
abbrev qeW:List TA:=[.sc (.ptr 0 0),.sc (.fn 81 0 [none,none,none,none] [.ptr 3 0,.ptr 4 0,.ptr 5 0,.ptr 6 0])]
abbrev qfh:List TO:=[bx2 x0 x1 x2 x3 x4 x5,rd0 x6,rd0 x7,.box 31 [kd2 x8],.box 53 [.ptr 0 0],.box 3 [I4 x9],.box 22 [kd0 x10]]
abbrev qgs:LL->List TA×List TO:=fun r=>([.sc (kd2 r)],[bx2 x0 x1 x2 x3 x4 x5,rd0 x6,rd0 x7,.box 31 [kd2 x8],.box 53 [.ptr 0 0],.box 3 [I4 x9],.box 22 [kd0 x10]])
theorem ev31_3:fE S106 31 qeW (qfh x0 x1 x2 x3 x4 x5 x6 x7 x8 x9 x10)=(JF x0 x1 x2 x3 x4 x5 x6 x7 x8 x9 x10).bind (sm (qgs x0 x1 x2 x3 x4 x5 x6 x7 x8 x9 x10)):=zE (fun z=>qcG z x0 x1 x2 x3 x4 x5 x6 x7 x8 x9 x10) (by kernel_rfl) fun K=>by unfold JF qcG;with_reducible repeat' first|apply zc|exact nB|exact sB
end
def S107:=S106.fn 31 qeW (qfh [] [] [] [] [] 0 [] [] [] 0 []) (fun x0 x1 x2 x3 x4 x5 x6 x7 x8 x9 x10=>some (y1 (JF x0 x1 x2 x3 x4 x5 x6 x7 x8 x9 x10) (qgs x0 x1 x2 x3 x4 x5 x6 x7 x8 x9 x10))) rfl fun _=>w1 fun h=>(ev31_3 ..).trans (bD h)
section
variable {β:Type} (y:Int->LI->Int->Int->Option β) (z:Int->Option β) (x0:Int) (x1:LI) (x2 x3:Int)
def GM:Option β:=(cond (decide (x3 < x2)) (ck x3 (x1.length:Int) (y (wI (x0+List.getD x1 x3.toNat 0)) x1 x2 (wI (x3+1)))) (z x0))
def gi:=itL (fun _ _ _ _=>none) fun f=>GM f some
theorem qbp (n:Nat):gi (n+1)=GM (gi n) some:=rfl
def qcc:Int->Ex×CS:=fun r=>((.exit 0),⟨[(3,vI r)],[],[],0,false⟩)
abbrev qaD:CS:=⟨[(3,vI x0),(6,vd0 x1),(7,vI x2),(8,vI x3)],[],[],0,false⟩
theorem qhN {k m n:Nat} {r:Int} (h:gi n x0 x1 x2 x3=some r):lE S107 82 0 k (n+m) (qaD x0 x1 x2 x3)=some (qcc r):=by
 induction n generalizing x0 x3 with
 |zero=>cases h
 |succ n ih=>
 exact lS (GM (fun x0 x1 x2 x3=>lE S107 82 0 k (n+m) (qaD x0 x1 x2 x3)) (sm qcc) x0 x1 x2 x3) (by kernel_rfl) (by rw [qbp];unfold GM;with_reducible repeat' first|apply zd|exact ih _ _|exact nX|exact sX) h
end
def S108:=S107.lp 82 0 (qaD 0 [] 0 0) (fun x0 x1 x2 x3=>some (y1 (gi FU x0 x1 x2 x3) qcc)) (by kernel_rfl) fun _=>w1 fun h=>qhN _ _ _ _ h
section
variable {β:Type} (z:Int->Option β) (x0:LI)
def tv82:Option β:=(ob (gi FU 0 x0 (x0.length:Int) 0) fun r1=>(z r1))
def v82:=tv82 some x0
abbrev aF82:List TA:=[.sc (kd0 x0)]
abbrev rF82:Int->List TA×List TO:=fun r=>([.sc (I4 r)],[])
theorem ev82:fE S108 82 (aF82 x0) []=(v82 x0).bind (sm rF82):=zE (fun z=>tv82 z x0) (by kernel_rfl) fun K=>by unfold v82 tv82;with_reducible repeat' first|apply zc|exact nB|exact sB
end
def S109:=S108.fn 82 (aF82 []) [] (fun x0=>some (y1 (v82 x0) rF82)) rfl fun _=>w1 fun h=>(ev82 ..).trans (bD h)
section
variable {β:Type} (y:Int->Int->LL->Int->Int->Int->LL->Int->LI->L3->LL->LL->LI->Int->LI->LI->LI->LL->LI->Option β) (z:(Bool ⊕ (Int × Int))->Option β) (x0 x1:Int) (x2:LL) (x3 x4 x5:Int) (x6:LL) (x7:Int) (x8:LI) (x9:L3) (x10 x11:LL) (x12:LI) (x13:Int) (x14 x15 x16:LI) (x17:LL) (x18:LI)
def GC:Option β:=(cond (decide (x4 < x3)) (ck x4 (x2.length:Int) (ob (v82 (List.getD x2 x4.toNat [])) fun r1=>(cond (r1==0) (z (.inl (false))) (cond (decide (r1≠0)) (ob (v33 x4 x8 x9 x10 x11 x12 x13 x14 x15) fun r2=>(cond (decide (wI (x0*r2.2) < wI (wI (Int.tdiv (wI (wI ((1000000000000:Int)+r1) - (1:Int))) r1)*x1))) (y (wI (Int.tdiv (wI (wI ((1000000000000:Int)+r1) - (1:Int))) r1)) (r2.2) x2 x3 (wI (x4+1)) x5 x6 x7 x8 x9 x10 x11 x12 x13 x14 x15 x16 x17 x18) (y x0 x1 x2 x3 (wI (x4+1)) x5 x6 x7 x8 x9 x10 x11 x12 x13 x14 x15 x16 x17 x18))) none)))) (z (.inr (x0,x1))))
def jb:=itL (fun _ _ _ _ _ _ _ _ _ _ _ _ _ _ _ _ _ _ _=>none) fun f=>GC f some
theorem qbf (n:Nat):jb (n+1)=GC (jb n) some:=rfl
def qb2:(Bool ⊕ (Int×Int))->Ex×CS:=Sum.elim (fun r=>(.ret,⟨[(6,.l 6 0),(7,vB r)],[(6,[kd2 x6,.g 3,I4 x7])],[bx2 x8 x9 x10 x11 x12 x13,rd0 x14,rd0 x15,rd0 x16],3,true⟩)) fun r=>((.exit 0),⟨[(2,vG 1),(3,vP 3),(6,.l 6 0),(10,.l 10 0),(11,vI r.1),(12,vI r.2)],[(6,[.g 5,.g 6,I4 x5]),(10,[kd2 x6,.g 4,I4 x7])],[bx2 x8 x9 x10 x11 x12 x13,rd0 x14,rd0 x15,.box 53 [.ptr 0 0],rd0 x16,rd1 x17,rd0 x18],3,false⟩)
abbrev qat:CS:=⟨[(2,vG 1),(3,vP 3),(6,.l 6 0),(10,.l 10 0),(11,vI x0),(12,vI x1),(43,vd1 x2),(44,vI x3),(45,vI x4)],[(6,[.g 5,.g 6,I4 x5]),(10,[kd2 x6,.g 4,I4 x7])],[bx2 x8 x9 x10 x11 x12 x13,rd0 x14,rd0 x15,.box 53 [.ptr 0 0],rd0 x16,rd1 x17,rd0 x18],3,false⟩
theorem qhD {k m n:Nat} {r:Bool ⊕ (Int×Int)} (h:jb n x0 x1 x2 x3 x4 x5 x6 x7 x8 x9 x10 x11 x12 x13 x14 x15 x16 x17 x18=some r):lE S109 75 0 k (n+m) (qat x0 x1 x2 x3 x4 x5 x6 x7 x8 x9 x10 x11 x12 x13 x14 x15 x16 x17 x18)=some (qb2 x5 x6 x7 x8 x9 x10 x11 x12 x13 x14 x15 x16 x17 x18 r):=by
 induction n generalizing x0 x1 x4 with
 |zero=>cases h
 |succ n ih=>
 exact lS (GC (fun x0 x1 x2 x3 x4 x5 x6 x7 x8 x9 x10 x11 x12 x13 x14 x15 x16 x17 x18=>lE S109 75 0 k (n+m) (qat x0 x1 x2 x3 x4 x5 x6 x7 x8 x9 x10 x11 x12 x13 x14 x15 x16 x17 x18)) (sm (qb2 x5 x6 x7 x8 x9 x10 x11 x12 x13 x14 x15 x16 x17 x18)) x0 x1 x2 x3 x4 x5 x6 x7 x8 x9 x10 x11 x12 x13 x14 x15 x16 x17 x18) (by kernel_rfl) (by rw [qbf];unfold GC;with_reducible repeat' first|apply zd|exact ih _ _ _|exact nX|exact sX) h
end
def S110:=S109.lp 75 0 (qat 0 0 [] 0 0 0 [] 0 [] [] [] [] [] 0 [] [] [] [] []) (fun x0 x1 x2 x3 x4 x5 x6 x7 x8 x9 x10 x11 x12 x13 x14 x15 x16 x17 x18=>some (y2 (jb FU x0 x1 x2 x3 x4 x5 x6 x7 x8 x9 x10 x11 x12 x13 x14 x15 x16 x17 x18) (qb2 x5 x6 x7 x8 x9 x10 x11 x12 x13 x14 x15 x16 x17 x18))) (by kernel_rfl) fun _=>w2 fun h=>qhD _ _ _ _ _ _ _ _ _ _ _ _ _ _ _ _ _ _ _ h
section
variable {β:Type} (z:Int->Option β) (x0 x1:Int)
def tv83:Option β:=(z ((1:Int)))
def v83 (x0 x1:Int):Option Int:=tv83 some
abbrev aF83:List TA:=[.sc (I4 x0),.sc (I4 x1)]
abbrev rF83:Int->List TA×List TO:=fun r=>([.sc (I4 r)],[])
theorem ev83:fE S110 83 (aF83 x0 x1) []=(v83 x0 x1).bind (sm rF83):=zE (fun z=>tv83 z) (by kernel_rfl) fun K=>by unfold v83 tv83;with_reducible repeat' first|apply zc|exact nB|exact sB
end
def S111:=S110.fn 83 (aF83 0 0) [] (fun x0 x1=>some (y1 (v83 x0 x1) rF83)) rfl fun _=>w1 fun h=>(ev83 ..).trans (bD h)
section
variable {β:Type} (y:Int->L3->Int->Int->Int->Int->LI->L3->LL->LL->LI->Int->LI->LI->LI->LL->Option β) (z:LI->Option β) (x0:Int) (x1:L3) (x2 x3 x4 x5:Int) (x6:LI) (x7:L3) (x8 x9:LL) (x10:LI) (x11:Int) (x12 x13 x14:LI) (x15:LL)
def gU:Option β:=(cond (decide (x5 < x4)) (ck x5 (x14.length:Int) (cond (decide (x5.toNat < List.length x14)) (y x0 x1 x2 x3 x4 (wI (x5+1)) x6 x7 x8 x9 x10 x11 x12 x13 (List.set x14 x5.toNat (val (v83 x0 x5))) x15) none)) (z x14))
def jn:=itL (fun _ _ _ _ _ _ _ _ _ _ _ _ _ _ _ _=>none) fun f=>gU f some
theorem D7 (n:Nat):jn (n+1)=gU (jn n) some:=rfl
def SZ:LI->Ex×CS:=fun r=>((.exit 2),⟨[(1,.v (.sc (.fn 83 0 [] []))),(5,vG 4),(8,vG 3),(14,vd2 x1),(15,vI x2),(16,vI x3)],[],[bx2 x6 x7 x8 x9 x10 x11,rd0 x12,rd0 x13,rd0 r,rd1 x15],3,false⟩)
abbrev Dy:CS:=⟨[(1,.v (.sc (.fn 83 0 [] []))),(5,vG 4),(6,vI x0),(8,vG 3),(14,vd2 x1),(15,vI x2),(16,vI x3),(25,vI x4),(26,vI x5)],[],[bx2 x6 x7 x8 x9 x10 x11,rd0 x12,rd0 x13,rd0 x14,rd1 x15],3,false⟩
theorem qfW {k m n:Nat} {r:LI} (h:jn n x0 x1 x2 x3 x4 x5 x6 x7 x8 x9 x10 x11 x12 x13 x14 x15=some r):lE S111 31 2 k (n+m) (Dy x0 x1 x2 x3 x4 x5 x6 x7 x8 x9 x10 x11 x12 x13 x14 x15)=some (SZ x1 x2 x3 x6 x7 x8 x9 x10 x11 x12 x13 x15 r):=by
 induction n generalizing x5 x14 with
 |zero=>cases h
 |succ n ih=>
 exact lS (gU (fun x0 x1 x2 x3 x4 x5 x6 x7 x8 x9 x10 x11 x12 x13 x14 x15=>lE S111 31 2 k (n+m) (Dy x0 x1 x2 x3 x4 x5 x6 x7 x8 x9 x10 x11 x12 x13 x14 x15)) (sm (SZ x1 x2 x3 x6 x7 x8 x9 x10 x11 x12 x13 x15)) x0 x1 x2 x3 x4 x5 x6 x7 x8 x9 x10 x11 x12 x13 x14 x15) (by kernel_rfl) (by rw [D7];unfold gU;with_reducible repeat' first|apply zd|exact ih _ _|exact nX|exact sX) h
end
def S112:=S111.lp 31 2 (Dy 0 [] 0 0 0 0 [] [] [] [] [] 0 [] [] [] []) (fun x0 x1 x2 x3 x4 x5 x6 x7 x8 x9 x10 x11 x12 x13 x14 x15=>some (y1 (jn FU x0 x1 x2 x3 x4 x5 x6 x7 x8 x9 x10 x11 x12 x13 x14 x15) (SZ x1 x2 x3 x6 x7 x8 x9 x10 x11 x12 x13 x15))) (by kernel_rfl) fun _=>w1 fun h=>qfW _ _ _ _ _ _ _ _ _ _ _ _ _ _ _ _ h
section
variable {β:Type} (y:L3->Int->Int->LI->L3->LL->LL->LI->Int->LI->LI->LL->Option β) (z:LL->Option β) (x0:L3) (x1 x2:Int) (x3:LI) (x4:L3) (x5 x6:LL) (x7:LI) (x8:Int) (x9 x10:LI) (x11:LL)
def Gv:Option β:=(cond (decide (x2 < x1)) (ck x2 (x0.length:Int) (cond (decide ((↑(List.length (List.getD x0 x2.toNat [])):Int)<=(↑(List.length (List.getD x0 x2.toNat [])):Int))) (cond (decide ((↑(List.length (List.getD x0 x2.toNat [])):Int)<=(↑(nat_lit 2147483648):Int))) (ob (jn FU x2 x0 x1 x2 (↑(List.length (List.replicate (↑(List.length (List.getD x0 x2.toNat [])):Int).toNat (0:Int))):Int) 0 x3 x4 x5 x6 x7 x8 x9 x10 (List.replicate (↑(List.length (List.getD x0 x2.toNat [])):Int).toNat 0) x11) fun r1=>(cond (decide (List.length x11+List.length [r1]<=nat_lit 2147483648)) (y x0 x1 (wI (x2+1)) x3 x4 x5 x6 x7 x8 x9 x10 (x11++[r1])) none)) none) none)) (z x11))
def jW:=itL (fun _ _ _ _ _ _ _ _ _ _ _ _=>none) fun f=>Gv f some
theorem qaY (n:Nat):jW (n+1)=Gv (jW n) some:=rfl
def qbJ:LL->Ex×CS:=fun r=>((.exit 0),⟨[(5,vG 3)],[],[bx2 x3 x4 x5 x6 x7 x8,rd0 x9,rd0 x10,rd1 r],3,false⟩)
abbrev qaa:CS:=⟨[(1,.v (.sc (.fn 83 0 [] []))),(5,vG 3),(14,vd2 x0),(15,vI x1),(16,vI x2)],[],[bx2 x3 x4 x5 x6 x7 x8,rd0 x9,rd0 x10,rd1 x11],3,false⟩
theorem qhk {k m n:Nat} {r:LL} (h:jW n x0 x1 x2 x3 x4 x5 x6 x7 x8 x9 x10 x11=some r):lE S112 31 0 k (n+m) (qaa x0 x1 x2 x3 x4 x5 x6 x7 x8 x9 x10 x11)=some (qbJ x3 x4 x5 x6 x7 x8 x9 x10 r):=by
 induction n generalizing x2 x11 with
 |zero=>cases h
 |succ n ih=>
 exact lS (Gv (fun x0 x1 x2 x3 x4 x5 x6 x7 x8 x9 x10 x11=>lE S112 31 0 k (n+m) (qaa x0 x1 x2 x3 x4 x5 x6 x7 x8 x9 x10 x11)) (sm (qbJ x3 x4 x5 x6 x7 x8 x9 x10)) x0 x1 x2 x3 x4 x5 x6 x7 x8 x9 x10 x11) (by kernel_rfl) (by rw [qaY];unfold Gv;with_reducible repeat' first|apply zd|exact ih _ _|exact nX|exact sX) h
end
def S113:=S112.lp 31 0 (qaa [] 0 0 [] [] [] [] [] 0 [] [] []) (fun x0 x1 x2 x3 x4 x5 x6 x7 x8 x9 x10 x11=>some (y1 (jW FU x0 x1 x2 x3 x4 x5 x6 x7 x8 x9 x10 x11) (qbJ x3 x4 x5 x6 x7 x8 x9 x10))) (by kernel_rfl) fun _=>w1 fun h=>qhk _ _ _ _ _ _ _ _ _ _ _ _ h
section
variable {β:Type} (z:LL->Option β) (x0:LI) (x1:L3) (x2 x3:LL) (x4:LI) (x5:Int) (x6 x7:LI)
def qcH:Option β:=(ob (jW FU x1 (x1.length:Int) 0 x0 x1 x2 x3 x4 x5 x6 x7 []) fun r1=>(z r1))
def JG:=qcH some x0 x1 x2 x3 x4 x5 x6 x7
abbrev qeX:List TA:=[.sc (.ptr 0 0),.sc (.fn 83 0 [] [])]
abbrev qfi:List TO:=[bx2 x0 x1 x2 x3 x4 x5,rd0 x6,rd0 x7]
abbrev qgt:LL->List TA×List TO:=fun r=>([.sc (kd2 r)],[bx2 x0 x1 x2 x3 x4 x5,rd0 x6,rd0 x7])
theorem ev31_4:fE S113 31 qeX (qfi x0 x1 x2 x3 x4 x5 x6 x7)=(JG x0 x1 x2 x3 x4 x5 x6 x7).bind (sm (qgt x0 x1 x2 x3 x4 x5 x6 x7)):=zE (fun z=>qcH z x0 x1 x2 x3 x4 x5 x6 x7) (by kernel_rfl) fun K=>by unfold JG qcH;with_reducible repeat' first|apply zc|exact nB|exact sB
end
def S114:=S113.fn 31 qeX (qfi [] [] [] [] [] 0 [] []) (fun x0 x1 x2 x3 x4 x5 x6 x7=>some (y1 (JG x0 x1 x2 x3 x4 x5 x6 x7) (qgt x0 x1 x2 x3 x4 x5 x6 x7))) rfl fun _=>w1 fun h=>(ev31_4 ..).trans (bD h)
section
variable {β:Type} (y:Int->Int->LI->LI->Int->Int->Int->LL->Int->LI->L3->LL->LL->LI->Int->LI->LI->LI->LL->LI->Option β) (z:LI->Option β) (x0 x1:Int) (x2 x3:LI) (x4 x5 x6:Int) (x7:LL) (x8:Int) (x9:LI) (x10:L3) (x11 x12:LL) (x13:LI) (x14:Int) (x15 x16 x17:LI) (x18:LL) (x19:LI)
def Jk:Option β:=(cond (decide (x5 < x4)) (ck x5 (x3.length:Int) (cond (List.getD x3 x5.toNat 0==0) (cond (decide (x5 < (x17.length:Int))) (cond (decide (x5.toNat < List.length x17)) (y x0 x1 x2 x3 x4 (wI (x5+1)) x6 x7 x8 x9 x10 x11 x12 x13 x14 x15 x16 (List.set x17 x5.toNat (1000000000000:Int)) x18 x19) none) none) (cond (decide (x5 < (x2.length:Int))) (cond (decide (List.getD x2 x5.toNat 0 > 0)) (cond (decide (x5 < (x15.length:Int))) (cond (decide (x5.toNat < List.length x15)) (cond (decide (x1≠0)) (cond (decide (x5 < (x17.length:Int))) (cond (decide (x5.toNat < List.length x17)) (y x0 x1 x2 x3 x4 (wI (x5+1)) x6 x7 x8 x9 x10 x11 x12 x13 x14 x15 x16 (List.set x17 x5.toNat (wI (Int.tdiv (wI (wI (wI (x0*List.getD x15 x5.toNat 0)+x1) - (1:Int))) x1))) x18 x19) none) none) none) none) none) (y x0 x1 x2 x3 x4 (wI (x5+1)) x6 x7 x8 x9 x10 x11 x12 x13 x14 x15 x16 x17 x18 x19)) none))) (z x17))
def qdN:Option β:=(cond (decide (x5 < x4)) (ck x5 (x3.length:Int) (cond (List.getD x3 x5.toNat 0==0) (ck x5 (x17.length:Int) (cond (decide (x5.toNat < List.length x17)) (y x0 x1 x2 x3 x4 (wI (x5+1)) x6 x7 x8 x9 x10 x11 x12 x13 x14 x15 x16 (List.set x17 x5.toNat (1000000000000:Int)) x18 x19) none)) (ck x5 (x2.length:Int) (cond (decide (List.getD x2 x5.toNat 0 > 0)) (ck x5 (x15.length:Int) (cond (decide (x5.toNat < List.length x15)) (cond (decide (x1≠0)) (ck x5 (x17.length:Int) (cond (decide (x5.toNat < List.length x17)) (y x0 x1 x2 x3 x4 (wI (x5+1)) x6 x7 x8 x9 x10 x11 x12 x13 x14 x15 x16 (List.set x17 x5.toNat (wI (Int.tdiv (wI (wI (wI (x0*List.getD x15 x5.toNat 0)+x1) - (1:Int))) x1))) x18 x19) none)) none) none)) (y x0 x1 x2 x3 x4 (wI (x5+1)) x6 x7 x8 x9 x10 x11 x12 x13 x14 x15 x16 x17 x18 x19))))) (z x17))
def jt:=itL (fun _ _ _ _ _ _ _ _ _ _ _ _ _ _ _ _ _ _ _ _=>none) fun f=>Jk f some
theorem Si (n:Nat):jt (n+1)=Jk (jt n) some:=rfl
def Ho:LI->Ex×CS:=fun r=>((.exit 2),⟨[(3,vP 3),(6,.l 6 0),(10,.l 10 0)],[(6,[.g 5,.g 6,I4 x6]),(10,[kd2 x7,.g 4,I4 x8])],[bx2 x9 x10 x11 x12 x13 x14,rd0 x15,rd0 x16,.box 53 [.ptr 0 0],rd0 r,rd1 x18,rd0 x19],3,false⟩)
abbrev DJ:CS:=⟨[(2,vG 1),(3,vP 3),(6,.l 6 0),(10,.l 10 0),(11,vI x0),(12,vI x1),(19,vd0 x2),(85,vd0 x3),(86,vI x4),(87,vI x5)],[(6,[.g 5,.g 6,I4 x6]),(10,[kd2 x7,.g 4,I4 x8])],[bx2 x9 x10 x11 x12 x13 x14,rd0 x15,rd0 x16,.box 53 [.ptr 0 0],rd0 x17,rd1 x18,rd0 x19],3,false⟩
theorem qgb {k m n:Nat} {r:LI} (h:jt n x0 x1 x2 x3 x4 x5 x6 x7 x8 x9 x10 x11 x12 x13 x14 x15 x16 x17 x18 x19=some r):lE S114 75 2 k (n+m) (DJ x0 x1 x2 x3 x4 x5 x6 x7 x8 x9 x10 x11 x12 x13 x14 x15 x16 x17 x18 x19)=some (Ho x6 x7 x8 x9 x10 x11 x12 x13 x14 x15 x16 x18 x19 r):=by
 induction n generalizing x5 x17 with
 |zero=>cases h
 |succ n ih=>
 exact lS (qdN (fun x0 x1 x2 x3 x4 x5 x6 x7 x8 x9 x10 x11 x12 x13 x14 x15 x16 x17 x18 x19=>lE S114 75 2 k (n+m) (DJ x0 x1 x2 x3 x4 x5 x6 x7 x8 x9 x10 x11 x12 x13 x14 x15 x16 x17 x18 x19)) (sm (Ho x6 x7 x8 x9 x10 x11 x12 x13 x14 x15 x16 x18 x19)) x0 x1 x2 x3 x4 x5 x6 x7 x8 x9 x10 x11 x12 x13 x14 x15 x16 x17 x18 x19) (by kernel_rfl) (by rw [Si];unfold Jk qdN;with_reducible repeat' first|apply gT ‹_›|apply gF ‹_›|(apply zz<;>intro _)|exact ih _ _|exact nX|exact sX) h
end
def S115:=S114.lp 75 2 (DJ 0 0 [] [] 0 0 0 [] 0 [] [] [] [] [] 0 [] [] [] [] []) (fun x0 x1 x2 x3 x4 x5 x6 x7 x8 x9 x10 x11 x12 x13 x14 x15 x16 x17 x18 x19=>some (y1 (jt FU x0 x1 x2 x3 x4 x5 x6 x7 x8 x9 x10 x11 x12 x13 x14 x15 x16 x17 x18 x19) (Ho x6 x7 x8 x9 x10 x11 x12 x13 x14 x15 x16 x18 x19))) (by kernel_rfl) fun _=>w1 fun h=>qgb _ _ _ _ _ _ _ _ _ _ _ _ _ _ _ _ _ _ _ _ h
section
variable {β:Type} (z:(Bool × Int)->Option β) (x0:Int) (x1:LL) (x2:Int) (x3:LI) (x4:L3) (x5 x6:LL) (x7:LI) (x8:Int) (x9 x10 x11:LI) (x12:LL) (x13:LI)
def Ga:Option β:=(ob (v26 x3 x4 x1 x11) fun r1=>(z (r1.2==0,r1.1)))
def gl (x0:Int) (x1:LL) (x2:Int) (x3:LI) (x4:L3) (x5 x6:LL) (x7:LI) (x8:Int) (x9 x10 x11:LI) (x12:LL) (x13:LI):Option (Bool×Int):=Ga some x1 x3 x4 x11
def De:(Bool×Int)->Ex×CS:=fun r=>(.ret,⟨[(6,.l 6 0),(7,vB r.1)],[(6,[kd2 x1,.g 3,I4 r.2])],[bx2 x3 x4 x5 x6 x7 x8,rd0 x9,rd0 x10,rd0 x11],3,true⟩)
abbrev qct:CS:=⟨[(3,vP 3),(6,.l 6 0),(10,.l 10 0)],[(6,[.g 5,.g 6,I4 x0]),(10,[kd2 x1,.g 4,I4 x2])],[bx2 x3 x4 x5 x6 x7 x8,rd0 x9,rd0 x10,.box 53 [.ptr 0 0],rd0 x11,rd1 x12,rd0 x13],3,false⟩
theorem qeR {k:Nat} {r:Bool×Int}:gl x0 x1 x2 x3 x4 x5 x6 x7 x8 x9 x10 x11 x12 x13=some r->pE S115 75 212 0 k (qct x0 x1 x2 x3 x4 x5 x6 x7 x8 x9 x10 x11 x12 x13)=some (De x1 x3 x4 x5 x6 x7 x8 x9 x10 x11 r):=lP (Ga (sm (De x1 x3 x4 x5 x6 x7 x8 x9 x10 x11)) x1 x3 x4 x11) (by kernel_rfl) (by unfold gl Ga;with_reducible repeat' first|apply zd|exact nX|exact sX)
end
def S116:=S115.pc 75 212 0 (qct 0 [] 0 [] [] [] [] [] 0 [] [] [] [] []) (fun x0 x1 x2 x3 x4 x5 x6 x7 x8 x9 x10 x11 x12 x13=>some (y1 (gl x0 x1 x2 x3 x4 x5 x6 x7 x8 x9 x10 x11 x12 x13) (De x1 x3 x4 x5 x6 x7 x8 x9 x10 x11))) (by kernel_rfl) rfl fun _=>w1 fun h=>qeR _ _ _ _ _ _ _ _ _ _ _ _ _ _ h
section
variable {β:Type} (z:(Bool × Int × LI)->Option β) (x0 x1:Int) (x2:LI) (x3:Int) (x4:LL) (x5:Int) (x6:LI) (x7:L3) (x8 x9:LL) (x10:LI) (x11:Int) (x12 x13 x14:LI) (x15:LL) (x16:LI)
def JC:Option β:=(ob (jt FU x0 x1 x2 x6 (x6.length:Int) 0 x3 x4 x5 x6 x7 x8 x9 x10 x11 x12 x13 x14 x15 x16) fun r1=>(ob (gl x3 x4 x5 x6 x7 x8 x9 x10 x11 x12 x13 r1 x15 x16) fun r2=>(z (r2.1,r2.2,r1))))
def GW:=JC some x0 x1 x2 x3 x4 x5 x6 x7 x8 x9 x10 x11 x12 x13 x14 x15 x16
def Dc:(Bool×Int×LI)->Ex×CS:=fun r=>(.ret,⟨[(6,.l 6 0),(7,vB r.1)],[(6,[kd2 x4,.g 3,I4 r.2.1])],[bx2 x6 x7 x8 x9 x10 x11,rd0 x12,rd0 x13,rd0 r.2.2],3,true⟩)
abbrev qcr:CS:=⟨[(2,vG 1),(3,vP 3),(6,.l 6 0),(10,.l 10 0),(11,vI x0),(12,vI x1),(19,vd0 x2)],[(6,[.g 5,.g 6,I4 x3]),(10,[kd2 x4,.g 4,I4 x5])],[bx2 x6 x7 x8 x9 x10 x11,rd0 x12,rd0 x13,.box 53 [.ptr 0 0],rd0 x14,rd1 x15,rd0 x16],3,false⟩
theorem qeP {k:Nat} {r:Bool×Int×LI}:GW x0 x1 x2 x3 x4 x5 x6 x7 x8 x9 x10 x11 x12 x13 x14 x15 x16=some r->pE S116 75 148 0 k (qcr x0 x1 x2 x3 x4 x5 x6 x7 x8 x9 x10 x11 x12 x13 x14 x15 x16)=some (Dc x4 x6 x7 x8 x9 x10 x11 x12 x13 r):=lP (JC (sm (Dc x4 x6 x7 x8 x9 x10 x11 x12 x13)) x0 x1 x2 x3 x4 x5 x6 x7 x8 x9 x10 x11 x12 x13 x14 x15 x16) (by kernel_rfl) (by unfold GW JC;with_reducible repeat' first|apply zd|exact nX|exact sX)
end
def S117:=S116.pc 75 148 0 (qcr 0 0 [] 0 [] 0 [] [] [] [] [] 0 [] [] [] [] []) (fun x0 x1 x2 x3 x4 x5 x6 x7 x8 x9 x10 x11 x12 x13 x14 x15 x16=>some (y1 (GW x0 x1 x2 x3 x4 x5 x6 x7 x8 x9 x10 x11 x12 x13 x14 x15 x16) (Dc x4 x6 x7 x8 x9 x10 x11 x12 x13))) (by kernel_rfl) rfl fun _=>w1 fun h=>qeP _ _ _ _ _ _ _ _ _ _ _ _ _ _ _ _ _ h
section
variable {β:Type} (z:(Bool × Int × LI)->Option β) (x0:Int) (x1:LL) (x2:Int) (x3:LI) (x4:L3) (x5 x6:LL) (x7:LI) (x8:Int) (x9 x10 x11:LI) (x12:LL) (x13:LI)
def Kt:Option β:=(cond (isL (jb FU 0 (1:Int) x1 (x1.length:Int) 0 x0 x1 x2 x3 x4 x5 x6 x7 x8 x9 x10 x11 x12 x13)) (z (zx (jb FU 0 (1:Int) x1 (x1.length:Int) 0 x0 x1 x2 x3 x4 x5 x6 x7 x8 x9 x10 x11 x12 x13),x2,x11)) (ob (zB (jb FU 0 (1:Int) x1 (x1.length:Int) 0 x0 x1 x2 x3 x4 x5 x6 x7 x8 x9 x10 x11 x12 x13)) fun r1=>(ob (JG x3 x4 x5 x6 x7 x8 x9 x10) fun r2=>(ob (v60 r2 x3 x4 x5 x6 x7 x8 x9 x10) fun r3=>(ob (GW r1.1 r1.2 r3 x0 x1 x2 x3 x4 x5 x6 x7 x8 x9 x10 x11 x12 x13) fun r4=>(z (r4.1,r4.2.1,r4.2.2)))))))
def JN:=Kt some x0 x1 x2 x3 x4 x5 x6 x7 x8 x9 x10 x11 x12 x13
def Hs:(Bool×Int×LI)->Ex×CS:=fun r=>(.ret,⟨[(6,.l 6 0),(7,vB r.1)],[(6,[kd2 x1,.g 3,I4 r.2.1])],[bx2 x3 x4 x5 x6 x7 x8,rd0 x9,rd0 x10,rd0 r.2.2],3,true⟩)
abbrev qdl:CS:=⟨[(2,vG 1),(3,vP 3),(6,.l 6 0),(10,.l 10 0),(41,.l 10 0)],[(6,[.g 5,.g 6,I4 x0]),(10,[kd2 x1,.g 4,I4 x2])],[bx2 x3 x4 x5 x6 x7 x8,rd0 x9,rd0 x10,.box 53 [.ptr 0 0],rd0 x11,rd1 x12,rd0 x13],3,false⟩
theorem qgf {k:Nat} {r:Bool×Int×LI}:JN x0 x1 x2 x3 x4 x5 x6 x7 x8 x9 x10 x11 x12 x13=some r->pE S117 75 44 0 k (qdl x0 x1 x2 x3 x4 x5 x6 x7 x8 x9 x10 x11 x12 x13)=some (Hs x1 x3 x4 x5 x6 x7 x8 x9 x10 r):=lP (Kt (sm (Hs x1 x3 x4 x5 x6 x7 x8 x9 x10)) x0 x1 x2 x3 x4 x5 x6 x7 x8 x9 x10 x11 x12 x13) (by kernel_rfl) (by unfold JN Kt;with_reducible repeat' first|apply zd|exact nX|exact sX)
end
def S118:=S117.pc 75 44 0 (qdl 0 [] 0 [] [] [] [] [] 0 [] [] [] [] []) (fun x0 x1 x2 x3 x4 x5 x6 x7 x8 x9 x10 x11 x12 x13=>some (y1 (JN x0 x1 x2 x3 x4 x5 x6 x7 x8 x9 x10 x11 x12 x13) (Hs x1 x3 x4 x5 x6 x7 x8 x9 x10))) (by kernel_rfl) rfl fun _=>w1 fun h=>qgf _ _ _ _ _ _ _ _ _ _ _ _ _ _ h
section
variable {β:Type} (z:(Bool × LL × Int × LI)->Option β) (x0 x1:Int) (x2:LI) (x3:L3) (x4 x5:LL) (x6:LI) (x7:Int) (x8 x9 x10:LI) (x11:LL) (x12:Int) (x13:LL) (x14:LI) (x15:LL) (x16:LI)
def Kr:Option β:=(ob (JF x2 x3 x4 x5 x6 x7 x8 x9 x11 x12 x10) fun r1=>(ob (JN x0 r1 x1 x2 x3 x4 x5 x6 x7 x8 x9 x14 x15 x16) fun r2=>(z (r2.1,r1,r2.2.1,r2.2.2))))
def Gj (x0 x1:Int) (x2:LI) (x3:L3) (x4 x5:LL) (x6:LI) (x7:Int) (x8 x9 x10:LI) (x11:LL) (x12:Int) (x13:LL) (x14:LI) (x15:LL) (x16:LI):Option (Bool×LL×Int×LI):=Kr some x0 x1 x2 x3 x4 x5 x6 x7 x8 x9 x10 x11 x12 x14 x15 x16
def Hq:(Bool×LL×Int×LI)->Ex×CS:=fun r=>(.ret,⟨[(6,.l 6 0),(7,vB r.1)],[(6,[kd2 r.2.1,.g 3,I4 r.2.2.1])],[bx2 x2 x3 x4 x5 x6 x7,rd0 x8,rd0 x9,rd0 r.2.2.2],3,true⟩)
abbrev qdj:CS:=⟨[(2,vG 1),(3,vP 6),(4,vP 4),(6,.l 6 0),(8,vP 3),(9,vP 5),(10,.l 10 0)],[(6,[.g 9,.g 10,I4 x0]),(10,[.g 7,.g 8,I4 x1])],[bx2 x2 x3 x4 x5 x6 x7,rd0 x8,rd0 x9,.box 22 [kd0 x10],.box 31 [kd2 x11],.box 3 [I4 x12],.box 53 [.ptr 0 0],rd1 x13,rd0 x14,rd1 x15,rd0 x16],3,false⟩
theorem qgd {k:Nat} {r:Bool×LL×Int×LI}:Gj x0 x1 x2 x3 x4 x5 x6 x7 x8 x9 x10 x11 x12 x13 x14 x15 x16=some r->pE S118 75 36 0 k (qdj x0 x1 x2 x3 x4 x5 x6 x7 x8 x9 x10 x11 x12 x13 x14 x15 x16)=some (Hq x2 x3 x4 x5 x6 x7 x8 x9 r):=lP (Kr (sm (Hq x2 x3 x4 x5 x6 x7 x8 x9)) x0 x1 x2 x3 x4 x5 x6 x7 x8 x9 x10 x11 x12 x14 x15 x16) (by kernel_rfl) (by unfold Gj Kr;with_reducible repeat' first|apply zd|exact nX|exact sX)
end
def S119:=S118.pc 75 36 0 (qdj 0 0 [] [] [] [] [] 0 [] [] [] [] 0 [] [] [] []) (fun x0 x1 x2 x3 x4 x5 x6 x7 x8 x9 x10 x11 x12 x13 x14 x15 x16=>some (y1 (Gj x0 x1 x2 x3 x4 x5 x6 x7 x8 x9 x10 x11 x12 x13 x14 x15 x16) (Hq x2 x3 x4 x5 x6 x7 x8 x9))) (by kernel_rfl) rfl fun _=>w1 fun h=>qgd _ _ _ _ _ _ _ _ _ _ _ _ _ _ _ _ _ h
section
variable {β:Type} (z:(LL × LI × Int × Bool)->Option β) (x0:LL) (x1:LI) (x2:L3) (x3 x4:LL) (x5:LI) (x6:Int) (x7 x8:LI)
def tv75:Option β:=(ob (v60 x0 x1 x2 x3 x4 x5 x6 x7 x8) fun r1=>(ob (v61 r1 x1 x2 x3 x4 x5 x6 x7 x8) fun r2=>(cond (decide ((x1.length:Int)<=(x1.length:Int))) (cond (decide ((x1.length:Int)<=(↑(nat_lit 2147483648):Int))) (ob (Gj 0 0 x1 x2 x3 x4 x5 x6 x7 x8 r1 x0 r2 [] (List.replicate (x1.length:Int).toNat 0) [] []) fun r3=>(z (r3.2.1,r3.2.2.2,r3.2.2.1,r3.1))) none) none)))
def v75:=tv75 some x0 x1 x2 x3 x4 x5 x6 x7 x8
abbrev aF75:List TA:=[.sc (.ptr 0 0),.sc (kd2 x0),.sc (.g 1)]
abbrev hF75:List TO:=[bx2 x1 x2 x3 x4 x5 x6,rd0 x7,rd0 x8]
abbrev rF75:(LL×LI×Int×Bool)->List TA×List TO:=fun r=>([.agg [kd2 r.1,kd0 r.2.1,I4 r.2.2.1],.sc (.bool r.2.2.2)],[bx2 x1 x2 x3 x4 x5 x6,rd0 x7,rd0 x8])
theorem ev75:fE S119 75 (aF75 x0) (hF75 x1 x2 x3 x4 x5 x6 x7 x8)=(v75 x0 x1 x2 x3 x4 x5 x6 x7 x8).bind (sm (rF75 x1 x2 x3 x4 x5 x6 x7 x8)):=zE (fun z=>tv75 z x0 x1 x2 x3 x4 x5 x6 x7 x8) (by kernel_rfl) fun K=>by unfold v75 tv75;with_reducible repeat' first|apply zc|exact nB|exact sB
end
def S120:=S119.fn 75 (aF75 []) (hF75 [] [] [] [] [] 0 [] []) (fun x0 x1 x2 x3 x4 x5 x6 x7 x8=>some (y1 (v75 x0 x1 x2 x3 x4 x5 x6 x7 x8) (rF75 x1 x2 x3 x4 x5 x6 x7 x8))) rfl fun _=>w1 fun h=>(ev75 ..).trans (bD h)
section
variable {β:Type} (z:(LL × LI × Int)->Option β) (x0:LL) (x1:LI) (x2:L3) (x3 x4:LL) (x5:LI) (x6:Int) (x7 x8:LI)
def tv58:Option β:=(ob (v75 x0 x1 x2 x3 x4 x5 x6 x7 x8) fun r1=>(cond (r1.2.2.2) (cond ((x4.length:Int)==0) (z (r1.1,r1.2.1,r1.2.2.1)) (cond (decide (r1.2.2.1 < x6)) (z (r1.1,r1.2.1,r1.2.2.1)) (z (x4,x5,x6)))) (z (x4,x5,x6))))
def v58:=tv58 some x0 x1 x2 x3 x4 x5 x6 x7 x8
abbrev aF58:List TA:=[.sc (.ptr 0 0),.sc (kd2 x0),.sc (.g 1)]
abbrev hF58:List TO:=[bx2 x1 x2 x3 x4 x5 x6,rd0 x7,rd0 x8]
abbrev rF58:(LL×LI×Int)->List TA×List TO:=fun r=>([],[bx2 x1 x2 x3 r.1 r.2.1 r.2.2,rd0 x7,rd0 x8])
theorem ev58:fE S120 58 (aF58 x0) (hF58 x1 x2 x3 x4 x5 x6 x7 x8)=(v58 x0 x1 x2 x3 x4 x5 x6 x7 x8).bind (sm (rF58 x1 x2 x3 x7 x8)):=zE (fun z=>tv58 z x0 x1 x2 x3 x4 x5 x6 x7 x8) (by kernel_rfl) fun K=>by unfold v58 tv58;with_reducible repeat' first|apply zc|exact nB|exact sB
end
def S121:=S120.fn 58 (aF58 []) (hF58 [] [] [] [] [] 0 [] []) (fun x0 x1 x2 x3 x4 x5 x6 x7 x8=>some (y1 (v58 x0 x1 x2 x3 x4 x5 x6 x7 x8) (rF58 x1 x2 x3 x7 x8))) rfl fun _=>w1 fun h=>(ev58 ..).trans (bD h)
section
variable {β:Type} (y:LI->Int->Int->Option β) (z:Int->Option β) (x0:LI) (x1 x2:Int)
def Ka:Option β:=(cond (decide (x2 < (x0.length:Int))) (cond (decide (0<=x2)) (y x0 (max x1 (List.getD x0 x2.toNat 0)) (wI (x2+1))) none) (z x1))
def qej:Option β:=(cond (decide (x2 < (x0.length:Int))) (ck x2 (x0.length:Int) (y x0 (max x1 (List.getD x0 x2.toNat 0)) (wI (x2+1)))) (z x1))
def JH:=itL (fun _ _ _=>none) fun f=>Ka f some
theorem qbb (n:Nat):JH (n+1)=Ka (JH n) some:=rfl
def qbX:Int->Ex×CS:=fun r=>((.exit 0),⟨[(3,vI r)],[],[],0,false⟩)
abbrev qao:CS:=⟨[(0,vd0 x0),(3,vI x1),(4,vI x2)],[],[],0,false⟩
theorem qhy {k m n:Nat} {r:Int} (h:JH n x0 x1 x2=some r):lE S121 59 0 k (n+m) (qao x0 x1 x2)=some (qbX r):=by
 induction n generalizing x1 x2 with
 |zero=>cases h
 |succ n ih=>
 exact lS (qej (fun x0 x1 x2=>lE S121 59 0 k (n+m) (qao x0 x1 x2)) (sm qbX) x0 x1 x2) (by kernel_rfl) (by rw [qbb];unfold Ka qej;with_reducible repeat' first|apply gT ‹_›|apply gF ‹_›|(apply zz<;>intro _)|exact ih _ _|exact nX|exact sX) h
end
def S122:=S121.lp 59 0 (qao [] 0 0) (fun x0 x1 x2=>some (y1 (JH FU x0 x1 x2) qbX)) (by kernel_rfl) fun _=>w1 fun h=>qhy _ _ _ h
section
variable {β:Type} (z:Int->Option β) (x0:LI)
def tv59:Option β:=(cond (decide ((x0.length:Int) < (1:Int))) none (cond (decide (0 < (x0.length:Int))) (ob (JH FU x0 (List.getD x0 (Int.toNat 0) 0) (1:Int)) fun r1=>(z r1)) none))
def v59:=tv59 some x0
abbrev aF59:List TA:=[.sc (kd0 x0)]
abbrev rF59:Int->List TA×List TO:=fun r=>([.sc (I4 r)],[])
theorem ev59:fE S122 59 (aF59 x0) []=(v59 x0).bind (sm rF59):=zE (fun z=>tv59 z x0) (by kernel_rfl) fun K=>by unfold v59 tv59;with_reducible repeat' first|apply zc|exact nB|exact sB
end
def S123:=S122.fn 59 (aF59 []) [] (fun x0=>some (y1 (v59 x0) rF59)) rfl fun _=>w1 fun h=>(ev59 ..).trans (bD h)
section
variable {β:Type} (y:Int->Int->LI->L3->LL->LL->LI->Int->LI->LI->LL->LI->Option β) (z:LI->Option β) (x0 x1:Int) (x2:LI) (x3:L3) (x4 x5:LL) (x6:LI) (x7:Int) (x8 x9:LI) (x10:LL) (x11:LI)
def Jc:Option β:=(cond (decide (x1 < x0)) (ck x1 (x9.length:Int) (cond (decide (x1.toNat < List.length x9)) (ob (v59 x9) fun r1=>(cond (decide (max (1:Int) r1≠0)) (cond (decide (x1 < (x11.length:Int))) (cond (decide (x1.toNat < List.length x11)) (y x0 (wI (x1+1)) x2 x3 x4 x5 x6 x7 x8 x9 x10 (List.set x11 x1.toNat (max (16:Int) (wI (Int.tdiv (wI (List.getD x9 x1.toNat 0*1024)) (max (1:Int) r1)))))) none) none) none)) none)) (z x11))
def qdG:Option β:=(cond (decide (x1 < x0)) (ck x1 (x9.length:Int) (cond (decide (x1.toNat < List.length x9)) (ob (v59 x9) fun r1=>(cond (decide (max (1:Int) r1≠0)) (ck x1 (x11.length:Int) (cond (decide (x1.toNat < List.length x11)) (y x0 (wI (x1+1)) x2 x3 x4 x5 x6 x7 x8 x9 x10 (List.set x11 x1.toNat (max (16:Int) (wI (Int.tdiv (wI (List.getD x9 x1.toNat 0*1024)) (max (1:Int) r1)))))) none)) none)) none)) (z x11))
def jo:=itL (fun _ _ _ _ _ _ _ _ _ _ _ _=>none) fun f=>Jc f some
theorem D8 (n:Nat):jo (n+1)=Jc (jo n) some:=rfl
def Ha:LI->Ex×CS:=fun r=>((.exit 2),⟨[(1,vP 4),(2,vP 3),(5,vG 5)],[],[bx2 x2 x3 x4 x5 x6 x7,rd0 x8,rd0 x9,.box 31 [kd2 x10],.box 53 [.ptr 0 0],rd0 r],3,false⟩)
abbrev Dz:CS:=⟨[(1,vP 4),(2,vP 3),(5,vG 5),(59,vG 2),(60,vI x0),(61,vI x1)],[],[bx2 x2 x3 x4 x5 x6 x7,rd0 x8,rd0 x9,.box 31 [kd2 x10],.box 53 [.ptr 0 0],rd0 x11],3,false⟩
theorem qfX {k m n:Nat} {r:LI} (h:jo n x0 x1 x2 x3 x4 x5 x6 x7 x8 x9 x10 x11=some r):lE S123 34 2 k (n+m) (Dz x0 x1 x2 x3 x4 x5 x6 x7 x8 x9 x10 x11)=some (Ha x2 x3 x4 x5 x6 x7 x8 x9 x10 r):=by
 induction n generalizing x1 x11 with
 |zero=>cases h
 |succ n ih=>
 exact lS (qdG (fun x0 x1 x2 x3 x4 x5 x6 x7 x8 x9 x10 x11=>lE S123 34 2 k (n+m) (Dz x0 x1 x2 x3 x4 x5 x6 x7 x8 x9 x10 x11)) (sm (Ha x2 x3 x4 x5 x6 x7 x8 x9 x10)) x0 x1 x2 x3 x4 x5 x6 x7 x8 x9 x10 x11) (by kernel_rfl) (by rw [D8];unfold Jc qdG;with_reducible repeat' first|apply gT ‹_›|apply gF ‹_›|(apply zz<;>intro _)|exact ih _ _|exact nX|exact sX) h
end
def S124:=S123.lp 34 2 (Dz 0 0 [] [] [] [] [] 0 [] [] [] []) (fun x0 x1 x2 x3 x4 x5 x6 x7 x8 x9 x10 x11=>some (y1 (jo FU x0 x1 x2 x3 x4 x5 x6 x7 x8 x9 x10 x11) (Ha x2 x3 x4 x5 x6 x7 x8 x9 x10))) (by kernel_rfl) fun _=>w1 fun h=>qfX _ _ _ _ _ _ _ _ _ _ _ _ h
section
variable {β:Type} (y:LI->Int->Int->LL->Int->Int->LI->L3->LL->LL->LI->Int->LI->LI->Option β) (z:(Int × Int)->Option β) (x0:LI) (x1 x2:Int) (x3:LL) (x4 x5:Int) (x6:LI) (x7:L3) (x8 x9:LL) (x10:LI) (x11:Int) (x12 x13:LI)
def Gx:Option β:=(cond (decide (x5 < x4)) (ck x5 (x3.length:Int) (ob (v29 (List.getD x3 x5.toNat []) x0) fun r1=>(ob (v54 (List.getD x3 x5.toNat []) x6 x7 x8 x9 x10 x11 x12 x13) fun r2=>(cond r2 (cond (decide (x1 < 0)) (y x0 x5 r1 x3 x4 (wI (x5+1)) x6 x7 x8 x9 x10 x11 x12 x13) (cond (decide (r1 < x2)) (y x0 x5 r1 x3 x4 (wI (x5+1)) x6 x7 x8 x9 x10 x11 x12 x13) (y x0 x1 x2 x3 x4 (wI (x5+1)) x6 x7 x8 x9 x10 x11 x12 x13))) (y x0 x1 x2 x3 x4 (wI (x5+1)) x6 x7 x8 x9 x10 x11 x12 x13))))) (z (x1,x2)))
def jY:=itL (fun _ _ _ _ _ _ _ _ _ _ _ _ _ _=>none) fun f=>Gx f some
theorem qa0 (n:Nat):jY (n+1)=Gx (jY n) some:=rfl
def qbL:(Int×Int)->Ex×CS:=fun r=>((.exit 0),⟨[(8,vI r.1),(9,vI r.2)],[],[bx2 x6 x7 x8 x9 x10 x11,rd0 x12,rd0 x13],3,false⟩)
abbrev qac:CS:=⟨[(0,vP 0),(2,vd0 x0),(8,vI x1),(9,vI x2),(20,vd1 x3),(21,vI x4),(22,vI x5)],[],[bx2 x6 x7 x8 x9 x10 x11,rd0 x12,rd0 x13],3,false⟩
theorem qhm {k m n:Nat} {r:Int×Int} (h:jY n x0 x1 x2 x3 x4 x5 x6 x7 x8 x9 x10 x11 x12 x13=some r):lE S124 33 0 k (n+m) (qac x0 x1 x2 x3 x4 x5 x6 x7 x8 x9 x10 x11 x12 x13)=some (qbL x6 x7 x8 x9 x10 x11 x12 x13 r):=by
 induction n generalizing x1 x2 x5 with
 |zero=>cases h
 |succ n ih=>
 exact lS (Gx (fun x0 x1 x2 x3 x4 x5 x6 x7 x8 x9 x10 x11 x12 x13=>lE S124 33 0 k (n+m) (qac x0 x1 x2 x3 x4 x5 x6 x7 x8 x9 x10 x11 x12 x13)) (sm (qbL x6 x7 x8 x9 x10 x11 x12 x13)) x0 x1 x2 x3 x4 x5 x6 x7 x8 x9 x10 x11 x12 x13) (by kernel_rfl) (by rw [qa0];unfold Gx;with_reducible repeat' first|apply zd|exact ih _ _ _|exact nX|exact sX) h
end
def S125:=S124.lp 33 0 (qac [] 0 0 [] 0 0 [] [] [] [] [] 0 [] []) (fun x0 x1 x2 x3 x4 x5 x6 x7 x8 x9 x10 x11 x12 x13=>some (y1 (jY FU x0 x1 x2 x3 x4 x5 x6 x7 x8 x9 x10 x11 x12 x13) (qbL x6 x7 x8 x9 x10 x11 x12 x13))) (by kernel_rfl) fun _=>w1 fun h=>qhm _ _ _ _ _ _ _ _ _ _ _ _ _ _ h
section
variable {β:Type} (z:(Int × Int)->Option β) (x0:Int) (x1 x2:LI) (x3:L3) (x4 x5:LL) (x6:LI) (x7:Int) (x8 x9:LI)
def qcI:Option β:=(ck x0 (x3.length:Int) (ob (jY FU x1 (-1:Int) 0 (List.getD x3 x0.toNat []) (↑(List.length (List.getD x3 x0.toNat [])):Int) 0 x2 x3 x4 x5 x6 x7 x8 x9) fun r1=>(z (r1.1,r1.2))))
def HG:=qcI some x0 x1 x2 x3 x4 x5 x6 x7 x8 x9
abbrev qeY:List TA:=[.sc (.ptr 0 0),.sc (I4 x0),.sc (kd0 x1)]
abbrev qfj:List TO:=[bx2 x2 x3 x4 x5 x6 x7,rd0 x8,rd0 x9]
abbrev qgu:(Int×Int)->List TA×List TO:=fun r=>([.sc (I4 r.1),.sc (I4 r.2)],[bx2 x2 x3 x4 x5 x6 x7,rd0 x8,rd0 x9])
theorem ev33_1:fE S125 33 (qeY x0 x1) (qfj x2 x3 x4 x5 x6 x7 x8 x9)=(HG x0 x1 x2 x3 x4 x5 x6 x7 x8 x9).bind (sm (qgu x2 x3 x4 x5 x6 x7 x8 x9)):=zE (fun z=>qcI z x0 x1 x2 x3 x4 x5 x6 x7 x8 x9) (by kernel_rfl) fun K=>by unfold HG qcI;with_reducible repeat' first|apply zc|exact nB|exact sB
end
def S126:=S125.fn 33 (qeY 0 []) (qfj [] [] [] [] [] 0 [] []) (fun x0 x1 x2 x3 x4 x5 x6 x7 x8 x9=>some (y1 (HG x0 x1 x2 x3 x4 x5 x6 x7 x8 x9) (qgu x2 x3 x4 x5 x6 x7 x8 x9))) rfl fun _=>w1 fun h=>(ev33_1 ..).trans (bD h)
section
variable {β:Type} (y:LI->Int->Int->LL->Int->Int->Int->LL->Int->LI->L3->LL->LL->LI->Int->LI->LI->LI->LL->LI->Option β) (z:(Bool ⊕ (Int × Int))->Option β) (x0:LI) (x1 x2:Int) (x3:LL) (x4 x5 x6:Int) (x7:LL) (x8:Int) (x9:LI) (x10:L3) (x11 x12:LL) (x13:LI) (x14:Int) (x15 x16 x17:LI) (x18:LL) (x19:LI)
def GD:Option β:=(cond (decide (x5 < x4)) (ck x5 (x3.length:Int) (ob (v82 (List.getD x3 x5.toNat [])) fun r1=>(cond (r1==0) (z (.inl (false))) (cond (decide (r1≠0)) (ob (HG x5 x0 x9 x10 x11 x12 x13 x14 x15 x16) fun r2=>(cond (decide (wI (x1*r2.2) < wI (wI (Int.tdiv (wI (wI ((1000000000000:Int)+r1) - (1:Int))) r1)*x2))) (y x0 (wI (Int.tdiv (wI (wI ((1000000000000:Int)+r1) - (1:Int))) r1)) (r2.2) x3 x4 (wI (x5+1)) x6 x7 x8 x9 x10 x11 x12 x13 x14 x15 x16 x17 x18 x19) (y x0 x1 x2 x3 x4 (wI (x5+1)) x6 x7 x8 x9 x10 x11 x12 x13 x14 x15 x16 x17 x18 x19))) none)))) (z (.inr (x1,x2))))
def jc:=itL (fun _ _ _ _ _ _ _ _ _ _ _ _ _ _ _ _ _ _ _ _=>none) fun f=>GD f some
theorem qbg (n:Nat):jc (n+1)=GD (jc n) some:=rfl
def qb3:(Bool ⊕ (Int×Int))->Ex×CS:=Sum.elim (fun r=>(.ret,⟨[(6,.l 6 0),(7,vB r)],[(6,[kd2 x7,.g 3,I4 x8])],[bx2 x9 x10 x11 x12 x13 x14,rd0 x15,rd0 x16,rd0 x17],3,true⟩)) fun r=>((.exit 0),⟨[(2,vd0 x0),(3,vP 3),(6,.l 6 0),(10,.l 10 0),(11,vI r.1),(12,vI r.2)],[(6,[.g 5,.g 6,I4 x6]),(10,[kd2 x7,.g 4,I4 x8])],[bx2 x9 x10 x11 x12 x13 x14,rd0 x15,rd0 x16,.box 53 [.ptr 0 0],rd0 x17,rd1 x18,rd0 x19],3,false⟩)
abbrev qau:CS:=⟨[(2,vd0 x0),(3,vP 3),(6,.l 6 0),(10,.l 10 0),(11,vI x1),(12,vI x2),(43,vd1 x3),(44,vI x4),(45,vI x5)],[(6,[.g 5,.g 6,I4 x6]),(10,[kd2 x7,.g 4,I4 x8])],[bx2 x9 x10 x11 x12 x13 x14,rd0 x15,rd0 x16,.box 53 [.ptr 0 0],rd0 x17,rd1 x18,rd0 x19],3,false⟩
theorem qhE {k m n:Nat} {r:Bool ⊕ (Int×Int)} (h:jc n x0 x1 x2 x3 x4 x5 x6 x7 x8 x9 x10 x11 x12 x13 x14 x15 x16 x17 x18 x19=some r):lE S126 75 0 k (n+m) (qau x0 x1 x2 x3 x4 x5 x6 x7 x8 x9 x10 x11 x12 x13 x14 x15 x16 x17 x18 x19)=some (qb3 x0 x6 x7 x8 x9 x10 x11 x12 x13 x14 x15 x16 x17 x18 x19 r):=by
 induction n generalizing x1 x2 x5 with
 |zero=>cases h
 |succ n ih=>
 exact lS (GD (fun x0 x1 x2 x3 x4 x5 x6 x7 x8 x9 x10 x11 x12 x13 x14 x15 x16 x17 x18 x19=>lE S126 75 0 k (n+m) (qau x0 x1 x2 x3 x4 x5 x6 x7 x8 x9 x10 x11 x12 x13 x14 x15 x16 x17 x18 x19)) (sm (qb3 x0 x6 x7 x8 x9 x10 x11 x12 x13 x14 x15 x16 x17 x18 x19)) x0 x1 x2 x3 x4 x5 x6 x7 x8 x9 x10 x11 x12 x13 x14 x15 x16 x17 x18 x19) (by kernel_rfl) (by rw [qbg];unfold GD;with_reducible repeat' first|apply zd|exact ih _ _ _|exact nX|exact sX) h
end
def S127:=S126.lp 75 0 (qau [] 0 0 [] 0 0 0 [] 0 [] [] [] [] [] 0 [] [] [] [] []) (fun x0 x1 x2 x3 x4 x5 x6 x7 x8 x9 x10 x11 x12 x13 x14 x15 x16 x17 x18 x19=>some (y2 (jc FU x0 x1 x2 x3 x4 x5 x6 x7 x8 x9 x10 x11 x12 x13 x14 x15 x16 x17 x18 x19) (qb3 x0 x6 x7 x8 x9 x10 x11 x12 x13 x14 x15 x16 x17 x18 x19))) (by kernel_rfl) fun _=>w2 fun h=>qhE _ _ _ _ _ _ _ _ _ _ _ _ _ _ _ _ _ _ _ _ h
section
variable {β:Type} (y:LI->Int->Int->LI->LI->Int->Int->Int->LL->Int->LI->L3->LL->LL->LI->Int->LI->LI->LI->LL->LI->Option β) (z:LI->Option β) (x0:LI) (x1 x2:Int) (x3 x4:LI) (x5 x6 x7:Int) (x8:LL) (x9:Int) (x10:LI) (x11:L3) (x12 x13:LL) (x14:LI) (x15:Int) (x16 x17 x18:LI) (x19:LL) (x20:LI)
def Jl:Option β:=(cond (decide (x6 < x5)) (ck x6 (x4.length:Int) (cond (List.getD x4 x6.toNat 0==0) (cond (decide (x6 < (x18.length:Int))) (cond (decide (x6.toNat < List.length x18)) (y x0 x1 x2 x3 x4 x5 (wI (x6+1)) x7 x8 x9 x10 x11 x12 x13 x14 x15 x16 x17 (List.set x18 x6.toNat (1000000000000:Int)) x19 x20) none) none) (cond (decide (x6 < (x3.length:Int))) (cond (decide (List.getD x3 x6.toNat 0 > 0)) (cond (decide (x6 < (x0.length:Int))) (cond (decide (x2≠0)) (cond (decide (x6 < (x18.length:Int))) (cond (decide (x6.toNat < List.length x18)) (y x0 x1 x2 x3 x4 x5 (wI (x6+1)) x7 x8 x9 x10 x11 x12 x13 x14 x15 x16 x17 (List.set x18 x6.toNat (wI (Int.tdiv (wI (wI (wI (x1*List.getD x0 x6.toNat 0)+x2) - (1:Int))) x2))) x19 x20) none) none) none) none) (y x0 x1 x2 x3 x4 x5 (wI (x6+1)) x7 x8 x9 x10 x11 x12 x13 x14 x15 x16 x17 x18 x19 x20)) none))) (z x18))
def qdO:Option β:=(cond (decide (x6 < x5)) (ck x6 (x4.length:Int) (cond (List.getD x4 x6.toNat 0==0) (ck x6 (x18.length:Int) (cond (decide (x6.toNat < List.length x18)) (y x0 x1 x2 x3 x4 x5 (wI (x6+1)) x7 x8 x9 x10 x11 x12 x13 x14 x15 x16 x17 (List.set x18 x6.toNat (1000000000000:Int)) x19 x20) none)) (ck x6 (x3.length:Int) (cond (decide (List.getD x3 x6.toNat 0 > 0)) (ck x6 (x0.length:Int) (cond (decide (x2≠0)) (ck x6 (x18.length:Int) (cond (decide (x6.toNat < List.length x18)) (y x0 x1 x2 x3 x4 x5 (wI (x6+1)) x7 x8 x9 x10 x11 x12 x13 x14 x15 x16 x17 (List.set x18 x6.toNat (wI (Int.tdiv (wI (wI (wI (x1*List.getD x0 x6.toNat 0)+x2) - (1:Int))) x2))) x19 x20) none)) none)) (y x0 x1 x2 x3 x4 x5 (wI (x6+1)) x7 x8 x9 x10 x11 x12 x13 x14 x15 x16 x17 x18 x19 x20))))) (z x18))
def ju:=itL (fun _ _ _ _ _ _ _ _ _ _ _ _ _ _ _ _ _ _ _ _ _=>none) fun f=>Jl f some
theorem Sj (n:Nat):ju (n+1)=Jl (ju n) some:=rfl
def Hp:LI->Ex×CS:=fun r=>((.exit 2),⟨[(3,vP 3),(6,.l 6 0),(10,.l 10 0)],[(6,[.g 5,.g 6,I4 x7]),(10,[kd2 x8,.g 4,I4 x9])],[bx2 x10 x11 x12 x13 x14 x15,rd0 x16,rd0 x17,.box 53 [.ptr 0 0],rd0 r,rd1 x19,rd0 x20],3,false⟩)
abbrev DK:CS:=⟨[(2,vd0 x0),(3,vP 3),(6,.l 6 0),(10,.l 10 0),(11,vI x1),(12,vI x2),(19,vd0 x3),(85,vd0 x4),(86,vI x5),(87,vI x6)],[(6,[.g 5,.g 6,I4 x7]),(10,[kd2 x8,.g 4,I4 x9])],[bx2 x10 x11 x12 x13 x14 x15,rd0 x16,rd0 x17,.box 53 [.ptr 0 0],rd0 x18,rd1 x19,rd0 x20],3,false⟩
theorem qgc {k m n:Nat} {r:LI} (h:ju n x0 x1 x2 x3 x4 x5 x6 x7 x8 x9 x10 x11 x12 x13 x14 x15 x16 x17 x18 x19 x20=some r):lE S127 75 2 k (n+m) (DK x0 x1 x2 x3 x4 x5 x6 x7 x8 x9 x10 x11 x12 x13 x14 x15 x16 x17 x18 x19 x20)=some (Hp x7 x8 x9 x10 x11 x12 x13 x14 x15 x16 x17 x19 x20 r):=by
 induction n generalizing x6 x18 with
 |zero=>cases h
 |succ n ih=>
 exact lS (qdO (fun x0 x1 x2 x3 x4 x5 x6 x7 x8 x9 x10 x11 x12 x13 x14 x15 x16 x17 x18 x19 x20=>lE S127 75 2 k (n+m) (DK x0 x1 x2 x3 x4 x5 x6 x7 x8 x9 x10 x11 x12 x13 x14 x15 x16 x17 x18 x19 x20)) (sm (Hp x7 x8 x9 x10 x11 x12 x13 x14 x15 x16 x17 x19 x20)) x0 x1 x2 x3 x4 x5 x6 x7 x8 x9 x10 x11 x12 x13 x14 x15 x16 x17 x18 x19 x20) (by kernel_rfl) (by rw [Sj];unfold Jl qdO;with_reducible repeat' first|apply gT ‹_›|apply gF ‹_›|(apply zz<;>intro _)|exact ih _ _|exact nX|exact sX) h
end
def S128:=S127.lp 75 2 (DK [] 0 0 [] [] 0 0 0 [] 0 [] [] [] [] [] 0 [] [] [] [] []) (fun x0 x1 x2 x3 x4 x5 x6 x7 x8 x9 x10 x11 x12 x13 x14 x15 x16 x17 x18 x19 x20=>some (y1 (ju FU x0 x1 x2 x3 x4 x5 x6 x7 x8 x9 x10 x11 x12 x13 x14 x15 x16 x17 x18 x19 x20) (Hp x7 x8 x9 x10 x11 x12 x13 x14 x15 x16 x17 x19 x20))) (by kernel_rfl) fun _=>w1 fun h=>qgc _ _ _ _ _ _ _ _ _ _ _ _ _ _ _ _ _ _ _ _ _ h
section
variable {β:Type} (z:(Bool × Int × LI)->Option β) (x0:LI) (x1 x2:Int) (x3:LI) (x4:Int) (x5:LL) (x6:Int) (x7:LI) (x8:L3) (x9 x10:LL) (x11:LI) (x12:Int) (x13 x14 x15:LI) (x16:LL) (x17:LI)
def JD:Option β:=(ob (ju FU x0 x1 x2 x3 x7 (x7.length:Int) 0 x4 x5 x6 x7 x8 x9 x10 x11 x12 x13 x14 x15 x16 x17) fun r1=>(ob (gl x4 x5 x6 x7 x8 x9 x10 x11 x12 x13 x14 r1 x16 x17) fun r2=>(z (r2.1,r2.2,r1))))
def GX:=JD some x0 x1 x2 x3 x4 x5 x6 x7 x8 x9 x10 x11 x12 x13 x14 x15 x16 x17
def Dd:(Bool×Int×LI)->Ex×CS:=fun r=>(.ret,⟨[(6,.l 6 0),(7,vB r.1)],[(6,[kd2 x5,.g 3,I4 r.2.1])],[bx2 x7 x8 x9 x10 x11 x12,rd0 x13,rd0 x14,rd0 r.2.2],3,true⟩)
abbrev qcs:CS:=⟨[(2,vd0 x0),(3,vP 3),(6,.l 6 0),(10,.l 10 0),(11,vI x1),(12,vI x2),(19,vd0 x3)],[(6,[.g 5,.g 6,I4 x4]),(10,[kd2 x5,.g 4,I4 x6])],[bx2 x7 x8 x9 x10 x11 x12,rd0 x13,rd0 x14,.box 53 [.ptr 0 0],rd0 x15,rd1 x16,rd0 x17],3,false⟩
theorem qeQ {k:Nat} {r:Bool×Int×LI}:GX x0 x1 x2 x3 x4 x5 x6 x7 x8 x9 x10 x11 x12 x13 x14 x15 x16 x17=some r->pE S128 75 148 0 k (qcs x0 x1 x2 x3 x4 x5 x6 x7 x8 x9 x10 x11 x12 x13 x14 x15 x16 x17)=some (Dd x5 x7 x8 x9 x10 x11 x12 x13 x14 r):=lP (JD (sm (Dd x5 x7 x8 x9 x10 x11 x12 x13 x14)) x0 x1 x2 x3 x4 x5 x6 x7 x8 x9 x10 x11 x12 x13 x14 x15 x16 x17) (by kernel_rfl) (by unfold GX JD;with_reducible repeat' first|apply zd|exact nX|exact sX)
end
def S129:=S128.pc 75 148 0 (qcs [] 0 0 [] 0 [] 0 [] [] [] [] [] 0 [] [] [] [] []) (fun x0 x1 x2 x3 x4 x5 x6 x7 x8 x9 x10 x11 x12 x13 x14 x15 x16 x17=>some (y1 (GX x0 x1 x2 x3 x4 x5 x6 x7 x8 x9 x10 x11 x12 x13 x14 x15 x16 x17) (Dd x5 x7 x8 x9 x10 x11 x12 x13 x14))) (by kernel_rfl) rfl fun _=>w1 fun h=>qeQ _ _ _ _ _ _ _ _ _ _ _ _ _ _ _ _ _ _ h
section
variable {β:Type} (z:(Bool × Int × LI)->Option β) (x0:LI) (x1:Int) (x2:LL) (x3:Int) (x4:LI) (x5:L3) (x6 x7:LL) (x8:LI) (x9:Int) (x10 x11 x12:LI) (x13:LL) (x14:LI)
def Ku:Option β:=(cond (isL (jc FU x0 0 (1:Int) x2 (x2.length:Int) 0 x1 x2 x3 x4 x5 x6 x7 x8 x9 x10 x11 x12 x13 x14)) (z (zx (jc FU x0 0 (1:Int) x2 (x2.length:Int) 0 x1 x2 x3 x4 x5 x6 x7 x8 x9 x10 x11 x12 x13 x14),x3,x12)) (ob (zB (jc FU x0 0 (1:Int) x2 (x2.length:Int) 0 x1 x2 x3 x4 x5 x6 x7 x8 x9 x10 x11 x12 x13 x14)) fun r1=>(ob (JG x4 x5 x6 x7 x8 x9 x10 x11) fun r2=>(ob (v60 r2 x4 x5 x6 x7 x8 x9 x10 x11) fun r3=>(ob (GX x0 r1.1 r1.2 r3 x1 x2 x3 x4 x5 x6 x7 x8 x9 x10 x11 x12 x13 x14) fun r4=>(z (r4.1,r4.2.1,r4.2.2)))))))
def JO:=Ku some x0 x1 x2 x3 x4 x5 x6 x7 x8 x9 x10 x11 x12 x13 x14
def Ht:(Bool×Int×LI)->Ex×CS:=fun r=>(.ret,⟨[(6,.l 6 0),(7,vB r.1)],[(6,[kd2 x2,.g 3,I4 r.2.1])],[bx2 x4 x5 x6 x7 x8 x9,rd0 x10,rd0 x11,rd0 r.2.2],3,true⟩)
abbrev qdm:CS:=⟨[(2,vd0 x0),(3,vP 3),(6,.l 6 0),(10,.l 10 0),(41,.l 10 0)],[(6,[.g 5,.g 6,I4 x1]),(10,[kd2 x2,.g 4,I4 x3])],[bx2 x4 x5 x6 x7 x8 x9,rd0 x10,rd0 x11,.box 53 [.ptr 0 0],rd0 x12,rd1 x13,rd0 x14],3,false⟩
theorem qgg {k:Nat} {r:Bool×Int×LI}:JO x0 x1 x2 x3 x4 x5 x6 x7 x8 x9 x10 x11 x12 x13 x14=some r->pE S129 75 44 0 k (qdm x0 x1 x2 x3 x4 x5 x6 x7 x8 x9 x10 x11 x12 x13 x14)=some (Ht x2 x4 x5 x6 x7 x8 x9 x10 x11 r):=lP (Ku (sm (Ht x2 x4 x5 x6 x7 x8 x9 x10 x11)) x0 x1 x2 x3 x4 x5 x6 x7 x8 x9 x10 x11 x12 x13 x14) (by kernel_rfl) (by unfold JO Ku;with_reducible repeat' first|apply zd|exact nX|exact sX)
end
def S130:=S129.pc 75 44 0 (qdm [] 0 [] 0 [] [] [] [] [] 0 [] [] [] [] []) (fun x0 x1 x2 x3 x4 x5 x6 x7 x8 x9 x10 x11 x12 x13 x14=>some (y1 (JO x0 x1 x2 x3 x4 x5 x6 x7 x8 x9 x10 x11 x12 x13 x14) (Ht x2 x4 x5 x6 x7 x8 x9 x10 x11))) (by kernel_rfl) rfl fun _=>w1 fun h=>qgg _ _ _ _ _ _ _ _ _ _ _ _ _ _ _ h
section
variable {β:Type} (z:(Bool × LL × Int × LI)->Option β) (x0:LI) (x1 x2:Int) (x3:LI) (x4:L3) (x5 x6:LL) (x7:LI) (x8:Int) (x9 x10 x11:LI) (x12:LL) (x13:Int) (x14:LL) (x15:LI) (x16:LL) (x17:LI)
def Ks:Option β:=(ob (JF x3 x4 x5 x6 x7 x8 x9 x10 x12 x13 x11) fun r1=>(ob (JO x0 x1 r1 x2 x3 x4 x5 x6 x7 x8 x9 x10 x15 x16 x17) fun r2=>(z (r2.1,r1,r2.2.1,r2.2.2))))
def Gk (x0:LI) (x1 x2:Int) (x3:LI) (x4:L3) (x5 x6:LL) (x7:LI) (x8:Int) (x9 x10 x11:LI) (x12:LL) (x13:Int) (x14:LL) (x15:LI) (x16:LL) (x17:LI):Option (Bool×LL×Int×LI):=Ks some x0 x1 x2 x3 x4 x5 x6 x7 x8 x9 x10 x11 x12 x13 x15 x16 x17
def Hr:(Bool×LL×Int×LI)->Ex×CS:=fun r=>(.ret,⟨[(6,.l 6 0),(7,vB r.1)],[(6,[kd2 r.2.1,.g 3,I4 r.2.2.1])],[bx2 x3 x4 x5 x6 x7 x8,rd0 x9,rd0 x10,rd0 r.2.2.2],3,true⟩)
abbrev qdk:CS:=⟨[(2,vd0 x0),(3,vP 6),(4,vP 4),(6,.l 6 0),(8,vP 3),(9,vP 5),(10,.l 10 0)],[(6,[.g 9,.g 10,I4 x1]),(10,[.g 7,.g 8,I4 x2])],[bx2 x3 x4 x5 x6 x7 x8,rd0 x9,rd0 x10,.box 22 [kd0 x11],.box 31 [kd2 x12],.box 3 [I4 x13],.box 53 [.ptr 0 0],rd1 x14,rd0 x15,rd1 x16,rd0 x17],3,false⟩
theorem qge {k:Nat} {r:Bool×LL×Int×LI}:Gk x0 x1 x2 x3 x4 x5 x6 x7 x8 x9 x10 x11 x12 x13 x14 x15 x16 x17=some r->pE S130 75 36 0 k (qdk x0 x1 x2 x3 x4 x5 x6 x7 x8 x9 x10 x11 x12 x13 x14 x15 x16 x17)=some (Hr x3 x4 x5 x6 x7 x8 x9 x10 r):=lP (Ks (sm (Hr x3 x4 x5 x6 x7 x8 x9 x10)) x0 x1 x2 x3 x4 x5 x6 x7 x8 x9 x10 x11 x12 x13 x15 x16 x17) (by kernel_rfl) (by unfold Gk Ks;with_reducible repeat' first|apply zd|exact nX|exact sX)
end
def S131:=S130.pc 75 36 0 (qdk [] 0 0 [] [] [] [] [] 0 [] [] [] [] 0 [] [] [] []) (fun x0 x1 x2 x3 x4 x5 x6 x7 x8 x9 x10 x11 x12 x13 x14 x15 x16 x17=>some (y1 (Gk x0 x1 x2 x3 x4 x5 x6 x7 x8 x9 x10 x11 x12 x13 x14 x15 x16 x17) (Hr x3 x4 x5 x6 x7 x8 x9 x10))) (by kernel_rfl) rfl fun _=>w1 fun h=>qge _ _ _ _ _ _ _ _ _ _ _ _ _ _ _ _ _ _ h
section
variable {β:Type} (z:(LL × LI × Int × Bool)->Option β) (x0:LL) (x1 x2:LI) (x3:L3) (x4 x5:LL) (x6:LI) (x7:Int) (x8 x9:LI)
def qcR:Option β:=(ob (v60 x0 x2 x3 x4 x5 x6 x7 x8 x9) fun r1=>(ob (v61 r1 x2 x3 x4 x5 x6 x7 x8 x9) fun r2=>(cond (decide ((x2.length:Int)<=(x2.length:Int))) (cond (decide ((x2.length:Int)<=(↑(nat_lit 2147483648):Int))) (ob (Gk x1 0 0 x2 x3 x4 x5 x6 x7 x8 x9 r1 x0 r2 [] (List.replicate (x2.length:Int).toNat 0) [] []) fun r3=>(z (r3.2.1,r3.2.2.2,r3.2.2.1,r3.1))) none) none)))
def HI:=qcR some x0 x1 x2 x3 x4 x5 x6 x7 x8 x9
abbrev qe7:List TA:=[.sc (.ptr 0 0),.sc (kd2 x0),.sc (kd0 x1)]
abbrev qfq:List TO:=[bx2 x2 x3 x4 x5 x6 x7,rd0 x8,rd0 x9]
abbrev qgD:(LL×LI×Int×Bool)->List TA×List TO:=fun r=>([.agg [kd2 r.1,kd0 r.2.1,I4 r.2.2.1],.sc (.bool r.2.2.2)],[bx2 x2 x3 x4 x5 x6 x7,rd0 x8,rd0 x9])
theorem ev75_1:fE S131 75 (qe7 x0 x1) (qfq x2 x3 x4 x5 x6 x7 x8 x9)=(HI x0 x1 x2 x3 x4 x5 x6 x7 x8 x9).bind (sm (qgD x2 x3 x4 x5 x6 x7 x8 x9)):=zE (fun z=>qcR z x0 x1 x2 x3 x4 x5 x6 x7 x8 x9) (by kernel_rfl) fun K=>by unfold HI qcR;with_reducible repeat' first|apply zc|exact nB|exact sB
end
def S132:=S131.fn 75 (qe7 [] []) (qfq [] [] [] [] [] 0 [] []) (fun x0 x1 x2 x3 x4 x5 x6 x7 x8 x9=>some (y1 (HI x0 x1 x2 x3 x4 x5 x6 x7 x8 x9) (qgD x2 x3 x4 x5 x6 x7 x8 x9))) rfl fun _=>w1 fun h=>(ev75_1 ..).trans (bD h)
section
variable {β:Type} (z:(LL × LI × Int)->Option β) (x0:LL) (x1 x2:LI) (x3:L3) (x4 x5:LL) (x6:LI) (x7:Int) (x8 x9:LI)
def qcL:Option β:=(ob (HI x0 x1 x2 x3 x4 x5 x6 x7 x8 x9) fun r1=>(cond (r1.2.2.2) (cond ((x5.length:Int)==0) (z (r1.1,r1.2.1,r1.2.2.1)) (cond (decide (r1.2.2.1 < x7)) (z (r1.1,r1.2.1,r1.2.2.1)) (z (x5,x6,x7)))) (z (x5,x6,x7))))
def KX:=qcL some x0 x1 x2 x3 x4 x5 x6 x7 x8 x9
abbrev qe1:List TA:=[.sc (.ptr 0 0),.sc (kd2 x0),.sc (kd0 x1)]
abbrev qfk:List TO:=[bx2 x2 x3 x4 x5 x6 x7,rd0 x8,rd0 x9]
abbrev qgx:(LL×LI×Int)->List TA×List TO:=fun r=>([],[bx2 x2 x3 x4 r.1 r.2.1 r.2.2,rd0 x8,rd0 x9])
theorem ev58_1:fE S132 58 (qe1 x0 x1) (qfk x2 x3 x4 x5 x6 x7 x8 x9)=(KX x0 x1 x2 x3 x4 x5 x6 x7 x8 x9).bind (sm (qgx x2 x3 x4 x8 x9)):=zE (fun z=>qcL z x0 x1 x2 x3 x4 x5 x6 x7 x8 x9) (by kernel_rfl) fun K=>by unfold KX qcL;with_reducible repeat' first|apply zc|exact nB|exact sB
end
def S133:=S132.fn 58 (qe1 [] []) (qfk [] [] [] [] [] 0 [] []) (fun x0 x1 x2 x3 x4 x5 x6 x7 x8 x9=>some (y1 (KX x0 x1 x2 x3 x4 x5 x6 x7 x8 x9) (qgx x2 x3 x4 x8 x9))) rfl fun _=>w1 fun h=>(ev58_1 ..).trans (bD h)
section
variable {β:Type} (y:LI->Int->Int->Int->LI->L3->LL->LL->LI->Int->LI->LI->Option β) (z:LI->Option β) (x0:LI) (x1 x2 x3:Int) (x4:LI) (x5:L3) (x6 x7:LL) (x8:LI) (x9:Int) (x10 x11:LI)
def Jd:Option β:=(cond (decide (x3 < x2)) (ck x3 (x10.length:Int) (cond (decide (x3.toNat < List.length x10)) (cond (decide (x3 < (x4.length:Int))) (cond (decide (List.getD x4 x3.toNat 0 > 0)) (cond (decide (x3 < (x0.length:Int))) (ck x1 (x4.length:Int) (cond (decide (x1 < (x0.length:Int))) (cond (decide (List.getD x0 x1.toNat 0≠0)) (cond (decide (List.getD x4 x3.toNat 0≠0)) (y x0 x1 x2 (wI (x3+1)) x4 x5 x6 x7 x8 x9 (List.set x10 x3.toNat (min (1048576:Int) (max (16:Int) (wI (Int.tdiv (wI (List.getD x10 x3.toNat 0*wI ((1000:Int)+min (wI (Int.tdiv (wI (wI (Int.tdiv (wI (List.getD x0 x3.toNat 0*List.getD x4 x1.toNat 0)) (List.getD x0 x1.toNat 0))*1000)) (List.getD x4 x3.toNat 0))) (1000:Int)))) (1500:Int)))))) x11) none) none) none)) none) (y x0 x1 x2 (wI (x3+1)) x4 x5 x6 x7 x8 x9 x10 x11)) none) none)) (z x10))
def qdH:Option β:=(cond (decide (x3 < x2)) (ck x3 (x10.length:Int) (cond (decide (x3.toNat < List.length x10)) (ck x3 (x4.length:Int) (cond (decide (List.getD x4 x3.toNat 0 > 0)) (ck x3 (x0.length:Int) (ck x1 (x4.length:Int) (ck x1 (x0.length:Int) (cond (decide (List.getD x0 x1.toNat 0≠0)) (ck x3 (x4.length:Int) (cond (decide (List.getD x4 x3.toNat 0≠0)) (ck x3 (x10.length:Int) (cond (decide (x3.toNat < List.length x10)) (y x0 x1 x2 (wI (x3+1)) x4 x5 x6 x7 x8 x9 (List.set x10 x3.toNat (min (1048576:Int) (max (16:Int) (wI (Int.tdiv (wI (List.getD x10 x3.toNat 0*wI ((1000:Int)+min (wI (Int.tdiv (wI (wI (Int.tdiv (wI (List.getD x0 x3.toNat 0*List.getD x4 x1.toNat 0)) (List.getD x0 x1.toNat 0))*1000)) (List.getD x4 x3.toNat 0))) (1000:Int)))) (1500:Int)))))) x11) none)) none)) none)))) (y x0 x1 x2 (wI (x3+1)) x4 x5 x6 x7 x8 x9 x10 x11))) none)) (z x10))
def qW:=itL (fun _ _ _ _ _ _ _ _ _ _ _ _=>none) fun f=>Jd f some
theorem D9 (n:Nat):qW (n+1)=Jd (qW n) some:=rfl
def Hc:LI->Ex×CS:=fun r=>((.exit 4),⟨[],[],[bx2 x4 x5 x6 x7 x8 x9,rd0 r,rd0 x11],3,false⟩)
abbrev DA:CS:=⟨[(1,vP 3),(8,vd0 x0),(9,vI x1),(96,vG 1),(97,vI x2),(98,vI x3)],[],[bx2 x4 x5 x6 x7 x8 x9,rd0 x10,rd0 x11,.box 53 [.ptr 0 0]],3,false⟩
theorem qfZ {k m n:Nat} {r:LI} (h:qW n x0 x1 x2 x3 x4 x5 x6 x7 x8 x9 x10 x11=some r):lE S133 34 4 k (n+m) (DA x0 x1 x2 x3 x4 x5 x6 x7 x8 x9 x10 x11)=some (Hc x4 x5 x6 x7 x8 x9 x11 r):=by
 induction n generalizing x3 x10 with
 |zero=>cases h
 |succ n ih=>
 exact lS (qdH (fun x0 x1 x2 x3 x4 x5 x6 x7 x8 x9 x10 x11=>lE S133 34 4 k (n+m) (DA x0 x1 x2 x3 x4 x5 x6 x7 x8 x9 x10 x11)) (sm (Hc x4 x5 x6 x7 x8 x9 x11)) x0 x1 x2 x3 x4 x5 x6 x7 x8 x9 x10 x11) (by kernel_rfl) (by rw [D9];unfold Jd qdH;with_reducible repeat' first|apply gT ‹_›|apply gF ‹_›|(apply zz<;>intro _)|exact ih _ _|exact nX|exact sX) h
end
def S134:=S133.lp 34 4 (DA [] 0 0 0 [] [] [] [] [] 0 [] []) (fun x0 x1 x2 x3 x4 x5 x6 x7 x8 x9 x10 x11=>some (y1 (qW FU x0 x1 x2 x3 x4 x5 x6 x7 x8 x9 x10 x11) (Hc x4 x5 x6 x7 x8 x9 x11))) (by kernel_rfl) fun _=>w1 fun h=>qfZ _ _ _ _ _ _ _ _ _ _ _ _ h
section
variable {β:Type} (z:LI->Option β) (x0:LI) (x1:Int) (x2:LI) (x3:L3) (x4 x5:LL) (x6:LI) (x7:Int) (x8 x9:LI)
def Ju:Option β:=(ob (qW FU x0 x1 (x8.length:Int) 0 x2 x3 x4 x5 x6 x7 x8 x9) fun r1=>(z r1))
def GP:=Ju some x0 x1 x2 x3 x4 x5 x6 x7 x8 x9
def K4:LI->Ex×CS:=fun r=>(.normal,⟨[],[],[bx2 x2 x3 x4 x5 x6 x7,rd0 r,rd0 x9],3,false⟩)
abbrev qcj:CS:=⟨[(1,vP 3),(8,vd0 x0),(9,vI x1)],[],[bx2 x2 x3 x4 x5 x6 x7,rd0 x8,rd0 x9,.box 53 [.ptr 0 0]],3,false⟩
theorem qeH {k:Nat} {r:LI}:GP x0 x1 x2 x3 x4 x5 x6 x7 x8 x9=some r->pE S134 34 148 0 k (qcj x0 x1 x2 x3 x4 x5 x6 x7 x8 x9)=some (K4 x2 x3 x4 x5 x6 x7 x9 r):=lP (Ju (sm (K4 x2 x3 x4 x5 x6 x7 x9)) x0 x1 x2 x3 x4 x5 x6 x7 x8 x9) (by kernel_rfl) (by unfold GP Ju;with_reducible repeat' first|apply zd|exact nX|exact sX)
end
def S135:=S134.pc 34 148 0 (qcj [] 0 [] [] [] [] [] 0 [] []) (fun x0 x1 x2 x3 x4 x5 x6 x7 x8 x9=>some (y1 (GP x0 x1 x2 x3 x4 x5 x6 x7 x8 x9) (K4 x2 x3 x4 x5 x6 x7 x9))) (by kernel_rfl) rfl fun _=>w1 fun h=>qeH _ _ _ _ _ _ _ _ _ _ h
section
variable {β:Type} (z:LI->Option β) (x0:LI) (x1:L3) (x2 x3:LL) (x4:LI) (x5:Int) (x6 x7:LI) (x8:LL)
def Jt:Option β:=(ob (v60 x8 x0 x1 x2 x3 x4 x5 x6 x7) fun r1=>(ob (v61 r1 x0 x1 x2 x3 x4 x5 x6 x7) fun r2=>(ob (GP r1 r2 x0 x1 x2 x3 x4 x5 x6 x7) fun r3=>(z r3))))
def gI:=Jt some x0 x1 x2 x3 x4 x5 x6 x7 x8
def K3:LI->Ex×CS:=fun r=>(.normal,⟨[],[],[bx2 x0 x1 x2 x3 x4 x5,rd0 r,rd0 x7],3,false⟩)
abbrev qci:CS:=⟨[(1,vP 4),(2,vP 3)],[],[bx2 x0 x1 x2 x3 x4 x5,rd0 x6,rd0 x7,.box 31 [kd2 x8],.box 53 [.ptr 0 0]],3,false⟩
theorem qeG {k:Nat} {r:LI}:gI x0 x1 x2 x3 x4 x5 x6 x7 x8=some r->pE S135 34 132 0 k (qci x0 x1 x2 x3 x4 x5 x6 x7 x8)=some (K3 x0 x1 x2 x3 x4 x5 x7 r):=lP (Jt (sm (K3 x0 x1 x2 x3 x4 x5 x7)) x0 x1 x2 x3 x4 x5 x6 x7 x8) (by kernel_rfl) (by unfold gI Jt;with_reducible repeat' first|apply zd|exact nX|exact sX)
end
def S136:=S135.pc 34 132 0 (qci [] [] [] [] [] 0 [] [] []) (fun x0 x1 x2 x3 x4 x5 x6 x7 x8=>some (y1 (gI x0 x1 x2 x3 x4 x5 x6 x7 x8) (K3 x0 x1 x2 x3 x4 x5 x7))) (by kernel_rfl) rfl fun _=>w1 fun h=>qeG _ _ _ _ _ _ _ _ _ h
section
variable {β:Type} (z:(LL × LI × Int × LI)->Option β) (x0:LI) (x1:L3) (x2 x3:LL) (x4:LI) (x5:Int) (x6 x7:LI) (x8:LL) (x9:LI)
def Js:Option β:=(ob (KX x2 x9 x0 x1 x2 x3 x4 x5 x6 x7) fun r1=>(ob (gI x0 x1 x2 r1.1 r1.2.1 r1.2.2 x6 x7 x8) fun r2=>(z (r1.1,r1.2.1,r1.2.2,r2))))
def GO:=Js some x0 x1 x2 x3 x4 x5 x6 x7 x8 x9
def K1:(LL×LI×Int×LI)->Ex×CS:=fun r=>(.normal,⟨[],[],[bx2 x0 x1 x2 r.1 r.2.1 r.2.2.1,rd0 r.2.2.2,rd0 x7],3,false⟩)
abbrev qch:CS:=⟨[(1,vP 4),(2,vP 3),(5,vG 5)],[],[bx2 x0 x1 x2 x3 x4 x5,rd0 x6,rd0 x7,.box 31 [kd2 x8],.box 53 [.ptr 0 0],rd0 x9],3,false⟩
theorem qeF {k:Nat} {r:LL×LI×Int×LI}:GO x0 x1 x2 x3 x4 x5 x6 x7 x8 x9=some r->pE S136 34 124 0 k (qch x0 x1 x2 x3 x4 x5 x6 x7 x8 x9)=some (K1 x0 x1 x2 x7 r):=lP (Js (sm (K1 x0 x1 x2 x7)) x0 x1 x2 x3 x4 x5 x6 x7 x8 x9) (by kernel_rfl) (by unfold GO Js;with_reducible repeat' first|apply zd|exact nX|exact sX)
end
def S137:=S136.pc 34 124 0 (qch [] [] [] [] [] 0 [] [] [] []) (fun x0 x1 x2 x3 x4 x5 x6 x7 x8 x9=>some (y1 (GO x0 x1 x2 x3 x4 x5 x6 x7 x8 x9) (K1 x0 x1 x2 x7))) (by kernel_rfl) rfl fun _=>w1 fun h=>qeF _ _ _ _ _ _ _ _ _ _ h
section
variable {β:Type} (z:(LL × LI × Int × LI)->Option β) (x0:LI) (x1:L3) (x2 x3:LL) (x4:LI) (x5:Int) (x6 x7:LI) (x8:LL)
def Ko:Option β:=(cond (decide ((x7.length:Int)<=(x7.length:Int))) (cond (decide ((x7.length:Int)<=(↑(nat_lit 2147483648):Int))) (ob (jo FU (x7.length:Int) 0 x0 x1 x2 x3 x4 x5 x6 x7 x8 (List.replicate (x7.length:Int).toNat 0)) fun r1=>(ob (GO x0 x1 x2 x3 x4 x5 x6 x7 x8 r1) fun r2=>(z (r2.1,r2.2.1,r2.2.2.1,r2.2.2.2)))) none) none)
def Gf:=Ko some x0 x1 x2 x3 x4 x5 x6 x7 x8
def He:(LL×LI×Int×LI)->Ex×CS:=fun r=>(.normal,⟨[],[],[bx2 x0 x1 x2 r.1 r.2.1 r.2.2.1,rd0 r.2.2.2,rd0 x7],3,false⟩)
abbrev qdh:CS:=⟨[(1,vP 4),(2,vP 3)],[],[bx2 x0 x1 x2 x3 x4 x5,rd0 x6,rd0 x7,.box 31 [kd2 x8],.box 53 [.ptr 0 0]],3,false⟩
theorem qf1 {k:Nat} {r:LL×LI×Int×LI}:Gf x0 x1 x2 x3 x4 x5 x6 x7 x8=some r->pE S137 34 76 0 k (qdh x0 x1 x2 x3 x4 x5 x6 x7 x8)=some (He x0 x1 x2 x7 r):=lP (Ko (sm (He x0 x1 x2 x7)) x0 x1 x2 x3 x4 x5 x6 x7 x8) (by kernel_rfl) (by unfold Gf Ko;with_reducible repeat' first|apply zd|exact nX|exact sX)
end
def S138:=S137.pc 34 76 0 (qdh [] [] [] [] [] 0 [] [] []) (fun x0 x1 x2 x3 x4 x5 x6 x7 x8=>some (y1 (Gf x0 x1 x2 x3 x4 x5 x6 x7 x8) (He x0 x1 x2 x7))) (by kernel_rfl) rfl fun _=>w1 fun h=>qf1 _ _ _ _ _ _ _ _ _ h
section
variable {β:Type} (z:(LL × LI × Int × LI)->Option β) (x0:LI) (x1:L3) (x2 x3:LL) (x4:LI) (x5:Int) (x6 x7:LI) (x8:LL)
def Kn:Option β:=(ob (v58 x8 x0 x1 x2 x3 x4 x5 x6 x7) fun r1=>(ob (Gf x0 x1 x2 r1.1 r1.2.1 r1.2.2 x6 x7 x8) fun r2=>(z (r2.1,r2.2.1,r2.2.2.1,r2.2.2.2))))
def JM:=Kn some x0 x1 x2 x3 x4 x5 x6 x7 x8
def Hd:(LL×LI×Int×LI)->Ex×CS:=fun r=>(.normal,⟨[],[],[bx2 x0 x1 x2 r.1 r.2.1 r.2.2.1,rd0 r.2.2.2,rd0 x7],3,false⟩)
abbrev qdg:CS:=⟨[(1,vP 4),(2,vP 3)],[],[bx2 x0 x1 x2 x3 x4 x5,rd0 x6,rd0 x7,.box 31 [kd2 x8],.box 53 [.ptr 0 0]],3,false⟩
theorem qf0 {k:Nat} {r:LL×LI×Int×LI}:JM x0 x1 x2 x3 x4 x5 x6 x7 x8=some r->pE S138 34 68 0 k (qdg x0 x1 x2 x3 x4 x5 x6 x7 x8)=some (Hd x0 x1 x2 x7 r):=lP (Kn (sm (Hd x0 x1 x2 x7)) x0 x1 x2 x3 x4 x5 x6 x7 x8) (by kernel_rfl) (by unfold JM Kn;with_reducible repeat' first|apply zd|exact nX|exact sX)
end
def S139:=S138.pc 34 68 0 (qdg [] [] [] [] [] 0 [] [] []) (fun x0 x1 x2 x3 x4 x5 x6 x7 x8=>some (y1 (JM x0 x1 x2 x3 x4 x5 x6 x7 x8) (Hd x0 x1 x2 x7))) (by kernel_rfl) rfl fun _=>w1 fun h=>qf0 _ _ _ _ _ _ _ _ _ h
section
variable {β:Type} (z:(LL × LL × LI × Int × LI × LI)->Option β) (x0:LI) (x1:L3) (x2 x3:LL) (x4:LI) (x5:Int) (x6 x7:LI) (x8:LL)
def Km:Option β:=(ob (KV x0 x1 x2 x3 x4 x5 x6 x7 x8) fun r1=>(ob (jC FU (x6.length:Int) 0 x0 x1 r1 x3 x4 x5 x6 x7 x8) fun r2=>(ob (JM x0 x1 r1 x3 x4 x5 x6 r2 x8) fun r3=>(z (r1,r3.1,r3.2.1,r3.2.2.1,r3.2.2.2,r2)))))
def JL:=Km some x0 x1 x2 x3 x4 x5 x6 x7 x8
def Hb:(LL×LL×LI×Int×LI×LI)->Ex×CS:=fun r=>(.normal,⟨[],[],[bx2 x0 x1 r.1 r.2.1 r.2.2.1 r.2.2.2.1,rd0 r.2.2.2.2.1,rd0 r.2.2.2.2.2],3,false⟩)
abbrev qdf:CS:=⟨[(1,vP 4),(2,vP 3)],[],[bx2 x0 x1 x2 x3 x4 x5,rd0 x6,rd0 x7,.box 31 [kd2 x8],.box 53 [.ptr 0 0]],3,false⟩
theorem qfY {k:Nat} {r:LL×LL×LI×Int×LI×LI}:JL x0 x1 x2 x3 x4 x5 x6 x7 x8=some r->pE S139 34 20 0 k (qdf x0 x1 x2 x3 x4 x5 x6 x7 x8)=some (Hb x0 x1 r):=lP (Km (sm (Hb x0 x1)) x0 x1 x2 x3 x4 x5 x6 x7 x8) (by kernel_rfl) (by unfold JL Km;with_reducible repeat' first|apply zd|exact nX|exact sX)
end
def S140:=S139.pc 34 20 0 (qdf [] [] [] [] [] 0 [] [] []) (fun x0 x1 x2 x3 x4 x5 x6 x7 x8=>some (y1 (JL x0 x1 x2 x3 x4 x5 x6 x7 x8) (Hb x0 x1))) (by kernel_rfl) rfl fun _=>w1 fun h=>qfY _ _ _ _ _ _ _ _ _ h
section
variable {β:Type} (z:(LL × LL × LI × Int × LI × LI)->Option β) (x0:LI) (x1:L3) (x2 x3:LL) (x4:LI) (x5:Int) (x6 x7:LI)
def tv34:Option β:=(ob (KU x0 x1 x2 x3 x4 x5 x6 x7) fun r1=>(ob (JL x0 x1 x2 x3 x4 x5 x6 x7 r1) fun r2=>(z (r2.1,r2.2.1,r2.2.2.1,r2.2.2.2.1,r2.2.2.2.2.1,r2.2.2.2.2.2))))
def v34:=tv34 some x0 x1 x2 x3 x4 x5 x6 x7
abbrev aF34:List TA:=[.sc (.ptr 0 0)]
abbrev hF34:List TO:=[bx2 x0 x1 x2 x3 x4 x5,rd0 x6,rd0 x7]
abbrev rF34:(LL×LL×LI×Int×LI×LI)->List TA×List TO:=fun r=>([],[bx2 x0 x1 r.1 r.2.1 r.2.2.1 r.2.2.2.1,rd0 r.2.2.2.2.1,rd0 r.2.2.2.2.2])
theorem ev34:fE S140 34 aF34 (hF34 x0 x1 x2 x3 x4 x5 x6 x7)=(v34 x0 x1 x2 x3 x4 x5 x6 x7).bind (sm (rF34 x0 x1)):=zE (fun z=>tv34 z x0 x1 x2 x3 x4 x5 x6 x7) (by kernel_rfl) fun K=>by unfold v34 tv34;with_reducible repeat' first|apply zc|exact nB|exact sB
end
def S141:=S140.fn 34 aF34 (hF34 [] [] [] [] [] 0 [] []) (fun x0 x1 x2 x3 x4 x5 x6 x7=>some (y1 (v34 x0 x1 x2 x3 x4 x5 x6 x7) (rF34 x0 x1))) rfl fun _=>w1 fun h=>(ev34 ..).trans (bD h)
section
variable {β:Type} (y:Int->Int->Int->LI->L3->LL->LL->LI->Int->LI->LI->LL->LI->Option β) (z:(LL × LL × LI × Int × LI × LI)->Option β) (x0 x1 x2:Int) (x3:LI) (x4:L3) (x5 x6:LL) (x7:LI) (x8:Int) (x9 x10:LI) (x11:LL) (x12:LI)
def gN:Option β:=(cond (decide (x1 < x0)) (ob (v34 x3 x4 x5 x6 x7 x8 x9 x10) fun r1=>(y x0 (wI (x1+1)) x2 x3 x4 (r1.1) (r1.2.1) (r1.2.2.1) (r1.2.2.2.1) (r1.2.2.2.2.1) (r1.2.2.2.2.2) x11 x12)) (z (x5,x6,x7,x8,x9,x10)))
def jd:=itL (fun _ _ _ _ _ _ _ _ _ _ _ _ _=>none) fun f=>gN f some
theorem DT (n:Nat):jd (n+1)=gN (jd n) some:=rfl
def SH:(LL×LL×LI×Int×LI×LI)->Ex×CS:=fun r=>((.exit 4),⟨[(4,.l 4 0),(6,vP 0)],[(4,[.g 3,.g 4,I4 x2])],[bx2 x3 x4 r.1 r.2.1 r.2.2.1 r.2.2.2.1,rd0 r.2.2.2.2.1,rd0 r.2.2.2.2.2,rd1 x11,rd0 x12],0,false⟩)
abbrev Dk:CS:=⟨[(4,.l 4 0),(6,vP 0),(75,vI x0),(76,vI x1)],[(4,[.g 3,.g 4,I4 x2])],[bx2 x3 x4 x5 x6 x7 x8,rd0 x9,rd0 x10,rd1 x11,rd0 x12],0,false⟩
theorem qfG {k m n:Nat} {r:LL×LL×LI×Int×LI×LI} (h:jd n x0 x1 x2 x3 x4 x5 x6 x7 x8 x9 x10 x11 x12=some r):lE S141 14 4 k (n+m) (Dk x0 x1 x2 x3 x4 x5 x6 x7 x8 x9 x10 x11 x12)=some (SH x2 x3 x4 x11 x12 r):=by
 induction n generalizing x1 x5 x6 x7 x8 x9 x10 with
 |zero=>cases h
 |succ n ih=>
 exact lS (gN (fun x0 x1 x2 x3 x4 x5 x6 x7 x8 x9 x10 x11 x12=>lE S141 14 4 k (n+m) (Dk x0 x1 x2 x3 x4 x5 x6 x7 x8 x9 x10 x11 x12)) (sm (SH x2 x3 x4 x11 x12)) x0 x1 x2 x3 x4 x5 x6 x7 x8 x9 x10 x11 x12) (by kernel_rfl) (by rw [DT];unfold gN;with_reducible repeat' first|apply zd|exact ih _ _ _ _ _ _ _|exact nX|exact sX) h
end
def S142:=S141.lp 14 4 (Dk 0 0 0 [] [] [] [] [] 0 [] [] [] []) (fun x0 x1 x2 x3 x4 x5 x6 x7 x8 x9 x10 x11 x12=>some (y1 (jd FU x0 x1 x2 x3 x4 x5 x6 x7 x8 x9 x10 x11 x12) (SH x2 x3 x4 x11 x12))) (by kernel_rfl) fun _=>w1 fun h=>qfG _ _ _ _ _ _ _ _ _ _ _ _ _ h
section
variable {β:Type} (z:(Int × LL × LI × Int)->Option β) (x0 x1:Int) (x2:LI) (x3:L3) (x4 x5:LL) (x6:LI) (x7:Int) (x8 x9:LI) (x10:LL) (x11:LI)
def Jr:Option β:=(ob (jd FU (wI (x0+1)) 0 x1 x2 x3 x4 x5 x6 x7 x8 x9 x10 x11) fun r1=>(z (0,r1.2.1,r1.2.2.1,r1.2.2.2.1)))
def GN:=Jr some x0 x1 x2 x3 x4 x5 x6 x7 x8 x9 x10 x11
def KZ:(Int×LL×LI×Int)->Ex×CS:=fun r=>(.ret,⟨[(4,.l 4 0),(5,vI r.1)],[(4,[kd2 r.2.1,kd0 r.2.2.1,I4 r.2.2.2])],[],0,true⟩)
abbrev qcf:CS:=⟨[(1,vI x0),(4,.l 4 0),(6,vP 0)],[(4,[.g 3,.g 4,I4 x1])],[bx2 x2 x3 x4 x5 x6 x7,rd0 x8,rd0 x9,rd1 x10,rd0 x11],0,false⟩
theorem qeD {k:Nat} {r:Int×LL×LI×Int}:GN x0 x1 x2 x3 x4 x5 x6 x7 x8 x9 x10 x11=some r->pE S142 14 140 0 k (qcf x0 x1 x2 x3 x4 x5 x6 x7 x8 x9 x10 x11)=some (KZ r):=lP (Jr (sm KZ) x0 x1 x2 x3 x4 x5 x6 x7 x8 x9 x10 x11) (by kernel_rfl) (by unfold GN Jr;with_reducible repeat' first|apply zd|exact nX|exact sX)
end
def S143:=S142.pc 14 140 0 (qcf 0 0 [] [] [] [] [] 0 [] [] [] []) (fun x0 x1 x2 x3 x4 x5 x6 x7 x8 x9 x10 x11=>some (y1 (GN x0 x1 x2 x3 x4 x5 x6 x7 x8 x9 x10 x11) KZ)) (by kernel_rfl) rfl fun _=>w1 fun h=>qeD _ _ _ _ _ _ _ _ _ _ _ _ h
section
variable {β:Type} (z:((Int × Int) ⊕ (Int × LL × LI × Int))->Option β) (x0:Int) (x1:LI) (x2:L3) (x3:Int) (x4:LI) (x5:L3) (x6 x7:LL) (x8:LI) (x9:Int) (x10 x11:LI) (x12:LL) (x13:LI)
def Kl:Option β:=(cond (isL (qO FU x0 (x2.length:Int) 0 x3 x4 x5 x6 x7 x8 x9 x10 x11 x12 x13)) (z (.inl ((zx (qO FU x0 (x2.length:Int) 0 x3 x4 x5 x6 x7 x8 x9 x10 x11 x12 x13)).1,(zx (qO FU x0 (x2.length:Int) 0 x3 x4 x5 x6 x7 x8 x9 x10 x11 x12 x13)).2))) (ob (zB (qO FU x0 (x2.length:Int) 0 x3 x4 x5 x6 x7 x8 x9 x10 x11 x12 x13)) fun _=>(ob (GN x0 x3 x4 x5 x6 x7 x8 x9 x10 x11 x12 x13) fun r2=>(z (.inr (r2.1,r2.2.1,r2.2.2.1,r2.2.2.2))))))
def gj (x0:Int) (x1:LI) (x2:L3) (x3:Int) (x4:LI) (x5:L3) (x6 x7:LL) (x8:LI) (x9:Int) (x10 x11:LI) (x12:LL) (x13:LI):Option ((Int×Int) ⊕ (Int×LL×LI×Int)):=Kl some x0 x2 x3 x4 x5 x6 x7 x8 x9 x10 x11 x12 x13
def SJ:((Int×Int) ⊕ (Int×LL×LI×Int))->Ex×CS:=Sum.elim (fun r=>(.ret,⟨[(4,.l 4 0),(5,vI r.1)],[(4,[.nil,.nil,I4 r.2])],[],0,true⟩)) fun r=>(.ret,⟨[(4,.l 4 0),(5,vI r.1)],[(4,[kd2 r.2.1,kd0 r.2.2.1,I4 r.2.2.2])],[],0,true⟩)
abbrev qde:CS:=⟨[(1,vI x0),(2,.l 2 0),(4,.l 4 0),(6,vP 0)],[(2,[kd0 x1,kd1 x2]),(4,[.g 3,.g 4,I4 x3])],[bx2 x4 x5 x6 x7 x8 x9,rd0 x10,rd0 x11,rd1 x12,rd0 x13],0,false⟩
theorem qfI {k:Nat} {r:(Int×Int) ⊕ (Int×LL×LI×Int)}:gj x0 x1 x2 x3 x4 x5 x6 x7 x8 x9 x10 x11 x12 x13=some r->pE S143 14 84 0 k (qde x0 x1 x2 x3 x4 x5 x6 x7 x8 x9 x10 x11 x12 x13)=some (SJ r):=lP (Kl (sm SJ) x0 x2 x3 x4 x5 x6 x7 x8 x9 x10 x11 x12 x13) (by kernel_rfl) (by unfold gj Kl;with_reducible repeat' first|apply zd|exact nX|exact sX)
end
def S144:=S143.pc 14 84 0 (qde 0 [] [] 0 [] [] [] [] [] 0 [] [] [] []) (fun x0 x1 x2 x3 x4 x5 x6 x7 x8 x9 x10 x11 x12 x13=>some (y2 (gj x0 x1 x2 x3 x4 x5 x6 x7 x8 x9 x10 x11 x12 x13) SJ)) (by kernel_rfl) rfl fun _=>w2 fun h=>qfI _ _ _ _ _ _ _ _ _ _ _ _ _ _ h
section
variable {β:Type} (z:((Int × Int) ⊕ (Int × LL × LI × Int))->Option β) (x0:Int) (x1:LI) (x2:L3) (x3:Int) (x4:LI) (x5:L3) (x6:LL) (x7:LI) (x8:Int) (x9 x10:LI) (x11:LL) (x12:LI)
def Kk:Option β:=(ob (jN FU x0 (x9.length:Int) 0 x1 x2 x3 x4 x5 x6 x7 x8 x9 x10 x11 x12) fun r1=>(ob (v31 x4 x5 x6 x7 x8 r1 x10) fun r2=>(cond (isL (gj x0 x1 x2 x3 x4 x5 r2 x6 x7 x8 r1 x10 x11 x12)) (z (.inl ((zx (gj x0 x1 x2 x3 x4 x5 r2 x6 x7 x8 r1 x10 x11 x12)).1,(zx (gj x0 x1 x2 x3 x4 x5 r2 x6 x7 x8 r1 x10 x11 x12)).2))) (ob (zB (gj x0 x1 x2 x3 x4 x5 r2 x6 x7 x8 r1 x10 x11 x12)) fun r3=>(z (.inr (r3.1,r3.2.1,r3.2.2.1,r3.2.2.2)))))))
def qL:=Kk some x0 x1 x2 x3 x4 x5 x6 x7 x8 x9 x10 x11 x12
def SI:((Int×Int) ⊕ (Int×LL×LI×Int))->Ex×CS:=Sum.elim (fun r=>(.ret,⟨[(4,.l 4 0),(5,vI r.1)],[(4,[.nil,.nil,I4 r.2])],[],0,true⟩)) fun r=>(.ret,⟨[(4,.l 4 0),(5,vI r.1)],[(4,[kd2 r.2.1,kd0 r.2.2.1,I4 r.2.2.2])],[],0,true⟩)
abbrev qdd:CS:=⟨[(1,vI x0),(2,.l 2 0),(4,.l 4 0),(6,vP 0),(24,.l 2 0),(28,.l 2 0)],[(2,[kd0 x1,kd1 x2]),(4,[.g 3,.g 4,I4 x3])],[bx0 x4 x5 x6 x7 x8,rd0 x9,rd0 x10,rd1 x11,rd0 x12],0,false⟩
theorem qfH {k:Nat} {r:(Int×Int) ⊕ (Int×LL×LI×Int)}:qL x0 x1 x2 x3 x4 x5 x6 x7 x8 x9 x10 x11 x12=some r->pE S144 14 36 0 k (qdd x0 x1 x2 x3 x4 x5 x6 x7 x8 x9 x10 x11 x12)=some (SI r):=lP (Kk (sm SI) x0 x1 x2 x3 x4 x5 x6 x7 x8 x9 x10 x11 x12) (by kernel_rfl) (by unfold qL Kk;with_reducible repeat' first|apply zd|exact nX|exact sX)
end
def S145:=S144.pc 14 36 0 (qdd 0 [] [] 0 [] [] [] [] 0 [] [] [] []) (fun x0 x1 x2 x3 x4 x5 x6 x7 x8 x9 x10 x11 x12=>some (y2 (qL x0 x1 x2 x3 x4 x5 x6 x7 x8 x9 x10 x11 x12) SI)) (by kernel_rfl) rfl fun _=>w2 fun h=>qfH _ _ _ _ _ _ _ _ _ _ _ _ _ h
section
variable {β:Type} (z:(LL × LI × Int × Int)->Option β) (x0:LI) (x1:L3) (x2:Int)
def tv14:Option β:=(ob (v28 x0 x1) fun r1=>(cond (!r1) (z ([],[],0,(1:Int))) (cond (decide (x2 < 0)) (z ([],[],0,(1:Int))) (cond (decide (x2 > (1000:Int))) (z ([],[],0,(1:Int))) (cond (decide ((x0.length:Int)<=(x0.length:Int))) (cond (decide ((x0.length:Int)<=(↑(nat_lit 2147483648):Int))) (cond (isL (qL x2 x0 x1 0 x0 x1 [] [] 0 (List.replicate (x0.length:Int).toNat 0) (List.replicate (x0.length:Int).toNat 0) [] [])) (z ([],[],(zx (qL x2 x0 x1 0 x0 x1 [] [] 0 (List.replicate (x0.length:Int).toNat 0) (List.replicate (x0.length:Int).toNat 0) [] [])).2,(zx (qL x2 x0 x1 0 x0 x1 [] [] 0 (List.replicate (x0.length:Int).toNat 0) (List.replicate (x0.length:Int).toNat 0) [] [])).1)) (ob (zB (qL x2 x0 x1 0 x0 x1 [] [] 0 (List.replicate (x0.length:Int).toNat 0) (List.replicate (x0.length:Int).toNat 0) [] [])) fun r2=>(z (r2.2.1,r2.2.2.1,r2.2.2.2,r2.1)))) none) none)))))
def v14:=tv14 some x0 x1 x2
def uv14:Option β:=(ob (v28 x0 x1) fun r1=>(cond (!r1) (z ([],[],0,(1:Int))) (cond (decide (x2 < 0)) (z ([],[],0,(1:Int))) (cond (decide (x2 > (1000:Int))) (z ([],[],0,(1:Int))) (cond (decide ((x0.length:Int)<=(x0.length:Int))) (cond (decide ((x0.length:Int)<=(↑(nat_lit 2147483648):Int))) (cond (decide ((x0.length:Int)<=(x0.length:Int))) (cond (decide ((x0.length:Int)<=(↑(nat_lit 2147483648):Int))) (cond (isL (qL x2 x0 x1 0 x0 x1 [] [] 0 (List.replicate (x0.length:Int).toNat 0) (List.replicate (x0.length:Int).toNat 0) [] [])) (z ([],[],(zx (qL x2 x0 x1 0 x0 x1 [] [] 0 (List.replicate (x0.length:Int).toNat 0) (List.replicate (x0.length:Int).toNat 0) [] [])).2,(zx (qL x2 x0 x1 0 x0 x1 [] [] 0 (List.replicate (x0.length:Int).toNat 0) (List.replicate (x0.length:Int).toNat 0) [] [])).1)) (ob (zB (qL x2 x0 x1 0 x0 x1 [] [] 0 (List.replicate (x0.length:Int).toNat 0) (List.replicate (x0.length:Int).toNat 0) [] [])) fun r2=>(z (r2.2.1,r2.2.2.1,r2.2.2.2,r2.1)))) none) none) none) none)))))
abbrev aF14:List TA:=[.agg [kd0 x0,kd1 x1],.sc (I4 x2)]
abbrev rF14:(LL×LI×Int×Int)->List TA×List TO:=fun r=>([.agg [kd2 r.1,kd0 r.2.1,I4 r.2.2.1],.sc (I4 r.2.2.2)],[])
theorem ev14:fE S145 14 (aF14 x0 x1 x2) []=(v14 x0 x1 x2).bind (sm rF14):=zE (fun z=>uv14 z x0 x1 x2) (by kernel_rfl) fun K=>by unfold v14 tv14 uv14;with_reducible repeat' first|apply bT ‹_›|apply bF ‹_›|(apply Yi<;>intro _)|exact nB|exact sB
end
def S146:=S145.fn 14 (aF14 [] [] 0) [] (fun x0 x1 x2=>some (y1 (v14 x0 x1 x2) rF14)) rfl fun _=>w1 fun h=>(ev14 ..).trans (bD h)
section
variable {β:Type} (y:LL->Int->Int->LI->L3->Option β) (z:(Bool ⊕ Unit)->Option β) (x0:LL) (x1 x2:Int) (x3:LI) (x4:L3)
def G2:Option β:=(ck x1 (x4.length:Int) (cond (decide (x2 < (↑(List.length (List.getD x4 x1.toNat [])):Int))) (cond (decide (0<=x2)) (cond (decide ((↑(List.length (List.getD (List.getD x4 x1.toNat []) x2.toNat [])):Int) > (20:Int))) (z (.inl (false))) (y x0 x1 (wI (x2+1)) x3 x4)) none) (z (.inr ()))))
def qdw:Option β:=(ck x1 (x4.length:Int) (cond (decide (x2 < (↑(List.length (List.getD x4 x1.toNat [])):Int))) (ck x1 (x4.length:Int) (ck x2 (↑(List.length (List.getD x4 x1.toNat [])):Int) (cond (decide ((↑(List.length (List.getD (List.getD x4 x1.toNat []) x2.toNat [])):Int) > (20:Int))) (z (.inl (false))) (y x0 x1 (wI (x2+1)) x3 x4)))) (z (.inr ()))))
def qH:=itL (fun _ _ _ _ _=>none) fun f=>G2 f some
theorem DP (n:Nat):qH (n+1)=G2 (qH n) some:=rfl
def SD:(Bool ⊕ Unit)->Ex×CS:=Sum.elim (fun r=>(.ret,⟨[(6,vB r)],[],[],0,true⟩)) fun r=>((.exit 2),⟨[(1,vd1 x0),(3,.l 3 0),(7,vI x1),(45,.l 3 1)],[(3,[kd0 x3,kd1 x4])],[],0,false⟩)
abbrev Dg:CS:=⟨[(1,vd1 x0),(3,.l 3 0),(7,vI x1),(8,vI x2)],[(3,[kd0 x3,kd1 x4])],[],0,false⟩
theorem qfC {k m n:Nat} {r:Bool ⊕ Unit} (h:qH n x0 x1 x2 x3 x4=some r):lE S146 11 2 k (n+m) (Dg x0 x1 x2 x3 x4)=some (SD x0 x1 x3 x4 r):=by
 induction n generalizing x2 with
 |zero=>cases h
 |succ n ih=>
 exact lS (qdw (fun x0 x1 x2 x3 x4=>lE S146 11 2 k (n+m) (Dg x0 x1 x2 x3 x4)) (sm (SD x0 x1 x3 x4)) x0 x1 x2 x3 x4) (by kernel_rfl) (by rw [DP];unfold G2 qdw;with_reducible repeat' first|apply gT ‹_›|apply gF ‹_›|(apply zz<;>intro _)|exact ih _|exact nX|exact sX) h
end
def S147:=S146.lp 11 2 (Dg [] 0 0 [] []) (fun x0 x1 x2 x3 x4=>some (y2 (qH FU x0 x1 x2 x3 x4) (SD x0 x1 x3 x4))) (by kernel_rfl) fun _=>w2 fun h=>qfC _ _ _ _ _ h
section
variable {β:Type} (y:LL->Int->LI->L3->Option β) (z:(Bool ⊕ Unit)->Option β) (x0:LL) (x1:Int) (x2:LI) (x3:L3)
def JQ:Option β:=(cond (decide (x1 < (x3.length:Int))) (cond (decide (0<=x1)) (cond (decide ((↑(List.length (List.getD x3 x1.toNat [])):Int) > (20:Int))) (z (.inl (false))) (cond (isL (qH FU x0 x1 0 x2 x3)) (z (.inl (zx (qH FU x0 x1 0 x2 x3)))) (ob (zB (qH FU x0 x1 0 x2 x3)) fun _=>(y x0 (wI (x1+1)) x2 x3)))) none) (z (.inr ())))
def qd2:Option β:=(cond (decide (x1 < (x3.length:Int))) (ck x1 (x3.length:Int) (cond (decide ((↑(List.length (List.getD x3 x1.toNat [])):Int) > (20:Int))) (z (.inl (false))) (cond (isL (qH FU x0 x1 0 x2 x3)) (z (.inl (zx (qH FU x0 x1 0 x2 x3)))) (ob (zB (qH FU x0 x1 0 x2 x3)) fun _=>(y x0 (wI (x1+1)) x2 x3))))) (z (.inr ())))
def jx:=itL (fun _ _ _ _=>none) fun f=>JQ f some
theorem qaJ (n:Nat):jx (n+1)=JQ (jx n) some:=rfl
def qbs:(Bool ⊕ Unit)->Ex×CS:=Sum.elim (fun r=>(.ret,⟨[(6,vB r)],[],[],0,true⟩)) fun r=>((.exit 0),⟨[(1,vd1 x0),(3,.l 3 0),(31,.l 3 1)],[],[],0,false⟩)
abbrev HN:CS:=⟨[(1,vd1 x0),(3,.l 3 0),(7,vI x1)],[(3,[kd0 x2,kd1 x3])],[],0,false⟩
theorem qg3 {k m n:Nat} {r:Bool ⊕ Unit} (h:jx n x0 x1 x2 x3=some r):lE S147 11 0 k (n+m) (HN x0 x1 x2 x3)=some (qbs x0 r):=by
 induction n generalizing x1 with
 |zero=>cases h
 |succ n ih=>
 exact lS (qd2 (fun x0 x1 x2 x3=>lE S147 11 0 k (n+m) (HN x0 x1 x2 x3)) (sm (qbs x0)) x0 x1 x2 x3) (by kernel_rfl) (by rw [qaJ];unfold JQ qd2;with_reducible repeat' first|apply gT ‹_›|apply gF ‹_›|(apply zz<;>intro _)|exact ih _|exact nX|exact sX) h
end
def S148:=S147.lp 11 0 (HN [] 0 [] []) (fun x0 x1 x2 x3=>some (y2 (jx FU x0 x1 x2 x3) (qbs x0))) (by kernel_rfl) fun _=>w2 fun h=>qg3 _ _ _ _ h
section
variable {β:Type} (y:LL->Int->Option β) (z:(Bool ⊕ Unit)->Option β) (x0:LL) (x1:Int)
def G3:Option β:=(cond (decide (x1 < (x0.length:Int))) (cond (decide (0<=x1)) (cond (decide ((↑(List.length (List.getD x0 x1.toNat [])):Int) > (20:Int))) (z (.inl (false))) (y x0 (wI (x1+1)))) none) (z (.inr ())))
def qdx:Option β:=(cond (decide (x1 < (x0.length:Int))) (ck x1 (x0.length:Int) (cond (decide ((↑(List.length (List.getD x0 x1.toNat [])):Int) > (20:Int))) (z (.inl (false))) (y x0 (wI (x1+1))))) (z (.inr ())))
def qT:=itL (fun _ _=>none) fun f=>G3 f some
theorem DQ (n:Nat):qT (n+1)=G3 (qT n) some:=rfl
def SE:(Bool ⊕ Unit)->Ex×CS:=Sum.elim (fun r=>(.ret,⟨[(6,vB r)],[],[],0,true⟩)) fun r=>((.exit 4),⟨[],[],[],0,false⟩)
abbrev Dh:CS:=⟨[(1,vd1 x0),(9,vI x1)],[],[],0,false⟩
theorem qfD {k m n:Nat} {r:Bool ⊕ Unit} (h:qT n x0 x1=some r):lE S148 11 4 k (n+m) (Dh x0 x1)=some (SE r):=by
 induction n generalizing x1 with
 |zero=>cases h
 |succ n ih=>
 exact lS (qdx (fun x0 x1=>lE S148 11 4 k (n+m) (Dh x0 x1)) (sm SE) x0 x1) (by kernel_rfl) (by rw [DQ];unfold G3 qdx;with_reducible repeat' first|apply gT ‹_›|apply gF ‹_›|(apply zz<;>intro _)|exact ih _|exact nX|exact sX) h
end
def S149:=S148.lp 11 4 (Dh [] 0) (fun x0 x1=>some (y2 (qT FU x0 x1) SE)) (by kernel_rfl) fun _=>w2 fun h=>qfD _ _ h
section
variable {β:Type} (z:Bool->Option β) (x0:LI) (x1:L3) (x2:LL) (x3:LI)
def tv11:Option β:=(cond (decide ((x0.length:Int) > (20:Int))) (z false) (cond (decide ((x1.length:Int) > (20:Int))) (z false) (cond (decide ((x2.length:Int) > (20:Int))) (z false) (cond (decide ((x3.length:Int) > (20:Int))) (z false) (cond (isL (jx FU x2 0 x0 x1)) (z (zx (jx FU x2 0 x0 x1))) (ob (zB (jx FU x2 0 x0 x1)) fun _=>(cond (isL (qT FU x2 0)) (z (zx (qT FU x2 0))) (ob (zB (qT FU x2 0)) fun _=>(z true)))))))))
def v11:=tv11 some x0 x1 x2 x3
abbrev aF11:List TA:=[.agg [kd0 x0,kd1 x1],.sc (kd2 x2),.sc (kd0 x3)]
abbrev rF11:Bool->List TA×List TO:=fun r=>([.sc (.bool r)],[])
theorem ev11:fE S149 11 (aF11 x0 x1 x2 x3) []=(v11 x0 x1 x2 x3).bind (sm rF11):=zE (fun z=>tv11 z x0 x1 x2 x3) (by kernel_rfl) fun K=>by unfold v11 tv11;with_reducible repeat' first|apply zc|exact nB|exact sB
end
def S150:=S149.fn 11 (aF11 [] [] [] []) [] (fun x0 x1 x2 x3=>some (y1 (v11 x0 x1 x2 x3) rF11)) rfl fun _=>w1 fun h=>(ev11 ..).trans (bD h)
end
end Go.Proofs.Ytpfphfobneehmaa
