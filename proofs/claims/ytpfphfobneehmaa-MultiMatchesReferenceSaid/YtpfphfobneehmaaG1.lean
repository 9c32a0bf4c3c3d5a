/- What some functions and loops come to: printed and checked. Written by a program of ours. -/
import Derived.Test.YtpfphfobneehmaaG0
set_option linter.all false
set_option maxRecDepth 1000000
set_option maxHeartbeats 4000000
namespace Go.Proofs.Ytpfphfobneehmaa
open Go Go.AM Go.TM Go.Proofs
noncomputable section
section
variable {β:Type} (y:Int->Int->Int->Int->Int->Int->Int->Int->Int->Option β) (z:Int->Option β) (x0 x1 x2 x3 x4 x5 x6 x7 x8:Int)
def Jr:Option β:=(cond (decide (x8≥(4294967296:Int))) (cond (decide (wU (x6+x2)≥(4294967296:Int))) (z (wU (x8 - (1:Int)))) (y x0 x1 x2 x3 x4 x5 (wU (x6+x2)) x7 (wU (x8 - (1:Int))))) (cond (decide (wU (x8*x3) > wU (wU ((4294967296:Int)*x6)+x4))) (cond (decide (wU (x6+x2)≥(4294967296:Int))) (z (wU (x8 - (1:Int)))) (y x0 x1 x2 x3 x4 x5 (wU (x6+x2)) x7 (wU (x8 - (1:Int))))) (z x8)))
def gJ:=itL (fun _ _ _ _ _ _ _ _ _=>none) fun f=>Jr f some
theorem qdF (n:Nat):gJ (n+1)=Jr (gJ n) some:=rfl
def Hw:Int->Ex×CS:=fun r=>((.exit 2),⟨[(2,.v (.sc (.int .u64 x0))),(8,.v (.sc (.int .u64 x1))),(14,.v (.sc (.int .u64 x4))),(15,.v (.sc (.int .u64 x5))),(17,.v (.sc (.int .u64 x7))),(18,.v (.sc (.int .u64 r)))],[],[],0,false⟩)
abbrev DT:CS:=⟨[(2,.v (.sc (.int .u64 x0))),(8,.v (.sc (.int .u64 x1))),(9,.v (.sc (.int .u64 x2))),(10,.v (.sc (.int .u64 x3))),(14,.v (.sc (.int .u64 x4))),(15,.v (.sc (.int .u64 x5))),(16,.v (.sc (.int .u64 x6))),(17,.v (.sc (.int .u64 x7))),(18,.v (.sc (.int .u64 x8)))],[],[],0,false⟩
theorem qgv {k m n:Nat} {r:Int} (h:gJ n x0 x1 x2 x3 x4 x5 x6 x7 x8=some r):lE S77 74 2 k (n+m) (DT x0 x1 x2 x3 x4 x5 x6 x7 x8)=some (Hw x0 x1 x4 x5 x7 r):=by
 induction n generalizing x6 x8 with
 |zero=>cases h
 |succ n ih=>
 exact lS (Jr (fun x0 x1 x2 x3 x4 x5 x6 x7 x8=>lE S77 74 2 k (n+m) (DT x0 x1 x2 x3 x4 x5 x6 x7 x8)) (sm (Hw x0 x1 x4 x5 x7)) x0 x1 x2 x3 x4 x5 x6 x7 x8) (by kernel_rfl) (by rw [qdF];unfold Jr;with_reducible repeat' first|apply zd|exact ih _ _|exact nX|exact sX) h
end
def S78:=S77.lp 74 2 (DT 0 0 0 0 0 0 0 0 0) (fun x0 x1 x2 x3 x4 x5 x6 x7 x8=>some (y1 (gJ FU x0 x1 x2 x3 x4 x5 x6 x7 x8) (Hw x0 x1 x4 x5 x7))) (by kernel_rfl) fun _=>w1 fun h=>qgv _ _ _ _ _ _ _ _ _ h
section
variable {β:Type} (z:(Int × Int)->Option β) (x0 x1 x2 x3 x4 x5:Int)
def JI:Option β:=(cond (decide (0<=x1)) (z (wU (wU (x3*4294967296)+x5),Int.fdiv (wU (wU (wU (x4*4294967296)+x2) - wU (x5*x0))) ((2:Int) ^ min x1.toNat (IntKind.bits IntKind.u64)))) none)
def G3:=JI some x0 x1 x2 x3 x4 x5
def Dl:(Int×Int)->Ex×CS:=fun r=>(.ret,⟨[(6,.v (.sc (.int .u64 r.1))),(7,.v (.sc (.int .u64 r.2)))],[],[],0,true⟩)
abbrev qcE:CS:=⟨[(2,.v (.sc (.int .u64 x0))),(8,.v (.sc (.int .u64 x1))),(14,.v (.sc (.int .u64 x2))),(15,.v (.sc (.int .u64 x3))),(17,.v (.sc (.int .u64 x4))),(18,.v (.sc (.int .u64 x5)))],[],[],0,false⟩
theorem qfa {k:Nat} {r:Int×Int}:G3 x0 x1 x2 x3 x4 x5=some r->pE S78 74 228 0 k (qcE x0 x1 x2 x3 x4 x5)=some (Dl r):=lP (JI (sm Dl) x0 x1 x2 x3 x4 x5) (by kernel_rfl) (by unfold G3 JI;with_reducible repeat' first|apply zd|exact nX|exact sX)
end
def S79:=S78.pc 74 228 0 (qcE 0 0 0 0 0 0) (fun x0 x1 x2 x3 x4 x5=>some (y1 (G3 x0 x1 x2 x3 x4 x5) Dl)) (by kernel_rfl) rfl fun _=>w1 fun h=>qfa _ _ _ _ _ _ h
section
variable {β:Type} (z:(Int × Int)->Option β) (x0 x1 x2 x3 x4 x5 x6 x7:Int)
def JH:Option β:=(ob (gJ FU x0 x1 x2 x3 x4 x5 (wU (x6 - wU (x7*x2))) x6 x7) fun r1=>(ob (G3 x0 x1 x4 x5 x6 r1) fun r2=>(z (r2.1,r2.2))))
def G2:=JH some x0 x1 x2 x3 x4 x5 x6 x7
def Dk:(Int×Int)->Ex×CS:=fun r=>(.ret,⟨[(6,.v (.sc (.int .u64 r.1))),(7,.v (.sc (.int .u64 r.2)))],[],[],0,true⟩)
abbrev qcD:CS:=⟨[(2,.v (.sc (.int .u64 x0))),(8,.v (.sc (.int .u64 x1))),(9,.v (.sc (.int .u64 x2))),(10,.v (.sc (.int .u64 x3))),(14,.v (.sc (.int .u64 x4))),(15,.v (.sc (.int .u64 x5))),(17,.v (.sc (.int .u64 x6))),(18,.v (.sc (.int .u64 x7)))],[],[],0,false⟩
theorem qe9 {k:Nat} {r:Int×Int}:G2 x0 x1 x2 x3 x4 x5 x6 x7=some r->pE S79 74 188 0 k (qcD x0 x1 x2 x3 x4 x5 x6 x7)=some (Dk r):=lP (JH (sm Dk) x0 x1 x2 x3 x4 x5 x6 x7) (by kernel_rfl) (by unfold G2 JH;with_reducible repeat' first|apply zd|exact nX|exact sX)
end
def S80:=S79.pc 74 188 0 (qcD 0 0 0 0 0 0 0 0) (fun x0 x1 x2 x3 x4 x5 x6 x7=>some (y1 (G2 x0 x1 x2 x3 x4 x5 x6 x7) Dk)) (by kernel_rfl) rfl fun _=>w1 fun h=>qe9 _ _ _ _ _ _ _ _ h
section
variable {β:Type} (z:(Int × Int)->Option β) (x0 x1 x2 x3 x4 x5 x6:Int)
def JG:Option β:=(cond (decide (x2≠0)) (ob (G2 x0 x1 x2 x3 x4 x5 x6 (wU (Int.tdiv x6 x2))) fun r1=>(z (r1.1,r1.2))) none)
def G1:=JG some x0 x1 x2 x3 x4 x5 x6
def Dj:(Int×Int)->Ex×CS:=fun r=>(.ret,⟨[(6,.v (.sc (.int .u64 r.1))),(7,.v (.sc (.int .u64 r.2)))],[],[],0,true⟩)
abbrev qcC:CS:=⟨[(2,.v (.sc (.int .u64 x0))),(8,.v (.sc (.int .u64 x1))),(9,.v (.sc (.int .u64 x2))),(10,.v (.sc (.int .u64 x3))),(14,.v (.sc (.int .u64 x4))),(15,.v (.sc (.int .u64 x5))),(17,.v (.sc (.int .u64 x6)))],[],[],0,false⟩
theorem qe8 {k:Nat} {r:Int×Int}:G1 x0 x1 x2 x3 x4 x5 x6=some r->pE S80 74 180 0 k (qcC x0 x1 x2 x3 x4 x5 x6)=some (Dj r):=lP (JG (sm Dj) x0 x1 x2 x3 x4 x5 x6) (by kernel_rfl) (by unfold G1 JG;with_reducible repeat' first|apply zd|exact nX|exact sX)
end
def S81:=S80.pc 74 180 0 (qcC 0 0 0 0 0 0 0) (fun x0 x1 x2 x3 x4 x5 x6=>some (y1 (G1 x0 x1 x2 x3 x4 x5 x6) Dj)) (by kernel_rfl) rfl fun _=>w1 fun h=>qe8 _ _ _ _ _ _ _ h
section
variable {β:Type} (z:(Int × Int)->Option β) (x0 x1 x2 x3 x4 x5 x6 x7:Int)
def JF:Option β:=(ob (G1 x0 x1 x2 x3 x6 x7 (wU (wU (wU (x4*4294967296)+x5) - wU (x7*x0)))) fun r1=>(z (r1.1,r1.2)))
def G0:=JF some x0 x1 x2 x3 x4 x5 x6 x7
def Di:(Int×Int)->Ex×CS:=fun r=>(.ret,⟨[(6,.v (.sc (.int .u64 r.1))),(7,.v (.sc (.int .u64 r.2)))],[],[],0,true⟩)
abbrev qcB:CS:=⟨[(2,.v (.sc (.int .u64 x0))),(8,.v (.sc (.int .u64 x1))),(9,.v (.sc (.int .u64 x2))),(10,.v (.sc (.int .u64 x3))),(11,.v (.sc (.int .u64 x4))),(13,.v (.sc (.int .u64 x5))),(14,.v (.sc (.int .u64 x6))),(15,.v (.sc (.int .u64 x7)))],[],[],0,false⟩
theorem qe7 {k:Nat} {r:Int×Int}:G0 x0 x1 x2 x3 x4 x5 x6 x7=some r->pE S81 74 172 0 k (qcB x0 x1 x2 x3 x4 x5 x6 x7)=some (Di r):=lP (JF (sm Di) x0 x1 x2 x3 x4 x5 x6 x7) (by kernel_rfl) (by unfold G0 JF;with_reducible repeat' first|apply zd|exact nX|exact sX)
end
def S82:=S81.pc 74 172 0 (qcB 0 0 0 0 0 0 0 0) (fun x0 x1 x2 x3 x4 x5 x6 x7=>some (y1 (G0 x0 x1 x2 x3 x4 x5 x6 x7) Di)) (by kernel_rfl) rfl fun _=>w1 fun h=>qe7 _ _ _ _ _ _ _ _ h
section
variable {β:Type} (z:(Int × Int)->Option β) (x0 x1 x2 x3 x4 x5 x6 x7:Int)
def JD:Option β:=(ob (Gp FU x0 x1 x2 x3 x4 x5 x6 x7 (wU (x4 - wU (x7*x2)))) fun r1=>(ob (G0 x0 x1 x2 x3 x4 x5 x6 r1) fun r2=>(z (r2.1,r2.2))))
def GZ:=JD some x0 x1 x2 x3 x4 x5 x6 x7
def Dh:(Int×Int)->Ex×CS:=fun r=>(.ret,⟨[(6,.v (.sc (.int .u64 r.1))),(7,.v (.sc (.int .u64 r.2)))],[],[],0,true⟩)
abbrev qcA:CS:=⟨[(2,.v (.sc (.int .u64 x0))),(8,.v (.sc (.int .u64 x1))),(9,.v (.sc (.int .u64 x2))),(10,.v (.sc (.int .u64 x3))),(11,.v (.sc (.int .u64 x4))),(13,.v (.sc (.int .u64 x5))),(14,.v (.sc (.int .u64 x6))),(15,.v (.sc (.int .u64 x7)))],[],[],0,false⟩
theorem qe6 {k:Nat} {r:Int×Int}:GZ x0 x1 x2 x3 x4 x5 x6 x7=some r->pE S82 74 132 0 k (qcA x0 x1 x2 x3 x4 x5 x6 x7)=some (Dh r):=lP (JD (sm Dh) x0 x1 x2 x3 x4 x5 x6 x7) (by kernel_rfl) (by unfold GZ JD;with_reducible repeat' first|apply zd|exact nX|exact sX)
end
def S83:=S82.pc 74 132 0 (qcA 0 0 0 0 0 0 0 0) (fun x0 x1 x2 x3 x4 x5 x6 x7=>some (y1 (GZ x0 x1 x2 x3 x4 x5 x6 x7) Dh)) (by kernel_rfl) rfl fun _=>w1 fun h=>qe6 _ _ _ _ _ _ _ _ h
section
variable {β:Type} (z:(Int × Int)->Option β) (x0 x1 x2 x3 x4 x5 x6:Int)
def JC:Option β:=(cond (decide (x2≠0)) (ob (GZ x0 x1 x2 x3 x4 x5 x6 (wU (Int.tdiv x4 x2))) fun r1=>(z (r1.1,r1.2))) none)
def gP:=JC some x0 x1 x2 x3 x4 x5 x6
def Dg:(Int×Int)->Ex×CS:=fun r=>(.ret,⟨[(6,.v (.sc (.int .u64 r.1))),(7,.v (.sc (.int .u64 r.2)))],[],[],0,true⟩)
abbrev qcz:CS:=⟨[(2,.v (.sc (.int .u64 x0))),(8,.v (.sc (.int .u64 x1))),(9,.v (.sc (.int .u64 x2))),(10,.v (.sc (.int .u64 x3))),(11,.v (.sc (.int .u64 x4))),(13,.v (.sc (.int .u64 x5))),(14,.v (.sc (.int .u64 x6)))],[],[],0,false⟩
theorem qe5 {k:Nat} {r:Int×Int}:gP x0 x1 x2 x3 x4 x5 x6=some r->pE S83 74 124 0 k (qcz x0 x1 x2 x3 x4 x5 x6)=some (Dg r):=lP (JC (sm Dg) x0 x1 x2 x3 x4 x5 x6) (by kernel_rfl) (by unfold gP JC;with_reducible repeat' first|apply zd|exact nX|exact sX)
end
def S84:=S83.pc 74 124 0 (qcz 0 0 0 0 0 0 0) (fun x0 x1 x2 x3 x4 x5 x6=>some (y1 (gP x0 x1 x2 x3 x4 x5 x6) Dg)) (by kernel_rfl) rfl fun _=>w1 fun h=>qe5 _ _ _ _ _ _ _ h
section
variable {β:Type} (z:(Int × Int)->Option β) (x0 x1 x2 x3 x4 x5:Int)
def JB:Option β:=(cond (decide (0<=x2)) (ob (gP x1 x2 x3 x4 x5 (Int.fdiv (wU (x0*2 ^ min x2.toNat (IntKind.bits IntKind.u64))) ((2:Int) ^ min (Int.toNat (32:Int)) (IntKind.bits IntKind.u64))) (wU (↑(BitVec.toNat (BitVec.ofInt (IntKind.bits IntKind.u64) (wU (x0*2 ^ min x2.toNat (IntKind.bits IntKind.u64))) &&& BitVec.ofInt (IntKind.bits IntKind.u64) (4294967295:Int))):Int))) fun r1=>(z (r1.1,r1.2))) none)
def GY:=JB some x0 x1 x2 x3 x4 x5
def De:(Int×Int)->Ex×CS:=fun r=>(.ret,⟨[(6,.v (.sc (.int .u64 r.1))),(7,.v (.sc (.int .u64 r.2)))],[],[],0,true⟩)
abbrev qcy:CS:=⟨[(1,.v (.sc (.int .u64 x0))),(2,.v (.sc (.int .u64 x1))),(8,.v (.sc (.int .u64 x2))),(9,.v (.sc (.int .u64 x3))),(10,.v (.sc (.int .u64 x4))),(11,.v (.sc (.int .u64 x5)))],[],[],0,false⟩
theorem qe4 {k:Nat} {r:Int×Int}:GY x0 x1 x2 x3 x4 x5=some r->pE S84 74 100 0 k (qcy x0 x1 x2 x3 x4 x5)=some (De r):=lP (JB (sm De) x0 x1 x2 x3 x4 x5) (by kernel_rfl) (by unfold GY JB;with_reducible repeat' first|apply zd|exact nX|exact sX)
end
def S85:=S84.pc 74 100 0 (qcy 0 0 0 0 0 0) (fun x0 x1 x2 x3 x4 x5=>some (y1 (GY x0 x1 x2 x3 x4 x5) De)) (by kernel_rfl) rfl fun _=>w1 fun h=>qe4 _ _ _ _ _ _ h
section
variable {β:Type} (z:(Int × Int)->Option β) (x0 x1 x2 x3:Int)
def KC:Option β:=(cond (decide (0<=x3)) (cond (decide (0<=wU ((64:Int) - x3))) (ob (GY x1 x2 x3 (Int.fdiv x2 ((2:Int) ^ min (Int.toNat (32:Int)) (IntKind.bits IntKind.u64))) (wU (↑(BitVec.toNat (BitVec.ofInt (IntKind.bits IntKind.u64) x2 &&& BitVec.ofInt (IntKind.bits IntKind.u64) (4294967295:Int))):Int)) (wU (↑(BitVec.toNat (BitVec.ofInt (IntKind.bits IntKind.u64) (wU (x0*2 ^ min x3.toNat (IntKind.bits IntKind.u64))) ||| BitVec.ofInt (IntKind.bits IntKind.u64) (Int.fdiv x1 ((2:Int) ^ min (wU ((64:Int) - x3)).toNat (IntKind.bits IntKind.u64))))):Int))) fun r1=>(z (r1.1,r1.2))) none) none)
def Gq:=KC some x0 x1 x2 x3
def Hz:(Int×Int)->Ex×CS:=fun r=>(.ret,⟨[(6,.v (.sc (.int .u64 r.1))),(7,.v (.sc (.int .u64 r.2)))],[],[],0,true⟩)
abbrev qdv:CS:=⟨[(0,.v (.sc (.int .u64 x0))),(1,.v (.sc (.int .u64 x1))),(2,.v (.sc (.int .u64 x2))),(8,.v (.sc (.int .u64 x3)))],[],[],0,false⟩
theorem qgw {k:Nat} {r:Int×Int}:Gq x0 x1 x2 x3=some r->pE S85 74 76 0 k (qdv x0 x1 x2 x3)=some (Hz r):=lP (KC (sm Hz) x0 x1 x2 x3) (by kernel_rfl) (by unfold Gq KC;with_reducible repeat' first|apply zd|exact nX|exact sX)
end
def S86:=S85.pc 74 76 0 (qdv 0 0 0 0) (fun x0 x1 x2 x3=>some (y1 (Gq x0 x1 x2 x3) Hz)) (by kernel_rfl) rfl fun _=>w1 fun h=>qgw _ _ _ _ h
section
variable {β:Type} (z:(Int × Int)->Option β) (x0 x1 x2:Int)
def tv74:Option β:=(cond (x2==0) none (cond (decide (x2<=x0)) none (cond (x0==0) (cond (decide (x2≠0)) (z (wU (Int.tdiv x1 x2),Int.tmod x1 x2)) none) (ob (v80 x2) fun r1=>(cond (decide (0<=wU r1)) (ob (Gq x0 x1 (wU (x2*2 ^ min (wU r1).toNat (IntKind.bits IntKind.u64))) (wU r1)) fun r2=>(z (r2.1,r2.2))) none)))))
def v74:=tv74 some x0 x1 x2
def uv74:Option β:=(cond (x2==0) none (cond (decide (x2<=x0)) none (cond (x0==0) (cond (decide (x2≠0)) (cond (decide (x2≠0)) (z (wU (Int.tdiv x1 x2),Int.tmod x1 x2)) none) none) (ob (v80 x2) fun r1=>(cond (decide (0<=wU r1)) (ob (Gq x0 x1 (wU (x2*2 ^ min (wU r1).toNat (IntKind.bits IntKind.u64))) (wU r1)) fun r2=>(z (r2.1,r2.2))) none)))))
abbrev aF74:List TA:=[.sc (.int .u64 x0),.sc (.int .u64 x1),.sc (.int .u64 x2)]
abbrev rF74:(Int×Int)->List TA×List TO:=fun r=>([.sc (.int .u64 r.1),.sc (.int .u64 r.2)],[])
theorem ev74:fE S86 74 (aF74 x0 x1 x2) []=(v74 x0 x1 x2).bind (sm rF74):=zE (fun z=>uv74 z x0 x1 x2) (by kernel_rfl) fun K=>by unfold v74 tv74 uv74;with_reducible repeat' first|apply bT ‹_›|apply bF ‹_›|(apply Yi<;>intro _)|exact nB|exact sB
end
def S87:=S86.fn 74 (aF74 0 0 0) [] (fun x0 x1 x2=>some (y1 (v74 x0 x1 x2) rF74)) rfl fun _=>w1 fun h=>(ev74 ..).trans (bD h)
section
variable {β:Type} (z:Int->Option β) (x0 x1 x2:Int)
def tv56:Option β:=(ob (v74 (val (v73 (wU x0) (wU x1))).1 (val (v73 (wU x0) (wU x1))).2 (wU x2)) fun r1=>(z (wI r1.1)))
def v56:=tv56 some x0 x1 x2
abbrev aF56:List TA:=[.sc (I4 x0),.sc (I4 x1),.sc (I4 x2)]
abbrev rF56:Int->List TA×List TO:=fun r=>([.sc (I4 r)],[])
theorem ev56:fE S87 56 (aF56 x0 x1 x2) []=(v56 x0 x1 x2).bind (sm rF56):=zE (fun z=>tv56 z x0 x1 x2) (by kernel_rfl) fun K=>by unfold v56 tv56;with_reducible repeat' first|apply zc|exact nB|exact sB
end
def S88:=S87.fn 56 (aF56 0 0 0) [] (fun x0 x1 x2=>some (y1 (v56 x0 x1 x2) rF56)) rfl fun _=>w1 fun h=>(ev56 ..).trans (bD h)
section
variable {β:Type} (z:Int->Option β) (x0 x1:Int) (x2:LI) (x3:L3) (x4 x5:LL) (x6:LI) (x7:Int) (x8 x9:LI)
def tv55:Option β:=(ob (v33 x0 x2 x3 x4 x5 x6 x7 x8 x9) fun r1=>(cond (r1.1==x1) (ob (v56 (1000000000:Int) (1024:Int) r1.2) fun r2=>(z r2)) (z 0)))
def v55:=tv55 some x0 x1 x2 x3 x4 x5 x6 x7 x8 x9
abbrev aF55:List TA:=[.sc (I4 x0),.sc (I4 x1),.sc (.ptr 0 0)]
abbrev hF55:List TO:=[.box 53 [.ptr 1 0],bx1 x2 x3 x4 x5 x6 x7,rd0 x8,rd0 x9]
abbrev rF55:Int->List TA×List TO:=fun r=>([.sc (I4 r)],[.box 53 [.ptr 1 0],bx1 x2 x3 x4 x5 x6 x7,rd0 x8,rd0 x9])
theorem ev55:fE S88 55 (aF55 x0 x1) (hF55 x2 x3 x4 x5 x6 x7 x8 x9)=(v55 x0 x1 x2 x3 x4 x5 x6 x7 x8 x9).bind (sm (rF55 x2 x3 x4 x5 x6 x7 x8 x9)):=zE (fun z=>tv55 z x0 x1 x2 x3 x4 x5 x6 x7 x8 x9) (by kernel_rfl) fun K=>by unfold v55 tv55;with_reducible repeat' first|apply zc|exact nB|exact sB
end
def S89:=S88.fn 55 (aF55 0 0) (hF55 [] [] [] [] [] 0 [] []) (fun x0 x1 x2 x3 x4 x5 x6 x7 x8 x9=>some (y1 (v55 x0 x1 x2 x3 x4 x5 x6 x7 x8 x9) (rF55 x2 x3 x4 x5 x6 x7 x8 x9))) rfl fun _=>w1 fun h=>(ev55 ..).trans (bD h)
section
variable {β:Type} (y:Int->L3->Int->Int->Int->Int->LI->L3->LL->LL->LI->Int->LI->LI->LI->LL->Option β) (z:LI->Option β) (x0:Int) (x1:L3) (x2 x3 x4 x5:Int) (x6:LI) (x7:L3) (x8 x9:LL) (x10:LI) (x11:Int) (x12 x13 x14:LI) (x15:LL)
def gY:Option β:=(cond (decide (x5 < x4)) (ob (v55 x0 x5 x6 x7 x8 x9 x10 x11 x12 x13) fun r1=>(ck x5 (x14.length:Int) (cond (decide (x5.toNat < List.length x14)) (y x0 x1 x2 x3 x4 (wI (x5+1)) x6 x7 x8 x9 x10 x11 x12 x13 (List.set x14 x5.toNat r1) x15) none))) (z x14))
def jp:=itL (fun _ _ _ _ _ _ _ _ _ _ _ _ _ _ _ _=>none) fun f=>gY f some
theorem Sg (n:Nat):jp (n+1)=gY (jp n) some:=rfl
def Hg:LI->Ex×CS:=fun r=>((.exit 2),⟨[(1,.v (.sc (.fn 55 0 [none] [.ptr 3 0]))),(5,vG 5),(8,vG 4),(14,vd2 x1),(15,vI x2),(16,vI x3)],[],[bx2 x6 x7 x8 x9 x10 x11,rd0 x12,rd0 x13,.box 53 [.ptr 0 0],rd0 r,rd1 x15],4,false⟩)
abbrev DF:CS:=⟨[(1,.v (.sc (.fn 55 0 [none] [.ptr 3 0]))),(5,vG 5),(6,vI x0),(8,vG 4),(14,vd2 x1),(15,vI x2),(16,vI x3),(25,vI x4),(26,vI x5)],[],[bx2 x6 x7 x8 x9 x10 x11,rd0 x12,rd0 x13,.box 53 [.ptr 0 0],rd0 x14,rd1 x15],4,false⟩
theorem qgf {k m n:Nat} {r:LI} (h:jp n x0 x1 x2 x3 x4 x5 x6 x7 x8 x9 x10 x11 x12 x13 x14 x15=some r):lE S89 31 2 k (n+m) (DF x0 x1 x2 x3 x4 x5 x6 x7 x8 x9 x10 x11 x12 x13 x14 x15)=some (Hg x1 x2 x3 x6 x7 x8 x9 x10 x11 x12 x13 x15 r):=by
 induction n generalizing x5 x14 with
 |zero=>cases h
 |succ n ih=>
 exact lS (gY (fun x0 x1 x2 x3 x4 x5 x6 x7 x8 x9 x10 x11 x12 x13 x14 x15=>lE S89 31 2 k (n+m) (DF x0 x1 x2 x3 x4 x5 x6 x7 x8 x9 x10 x11 x12 x13 x14 x15)) (sm (Hg x1 x2 x3 x6 x7 x8 x9 x10 x11 x12 x13 x15)) x0 x1 x2 x3 x4 x5 x6 x7 x8 x9 x10 x11 x12 x13 x14 x15) (by kernel_rfl) (by rw [Sg];unfold gY;with_reducible repeat' first|apply zd|exact ih _ _|exact nX|exact sX) h
end
def S90:=S89.lp 31 2 (DF 0 [] 0 0 0 0 [] [] [] [] [] 0 [] [] [] []) (fun x0 x1 x2 x3 x4 x5 x6 x7 x8 x9 x10 x11 x12 x13 x14 x15=>some (y1 (jp FU x0 x1 x2 x3 x4 x5 x6 x7 x8 x9 x10 x11 x12 x13 x14 x15) (Hg x1 x2 x3 x6 x7 x8 x9 x10 x11 x12 x13 x15))) (by kernel_rfl) fun _=>w1 fun h=>qgf _ _ _ _ _ _ _ _ _ _ _ _ _ _ _ _ h
section
variable {β:Type} (y:L3->Int->Int->LI->L3->LL->LL->LI->Int->LI->LI->LL->Option β) (z:LL->Option β) (x0:L3) (x1 x2:Int) (x3:LI) (x4:L3) (x5 x6:LL) (x7:LI) (x8:Int) (x9 x10:LI) (x11:LL)
def Gz:Option β:=(cond (decide (x2 < x1)) (ck x2 (x0.length:Int) (cond (decide ((↑(List.length (List.getD x0 x2.toNat [])):Int)<=(↑(List.length (List.getD x0 x2.toNat [])):Int))) (cond (decide ((↑(List.length (List.getD x0 x2.toNat [])):Int)<=(↑(nat_lit 2147483648):Int))) (ob (jp FU x2 x0 x1 x2 (↑(List.length (List.replicate (↑(List.length (List.getD x0 x2.toNat [])):Int).toNat (0:Int))):Int) 0 x3 x4 x5 x6 x7 x8 x9 x10 (List.replicate (↑(List.length (List.getD x0 x2.toNat [])):Int).toNat 0) x11) fun r1=>(cond (decide (List.length x11+List.length [r1]<=nat_lit 2147483648)) (y x0 x1 (wI (x2+1)) x3 x4 x5 x6 x7 x8 x9 x10 (x11++[r1])) none)) none) none)) (z x11))
def jX:=itL (fun _ _ _ _ _ _ _ _ _ _ _ _=>none) fun f=>Gz f some
theorem qa9 (n:Nat):jX (n+1)=Gz (jX n) some:=rfl
def qbU:LL->Ex×CS:=fun r=>((.exit 0),⟨[(5,vG 4)],[],[bx2 x3 x4 x5 x6 x7 x8,rd0 x9,rd0 x10,.box 53 [.ptr 0 0],rd1 r],4,false⟩)
abbrev qai:CS:=⟨[(1,.v (.sc (.fn 55 0 [none] [.ptr 3 0]))),(5,vG 4),(14,vd2 x0),(15,vI x1),(16,vI x2)],[],[bx2 x3 x4 x5 x6 x7 x8,rd0 x9,rd0 x10,.box 53 [.ptr 0 0],rd1 x11],4,false⟩
theorem qhE {k m n:Nat} {r:LL} (h:jX n x0 x1 x2 x3 x4 x5 x6 x7 x8 x9 x10 x11=some r):lE S90 31 0 k (n+m) (qai x0 x1 x2 x3 x4 x5 x6 x7 x8 x9 x10 x11)=some (qbU x3 x4 x5 x6 x7 x8 x9 x10 r):=by
 induction n generalizing x2 x11 with
 |zero=>cases h
 |succ n ih=>
 exact lS (Gz (fun x0 x1 x2 x3 x4 x5 x6 x7 x8 x9 x10 x11=>lE S90 31 0 k (n+m) (qai x0 x1 x2 x3 x4 x5 x6 x7 x8 x9 x10 x11)) (sm (qbU x3 x4 x5 x6 x7 x8 x9 x10)) x0 x1 x2 x3 x4 x5 x6 x7 x8 x9 x10 x11) (by kernel_rfl) (by rw [qa9];unfold Gz;with_reducible repeat' first|apply zd|exact ih _ _|exact nX|exact sX) h
end
def S91:=S90.lp 31 0 (qai [] 0 0 [] [] [] [] [] 0 [] [] []) (fun x0 x1 x2 x3 x4 x5 x6 x7 x8 x9 x10 x11=>some (y1 (jX FU x0 x1 x2 x3 x4 x5 x6 x7 x8 x9 x10 x11) (qbU x3 x4 x5 x6 x7 x8 x9 x10))) (by kernel_rfl) fun _=>w1 fun h=>qhE _ _ _ _ _ _ _ _ _ _ _ _ h
section
variable {β:Type} (z:LL->Option β) (x0:LI) (x1:L3) (x2 x3:LL) (x4:LI) (x5:Int) (x6 x7:LI)
def qcS:Option β:=(ob (jX FU x1 (x1.length:Int) 0 x0 x1 x2 x3 x4 x5 x6 x7 []) fun r1=>(z r1))
def K4:=qcS some x0 x1 x2 x3 x4 x5 x6 x7
abbrev qfg:List TA:=[.sc (.ptr 0 0),.sc (.fn 55 0 [none] [.ptr 3 0])]
abbrev qfB:List TO:=[bx2 x0 x1 x2 x3 x4 x5,rd0 x6,rd0 x7,.box 53 [.ptr 0 0]]
abbrev qgL:LL->List TA×List TO:=fun r=>([.sc (kd2 r)],[bx2 x0 x1 x2 x3 x4 x5,rd0 x6,rd0 x7,.box 53 [.ptr 0 0]])
theorem ev31_1:fE S91 31 qfg (qfB x0 x1 x2 x3 x4 x5 x6 x7)=(K4 x0 x1 x2 x3 x4 x5 x6 x7).bind (sm (qgL x0 x1 x2 x3 x4 x5 x6 x7)):=zE (fun z=>qcS z x0 x1 x2 x3 x4 x5 x6 x7) (by kernel_rfl) fun K=>by unfold K4 qcS;with_reducible repeat' first|apply zc|exact nB|exact sB
end
def S92:=S91.fn 31 qfg (qfB [] [] [] [] [] 0 [] []) (fun x0 x1 x2 x3 x4 x5 x6 x7=>some (y1 (K4 x0 x1 x2 x3 x4 x5 x6 x7) (qgL x0 x1 x2 x3 x4 x5 x6 x7))) rfl fun _=>w1 fun h=>(ev31_1 ..).trans (bD h)
section
variable {β:Type} (z:Int->Option β) (x0 x1:Int) (x2:LI) (x3:L3) (x4 x5:LL) (x6:LI) (x7:Int) (x8 x9:LI) (x10:LL)
def tv57:Option β:=(ck x0 (x4.length:Int) (ck x1 (↑(List.length (List.getD x4 x0.toNat [])):Int) (cond (decide (x0 < (x10.length:Int))) (cond (decide (x1 < (↑(List.length (List.getD x10 x0.toNat [])):Int))) (z (wI (List.getD (List.getD x4 x0.toNat []) x1.toNat 0+List.getD (List.getD x10 x0.toNat []) x1.toNat 0))) none) none)))
def v57 (x0 x1:Int) (x2:LI) (x3:L3) (x4 x5:LL) (x6:LI) (x7:Int) (x8 x9:LI) (x10:LL):Option Int:=tv57 some x0 x1 x4 x10
def uv57:Option β:=(ck x0 (x4.length:Int) (ck x1 (↑(List.length (List.getD x4 x0.toNat [])):Int) (ck x0 (x10.length:Int) (ck x1 (↑(List.length (List.getD x10 x0.toNat [])):Int) (z (wI (List.getD (List.getD x4 x0.toNat []) x1.toNat 0+List.getD (List.getD x10 x0.toNat []) x1.toNat 0)))))))
abbrev aF57:List TA:=[.sc (I4 x0),.sc (I4 x1),.sc (.ptr 0 0),.sc (.ptr 4 0)]
abbrev hF57:List TO:=[.box 53 [.ptr 1 0],bx1 x2 x3 x4 x5 x6 x7,rd0 x8,rd0 x9,.box 31 [kd2 x10]]
abbrev rF57:Int->List TA×List TO:=fun r=>([.sc (I4 r)],[.box 53 [.ptr 1 0],bx1 x2 x3 x4 x5 x6 x7,rd0 x8,rd0 x9,.box 31 [kd2 x10]])
theorem ev57:fE S92 57 (aF57 x0 x1) (hF57 x2 x3 x4 x5 x6 x7 x8 x9 x10)=(v57 x0 x1 x2 x3 x4 x5 x6 x7 x8 x9 x10).bind (sm (rF57 x2 x3 x4 x5 x6 x7 x8 x9 x10)):=zE (fun z=>uv57 z x0 x1 x4 x10) (by kernel_rfl) fun K=>by unfold v57 tv57 uv57;with_reducible repeat' first|apply bT ‹_›|apply bF ‹_›|(apply Yi<;>intro _)|exact nB|exact sB
end
def S93:=S92.fn 57 (aF57 0 0) (hF57 [] [] [] [] [] 0 [] [] []) (fun x0 x1 x2 x3 x4 x5 x6 x7 x8 x9 x10=>some (y1 (v57 x0 x1 x2 x3 x4 x5 x6 x7 x8 x9 x10) (rF57 x2 x3 x4 x5 x6 x7 x8 x9 x10))) rfl fun _=>w1 fun h=>(ev57 ..).trans (bD h)
section
variable {β:Type} (y:Int->L3->Int->Int->Int->Int->LI->L3->LL->LL->LI->Int->LI->LI->LL->LI->LL->Option β) (z:LI->Option β) (x0:Int) (x1:L3) (x2 x3 x4 x5:Int) (x6:LI) (x7:L3) (x8 x9:LL) (x10:LI) (x11:Int) (x12 x13:LI) (x14:LL) (x15:LI) (x16:LL)
def gZ:Option β:=(cond (decide (x5 < x4)) (ob (v57 x0 x5 x6 x7 x8 x9 x10 x11 x12 x13 x14) fun r1=>(ck x5 (x15.length:Int) (cond (decide (x5.toNat < List.length x15)) (y x0 x1 x2 x3 x4 (wI (x5+1)) x6 x7 x8 x9 x10 x11 x12 x13 x14 (List.set x15 x5.toNat r1) x16) none))) (z x15))
def jq:=itL (fun _ _ _ _ _ _ _ _ _ _ _ _ _ _ _ _ _=>none) fun f=>gZ f some
theorem Sh (n:Nat):jq (n+1)=gZ (jq n) some:=rfl
def Hh:LI->Ex×CS:=fun r=>((.exit 2),⟨[(1,.v (.sc (.fn 57 0 [none,none] [.ptr 3 0,.ptr 4 0]))),(5,vG 6),(8,vG 5),(14,vd2 x1),(15,vI x2),(16,vI x3)],[],[bx2 x6 x7 x8 x9 x10 x11,rd0 x12,rd0 x13,.box 53 [.ptr 0 0],.box 31 [kd2 x14],rd0 r,rd1 x16],5,false⟩)
abbrev DG:CS:=⟨[(1,.v (.sc (.fn 57 0 [none,none] [.ptr 3 0,.ptr 4 0]))),(5,vG 6),(6,vI x0),(8,vG 5),(14,vd2 x1),(15,vI x2),(16,vI x3),(25,vI x4),(26,vI x5)],[],[bx2 x6 x7 x8 x9 x10 x11,rd0 x12,rd0 x13,.box 53 [.ptr 0 0],.box 31 [kd2 x14],rd0 x15,rd1 x16],5,false⟩
theorem qgg {k m n:Nat} {r:LI} (h:jq n x0 x1 x2 x3 x4 x5 x6 x7 x8 x9 x10 x11 x12 x13 x14 x15 x16=some r):lE S93 31 2 k (n+m) (DG x0 x1 x2 x3 x4 x5 x6 x7 x8 x9 x10 x11 x12 x13 x14 x15 x16)=some (Hh x1 x2 x3 x6 x7 x8 x9 x10 x11 x12 x13 x14 x16 r):=by
 induction n generalizing x5 x15 with
 |zero=>cases h
 |succ n ih=>
 exact lS (gZ (fun x0 x1 x2 x3 x4 x5 x6 x7 x8 x9 x10 x11 x12 x13 x14 x15 x16=>lE S93 31 2 k (n+m) (DG x0 x1 x2 x3 x4 x5 x6 x7 x8 x9 x10 x11 x12 x13 x14 x15 x16)) (sm (Hh x1 x2 x3 x6 x7 x8 x9 x10 x11 x12 x13 x14 x16)) x0 x1 x2 x3 x4 x5 x6 x7 x8 x9 x10 x11 x12 x13 x14 x15 x16) (by kernel_rfl) (by rw [Sh];unfold gZ;with_reducible repeat' first|apply zd|exact ih _ _|exact nX|exact sX) h
end
def S94:=S93.lp 31 2 (DG 0 [] 0 0 0 0 [] [] [] [] [] 0 [] [] [] [] []) (fun x0 x1 x2 x3 x4 x5 x6 x7 x8 x9 x10 x11 x12 x13 x14 x15 x16=>some (y1 (jq FU x0 x1 x2 x3 x4 x5 x6 x7 x8 x9 x10 x11 x12 x13 x14 x15 x16) (Hh x1 x2 x3 x6 x7 x8 x9 x10 x11 x12 x13 x14 x16))) (by kernel_rfl) fun _=>w1 fun h=>qgg _ _ _ _ _ _ _ _ _ _ _ _ _ _ _ _ _ h
section
variable {β:Type} (y:L3->Int->Int->LI->L3->LL->LL->LI->Int->LI->LI->LL->LL->Option β) (z:LL->Option β) (x0:L3) (x1 x2:Int) (x3:LI) (x4:L3) (x5 x6:LL) (x7:LI) (x8:Int) (x9 x10:LI) (x11 x12:LL)
def GA:Option β:=(cond (decide (x2 < x1)) (ck x2 (x0.length:Int) (cond (decide ((↑(List.length (List.getD x0 x2.toNat [])):Int)<=(↑(List.length (List.getD x0 x2.toNat [])):Int))) (cond (decide ((↑(List.length (List.getD x0 x2.toNat [])):Int)<=(↑(nat_lit 2147483648):Int))) (ob (jq FU x2 x0 x1 x2 (↑(List.length (List.replicate (↑(List.length (List.getD x0 x2.toNat [])):Int).toNat (0:Int))):Int) 0 x3 x4 x5 x6 x7 x8 x9 x10 x11 (List.replicate (↑(List.length (List.getD x0 x2.toNat [])):Int).toNat 0) x12) fun r1=>(cond (decide (List.length x12+List.length [r1]<=nat_lit 2147483648)) (y x0 x1 (wI (x2+1)) x3 x4 x5 x6 x7 x8 x9 x10 x11 (x12++[r1])) none)) none) none)) (z x12))
def jY:=itL (fun _ _ _ _ _ _ _ _ _ _ _ _ _=>none) fun f=>GA f some
theorem qba (n:Nat):jY (n+1)=GA (jY n) some:=rfl
def qbV:LL->Ex×CS:=fun r=>((.exit 0),⟨[(5,vG 5)],[],[bx2 x3 x4 x5 x6 x7 x8,rd0 x9,rd0 x10,.box 53 [.ptr 0 0],.box 31 [kd2 x11],rd1 r],5,false⟩)
abbrev qaj:CS:=⟨[(1,.v (.sc (.fn 57 0 [none,none] [.ptr 3 0,.ptr 4 0]))),(5,vG 5),(14,vd2 x0),(15,vI x1),(16,vI x2)],[],[bx2 x3 x4 x5 x6 x7 x8,rd0 x9,rd0 x10,.box 53 [.ptr 0 0],.box 31 [kd2 x11],rd1 x12],5,false⟩
theorem qhF {k m n:Nat} {r:LL} (h:jY n x0 x1 x2 x3 x4 x5 x6 x7 x8 x9 x10 x11 x12=some r):lE S94 31 0 k (n+m) (qaj x0 x1 x2 x3 x4 x5 x6 x7 x8 x9 x10 x11 x12)=some (qbV x3 x4 x5 x6 x7 x8 x9 x10 x11 r):=by
 induction n generalizing x2 x12 with
 |zero=>cases h
 |succ n ih=>
 exact lS (GA (fun x0 x1 x2 x3 x4 x5 x6 x7 x8 x9 x10 x11 x12=>lE S94 31 0 k (n+m) (qaj x0 x1 x2 x3 x4 x5 x6 x7 x8 x9 x10 x11 x12)) (sm (qbV x3 x4 x5 x6 x7 x8 x9 x10 x11)) x0 x1 x2 x3 x4 x5 x6 x7 x8 x9 x10 x11 x12) (by kernel_rfl) (by rw [qba];unfold GA;with_reducible repeat' first|apply zd|exact ih _ _|exact nX|exact sX) h
end
def S95:=S94.lp 31 0 (qaj [] 0 0 [] [] [] [] [] 0 [] [] [] []) (fun x0 x1 x2 x3 x4 x5 x6 x7 x8 x9 x10 x11 x12=>some (y1 (jY FU x0 x1 x2 x3 x4 x5 x6 x7 x8 x9 x10 x11 x12) (qbV x3 x4 x5 x6 x7 x8 x9 x10 x11))) (by kernel_rfl) fun _=>w1 fun h=>qhF _ _ _ _ _ _ _ _ _ _ _ _ _ h
section
variable {β:Type} (z:LL->Option β) (x0:LI) (x1:L3) (x2 x3:LL) (x4:LI) (x5:Int) (x6 x7:LI) (x8:LL)
def qcT:Option β:=(ob (jY FU x1 (x1.length:Int) 0 x0 x1 x2 x3 x4 x5 x6 x7 x8 []) fun r1=>(z r1))
def K5:=qcT some x0 x1 x2 x3 x4 x5 x6 x7 x8
abbrev qfh:List TA:=[.sc (.ptr 0 0),.sc (.fn 57 0 [none,none] [.ptr 3 0,.ptr 4 0])]
abbrev qfC:List TO:=[bx2 x0 x1 x2 x3 x4 x5,rd0 x6,rd0 x7,.box 53 [.ptr 0 0],.box 31 [kd2 x8]]
abbrev qgM:LL->List TA×List TO:=fun r=>([.sc (kd2 r)],[bx2 x0 x1 x2 x3 x4 x5,rd0 x6,rd0 x7,.box 53 [.ptr 0 0],.box 31 [kd2 x8]])
theorem ev31_2:fE S95 31 qfh (qfC x0 x1 x2 x3 x4 x5 x6 x7 x8)=(K5 x0 x1 x2 x3 x4 x5 x6 x7 x8).bind (sm (qgM x0 x1 x2 x3 x4 x5 x6 x7 x8)):=zE (fun z=>qcT z x0 x1 x2 x3 x4 x5 x6 x7 x8) (by kernel_rfl) fun K=>by unfold K5 qcT;with_reducible repeat' first|apply zc|exact nB|exact sB
end
def S96:=S95.fn 31 qfh (qfC [] [] [] [] [] 0 [] [] []) (fun x0 x1 x2 x3 x4 x5 x6 x7 x8=>some (y1 (K5 x0 x1 x2 x3 x4 x5 x6 x7 x8) (qgM x0 x1 x2 x3 x4 x5 x6 x7 x8))) rfl fun _=>w1 fun h=>(ev31_2 ..).trans (bD h)
section
variable {β:Type} (y:Int->Int->LI->L3->LL->LL->LI->Int->LI->LI->LL->Option β) (z:LI->Option β) (x0 x1:Int) (x2:LI) (x3:L3) (x4 x5:LL) (x6:LI) (x7:Int) (x8 x9:LI) (x10:LL)
def Ke:Option β:=(cond (decide (x1 < x0)) (ck x1 (x8.length:Int) (cond (decide (x1.toNat < List.length x8)) (cond (decide (x1 < (x9.length:Int))) (cond (decide (x1.toNat < List.length x9)) (y x0 (wI (x1+1)) x2 x3 x4 x5 x6 x7 x8 (List.set x9 x1.toNat (wI (List.getD x9 x1.toNat 0+List.getD x8 x1.toNat 0))) x10) none) none) none)) (z x9))
def qes:Option β:=(cond (decide (x1 < x0)) (ck x1 (x8.length:Int) (cond (decide (x1.toNat < List.length x8)) (ck x1 (x9.length:Int) (cond (decide (x1.toNat < List.length x9)) (ck x1 (x9.length:Int) (cond (decide (x1.toNat < List.length x9)) (y x0 (wI (x1+1)) x2 x3 x4 x5 x6 x7 x8 (List.set x9 x1.toNat (wI (List.getD x9 x1.toNat 0+List.getD x8 x1.toNat 0))) x10) none)) none)) none)) (z x9))
def jI:=itL (fun _ _ _ _ _ _ _ _ _ _ _=>none) fun f=>Ke f some
theorem qbf (n:Nat):jI (n+1)=Ke (jI n) some:=rfl
def qb0:LI->Ex×CS:=fun r=>((.exit 0),⟨[(1,vP 4),(2,vP 3)],[],[bx2 x2 x3 x4 x5 x6 x7,rd0 x8,rd0 r,.box 31 [kd2 x10],.box 53 [.ptr 0 0]],3,false⟩)
abbrev qao:CS:=⟨[(1,vP 4),(2,vP 3),(25,vG 1),(26,vI x0),(27,vI x1)],[],[bx2 x2 x3 x4 x5 x6 x7,rd0 x8,rd0 x9,.box 31 [kd2 x10],.box 53 [.ptr 0 0]],3,false⟩
theorem qhK {k m n:Nat} {r:LI} (h:jI n x0 x1 x2 x3 x4 x5 x6 x7 x8 x9 x10=some r):lE S96 34 0 k (n+m) (qao x0 x1 x2 x3 x4 x5 x6 x7 x8 x9 x10)=some (qb0 x2 x3 x4 x5 x6 x7 x8 x10 r):=by
 induction n generalizing x1 x9 with
 |zero=>cases h
 |succ n ih=>
 exact lS (qes (fun x0 x1 x2 x3 x4 x5 x6 x7 x8 x9 x10=>lE S96 34 0 k (n+m) (qao x0 x1 x2 x3 x4 x5 x6 x7 x8 x9 x10)) (sm (qb0 x2 x3 x4 x5 x6 x7 x8 x10)) x0 x1 x2 x3 x4 x5 x6 x7 x8 x9 x10) (by kernel_rfl) (by rw [qbf];unfold Ke qes;with_reducible repeat' first|apply gT ‹_›|apply gF ‹_›|(apply zz<;>intro _)|exact ih _ _|exact nX|exact sX) h
end
def S97:=S96.lp 34 0 (qao 0 0 [] [] [] [] [] 0 [] [] []) (fun x0 x1 x2 x3 x4 x5 x6 x7 x8 x9 x10=>some (y1 (jI FU x0 x1 x2 x3 x4 x5 x6 x7 x8 x9 x10) (qb0 x2 x3 x4 x5 x6 x7 x8 x10))) (by kernel_rfl) fun _=>w1 fun h=>qhK _ _ _ _ _ _ _ _ _ _ _ h
section
variable {β:Type} (y:LL->Int->Int->L3->Int->Int->LL->Int->Int->LI->Int->Int->LI->L3->LL->LL->LI->Int->LI->LI->LI->Option β) (z:LI->Option β) (x0:LL) (x1 x2:Int) (x3:L3) (x4 x5:Int) (x6:LL) (x7 x8:Int) (x9:LI) (x10 x11:Int) (x12:LI) (x13:L3) (x14 x15:LL) (x16:LI) (x17:Int) (x18 x19 x20:LI)
def Jq:Option β:=(cond (decide (x11 < x10)) (ck x11 (x9.length:Int) (ck (List.getD x9 x11.toNat 0) (x20.length:Int) (cond (decide ((List.getD x9 x11.toNat 0).toNat < List.length x20)) (ck x1 (x0.length:Int) (ck x2 (↑(List.length (List.getD x0 x1.toNat [])):Int) (y x0 x1 x2 x3 x4 x5 x6 x7 x8 x9 x10 (wI (x11+1)) x12 x13 x14 x15 x16 x17 x18 x19 (List.set x20 (List.getD x9 x11.toNat 0).toNat (wI (List.getD x20 (List.getD x9 x11.toNat 0).toNat 0+List.getD (List.getD x0 x1.toNat []) x2.toNat 0)))))) none))) (z x20))
def qdZ:Option β:=(cond (decide (x11 < x10)) (ck x11 (x9.length:Int) (ck (List.getD x9 x11.toNat 0) (x20.length:Int) (cond (decide ((List.getD x9 x11.toNat 0).toNat < List.length x20)) (ck x1 (x0.length:Int) (ck x2 (↑(List.length (List.getD x0 x1.toNat [])):Int) (ck (List.getD x9 x11.toNat 0) (x20.length:Int) (cond (decide ((List.getD x9 x11.toNat 0).toNat < List.length x20)) (y x0 x1 x2 x3 x4 x5 x6 x7 x8 x9 x10 (wI (x11+1)) x12 x13 x14 x15 x16 x17 x18 x19 (List.set x20 (List.getD x9 x11.toNat 0).toNat (wI (List.getD x20 (List.getD x9 x11.toNat 0).toNat 0+List.getD (List.getD x0 x1.toNat []) x2.toNat 0)))) none)))) none))) (z x20))
def jx:=itL (fun _ _ _ _ _ _ _ _ _ _ _ _ _ _ _ _ _ _ _ _ _=>none) fun f=>Jq f some
theorem Su (n:Nat):jx (n+1)=Jq (jx n) some:=rfl
def Hv:LI->Ex×CS:=fun r=>((.exit 4),⟨[(1,vd1 x0),(5,vG 3),(6,vI x1),(23,vd2 x3),(24,vI x4),(25,vI x5),(30,vd1 x6),(31,vI x7),(32,vI x8)],[],[bx2 x12 x13 x14 x15 x16 x17,rd0 x18,rd0 x19,rd0 r],3,false⟩)
abbrev DS:CS:=⟨[(1,vd1 x0),(5,vG 3),(6,vI x1),(8,vI x2),(23,vd2 x3),(24,vI x4),(25,vI x5),(30,vd1 x6),(31,vI x7),(32,vI x8),(37,vd0 x9),(38,vI x10),(39,vI x11)],[],[bx2 x12 x13 x14 x15 x16 x17,rd0 x18,rd0 x19,rd0 x20],3,false⟩
theorem qgu {k m n:Nat} {r:LI} (h:jx n x0 x1 x2 x3 x4 x5 x6 x7 x8 x9 x10 x11 x12 x13 x14 x15 x16 x17 x18 x19 x20=some r):lE S97 60 4 k (n+m) (DS x0 x1 x2 x3 x4 x5 x6 x7 x8 x9 x10 x11 x12 x13 x14 x15 x16 x17 x18 x19 x20)=some (Hv x0 x1 x3 x4 x5 x6 x7 x8 x12 x13 x14 x15 x16 x17 x18 x19 r):=by
 induction n generalizing x11 x20 with
 |zero=>cases h
 |succ n ih=>
 exact lS (qdZ (fun x0 x1 x2 x3 x4 x5 x6 x7 x8 x9 x10 x11 x12 x13 x14 x15 x16 x17 x18 x19 x20=>lE S97 60 4 k (n+m) (DS x0 x1 x2 x3 x4 x5 x6 x7 x8 x9 x10 x11 x12 x13 x14 x15 x16 x17 x18 x19 x20)) (sm (Hv x0 x1 x3 x4 x5 x6 x7 x8 x12 x13 x14 x15 x16 x17 x18 x19)) x0 x1 x2 x3 x4 x5 x6 x7 x8 x9 x10 x11 x12 x13 x14 x15 x16 x17 x18 x19 x20) (by kernel_rfl) (by rw [Su];unfold Jq qdZ;with_reducible repeat' first|apply gT ‹_›|apply gF ‹_›|(apply zz<;>intro _)|exact ih _ _|exact nX|exact sX) h
end
def S98:=S97.lp 60 4 (DS [] 0 0 [] 0 0 [] 0 0 [] 0 0 [] [] [] [] [] 0 [] [] []) (fun x0 x1 x2 x3 x4 x5 x6 x7 x8 x9 x10 x11 x12 x13 x14 x15 x16 x17 x18 x19 x20=>some (y1 (jx FU x0 x1 x2 x3 x4 x5 x6 x7 x8 x9 x10 x11 x12 x13 x14 x15 x16 x17 x18 x19 x20) (Hv x0 x1 x3 x4 x5 x6 x7 x8 x12 x13 x14 x15 x16 x17 x18 x19))) (by kernel_rfl) fun _=>w1 fun h=>qgu _ _ _ _ _ _ _ _ _ _ _ _ _ _ _ _ _ _ _ _ _ h
section
variable {β:Type} (y:LL->Int->L3->Int->Int->LL->Int->Int->LI->L3->LL->LL->LI->Int->LI->LI->LI->Option β) (z:LI->Option β) (x0:LL) (x1:Int) (x2:L3) (x3 x4:Int) (x5:LL) (x6 x7:Int) (x8:LI) (x9:L3) (x10 x11:LL) (x12:LI) (x13:Int) (x14 x15 x16:LI)
def Gb:Option β:=(cond (decide (x7 < x6)) (ck x7 (x5.length:Int) (ob (jx FU x0 x1 x7 x2 x3 x4 x5 x6 x7 (List.getD x5 x7.toNat []) (↑(List.length (List.getD x5 x7.toNat [])):Int) 0 x8 x9 x10 x11 x12 x13 x14 x15 x16) fun r1=>(y x0 x1 x2 x3 x4 x5 x6 (wI (x7+1)) x8 x9 x10 x11 x12 x13 x14 x15 r1))) (z x16))
def jw:=itL (fun _ _ _ _ _ _ _ _ _ _ _ _ _ _ _ _ _=>none) fun f=>Gb f some
theorem Ss (n:Nat):jw (n+1)=Gb (jw n) some:=rfl
def Hu:LI->Ex×CS:=fun r=>((.exit 2),⟨[(1,vd1 x0),(5,vG 3),(23,vd2 x2),(24,vI x3),(25,vI x4)],[],[bx2 x8 x9 x10 x11 x12 x13,rd0 x14,rd0 x15,rd0 r],3,false⟩)
abbrev DQ:CS:=⟨[(1,vd1 x0),(5,vG 3),(6,vI x1),(23,vd2 x2),(24,vI x3),(25,vI x4),(30,vd1 x5),(31,vI x6),(32,vI x7)],[],[bx2 x8 x9 x10 x11 x12 x13,rd0 x14,rd0 x15,rd0 x16],3,false⟩
theorem qgt {k m n:Nat} {r:LI} (h:jw n x0 x1 x2 x3 x4 x5 x6 x7 x8 x9 x10 x11 x12 x13 x14 x15 x16=some r):lE S98 60 2 k (n+m) (DQ x0 x1 x2 x3 x4 x5 x6 x7 x8 x9 x10 x11 x12 x13 x14 x15 x16)=some (Hu x0 x2 x3 x4 x8 x9 x10 x11 x12 x13 x14 x15 r):=by
 induction n generalizing x7 x16 with
 |zero=>cases h
 |succ n ih=>
 exact lS (Gb (fun x0 x1 x2 x3 x4 x5 x6 x7 x8 x9 x10 x11 x12 x13 x14 x15 x16=>lE S98 60 2 k (n+m) (DQ x0 x1 x2 x3 x4 x5 x6 x7 x8 x9 x10 x11 x12 x13 x14 x15 x16)) (sm (Hu x0 x2 x3 x4 x8 x9 x10 x11 x12 x13 x14 x15)) x0 x1 x2 x3 x4 x5 x6 x7 x8 x9 x10 x11 x12 x13 x14 x15 x16) (by kernel_rfl) (by rw [Ss];unfold Gb;with_reducible repeat' first|apply zd|exact ih _ _|exact nX|exact sX) h
end
def S99:=S98.lp 60 2 (DQ [] 0 [] 0 0 [] 0 0 [] [] [] [] [] 0 [] [] []) (fun x0 x1 x2 x3 x4 x5 x6 x7 x8 x9 x10 x11 x12 x13 x14 x15 x16=>some (y1 (jw FU x0 x1 x2 x3 x4 x5 x6 x7 x8 x9 x10 x11 x12 x13 x14 x15 x16) (Hu x0 x2 x3 x4 x8 x9 x10 x11 x12 x13 x14 x15))) (by kernel_rfl) fun _=>w1 fun h=>qgt _ _ _ _ _ _ _ _ _ _ _ _ _ _ _ _ _ h
section
variable {β:Type} (y:LL->L3->Int->Int->LI->L3->LL->LL->LI->Int->LI->LI->LI->Option β) (z:LI->Option β) (x0:LL) (x1:L3) (x2 x3:Int) (x4:LI) (x5:L3) (x6 x7:LL) (x8:LI) (x9:Int) (x10 x11 x12:LI)
def GI:Option β:=(cond (decide (x3 < x2)) (ck x3 (x1.length:Int) (ob (jw FU x0 x3 x1 x2 x3 (List.getD x1 x3.toNat []) (↑(List.length (List.getD x1 x3.toNat [])):Int) 0 x4 x5 x6 x7 x8 x9 x10 x11 x12) fun r1=>(y x0 x1 x2 (wI (x3+1)) x4 x5 x6 x7 x8 x9 x10 x11 r1))) (z x12))
def gd:=itL (fun _ _ _ _ _ _ _ _ _ _ _ _ _=>none) fun f=>GI f some
theorem qbr (n:Nat):gd (n+1)=GI (gd n) some:=rfl
def qcd:LI->Ex×CS:=fun r=>((.exit 0),⟨[(5,vG 3)],[],[bx2 x4 x5 x6 x7 x8 x9,rd0 x10,rd0 x11,rd0 r],3,false⟩)
abbrev qaA:CS:=⟨[(1,vd1 x0),(5,vG 3),(23,vd2 x1),(24,vI x2),(25,vI x3)],[],[bx2 x4 x5 x6 x7 x8 x9,rd0 x10,rd0 x11,rd0 x12],3,false⟩
theorem qhX {k m n:Nat} {r:LI} (h:gd n x0 x1 x2 x3 x4 x5 x6 x7 x8 x9 x10 x11 x12=some r):lE S99 60 0 k (n+m) (qaA x0 x1 x2 x3 x4 x5 x6 x7 x8 x9 x10 x11 x12)=some (qcd x4 x5 x6 x7 x8 x9 x10 x11 r):=by
 induction n generalizing x3 x12 with
 |zero=>cases h
 |succ n ih=>
 exact lS (GI (fun x0 x1 x2 x3 x4 x5 x6 x7 x8 x9 x10 x11 x12=>lE S99 60 0 k (n+m) (qaA x0 x1 x2 x3 x4 x5 x6 x7 x8 x9 x10 x11 x12)) (sm (qcd x4 x5 x6 x7 x8 x9 x10 x11)) x0 x1 x2 x3 x4 x5 x6 x7 x8 x9 x10 x11 x12) (by kernel_rfl) (by rw [qbr];unfold GI;with_reducible repeat' first|apply zd|exact ih _ _|exact nX|exact sX) h
end
def S100:=S99.lp 60 0 (qaA [] [] 0 0 [] [] [] [] [] 0 [] [] []) (fun x0 x1 x2 x3 x4 x5 x6 x7 x8 x9 x10 x11 x12=>some (y1 (gd FU x0 x1 x2 x3 x4 x5 x6 x7 x8 x9 x10 x11 x12) (qcd x4 x5 x6 x7 x8 x9 x10 x11))) (by kernel_rfl) fun _=>w1 fun h=>qhX _ _ _ _ _ _ _ _ _ _ _ _ _ h
section
variable {β:Type} (z:LI->Option β) (x0:LL) (x1:LI) (x2:L3) (x3 x4:LL) (x5:LI) (x6:Int) (x7 x8:LI)
def tv60:Option β:=(cond (decide ((x1.length:Int)<=(x1.length:Int))) (cond (decide ((x1.length:Int)<=(↑(nat_lit 2147483648):Int))) (ob (gd FU x0 x2 (x2.length:Int) 0 x1 x2 x3 x4 x5 x6 x7 x8 (List.replicate (x1.length:Int).toNat 0)) fun r1=>(z r1)) none) none)
def v60:=tv60 some x0 x1 x2 x3 x4 x5 x6 x7 x8
abbrev aF60:List TA:=[.sc (.ptr 0 0),.sc (kd2 x0)]
abbrev hF60:List TO:=[bx2 x1 x2 x3 x4 x5 x6,rd0 x7,rd0 x8]
abbrev rF60:LI->List TA×List TO:=fun r=>([.sc (kd0 r)],[bx2 x1 x2 x3 x4 x5 x6,rd0 x7,rd0 x8])
theorem ev60:fE S100 60 (aF60 x0) (hF60 x1 x2 x3 x4 x5 x6 x7 x8)=(v60 x0 x1 x2 x3 x4 x5 x6 x7 x8).bind (sm (rF60 x1 x2 x3 x4 x5 x6 x7 x8)):=zE (fun z=>tv60 z x0 x1 x2 x3 x4 x5 x6 x7 x8) (by kernel_rfl) fun K=>by unfold v60 tv60;with_reducible repeat' first|apply zc|exact nB|exact sB
end
def S101:=S100.fn 60 (aF60 []) (hF60 [] [] [] [] [] 0 [] []) (fun x0 x1 x2 x3 x4 x5 x6 x7 x8=>some (y1 (v60 x0 x1 x2 x3 x4 x5 x6 x7 x8) (rF60 x1 x2 x3 x4 x5 x6 x7 x8))) rfl fun _=>w1 fun h=>(ev60 ..).trans (bD h)
section
variable {β:Type} (y:LI->Int->LI->Int->Int->LI->L3->LL->LL->LI->Int->LI->LI->Option β) (z:Int->Option β) (x0:LI) (x1:Int) (x2:LI) (x3 x4:Int) (x5:LI) (x6:L3) (x7 x8:LL) (x9:LI) (x10:Int) (x11 x12:LI)
def Kn:Option β:=(cond (decide (x4 < x3)) (ck x4 (x2.length:Int) (cond (decide (List.getD x2 x4.toNat 0 > 0)) (cond (decide (x1 < 0)) (y x0 x4 x2 x3 (wI (x4+1)) x5 x6 x7 x8 x9 x10 x11 x12) (cond (decide (x4 < (x5.length:Int))) (ck x1 (x0.length:Int) (cond (decide (x1 < (x5.length:Int))) (cond (decide (wI (List.getD x5 x4.toNat 0*List.getD x0 x1.toNat 0) < wI (List.getD x5 x1.toNat 0*List.getD x2 x4.toNat 0))) (y x0 x4 x2 x3 (wI (x4+1)) x5 x6 x7 x8 x9 x10 x11 x12) (y x0 x1 x2 x3 (wI (x4+1)) x5 x6 x7 x8 x9 x10 x11 x12)) none)) none)) (y x0 x1 x2 x3 (wI (x4+1)) x5 x6 x7 x8 x9 x10 x11 x12))) (z x1))
def qeB:Option β:=(cond (decide (x4 < x3)) (ck x4 (x2.length:Int) (cond (decide (List.getD x2 x4.toNat 0 > 0)) (cond (decide (x1 < 0)) (y x0 x4 x2 x3 (wI (x4+1)) x5 x6 x7 x8 x9 x10 x11 x12) (ck x4 (x5.length:Int) (ck x1 (x0.length:Int) (ck x1 (x5.length:Int) (cond (decide (wI (List.getD x5 x4.toNat 0*List.getD x0 x1.toNat 0) < wI (List.getD x5 x1.toNat 0*List.getD x2 x4.toNat 0))) (y x0 x4 x2 x3 (wI (x4+1)) x5 x6 x7 x8 x9 x10 x11 x12) (y x0 x1 x2 x3 (wI (x4+1)) x5 x6 x7 x8 x9 x10 x11 x12)))))) (y x0 x1 x2 x3 (wI (x4+1)) x5 x6 x7 x8 x9 x10 x11 x12))) (z x1))
def ge:=itL (fun _ _ _ _ _ _ _ _ _ _ _ _ _=>none) fun f=>Kn f some
theorem qbs (n:Nat):ge (n+1)=Kn (ge n) some:=rfl
def qce:Int->Ex×CS:=fun r=>((.exit 0),⟨[(5,vI r)],[],[bx2 x5 x6 x7 x8 x9 x10,rd0 x11,rd0 x12],3,false⟩)
abbrev qaB:CS:=⟨[(0,vP 0),(1,vd0 x0),(5,vI x1),(8,vd0 x2),(9,vI x3),(10,vI x4)],[],[bx2 x5 x6 x7 x8 x9 x10,rd0 x11,rd0 x12],3,false⟩
theorem qhY {k m n:Nat} {r:Int} (h:ge n x0 x1 x2 x3 x4 x5 x6 x7 x8 x9 x10 x11 x12=some r):lE S101 61 0 k (n+m) (qaB x0 x1 x2 x3 x4 x5 x6 x7 x8 x9 x10 x11 x12)=some (qce x5 x6 x7 x8 x9 x10 x11 x12 r):=by
 induction n generalizing x1 x4 with
 |zero=>cases h
 |succ n ih=>
 exact lS (qeB (fun x0 x1 x2 x3 x4 x5 x6 x7 x8 x9 x10 x11 x12=>lE S101 61 0 k (n+m) (qaB x0 x1 x2 x3 x4 x5 x6 x7 x8 x9 x10 x11 x12)) (sm (qce x5 x6 x7 x8 x9 x10 x11 x12)) x0 x1 x2 x3 x4 x5 x6 x7 x8 x9 x10 x11 x12) (by kernel_rfl) (by rw [qbs];unfold Kn qeB;with_reducible repeat' first|apply gT ‹_›|apply gF ‹_›|(apply zz<;>intro _)|exact ih _ _|exact nX|exact sX) h
end
def S102:=S101.lp 61 0 (qaB [] 0 [] 0 0 [] [] [] [] [] 0 [] []) (fun x0 x1 x2 x3 x4 x5 x6 x7 x8 x9 x10 x11 x12=>some (y1 (ge FU x0 x1 x2 x3 x4 x5 x6 x7 x8 x9 x10 x11 x12) (qce x5 x6 x7 x8 x9 x10 x11 x12))) (by kernel_rfl) fun _=>w1 fun h=>qhY _ _ _ _ _ _ _ _ _ _ _ _ _ h
section
variable {β:Type} (z:Int->Option β) (x0 x1:LI) (x2:L3) (x3 x4:LL) (x5:LI) (x6:Int) (x7 x8:LI)
def tv61:Option β:=(ob (ge FU x0 (-1:Int) x0 (x0.length:Int) 0 x1 x2 x3 x4 x5 x6 x7 x8) fun r1=>(z r1))
def v61:=tv61 some x0 x1 x2 x3 x4 x5 x6 x7 x8
abbrev aF61:List TA:=[.sc (.ptr 0 0),.sc (kd0 x0)]
abbrev hF61:List TO:=[bx2 x1 x2 x3 x4 x5 x6,rd0 x7,rd0 x8]
abbrev rF61:Int->List TA×List TO:=fun r=>([.sc (I4 r)],[bx2 x1 x2 x3 x4 x5 x6,rd0 x7,rd0 x8])
theorem ev61:fE S102 61 (aF61 x0) (hF61 x1 x2 x3 x4 x5 x6 x7 x8)=(v61 x0 x1 x2 x3 x4 x5 x6 x7 x8).bind (sm (rF61 x1 x2 x3 x4 x5 x6 x7 x8)):=zE (fun z=>tv61 z x0 x1 x2 x3 x4 x5 x6 x7 x8) (by kernel_rfl) fun K=>by unfold v61 tv61;with_reducible repeat' first|apply zc|exact nB|exact sB
end
def S103:=S102.fn 61 (aF61 []) (hF61 [] [] [] [] [] 0 [] []) (fun x0 x1 x2 x3 x4 x5 x6 x7 x8=>some (y1 (v61 x0 x1 x2 x3 x4 x5 x6 x7 x8) (rF61 x1 x2 x3 x4 x5 x6 x7 x8))) rfl fun _=>w1 fun h=>(ev61 ..).trans (bD h)
abbrev bx3 (y0:LI) (y1:L3) (y2:LL) (y3:LL) (y4:LI) (y5:Int):TO:=.box 55 [kd0 y0,kd1 y1,.g 3,kd2 y2,.g 4,kd2 y3,kd0 y4,I4 y5]
section
variable {β:Type} (z:Int->Option β) (x0 x1:Int) (x2:LL) (x3:LI) (x4:L3) (x5 x6:LL) (x7:LI) (x8:Int) (x9 x10:LI) (x11:Int) (x12:LI)
def tv81:Option β:=(ck x0 (x2.length:Int) (ck x1 (↑(List.length (List.getD x2 x0.toNat [])):Int) (ck x11 (x3.length:Int) (cond (decide (x11 < (x12.length:Int))) (ob (v56 (List.getD (List.getD x2 x0.toNat []) x1.toNat 0) (wI ((1000000:Int)*List.getD x3 x11.toNat 0)) (List.getD x12 x11.toNat 0)) fun r1=>(z r1)) none))))
def v81 (x0 x1:Int) (x2:LL) (x3:LI) (x4:L3) (x5 x6:LL) (x7:LI) (x8:Int) (x9 x10:LI) (x11:Int) (x12:LI):Option Int:=tv81 some x0 x1 x2 x3 x11 x12
def uv81:Option β:=(ck x0 (x2.length:Int) (ck x1 (↑(List.length (List.getD x2 x0.toNat [])):Int) (ck x11 (x3.length:Int) (ck x11 (x12.length:Int) (ob (v56 (List.getD (List.getD x2 x0.toNat []) x1.toNat 0) (wI ((1000000:Int)*List.getD x3 x11.toNat 0)) (List.getD x12 x11.toNat 0)) fun r1=>(z r1))))))
abbrev aF81:List TA:=[.sc (I4 x0),.sc (I4 x1),.sc (.ptr 0 0),.sc (.ptr 1 0),.sc (.ptr 5 0),.sc (.ptr 6 0)]
abbrev hF81:List TO:=[.box 31 [kd2 x2],.box 53 [.ptr 2 0],bx3 x3 x4 x5 x6 x7 x8,rd0 x9,rd0 x10,.box 3 [I4 x11],.box 22 [kd0 x12]]
abbrev rF81:Int->List TA×List TO:=fun r=>([.sc (I4 r)],[.box 31 [kd2 x2],.box 53 [.ptr 2 0],bx3 x3 x4 x5 x6 x7 x8,rd0 x9,rd0 x10,.box 3 [I4 x11],.box 22 [kd0 x12]])
theorem ev81:fE S103 81 (aF81 x0 x1) (hF81 x2 x3 x4 x5 x6 x7 x8 x9 x10 x11 x12)=(v81 x0 x1 x2 x3 x4 x5 x6 x7 x8 x9 x10 x11 x12).bind (sm (rF81 x2 x3 x4 x5 x6 x7 x8 x9 x10 x11 x12)):=zE (fun z=>uv81 z x0 x1 x2 x3 x11 x12) (by kernel_rfl) fun K=>by unfold v81 tv81 uv81;with_reducible repeat' first|apply bT ‹_›|apply bF ‹_›|(apply Yi<;>intro _)|exact nB|exact sB
end
def S104:=S103.fn 81 (aF81 0 0) (hF81 [] [] [] [] [] [] 0 [] [] 0 []) (fun x0 x1 x2 x3 x4 x5 x6 x7 x8 x9 x10 x11 x12=>some (y1 (v81 x0 x1 x2 x3 x4 x5 x6 x7 x8 x9 x10 x11 x12) (rF81 x2 x3 x4 x5 x6 x7 x8 x9 x10 x11 x12))) rfl fun _=>w1 fun h=>(ev81 ..).trans (bD h)
section
variable {β:Type} (y:Int->L3->Int->Int->Int->Int->LI->L3->LL->LL->LI->Int->LI->LI->LL->Int->LI->LI->LL->Option β) (z:LI->Option β) (x0:Int) (x1:L3) (x2 x3 x4 x5:Int) (x6:LI) (x7:L3) (x8 x9:LL) (x10:LI) (x11:Int) (x12 x13:LI) (x14:LL) (x15:Int) (x16 x17:LI) (x18:LL)
def g8:Option β:=(cond (decide (x5 < x4)) (ob (v81 x0 x5 x14 x6 x7 x8 x9 x10 x11 x12 x13 x15 x16) fun r1=>(ck x5 (x17.length:Int) (cond (decide (x5.toNat < List.length x17)) (y x0 x1 x2 x3 x4 (wI (x5+1)) x6 x7 x8 x9 x10 x11 x12 x13 x14 x15 x16 (List.set x17 x5.toNat r1) x18) none))) (z x17))
def jr:=itL (fun _ _ _ _ _ _ _ _ _ _ _ _ _ _ _ _ _ _ _=>none) fun f=>g8 f some
theorem Si (n:Nat):jr (n+1)=g8 (jr n) some:=rfl
def Hi:LI->Ex×CS:=fun r=>((.exit 2),⟨[(1,.v (.sc (.fn 81 0 [none,none,none,none] [.ptr 3 0,.ptr 4 0,.ptr 5 0,.ptr 6 0]))),(5,vG 8),(8,vG 7),(14,vd2 x1),(15,vI x2),(16,vI x3)],[],[bx2 x6 x7 x8 x9 x10 x11,rd0 x12,rd0 x13,.box 31 [kd2 x14],.box 53 [.ptr 0 0],.box 3 [I4 x15],.box 22 [kd0 x16],rd0 r,rd1 x18],7,false⟩)
abbrev DH:CS:=⟨[(1,.v (.sc (.fn 81 0 [none,none,none,none] [.ptr 3 0,.ptr 4 0,.ptr 5 0,.ptr 6 0]))),(5,vG 8),(6,vI x0),(8,vG 7),(14,vd2 x1),(15,vI x2),(16,vI x3),(25,vI x4),(26,vI x5)],[],[bx2 x6 x7 x8 x9 x10 x11,rd0 x12,rd0 x13,.box 31 [kd2 x14],.box 53 [.ptr 0 0],.box 3 [I4 x15],.box 22 [kd0 x16],rd0 x17,rd1 x18],7,false⟩
theorem qgh {k m n:Nat} {r:LI} (h:jr n x0 x1 x2 x3 x4 x5 x6 x7 x8 x9 x10 x11 x12 x13 x14 x15 x16 x17 x18=some r):lE S104 31 2 k (n+m) (DH x0 x1 x2 x3 x4 x5 x6 x7 x8 x9 x10 x11 x12 x13 x14 x15 x16 x17 x18)=some (Hi x1 x2 x3 x6 x7 x8 x9 x10 x11 x12 x13 x14 x15 x16 x18 r):=by
 induction n generalizing x5 x17 with
 |zero=>cases h
 |succ n ih=>
 exact lS (g8 (fun x0 x1 x2 x3 x4 x5 x6 x7 x8 x9 x10 x11 x12 x13 x14 x15 x16 x17 x18=>lE S104 31 2 k (n+m) (DH x0 x1 x2 x3 x4 x5 x6 x7 x8 x9 x10 x11 x12 x13 x14 x15 x16 x17 x18)) (sm (Hi x1 x2 x3 x6 x7 x8 x9 x10 x11 x12 x13 x14 x15 x16 x18)) x0 x1 x2 x3 x4 x5 x6 x7 x8 x9 x10 x11 x12 x13 x14 x15 x16 x17 x18) (by kernel_rfl) (by rw [Si];unfold g8;with_reducible repeat' first|apply zd|exact ih _ _|exact nX|exact sX) h
end
def S105:=S104.lp 31 2 (DH 0 [] 0 0 0 0 [] [] [] [] [] 0 [] [] [] 0 [] [] []) (fun x0 x1 x2 x3 x4 x5 x6 x7 x8 x9 x10 x11 x12 x13 x14 x15 x16 x17 x18=>some (y1 (jr FU x0 x1 x2 x3 x4 x5 x6 x7 x8 x9 x10 x11 x12 x13 x14 x15 x16 x17 x18) (Hi x1 x2 x3 x6 x7 x8 x9 x10 x11 x12 x13 x14 x15 x16 x18))) (by kernel_rfl) fun _=>w1 fun h=>qgh _ _ _ _ _ _ _ _ _ _ _ _ _ _ _ _ _ _ _ h
section
variable {β:Type} (y:L3->Int->Int->LI->L3->LL->LL->LI->Int->LI->LI->LL->Int->LI->LL->Option β) (z:LL->Option β) (x0:L3) (x1 x2:Int) (x3:LI) (x4:L3) (x5 x6:LL) (x7:LI) (x8:Int) (x9 x10:LI) (x11:LL) (x12:Int) (x13:LI) (x14:LL)
def GB:Option β:=(cond (decide (x2 < x1)) (ck x2 (x0.length:Int) (cond (decide ((↑(List.length (List.getD x0 x2.toNat [])):Int)<=(↑(List.length (List.getD x0 x2.toNat [])):Int))) (cond (decide ((↑(List.length (List.getD x0 x2.toNat [])):Int)<=(↑(nat_lit 2147483648):Int))) (ob (jr FU x2 x0 x1 x2 (↑(List.length (List.replicate (↑(List.length (List.getD x0 x2.toNat [])):Int).toNat (0:Int))):Int) 0 x3 x4 x5 x6 x7 x8 x9 x10 x11 x12 x13 (List.replicate (↑(List.length (List.getD x0 x2.toNat [])):Int).toNat 0) x14) fun r1=>(cond (decide (List.length x14+List.length [r1]<=nat_lit 2147483648)) (y x0 x1 (wI (x2+1)) x3 x4 x5 x6 x7 x8 x9 x10 x11 x12 x13 (x14++[r1])) none)) none) none)) (z x14))
def jZ:=itL (fun _ _ _ _ _ _ _ _ _ _ _ _ _ _ _=>none) fun f=>GB f some
theorem qbb (n:Nat):jZ (n+1)=GB (jZ n) some:=rfl
def qbW:LL->Ex×CS:=fun r=>((.exit 0),⟨[(5,vG 7)],[],[bx2 x3 x4 x5 x6 x7 x8,rd0 x9,rd0 x10,.box 31 [kd2 x11],.box 53 [.ptr 0 0],.box 3 [I4 x12],.box 22 [kd0 x13],rd1 r],7,false⟩)
abbrev qak:CS:=⟨[(1,.v (.sc (.fn 81 0 [none,none,none,none] [.ptr 3 0,.ptr 4 0,.ptr 5 0,.ptr 6 0]))),(5,vG 7),(14,vd2 x0),(15,vI x1),(16,vI x2)],[],[bx2 x3 x4 x5 x6 x7 x8,rd0 x9,rd0 x10,.box 31 [kd2 x11],.box 53 [.ptr 0 0],.box 3 [I4 x12],.box 22 [kd0 x13],rd1 x14],7,false⟩
theorem qhG {k m n:Nat} {r:LL} (h:jZ n x0 x1 x2 x3 x4 x5 x6 x7 x8 x9 x10 x11 x12 x13 x14=some r):lE S105 31 0 k (n+m) (qak x0 x1 x2 x3 x4 x5 x6 x7 x8 x9 x10 x11 x12 x13 x14)=some (qbW x3 x4 x5 x6 x7 x8 x9 x10 x11 x12 x13 r):=by
 induction n generalizing x2 x14 with
 |zero=>cases h
 |succ n ih=>
 exact lS (GB (fun x0 x1 x2 x3 x4 x5 x6 x7 x8 x9 x10 x11 x12 x13 x14=>lE S105 31 0 k (n+m) (qak x0 x1 x2 x3 x4 x5 x6 x7 x8 x9 x10 x11 x12 x13 x14)) (sm (qbW x3 x4 x5 x6 x7 x8 x9 x10 x11 x12 x13)) x0 x1 x2 x3 x4 x5 x6 x7 x8 x9 x10 x11 x12 x13 x14) (by kernel_rfl) (by rw [qbb];unfold GB;with_reducible repeat' first|apply zd|exact ih _ _|exact nX|exact sX) h
end
def S106:=S105.lp 31 0 (qak [] 0 0 [] [] [] [] [] 0 [] [] [] 0 [] []) (fun x0 x1 x2 x3 x4 x5 x6 x7 x8 x9 x10 x11 x12 x13 x14=>some (y1 (jZ FU x0 x1 x2 x3 x4 x5 x6 x7 x8 x9 x10 x11 x12 x13 x14) (qbW x3 x4 x5 x6 x7 x8 x9 x10 x11 x12 x13))) (by kernel_rfl) fun _=>w1 fun h=>qhG _ _ _ _ _ _ _ _ _ _ _ _ _ _ _ h
section
variable {β:Type} (z:LL->Option β) (x0:LI) (x1:L3) (x2 x3:LL) (x4:LI) (x5:Int) (x6 x7:LI) (x8:LL) (x9:Int) (x10:LI)
def qcU:Option β:=(ob (jZ FU x1 (x1.length:Int) 0 x0 x1 x2 x3 x4 x5 x6 x7 x8 x9 x10 []) fun r1=>(z r1))
def JL:=qcU some x0 x1 x2 x3 x4 x5 x6 x7 x8 x9 x10
abbrev qfi:List TA:=[.sc (.ptr 0 0),.sc (.fn 81 0 [none,none,none,none] [.ptr 3 0,.ptr 4 0,.ptr 5 0,.ptr 6 0])]
abbrev qfD:List TO:=[bx2 x0 x1 x2 x3 x4 x5,rd0 x6,rd0 x7,.box 31 [kd2 x8],.box 53 [.ptr 0 0],.box 3 [I4 x9],.box 22 [kd0 x10]]
abbrev qgN:LL->List TA×List TO:=fun r=>([.sc (kd2 r)],[bx2 x0 x1 x2 x3 x4 x5,rd0 x6,rd0 x7,.box 31 [kd2 x8],.box 53 [.ptr 0 0],.box 3 [I4 x9],.box 22 [kd0 x10]])
theorem ev31_3:fE S106 31 qfi (qfD x0 x1 x2 x3 x4 x5 x6 x7 x8 x9 x10)=(JL x0 x1 x2 x3 x4 x5 x6 x7 x8 x9 x10).bind (sm (qgN x0 x1 x2 x3 x4 x5 x6 x7 x8 x9 x10)):=zE (fun z=>qcU z x0 x1 x2 x3 x4 x5 x6 x7 x8 x9 x10) (by kernel_rfl) fun K=>by unfold JL qcU;with_reducible repeat' first|apply zc|exact nB|exact sB
end
def S107:=S106.fn 31 qfi (qfD [] [] [] [] [] 0 [] [] [] 0 []) (fun x0 x1 x2 x3 x4 x5 x6 x7 x8 x9 x10=>some (y1 (JL x0 x1 x2 x3 x4 x5 x6 x7 x8 x9 x10) (qgN x0 x1 x2 x3 x4 x5 x6 x7 x8 x9 x10))) rfl fun _=>w1 fun h=>(ev31_3 ..).trans (bD h)
section
variable {β:Type} (y:Int->LI->Int->Int->Option β) (z:Int->Option β) (x0:Int) (x1:LI) (x2 x3:Int)
def GT:Option β:=(cond (decide (x3 < x2)) (ck x3 (x1.length:Int) (y (wI (x0+List.getD x1 x3.toNat 0)) x1 x2 (wI (x3+1)))) (z x0))
def gm:=itL (fun _ _ _ _=>none) fun f=>GT f some
theorem qbE (n:Nat):gm (n+1)=GT (gm n) some:=rfl
def qcr:Int->Ex×CS:=fun r=>((.exit 0),⟨[(3,vI r)],[],[],0,false⟩)
abbrev qaO:CS:=⟨[(3,vI x0),(6,vd0 x1),(7,vI x2),(8,vI x3)],[],[],0,false⟩
theorem qib {k m n:Nat} {r:Int} (h:gm n x0 x1 x2 x3=some r):lE S107 82 0 k (n+m) (qaO x0 x1 x2 x3)=some (qcr r):=by
 induction n generalizing x0 x3 with
 |zero=>cases h
 |succ n ih=>
 exact lS (GT (fun x0 x1 x2 x3=>lE S107 82 0 k (n+m) (qaO x0 x1 x2 x3)) (sm qcr) x0 x1 x2 x3) (by kernel_rfl) (by rw [qbE];unfold GT;with_reducible repeat' first|apply zd|exact ih _ _|exact nX|exact sX) h
end
def S108:=S107.lp 82 0 (qaO 0 [] 0 0) (fun x0 x1 x2 x3=>some (y1 (gm FU x0 x1 x2 x3) qcr)) (by kernel_rfl) fun _=>w1 fun h=>qib _ _ _ _ h
section
variable {β:Type} (z:Int->Option β) (x0:LI)
def tv82:Option β:=(ob (gm FU 0 x0 (x0.length:Int) 0) fun r1=>(z r1))
def v82:=tv82 some x0
abbrev aF82:List TA:=[.sc (kd0 x0)]
abbrev rF82:Int->List TA×List TO:=fun r=>([.sc (I4 r)],[])
theorem ev82:fE S108 82 (aF82 x0) []=(v82 x0).bind (sm rF82):=zE (fun z=>tv82 z x0) (by kernel_rfl) fun K=>by unfold v82 tv82;with_reducible repeat' first|apply zc|exact nB|exact sB
end
def S109:=S108.fn 82 (aF82 []) [] (fun x0=>some (y1 (v82 x0) rF82)) rfl fun _=>w1 fun h=>(ev82 ..).trans (bD h)
section
variable {β:Type} (y:Int->Int->LL->Int->Int->Int->LL->Int->LI->L3->LL->LL->LI->Int->LI->LI->LI->LL->LI->Option β) (z:(Bool ⊕ (Int × Int))->Option β) (x0 x1:Int) (x2:LL) (x3 x4 x5:Int) (x6:LL) (x7:Int) (x8:LI) (x9:L3) (x10 x11:LL) (x12:LI) (x13:Int) (x14 x15 x16:LI) (x17:LL) (x18:LI)
def GJ:Option β:=(cond (decide (x4 < x3)) (ck x4 (x2.length:Int) (ob (v82 (List.getD x2 x4.toNat [])) fun r1=>(cond (r1==0) (z (.inl (false))) (cond (decide (r1≠0)) (ob (v33 x4 x8 x9 x10 x11 x12 x13 x14 x15) fun r2=>(cond (decide (wI (x0*r2.2) < wI (wI (Int.tdiv (wI (wI ((1000000000000:Int)+r1) - (1:Int))) r1)*x1))) (y (wI (Int.tdiv (wI (wI ((1000000000000:Int)+r1) - (1:Int))) r1)) (r2.2) x2 x3 (wI (x4+1)) x5 x6 x7 x8 x9 x10 x11 x12 x13 x14 x15 x16 x17 x18) (y x0 x1 x2 x3 (wI (x4+1)) x5 x6 x7 x8 x9 x10 x11 x12 x13 x14 x15 x16 x17 x18))) none)))) (z (.inr (x0,x1))))
def jg:=itL (fun _ _ _ _ _ _ _ _ _ _ _ _ _ _ _ _ _ _ _=>none) fun f=>GJ f some
theorem qbu (n:Nat):jg (n+1)=GJ (jg n) some:=rfl
def qch:(Bool ⊕ (Int×Int))->Ex×CS:=Sum.elim (fun r=>(.ret,⟨[(6,.l 6 0),(7,vB r)],[(6,[kd2 x6,.g 3,I4 x7])],[bx2 x8 x9 x10 x11 x12 x13,rd0 x14,rd0 x15,rd0 x16],3,true⟩)) fun r=>((.exit 0),⟨[(2,vG 1),(3,vP 3),(6,.l 6 0),(10,.l 10 0),(11,vI r.1),(12,vI r.2)],[(6,[.g 5,.g 6,I4 x5]),(10,[kd2 x6,.g 4,I4 x7])],[bx2 x8 x9 x10 x11 x12 x13,rd0 x14,rd0 x15,.box 53 [.ptr 0 0],rd0 x16,rd1 x17,rd0 x18],3,false⟩)
abbrev qaE:CS:=⟨[(2,vG 1),(3,vP 3),(6,.l 6 0),(10,.l 10 0),(11,vI x0),(12,vI x1),(43,vd1 x2),(44,vI x3),(45,vI x4)],[(6,[.g 5,.g 6,I4 x5]),(10,[kd2 x6,.g 4,I4 x7])],[bx2 x8 x9 x10 x11 x12 x13,rd0 x14,rd0 x15,.box 53 [.ptr 0 0],rd0 x16,rd1 x17,rd0 x18],3,false⟩
theorem qh1 {k m n:Nat} {r:Bool ⊕ (Int×Int)} (h:jg n x0 x1 x2 x3 x4 x5 x6 x7 x8 x9 x10 x11 x12 x13 x14 x15 x16 x17 x18=some r):lE S109 75 0 k (n+m) (qaE x0 x1 x2 x3 x4 x5 x6 x7 x8 x9 x10 x11 x12 x13 x14 x15 x16 x17 x18)=some (qch x5 x6 x7 x8 x9 x10 x11 x12 x13 x14 x15 x16 x17 x18 r):=by
 induction n generalizing x0 x1 x4 with
 |zero=>cases h
 |succ n ih=>
 exact lS (GJ (fun x0 x1 x2 x3 x4 x5 x6 x7 x8 x9 x10 x11 x12 x13 x14 x15 x16 x17 x18=>lE S109 75 0 k (n+m) (qaE x0 x1 x2 x3 x4 x5 x6 x7 x8 x9 x10 x11 x12 x13 x14 x15 x16 x17 x18)) (sm (qch x5 x6 x7 x8 x9 x10 x11 x12 x13 x14 x15 x16 x17 x18)) x0 x1 x2 x3 x4 x5 x6 x7 x8 x9 x10 x11 x12 x13 x14 x15 x16 x17 x18) (by kernel_rfl) (by rw [qbu];unfold GJ;with_reducible repeat' first|apply zd|exact ih _ _ _|exact nX|exact sX) h
end
def S110:=S109.lp 75 0 (qaE 0 0 [] 0 0 0 [] 0 [] [] [] [] [] 0 [] [] [] [] []) (fun x0 x1 x2 x3 x4 x5 x6 x7 x8 x9 x10 x11 x12 x13 x14 x15 x16 x17 x18=>some (y2 (jg FU x0 x1 x2 x3 x4 x5 x6 x7 x8 x9 x10 x11 x12 x13 x14 x15 x16 x17 x18) (qch x5 x6 x7 x8 x9 x10 x11 x12 x13 x14 x15 x16 x17 x18))) (by kernel_rfl) fun _=>w2 fun h=>qh1 _ _ _ _ _ _ _ _ _ _ _ _ _ _ _ _ _ _ _ h
section
variable {β:Type} (z:Int->Option β) (x0 x1:Int)
def tv83:Option β:=(z ((1:Int)))
def v83 (x0 x1:Int):Option Int:=tv83 some
abbrev aF83:List TA:=[.sc (I4 x0),.sc (I4 x1)]
abbrev rF83:Int->List TA×List TO:=fun r=>([.sc (I4 r)],[])
theorem ev83:fE S110 83 (aF83 x0 x1) []=(v83 x0 x1).bind (sm rF83):=zE (fun z=>tv83 z) (by kernel_rfl) fun K=>by unfold v83 tv83;with_reducible repeat' first|apply zc|exact nB|exact sB
end
def S111:=S110.fn 83 (aF83 0 0) [] (fun x0 x1=>some (y1 (v83 x0 x1) rF83)) rfl fun _=>w1 fun h=>(ev83 ..).trans (bD h)
section
variable {β:Type} (y:Int->L3->Int->Int->Int->Int->LI->L3->LL->LL->LI->Int->LI->LI->LI->LL->Option β) (z:LI->Option β) (x0:Int) (x1:L3) (x2 x3 x4 x5:Int) (x6:LI) (x7:L3) (x8 x9:LL) (x10:LI) (x11:Int) (x12 x13 x14:LI) (x15:LL)
def g9:Option β:=(cond (decide (x5 < x4)) (ck x5 (x14.length:Int) (cond (decide (x5.toNat < List.length x14)) (y x0 x1 x2 x3 x4 (wI (x5+1)) x6 x7 x8 x9 x10 x11 x12 x13 (List.set x14 x5.toNat (val (v83 x0 x5))) x15) none)) (z x14))
def js:=itL (fun _ _ _ _ _ _ _ _ _ _ _ _ _ _ _ _=>none) fun f=>g9 f some
theorem Sj (n:Nat):js (n+1)=g9 (js n) some:=rfl
def Hj:LI->Ex×CS:=fun r=>((.exit 2),⟨[(1,.v (.sc (.fn 83 0 [] []))),(5,vG 4),(8,vG 3),(14,vd2 x1),(15,vI x2),(16,vI x3)],[],[bx2 x6 x7 x8 x9 x10 x11,rd0 x12,rd0 x13,rd0 r,rd1 x15],3,false⟩)
abbrev DI:CS:=⟨[(1,.v (.sc (.fn 83 0 [] []))),(5,vG 4),(6,vI x0),(8,vG 3),(14,vd2 x1),(15,vI x2),(16,vI x3),(25,vI x4),(26,vI x5)],[],[bx2 x6 x7 x8 x9 x10 x11,rd0 x12,rd0 x13,rd0 x14,rd1 x15],3,false⟩
theorem qgi {k m n:Nat} {r:LI} (h:js n x0 x1 x2 x3 x4 x5 x6 x7 x8 x9 x10 x11 x12 x13 x14 x15=some r):lE S111 31 2 k (n+m) (DI x0 x1 x2 x3 x4 x5 x6 x7 x8 x9 x10 x11 x12 x13 x14 x15)=some (Hj x1 x2 x3 x6 x7 x8 x9 x10 x11 x12 x13 x15 r):=by
 induction n generalizing x5 x14 with
 |zero=>cases h
 |succ n ih=>
 exact lS (g9 (fun x0 x1 x2 x3 x4 x5 x6 x7 x8 x9 x10 x11 x12 x13 x14 x15=>lE S111 31 2 k (n+m) (DI x0 x1 x2 x3 x4 x5 x6 x7 x8 x9 x10 x11 x12 x13 x14 x15)) (sm (Hj x1 x2 x3 x6 x7 x8 x9 x10 x11 x12 x13 x15)) x0 x1 x2 x3 x4 x5 x6 x7 x8 x9 x10 x11 x12 x13 x14 x15) (by kernel_rfl) (by rw [Sj];unfold g9;with_reducible repeat' first|apply zd|exact ih _ _|exact nX|exact sX) h
end
def S112:=S111.lp 31 2 (DI 0 [] 0 0 0 0 [] [] [] [] [] 0 [] [] [] []) (fun x0 x1 x2 x3 x4 x5 x6 x7 x8 x9 x10 x11 x12 x13 x14 x15=>some (y1 (js FU x0 x1 x2 x3 x4 x5 x6 x7 x8 x9 x10 x11 x12 x13 x14 x15) (Hj x1 x2 x3 x6 x7 x8 x9 x10 x11 x12 x13 x15))) (by kernel_rfl) fun _=>w1 fun h=>qgi _ _ _ _ _ _ _ _ _ _ _ _ _ _ _ _ h
section
variable {β:Type} (y:L3->Int->Int->LI->L3->LL->LL->LI->Int->LI->LI->LL->Option β) (z:LL->Option β) (x0:L3) (x1 x2:Int) (x3:LI) (x4:L3) (x5 x6:LL) (x7:LI) (x8:Int) (x9 x10:LI) (x11:LL)
def GC:Option β:=(cond (decide (x2 < x1)) (ck x2 (x0.length:Int) (cond (decide ((↑(List.length (List.getD x0 x2.toNat [])):Int)<=(↑(List.length (List.getD x0 x2.toNat [])):Int))) (cond (decide ((↑(List.length (List.getD x0 x2.toNat [])):Int)<=(↑(nat_lit 2147483648):Int))) (ob (js FU x2 x0 x1 x2 (↑(List.length (List.replicate (↑(List.length (List.getD x0 x2.toNat [])):Int).toNat (0:Int))):Int) 0 x3 x4 x5 x6 x7 x8 x9 x10 (List.replicate (↑(List.length (List.getD x0 x2.toNat [])):Int).toNat 0) x11) fun r1=>(cond (decide (List.length x11+List.length [r1]<=nat_lit 2147483648)) (y x0 x1 (wI (x2+1)) x3 x4 x5 x6 x7 x8 x9 x10 (x11++[r1])) none)) none) none)) (z x11))
def j4:=itL (fun _ _ _ _ _ _ _ _ _ _ _ _=>none) fun f=>GC f some
theorem qbc (n:Nat):j4 (n+1)=GC (j4 n) some:=rfl
def qbX:LL->Ex×CS:=fun r=>((.exit 0),⟨[(5,vG 3)],[],[bx2 x3 x4 x5 x6 x7 x8,rd0 x9,rd0 x10,rd1 r],3,false⟩)
abbrev qal:CS:=⟨[(1,.v (.sc (.fn 83 0 [] []))),(5,vG 3),(14,vd2 x0),(15,vI x1),(16,vI x2)],[],[bx2 x3 x4 x5 x6 x7 x8,rd0 x9,rd0 x10,rd1 x11],3,false⟩
theorem qhH {k m n:Nat} {r:LL} (h:j4 n x0 x1 x2 x3 x4 x5 x6 x7 x8 x9 x10 x11=some r):lE S112 31 0 k (n+m) (qal x0 x1 x2 x3 x4 x5 x6 x7 x8 x9 x10 x11)=some (qbX x3 x4 x5 x6 x7 x8 x9 x10 r):=by
 induction n generalizing x2 x11 with
 |zero=>cases h
 |succ n ih=>
 exact lS (GC (fun x0 x1 x2 x3 x4 x5 x6 x7 x8 x9 x10 x11=>lE S112 31 0 k (n+m) (qal x0 x1 x2 x3 x4 x5 x6 x7 x8 x9 x10 x11)) (sm (qbX x3 x4 x5 x6 x7 x8 x9 x10)) x0 x1 x2 x3 x4 x5 x6 x7 x8 x9 x10 x11) (by kernel_rfl) (by rw [qbc];unfold GC;with_reducible repeat' first|apply zd|exact ih _ _|exact nX|exact sX) h
end
def S113:=S112.lp 31 0 (qal [] 0 0 [] [] [] [] [] 0 [] [] []) (fun x0 x1 x2 x3 x4 x5 x6 x7 x8 x9 x10 x11=>some (y1 (j4 FU x0 x1 x2 x3 x4 x5 x6 x7 x8 x9 x10 x11) (qbX x3 x4 x5 x6 x7 x8 x9 x10))) (by kernel_rfl) fun _=>w1 fun h=>qhH _ _ _ _ _ _ _ _ _ _ _ _ h
section
variable {β:Type} (z:LL->Option β) (x0:LI) (x1:L3) (x2 x3:LL) (x4:LI) (x5:Int) (x6 x7:LI)
def qcV:Option β:=(ob (j4 FU x1 (x1.length:Int) 0 x0 x1 x2 x3 x4 x5 x6 x7 []) fun r1=>(z r1))
def JM:=qcV some x0 x1 x2 x3 x4 x5 x6 x7
abbrev qfj:List TA:=[.sc (.ptr 0 0),.sc (.fn 83 0 [] [])]
abbrev qfE:List TO:=[bx2 x0 x1 x2 x3 x4 x5,rd0 x6,rd0 x7]
abbrev qgO:LL->List TA×List TO:=fun r=>([.sc (kd2 r)],[bx2 x0 x1 x2 x3 x4 x5,rd0 x6,rd0 x7])
theorem ev31_4:fE S113 31 qfj (qfE x0 x1 x2 x3 x4 x5 x6 x7)=(JM x0 x1 x2 x3 x4 x5 x6 x7).bind (sm (qgO x0 x1 x2 x3 x4 x5 x6 x7)):=zE (fun z=>qcV z x0 x1 x2 x3 x4 x5 x6 x7) (by kernel_rfl) fun K=>by unfold JM qcV;with_reducible repeat' first|apply zc|exact nB|exact sB
end
def S114:=S113.fn 31 qfj (qfE [] [] [] [] [] 0 [] []) (fun x0 x1 x2 x3 x4 x5 x6 x7=>some (y1 (JM x0 x1 x2 x3 x4 x5 x6 x7) (qgO x0 x1 x2 x3 x4 x5 x6 x7))) rfl fun _=>w1 fun h=>(ev31_4 ..).trans (bD h)
section
variable {β:Type} (y:Int->Int->LI->LI->Int->Int->Int->LL->Int->LI->L3->LL->LL->LI->Int->LI->LI->LI->LL->LI->Option β) (z:LI->Option β) (x0 x1:Int) (x2 x3:LI) (x4 x5 x6:Int) (x7:LL) (x8:Int) (x9:LI) (x10:L3) (x11 x12:LL) (x13:LI) (x14:Int) (x15 x16 x17:LI) (x18:LL) (x19:LI)
def Js:Option β:=(cond (decide (x5 < x4)) (ck x5 (x3.length:Int) (cond (List.getD x3 x5.toNat 0==0) (cond (decide (x5 < (x17.length:Int))) (cond (decide (x5.toNat < List.length x17)) (y x0 x1 x2 x3 x4 (wI (x5+1)) x6 x7 x8 x9 x10 x11 x12 x13 x14 x15 x16 (List.set x17 x5.toNat (1000000000000:Int)) x18 x19) none) none) (cond (decide (x5 < (x2.length:Int))) (cond (decide (List.getD x2 x5.toNat 0 > 0)) (cond (decide (x5 < (x15.length:Int))) (cond (decide (x5.toNat < List.length x15)) (cond (decide (x1≠0)) (cond (decide (x5 < (x17.length:Int))) (cond (decide (x5.toNat < List.length x17)) (y x0 x1 x2 x3 x4 (wI (x5+1)) x6 x7 x8 x9 x10 x11 x12 x13 x14 x15 x16 (List.set x17 x5.toNat (wI (Int.tdiv (wI (wI (wI (x0*List.getD x15 x5.toNat 0)+x1) - (1:Int))) x1))) x18 x19) none) none) none) none) none) (y x0 x1 x2 x3 x4 (wI (x5+1)) x6 x7 x8 x9 x10 x11 x12 x13 x14 x15 x16 x17 x18 x19)) none))) (z x17))
def qd0:Option β:=(cond (decide (x5 < x4)) (ck x5 (x3.length:Int) (cond (List.getD x3 x5.toNat 0==0) (ck x5 (x17.length:Int) (cond (decide (x5.toNat < List.length x17)) (y x0 x1 x2 x3 x4 (wI (x5+1)) x6 x7 x8 x9 x10 x11 x12 x13 x14 x15 x16 (List.set x17 x5.toNat (1000000000000:Int)) x18 x19) none)) (ck x5 (x2.length:Int) (cond (decide (List.getD x2 x5.toNat 0 > 0)) (ck x5 (x15.length:Int) (cond (decide (x5.toNat < List.length x15)) (cond (decide (x1≠0)) (ck x5 (x17.length:Int) (cond (decide (x5.toNat < List.length x17)) (y x0 x1 x2 x3 x4 (wI (x5+1)) x6 x7 x8 x9 x10 x11 x12 x13 x14 x15 x16 (List.set x17 x5.toNat (wI (Int.tdiv (wI (wI (wI (x0*List.getD x15 x5.toNat 0)+x1) - (1:Int))) x1))) x18 x19) none)) none) none)) (y x0 x1 x2 x3 x4 (wI (x5+1)) x6 x7 x8 x9 x10 x11 x12 x13 x14 x15 x16 x17 x18 x19))))) (z x17))
def jy:=itL (fun _ _ _ _ _ _ _ _ _ _ _ _ _ _ _ _ _ _ _ _=>none) fun f=>Js f some
theorem Sv (n:Nat):jy (n+1)=Js (jy n) some:=rfl
def HA:LI->Ex×CS:=fun r=>((.exit 2),⟨[(3,vP 3),(6,.l 6 0),(10,.l 10 0)],[(6,[.g 5,.g 6,I4 x6]),(10,[kd2 x7,.g 4,I4 x8])],[bx2 x9 x10 x11 x12 x13 x14,rd0 x15,rd0 x16,.box 53 [.ptr 0 0],rd0 r,rd1 x18,rd0 x19],3,false⟩)
abbrev DU:CS:=⟨[(2,vG 1),(3,vP 3),(6,.l 6 0),(10,.l 10 0),(11,vI x0),(12,vI x1),(19,vd0 x2),(85,vd0 x3),(86,vI x4),(87,vI x5)],[(6,[.g 5,.g 6,I4 x6]),(10,[kd2 x7,.g 4,I4 x8])],[bx2 x9 x10 x11 x12 x13 x14,rd0 x15,rd0 x16,.box 53 [.ptr 0 0],rd0 x17,rd1 x18,rd0 x19],3,false⟩
theorem qgx {k m n:Nat} {r:LI} (h:jy n x0 x1 x2 x3 x4 x5 x6 x7 x8 x9 x10 x11 x12 x13 x14 x15 x16 x17 x18 x19=some r):lE S114 75 2 k (n+m) (DU x0 x1 x2 x3 x4 x5 x6 x7 x8 x9 x10 x11 x12 x13 x14 x15 x16 x17 x18 x19)=some (HA x6 x7 x8 x9 x10 x11 x12 x13 x14 x15 x16 x18 x19 r):=by
 induction n generalizing x5 x17 with
 |zero=>cases h
 |succ n ih=>
 exact lS (qd0 (fun x0 x1 x2 x3 x4 x5 x6 x7 x8 x9 x10 x11 x12 x13 x14 x15 x16 x17 x18 x19=>lE S114 75 2 k (n+m) (DU x0 x1 x2 x3 x4 x5 x6 x7 x8 x9 x10 x11 x12 x13 x14 x15 x16 x17 x18 x19)) (sm (HA x6 x7 x8 x9 x10 x11 x12 x13 x14 x15 x16 x18 x19)) x0 x1 x2 x3 x4 x5 x6 x7 x8 x9 x10 x11 x12 x13 x14 x15 x16 x17 x18 x19) (by kernel_rfl) (by rw [Sv];unfold Js qd0;with_reducible repeat' first|apply gT ‹_›|apply gF ‹_›|(apply zz<;>intro _)|exact ih _ _|exact nX|exact sX) h
end
def S115:=S114.lp 75 2 (DU 0 0 [] [] 0 0 0 [] 0 [] [] [] [] [] 0 [] [] [] [] []) (fun x0 x1 x2 x3 x4 x5 x6 x7 x8 x9 x10 x11 x12 x13 x14 x15 x16 x17 x18 x19=>some (y1 (jy FU x0 x1 x2 x3 x4 x5 x6 x7 x8 x9 x10 x11 x12 x13 x14 x15 x16 x17 x18 x19) (HA x6 x7 x8 x9 x10 x11 x12 x13 x14 x15 x16 x18 x19))) (by kernel_rfl) fun _=>w1 fun h=>qgx _ _ _ _ _ _ _ _ _ _ _ _ _ _ _ _ _ _ _ _ h
section
variable {β:Type} (z:(Bool × Int)->Option β) (x0:Int) (x1:LL) (x2:Int) (x3:LI) (x4:L3) (x5 x6:LL) (x7:LI) (x8:Int) (x9 x10 x11:LI) (x12:LL) (x13:LI)
def Gi:Option β:=(ob (v26 x3 x4 x1 x11) fun r1=>(z (r1.2==0,r1.1)))
def gu (x0:Int) (x1:LL) (x2:Int) (x3:LI) (x4:L3) (x5 x6:LL) (x7:LI) (x8:Int) (x9 x10 x11:LI) (x12:LL) (x13:LI):Option (Bool×Int):=Gi some x1 x3 x4 x11
def Do:(Bool×Int)->Ex×CS:=fun r=>(.ret,⟨[(6,.l 6 0),(7,vB r.1)],[(6,[kd2 x1,.g 3,I4 r.2])],[bx2 x3 x4 x5 x6 x7 x8,rd0 x9,rd0 x10,rd0 x11],3,true⟩)
abbrev qcH:CS:=⟨[(3,vP 3),(6,.l 6 0),(10,.l 10 0)],[(6,[.g 5,.g 6,I4 x0]),(10,[kd2 x1,.g 4,I4 x2])],[bx2 x3 x4 x5 x6 x7 x8,rd0 x9,rd0 x10,.box 53 [.ptr 0 0],rd0 x11,rd1 x12,rd0 x13],3,false⟩
theorem qfd {k:Nat} {r:Bool×Int}:gu x0 x1 x2 x3 x4 x5 x6 x7 x8 x9 x10 x11 x12 x13=some r->pE S115 75 212 0 k (qcH x0 x1 x2 x3 x4 x5 x6 x7 x8 x9 x10 x11 x12 x13)=some (Do x1 x3 x4 x5 x6 x7 x8 x9 x10 x11 r):=lP (Gi (sm (Do x1 x3 x4 x5 x6 x7 x8 x9 x10 x11)) x1 x3 x4 x11) (by kernel_rfl) (by unfold gu Gi;with_reducible repeat' first|apply zd|exact nX|exact sX)
end
def S116:=S115.pc 75 212 0 (qcH 0 [] 0 [] [] [] [] [] 0 [] [] [] [] []) (fun x0 x1 x2 x3 x4 x5 x6 x7 x8 x9 x10 x11 x12 x13=>some (y1 (gu x0 x1 x2 x3 x4 x5 x6 x7 x8 x9 x10 x11 x12 x13) (Do x1 x3 x4 x5 x6 x7 x8 x9 x10 x11))) (by kernel_rfl) rfl fun _=>w1 fun h=>qfd _ _ _ _ _ _ _ _ _ _ _ _ _ _ h
section
variable {β:Type} (z:(Bool × Int × LI)->Option β) (x0 x1:Int) (x2:LI) (x3:Int) (x4:LL) (x5:Int) (x6:LI) (x7:L3) (x8 x9:LL) (x10:LI) (x11:Int) (x12 x13 x14:LI) (x15:LL) (x16:LI)
def JJ:Option β:=(ob (jy FU x0 x1 x2 x6 (x6.length:Int) 0 x3 x4 x5 x6 x7 x8 x9 x10 x11 x12 x13 x14 x15 x16) fun r1=>(ob (gu x3 x4 x5 x6 x7 x8 x9 x10 x11 x12 x13 r1 x15 x16) fun r2=>(z (r2.1,r2.2,r1))))
def G4:=JJ some x0 x1 x2 x3 x4 x5 x6 x7 x8 x9 x10 x11 x12 x13 x14 x15 x16
def Dm:(Bool×Int×LI)->Ex×CS:=fun r=>(.ret,⟨[(6,.l 6 0),(7,vB r.1)],[(6,[kd2 x4,.g 3,I4 r.2.1])],[bx2 x6 x7 x8 x9 x10 x11,rd0 x12,rd0 x13,rd0 r.2.2],3,true⟩)
abbrev qcF:CS:=⟨[(2,vG 1),(3,vP 3),(6,.l 6 0),(10,.l 10 0),(11,vI x0),(12,vI x1),(19,vd0 x2)],[(6,[.g 5,.g 6,I4 x3]),(10,[kd2 x4,.g 4,I4 x5])],[bx2 x6 x7 x8 x9 x10 x11,rd0 x12,rd0 x13,.box 53 [.ptr 0 0],rd0 x14,rd1 x15,rd0 x16],3,false⟩
theorem qfb {k:Nat} {r:Bool×Int×LI}:G4 x0 x1 x2 x3 x4 x5 x6 x7 x8 x9 x10 x11 x12 x13 x14 x15 x16=some r->pE S116 75 148 0 k (qcF x0 x1 x2 x3 x4 x5 x6 x7 x8 x9 x10 x11 x12 x13 x14 x15 x16)=some (Dm x4 x6 x7 x8 x9 x10 x11 x12 x13 r):=lP (JJ (sm (Dm x4 x6 x7 x8 x9 x10 x11 x12 x13)) x0 x1 x2 x3 x4 x5 x6 x7 x8 x9 x10 x11 x12 x13 x14 x15 x16) (by kernel_rfl) (by unfold G4 JJ;with_reducible repeat' first|apply zd|exact nX|exact sX)
end
def S117:=S116.pc 75 148 0 (qcF 0 0 [] 0 [] 0 [] [] [] [] [] 0 [] [] [] [] []) (fun x0 x1 x2 x3 x4 x5 x6 x7 x8 x9 x10 x11 x12 x13 x14 x15 x16=>some (y1 (G4 x0 x1 x2 x3 x4 x5 x6 x7 x8 x9 x10 x11 x12 x13 x14 x15 x16) (Dm x4 x6 x7 x8 x9 x10 x11 x12 x13))) (by kernel_rfl) rfl fun _=>w1 fun h=>qfb _ _ _ _ _ _ _ _ _ _ _ _ _ _ _ _ _ h
section
variable {β:Type} (z:(Bool × Int × LI)->Option β) (x0:Int) (x1:LL) (x2:Int) (x3:LI) (x4:L3) (x5 x6:LL) (x7:LI) (x8:Int) (x9 x10 x11:LI) (x12:LL) (x13:LI)
def KF:Option β:=(cond (isL (jg FU 0 (1:Int) x1 (x1.length:Int) 0 x0 x1 x2 x3 x4 x5 x6 x7 x8 x9 x10 x11 x12 x13)) (z (zx (jg FU 0 (1:Int) x1 (x1.length:Int) 0 x0 x1 x2 x3 x4 x5 x6 x7 x8 x9 x10 x11 x12 x13),x2,x11)) (ob (zB (jg FU 0 (1:Int) x1 (x1.length:Int) 0 x0 x1 x2 x3 x4 x5 x6 x7 x8 x9 x10 x11 x12 x13)) fun r1=>(ob (JM x3 x4 x5 x6 x7 x8 x9 x10) fun r2=>(ob (v60 r2 x3 x4 x5 x6 x7 x8 x9 x10) fun r3=>(ob (G4 r1.1 r1.2 r3 x0 x1 x2 x3 x4 x5 x6 x7 x8 x9 x10 x11 x12 x13) fun r4=>(z (r4.1,r4.2.1,r4.2.2)))))))
def JU:=KF some x0 x1 x2 x3 x4 x5 x6 x7 x8 x9 x10 x11 x12 x13
def HE:(Bool×Int×LI)->Ex×CS:=fun r=>(.ret,⟨[(6,.l 6 0),(7,vB r.1)],[(6,[kd2 x1,.g 3,I4 r.2.1])],[bx2 x3 x4 x5 x6 x7 x8,rd0 x9,rd0 x10,rd0 r.2.2],3,true⟩)
abbrev qdy:CS:=⟨[(2,vG 1),(3,vP 3),(6,.l 6 0),(10,.l 10 0),(41,.l 10 0)],[(6,[.g 5,.g 6,I4 x0]),(10,[kd2 x1,.g 4,I4 x2])],[bx2 x3 x4 x5 x6 x7 x8,rd0 x9,rd0 x10,.box 53 [.ptr 0 0],rd0 x11,rd1 x12,rd0 x13],3,false⟩
theorem qgB {k:Nat} {r:Bool×Int×LI}:JU x0 x1 x2 x3 x4 x5 x6 x7 x8 x9 x10 x11 x12 x13=some r->pE S117 75 44 0 k (qdy x0 x1 x2 x3 x4 x5 x6 x7 x8 x9 x10 x11 x12 x13)=some (HE x1 x3 x4 x5 x6 x7 x8 x9 x10 r):=lP (KF (sm (HE x1 x3 x4 x5 x6 x7 x8 x9 x10)) x0 x1 x2 x3 x4 x5 x6 x7 x8 x9 x10 x11 x12 x13) (by kernel_rfl) (by unfold JU KF;with_reducible repeat' first|apply zd|exact nX|exact sX)
end
def S118:=S117.pc 75 44 0 (qdy 0 [] 0 [] [] [] [] [] 0 [] [] [] [] []) (fun x0 x1 x2 x3 x4 x5 x6 x7 x8 x9 x10 x11 x12 x13=>some (y1 (JU x0 x1 x2 x3 x4 x5 x6 x7 x8 x9 x10 x11 x12 x13) (HE x1 x3 x4 x5 x6 x7 x8 x9 x10))) (by kernel_rfl) rfl fun _=>w1 fun h=>qgB _ _ _ _ _ _ _ _ _ _ _ _ _ _ h
section
variable {β:Type} (z:(Bool × LL × Int × LI)->Option β) (x0 x1:Int) (x2:LI) (x3:L3) (x4 x5:LL) (x6:LI) (x7:Int) (x8 x9 x10:LI) (x11:LL) (x12:Int) (x13:LL) (x14:LI) (x15:LL) (x16:LI)
def KD:Option β:=(ob (JL x2 x3 x4 x5 x6 x7 x8 x9 x11 x12 x10) fun r1=>(ob (JU x0 r1 x1 x2 x3 x4 x5 x6 x7 x8 x9 x14 x15 x16) fun r2=>(z (r2.1,r1,r2.2.1,r2.2.2))))
def Gr (x0 x1:Int) (x2:LI) (x3:L3) (x4 x5:LL) (x6:LI) (x7:Int) (x8 x9 x10:LI) (x11:LL) (x12:Int) (x13:LL) (x14:LI) (x15:LL) (x16:LI):Option (Bool×LL×Int×LI):=KD some x0 x1 x2 x3 x4 x5 x6 x7 x8 x9 x10 x11 x12 x14 x15 x16
def HC:(Bool×LL×Int×LI)->Ex×CS:=fun r=>(.ret,⟨[(6,.l 6 0),(7,vB r.1)],[(6,[kd2 r.2.1,.g 3,I4 r.2.2.1])],[bx2 x2 x3 x4 x5 x6 x7,rd0 x8,rd0 x9,rd0 r.2.2.2],3,true⟩)
abbrev qdw:CS:=⟨[(2,vG 1),(3,vP 6),(4,vP 4),(6,.l 6 0),(8,vP 3),(9,vP 5),(10,.l 10 0)],[(6,[.g 9,.g 10,I4 x0]),(10,[.g 7,.g 8,I4 x1])],[bx2 x2 x3 x4 x5 x6 x7,rd0 x8,rd0 x9,.box 22 [kd0 x10],.box 31 [kd2 x11],.box 3 [I4 x12],.box 53 [.ptr 0 0],rd1 x13,rd0 x14,rd1 x15,rd0 x16],3,false⟩
theorem qgz {k:Nat} {r:Bool×LL×Int×LI}:Gr x0 x1 x2 x3 x4 x5 x6 x7 x8 x9 x10 x11 x12 x13 x14 x15 x16=some r->pE S118 75 36 0 k (qdw x0 x1 x2 x3 x4 x5 x6 x7 x8 x9 x10 x11 x12 x13 x14 x15 x16)=some (HC x2 x3 x4 x5 x6 x7 x8 x9 r):=lP (KD (sm (HC x2 x3 x4 x5 x6 x7 x8 x9)) x0 x1 x2 x3 x4 x5 x6 x7 x8 x9 x10 x11 x12 x14 x15 x16) (by kernel_rfl) (by unfold Gr KD;with_reducible repeat' first|apply zd|exact nX|exact sX)
end
def S119:=S118.pc 75 36 0 (qdw 0 0 [] [] [] [] [] 0 [] [] [] [] 0 [] [] [] []) (fun x0 x1 x2 x3 x4 x5 x6 x7 x8 x9 x10 x11 x12 x13 x14 x15 x16=>some (y1 (Gr x0 x1 x2 x3 x4 x5 x6 x7 x8 x9 x10 x11 x12 x13 x14 x15 x16) (HC x2 x3 x4 x5 x6 x7 x8 x9))) (by kernel_rfl) rfl fun _=>w1 fun h=>qgz _ _ _ _ _ _ _ _ _ _ _ _ _ _ _ _ _ h
section
variable {β:Type} (z:(LL × LI × Int × Bool)->Option β) (x0:LL) (x1:LI) (x2:L3) (x3 x4:LL) (x5:LI) (x6:Int) (x7 x8:LI)
def tv75:Option β:=(ob (v60 x0 x1 x2 x3 x4 x5 x6 x7 x8) fun r1=>(ob (v61 r1 x1 x2 x3 x4 x5 x6 x7 x8) fun r2=>(cond (decide ((x1.length:Int)<=(x1.length:Int))) (cond (decide ((x1.length:Int)<=(↑(nat_lit 2147483648):Int))) (ob (Gr 0 0 x1 x2 x3 x4 x5 x6 x7 x8 r1 x0 r2 [] (List.replicate (x1.length:Int).toNat 0) [] []) fun r3=>(z (r3.2.1,r3.2.2.2,r3.2.2.1,r3.1))) none) none)))
def v75:=tv75 some x0 x1 x2 x3 x4 x5 x6 x7 x8
abbrev aF75:List TA:=[.sc (.ptr 0 0),.sc (kd2 x0),.sc (.g 1)]
abbrev hF75:List TO:=[bx2 x1 x2 x3 x4 x5 x6,rd0 x7,rd0 x8]
abbrev rF75:(LL×LI×Int×Bool)->List TA×List TO:=fun r=>([.agg [kd2 r.1,kd0 r.2.1,I4 r.2.2.1],.sc (.bool r.2.2.2)],[bx2 x1 x2 x3 x4 x5 x6,rd0 x7,rd0 x8])
theorem ev75:fE S119 75 (aF75 x0) (hF75 x1 x2 x3 x4 x5 x6 x7 x8)=(v75 x0 x1 x2 x3 x4 x5 x6 x7 x8).bind (sm (rF75 x1 x2 x3 x4 x5 x6 x7 x8)):=zE (fun z=>tv75 z x0 x1 x2 x3 x4 x5 x6 x7 x8) (by kernel_rfl) fun K=>by unfold v75 tv75;with_reducible repeat' first|apply zc|exact nB|exact sB
end
def S120:=S119.fn 75 (aF75 []) (hF75 [] [] [] [] [] 0 [] []) (fun x0 x1 x2 x3 x4 x5 x6 x7 x8=>some (y1 (v75 x0 x1 x2 x3 x4 x5 x6 x7 x8) (rF75 x1 x2 x3 x4 x5 x6 x7 x8))) rfl fun _=>w1 fun h=>(ev75 ..).trans (bD h)
section
variable {β:Type} (z:(LL × LI × Int)->Option β) (x0:LL) (x1:LI) (x2:L3) (x3 x4:LL) (x5:LI) (x6:Int) (x7 x8:LI)
def tv58:Option β:=(ob (v75 x0 x1 x2 x3 x4 x5 x6 x7 x8) fun r1=>(cond (r1.2.2.2) (cond ((x4.length:Int)==0) (z (r1.1,r1.2.1,r1.2.2.1)) (cond (decide (r1.2.2.1 < x6)) (z (r1.1,r1.2.1,r1.2.2.1)) (z (x4,x5,x6)))) (z (x4,x5,x6))))
def v58:=tv58 some x0 x1 x2 x3 x4 x5 x6 x7 x8
abbrev aF58:List TA:=[.sc (.ptr 0 0),.sc (kd2 x0),.sc (.g 1)]
abbrev hF58:List TO:=[bx2 x1 x2 x3 x4 x5 x6,rd0 x7,rd0 x8]
abbrev rF58:(LL×LI×Int)->List TA×List TO:=fun r=>([],[bx2 x1 x2 x3 r.1 r.2.1 r.2.2,rd0 x7,rd0 x8])
theorem ev58:fE S120 58 (aF58 x0) (hF58 x1 x2 x3 x4 x5 x6 x7 x8)=(v58 x0 x1 x2 x3 x4 x5 x6 x7 x8).bind (sm (rF58 x1 x2 x3 x7 x8)):=zE (fun z=>tv58 z x0 x1 x2 x3 x4 x5 x6 x7 x8) (by kernel_rfl) fun K=>by unfold v58 tv58;with_reducible repeat' first|apply zc|exact nB|exact sB
end
def S121:=S120.fn 58 (aF58 []) (hF58 [] [] [] [] [] 0 [] []) (fun x0 x1 x2 x3 x4 x5 x6 x7 x8=>some (y1 (v58 x0 x1 x2 x3 x4 x5 x6 x7 x8) (rF58 x1 x2 x3 x7 x8))) rfl fun _=>w1 fun h=>(ev58 ..).trans (bD h)
section
variable {β:Type} (y:LI->Int->Int->Option β) (z:Int->Option β) (x0:LI) (x1 x2:Int)
def Km:Option β:=(cond (decide (x2 < (x0.length:Int))) (cond (decide (0<=x2)) (y x0 (max x1 (List.getD x0 x2.toNat 0)) (wI (x2+1))) none) (z x1))
def qeA:Option β:=(cond (decide (x2 < (x0.length:Int))) (ck x2 (x0.length:Int) (y x0 (max x1 (List.getD x0 x2.toNat 0)) (wI (x2+1)))) (z x1))
def JO:=itL (fun _ _ _=>none) fun f=>Km f some
theorem qbq (n:Nat):JO (n+1)=Km (JO n) some:=rfl
def qcc:Int->Ex×CS:=fun r=>((.exit 0),⟨[(3,vI r)],[],[],0,false⟩)
abbrev qaz:CS:=⟨[(0,vd0 x0),(3,vI x1),(4,vI x2)],[],[],0,false⟩
theorem qhW {k m n:Nat} {r:Int} (h:JO n x0 x1 x2=some r):lE S121 59 0 k (n+m) (qaz x0 x1 x2)=some (qcc r):=by
 induction n generalizing x1 x2 with
 |zero=>cases h
 |succ n ih=>
 exact lS (qeA (fun x0 x1 x2=>lE S121 59 0 k (n+m) (qaz x0 x1 x2)) (sm qcc) x0 x1 x2) (by kernel_rfl) (by rw [qbq];unfold Km qeA;with_reducible repeat' first|apply gT ‹_›|apply gF ‹_›|(apply zz<;>intro _)|exact ih _ _|exact nX|exact sX) h
end
def S122:=S121.lp 59 0 (qaz [] 0 0) (fun x0 x1 x2=>some (y1 (JO FU x0 x1 x2) qcc)) (by kernel_rfl) fun _=>w1 fun h=>qhW _ _ _ h
section
variable {β:Type} (z:Int->Option β) (x0:LI)
def tv59:Option β:=(cond (decide ((x0.length:Int) < (1:Int))) none (cond (decide (0 < (x0.length:Int))) (ob (JO FU x0 (List.getD x0 (Int.toNat 0) 0) (1:Int)) fun r1=>(z r1)) none))
def v59:=tv59 some x0
abbrev aF59:List TA:=[.sc (kd0 x0)]
abbrev rF59:Int->List TA×List TO:=fun r=>([.sc (I4 r)],[])
theorem ev59:fE S122 59 (aF59 x0) []=(v59 x0).bind (sm rF59):=zE (fun z=>tv59 z x0) (by kernel_rfl) fun K=>by unfold v59 tv59;with_reducible repeat' first|apply zc|exact nB|exact sB
end
def S123:=S122.fn 59 (aF59 []) [] (fun x0=>some (y1 (v59 x0) rF59)) rfl fun _=>w1 fun h=>(ev59 ..).trans (bD h)
section
variable {β:Type} (y:Int->Int->LI->L3->LL->LL->LI->Int->LI->LI->LL->LI->Option β) (z:LI->Option β) (x0 x1:Int) (x2:LI) (x3:L3) (x4 x5:LL) (x6:LI) (x7:Int) (x8 x9:LI) (x10:LL) (x11:LI)
def Jk:Option β:=(cond (decide (x1 < x0)) (ck x1 (x9.length:Int) (cond (decide (x1.toNat < List.length x9)) (ob (v59 x9) fun r1=>(cond (decide (max (1:Int) r1≠0)) (cond (decide (x1 < (x11.length:Int))) (cond (decide (x1.toNat < List.length x11)) (y x0 (wI (x1+1)) x2 x3 x4 x5 x6 x7 x8 x9 x10 (List.set x11 x1.toNat (max (16:Int) (wI (Int.tdiv (wI (List.getD x9 x1.toNat 0*1024)) (max (1:Int) r1)))))) none) none) none)) none)) (z x11))
def qdT:Option β:=(cond (decide (x1 < x0)) (ck x1 (x9.length:Int) (cond (decide (x1.toNat < List.length x9)) (ob (v59 x9) fun r1=>(cond (decide (max (1:Int) r1≠0)) (ck x1 (x11.length:Int) (cond (decide (x1.toNat < List.length x11)) (y x0 (wI (x1+1)) x2 x3 x4 x5 x6 x7 x8 x9 x10 (List.set x11 x1.toNat (max (16:Int) (wI (Int.tdiv (wI (List.getD x9 x1.toNat 0*1024)) (max (1:Int) r1)))))) none)) none)) none)) (z x11))
def jt:=itL (fun _ _ _ _ _ _ _ _ _ _ _ _=>none) fun f=>Jk f some
theorem Sk (n:Nat):jt (n+1)=Jk (jt n) some:=rfl
def Hk:LI->Ex×CS:=fun r=>((.exit 2),⟨[(1,vP 4),(2,vP 3),(5,vG 5)],[],[bx2 x2 x3 x4 x5 x6 x7,rd0 x8,rd0 x9,.box 31 [kd2 x10],.box 53 [.ptr 0 0],rd0 r],3,false⟩)
abbrev DJ:CS:=⟨[(1,vP 4),(2,vP 3),(5,vG 5),(59,vG 2),(60,vI x0),(61,vI x1)],[],[bx2 x2 x3 x4 x5 x6 x7,rd0 x8,rd0 x9,.box 31 [kd2 x10],.box 53 [.ptr 0 0],rd0 x11],3,false⟩
theorem qgj {k m n:Nat} {r:LI} (h:jt n x0 x1 x2 x3 x4 x5 x6 x7 x8 x9 x10 x11=some r):lE S123 34 2 k (n+m) (DJ x0 x1 x2 x3 x4 x5 x6 x7 x8 x9 x10 x11)=some (Hk x2 x3 x4 x5 x6 x7 x8 x9 x10 r):=by
 induction n generalizing x1 x11 with
 |zero=>cases h
 |succ n ih=>
 exact lS (qdT (fun x0 x1 x2 x3 x4 x5 x6 x7 x8 x9 x10 x11=>lE S123 34 2 k (n+m) (DJ x0 x1 x2 x3 x4 x5 x6 x7 x8 x9 x10 x11)) (sm (Hk x2 x3 x4 x5 x6 x7 x8 x9 x10)) x0 x1 x2 x3 x4 x5 x6 x7 x8 x9 x10 x11) (by kernel_rfl) (by rw [Sk];unfold Jk qdT;with_reducible repeat' first|apply gT ‹_›|apply gF ‹_›|(apply zz<;>intro _)|exact ih _ _|exact nX|exact sX) h
end
def S124:=S123.lp 34 2 (DJ 0 0 [] [] [] [] [] 0 [] [] [] []) (fun x0 x1 x2 x3 x4 x5 x6 x7 x8 x9 x10 x11=>some (y1 (jt FU x0 x1 x2 x3 x4 x5 x6 x7 x8 x9 x10 x11) (Hk x2 x3 x4 x5 x6 x7 x8 x9 x10))) (by kernel_rfl) fun _=>w1 fun h=>qgj _ _ _ _ _ _ _ _ _ _ _ _ h
section
variable {β:Type} (y:LI->Int->Int->LL->Int->Int->LI->L3->LL->LL->LI->Int->LI->LI->Option β) (z:(Int × Int)->Option β) (x0:LI) (x1 x2:Int) (x3:LL) (x4 x5:Int) (x6:LI) (x7:L3) (x8 x9:LL) (x10:LI) (x11:Int) (x12 x13:LI)
def GE:Option β:=(cond (decide (x5 < x4)) (ck x5 (x3.length:Int) (ob (v29 (List.getD x3 x5.toNat []) x0) fun r1=>(ob (v54 (List.getD x3 x5.toNat []) x6 x7 x8 x9 x10 x11 x12 x13) fun r2=>(cond r2 (cond (decide (x1 < 0)) (y x0 x5 r1 x3 x4 (wI (x5+1)) x6 x7 x8 x9 x10 x11 x12 x13) (cond (decide (r1 < x2)) (y x0 x5 r1 x3 x4 (wI (x5+1)) x6 x7 x8 x9 x10 x11 x12 x13) (y x0 x1 x2 x3 x4 (wI (x5+1)) x6 x7 x8 x9 x10 x11 x12 x13))) (y x0 x1 x2 x3 x4 (wI (x5+1)) x6 x7 x8 x9 x10 x11 x12 x13))))) (z (x1,x2)))
def j6:=itL (fun _ _ _ _ _ _ _ _ _ _ _ _ _ _=>none) fun f=>GE f some
theorem qbe (n:Nat):j6 (n+1)=GE (j6 n) some:=rfl
def qbZ:(Int×Int)->Ex×CS:=fun r=>((.exit 0),⟨[(8,vI r.1),(9,vI r.2)],[],[bx2 x6 x7 x8 x9 x10 x11,rd0 x12,rd0 x13],3,false⟩)
abbrev qan:CS:=⟨[(0,vP 0),(2,vd0 x0),(8,vI x1),(9,vI x2),(20,vd1 x3),(21,vI x4),(22,vI x5)],[],[bx2 x6 x7 x8 x9 x10 x11,rd0 x12,rd0 x13],3,false⟩
theorem qhJ {k m n:Nat} {r:Int×Int} (h:j6 n x0 x1 x2 x3 x4 x5 x6 x7 x8 x9 x10 x11 x12 x13=some r):lE S124 33 0 k (n+m) (qan x0 x1 x2 x3 x4 x5 x6 x7 x8 x9 x10 x11 x12 x13)=some (qbZ x6 x7 x8 x9 x10 x11 x12 x13 r):=by
 induction n generalizing x1 x2 x5 with
 |zero=>cases h
 |succ n ih=>
 exact lS (GE (fun x0 x1 x2 x3 x4 x5 x6 x7 x8 x9 x10 x11 x12 x13=>lE S124 33 0 k (n+m) (qan x0 x1 x2 x3 x4 x5 x6 x7 x8 x9 x10 x11 x12 x13)) (sm (qbZ x6 x7 x8 x9 x10 x11 x12 x13)) x0 x1 x2 x3 x4 x5 x6 x7 x8 x9 x10 x11 x12 x13) (by kernel_rfl) (by rw [qbe];unfold GE;with_reducible repeat' first|apply zd|exact ih _ _ _|exact nX|exact sX) h
end
def S125:=S124.lp 33 0 (qan [] 0 0 [] 0 0 [] [] [] [] [] 0 [] []) (fun x0 x1 x2 x3 x4 x5 x6 x7 x8 x9 x10 x11 x12 x13=>some (y1 (j6 FU x0 x1 x2 x3 x4 x5 x6 x7 x8 x9 x10 x11 x12 x13) (qbZ x6 x7 x8 x9 x10 x11 x12 x13))) (by kernel_rfl) fun _=>w1 fun h=>qhJ _ _ _ _ _ _ _ _ _ _ _ _ _ _ h
section
variable {β:Type} (z:(Int × Int)->Option β) (x0:Int) (x1 x2:LI) (x3:L3) (x4 x5:LL) (x6:LI) (x7:Int) (x8 x9:LI)
def qcW:Option β:=(ck x0 (x3.length:Int) (ob (j6 FU x1 (-1:Int) 0 (List.getD x3 x0.toNat []) (↑(List.length (List.getD x3 x0.toNat [])):Int) 0 x2 x3 x4 x5 x6 x7 x8 x9) fun r1=>(z (r1.1,r1.2))))
def HQ:=qcW some x0 x1 x2 x3 x4 x5 x6 x7 x8 x9
abbrev qfk:List TA:=[.sc (.ptr 0 0),.sc (I4 x0),.sc (kd0 x1)]
abbrev qfF:List TO:=[bx2 x2 x3 x4 x5 x6 x7,rd0 x8,rd0 x9]
abbrev qgP:(Int×Int)->List TA×List TO:=fun r=>([.sc (I4 r.1),.sc (I4 r.2)],[bx2 x2 x3 x4 x5 x6 x7,rd0 x8,rd0 x9])
theorem ev33_1:fE S125 33 (qfk x0 x1) (qfF x2 x3 x4 x5 x6 x7 x8 x9)=(HQ x0 x1 x2 x3 x4 x5 x6 x7 x8 x9).bind (sm (qgP x2 x3 x4 x5 x6 x7 x8 x9)):=zE (fun z=>qcW z x0 x1 x2 x3 x4 x5 x6 x7 x8 x9) (by kernel_rfl) fun K=>by unfold HQ qcW;with_reducible repeat' first|apply zc|exact nB|exact sB
end
def S126:=S125.fn 33 (qfk 0 []) (qfF [] [] [] [] [] 0 [] []) (fun x0 x1 x2 x3 x4 x5 x6 x7 x8 x9=>some (y1 (HQ x0 x1 x2 x3 x4 x5 x6 x7 x8 x9) (qgP x2 x3 x4 x5 x6 x7 x8 x9))) rfl fun _=>w1 fun h=>(ev33_1 ..).trans (bD h)
section
variable {β:Type} (y:LI->Int->Int->LL->Int->Int->Int->LL->Int->LI->L3->LL->LL->LI->Int->LI->LI->LI->LL->LI->Option β) (z:(Bool ⊕ (Int × Int))->Option β) (x0:LI) (x1 x2:Int) (x3:LL) (x4 x5 x6:Int) (x7:LL) (x8:Int) (x9:LI) (x10:L3) (x11 x12:LL) (x13:LI) (x14:Int) (x15 x16 x17:LI) (x18:LL) (x19:LI)
def GK:Option β:=(cond (decide (x5 < x4)) (ck x5 (x3.length:Int) (ob (v82 (List.getD x3 x5.toNat [])) fun r1=>(cond (r1==0) (z (.inl (false))) (cond (decide (r1≠0)) (ob (HQ x5 x0 x9 x10 x11 x12 x13 x14 x15 x16) fun r2=>(cond (decide (wI (x1*r2.2) < wI (wI (Int.tdiv (wI (wI ((1000000000000:Int)+r1) - (1:Int))) r1)*x2))) (y x0 (wI (Int.tdiv (wI (wI ((1000000000000:Int)+r1) - (1:Int))) r1)) (r2.2) x3 x4 (wI (x5+1)) x6 x7 x8 x9 x10 x11 x12 x13 x14 x15 x16 x17 x18 x19) (y x0 x1 x2 x3 x4 (wI (x5+1)) x6 x7 x8 x9 x10 x11 x12 x13 x14 x15 x16 x17 x18 x19))) none)))) (z (.inr (x1,x2))))
def jh:=itL (fun _ _ _ _ _ _ _ _ _ _ _ _ _ _ _ _ _ _ _ _=>none) fun f=>GK f some
theorem qbv (n:Nat):jh (n+1)=GK (jh n) some:=rfl
def qci:(Bool ⊕ (Int×Int))->Ex×CS:=Sum.elim (fun r=>(.ret,⟨[(6,.l 6 0),(7,vB r)],[(6,[kd2 x7,.g 3,I4 x8])],[bx2 x9 x10 x11 x12 x13 x14,rd0 x15,rd0 x16,rd0 x17],3,true⟩)) fun r=>((.exit 0),⟨[(2,vd0 x0),(3,vP 3),(6,.l 6 0),(10,.l 10 0),(11,vI r.1),(12,vI r.2)],[(6,[.g 5,.g 6,I4 x6]),(10,[kd2 x7,.g 4,I4 x8])],[bx2 x9 x10 x11 x12 x13 x14,rd0 x15,rd0 x16,.box 53 [.ptr 0 0],rd0 x17,rd1 x18,rd0 x19],3,false⟩)
abbrev qaF:CS:=⟨[(2,vd0 x0),(3,vP 3),(6,.l 6 0),(10,.l 10 0),(11,vI x1),(12,vI x2),(43,vd1 x3),(44,vI x4),(45,vI x5)],[(6,[.g 5,.g 6,I4 x6]),(10,[kd2 x7,.g 4,I4 x8])],[bx2 x9 x10 x11 x12 x13 x14,rd0 x15,rd0 x16,.box 53 [.ptr 0 0],rd0 x17,rd1 x18,rd0 x19],3,false⟩
theorem qh2 {k m n:Nat} {r:Bool ⊕ (Int×Int)} (h:jh n x0 x1 x2 x3 x4 x5 x6 x7 x8 x9 x10 x11 x12 x13 x14 x15 x16 x17 x18 x19=some r):lE S126 75 0 k (n+m) (qaF x0 x1 x2 x3 x4 x5 x6 x7 x8 x9 x10 x11 x12 x13 x14 x15 x16 x17 x18 x19)=some (qci x0 x6 x7 x8 x9 x10 x11 x12 x13 x14 x15 x16 x17 x18 x19 r):=by
 induction n generalizing x1 x2 x5 with
 |zero=>cases h
 |succ n ih=>
 exact lS (GK (fun x0 x1 x2 x3 x4 x5 x6 x7 x8 x9 x10 x11 x12 x13 x14 x15 x16 x17 x18 x19=>lE S126 75 0 k (n+m) (qaF x0 x1 x2 x3 x4 x5 x6 x7 x8 x9 x10 x11 x12 x13 x14 x15 x16 x17 x18 x19)) (sm (qci x0 x6 x7 x8 x9 x10 x11 x12 x13 x14 x15 x16 x17 x18 x19)) x0 x1 x2 x3 x4 x5 x6 x7 x8 x9 x10 x11 x12 x13 x14 x15 x16 x17 x18 x19) (by kernel_rfl) (by rw [qbv];unfold GK;with_reducible repeat' first|apply zd|exact ih _ _ _|exact nX|exact sX) h
end
def S127:=S126.lp 75 0 (qaF [] 0 0 [] 0 0 0 [] 0 [] [] [] [] [] 0 [] [] [] [] []) (fun x0 x1 x2 x3 x4 x5 x6 x7 x8 x9 x10 x11 x12 x13 x14 x15 x16 x17 x18 x19=>some (y2 (jh FU x0 x1 x2 x3 x4 x5 x6 x7 x8 x9 x10 x11 x12 x13 x14 x15 x16 x17 x18 x19) (qci x0 x6 x7 x8 x9 x10 x11 x12 x13 x14 x15 x16 x17 x18 x19))) (by kernel_rfl) fun _=>w2 fun h=>qh2 _ _ _ _ _ _ _ _ _ _ _ _ _ _ _ _ _ _ _ _ h
section
variable {β:Type} (y:LI->Int->Int->LI->LI->Int->Int->Int->LL->Int->LI->L3->LL->LL->LI->Int->LI->LI->LI->LL->LI->Option β) (z:LI->Option β) (x0:LI) (x1 x2:Int) (x3 x4:LI) (x5 x6 x7:Int) (x8:LL) (x9:Int) (x10:LI) (x11:L3) (x12 x13:LL) (x14:LI) (x15:Int) (x16 x17 x18:LI) (x19:LL) (x20:LI)
def Jt:Option β:=(cond (decide (x6 < x5)) (ck x6 (x4.length:Int) (cond (List.getD x4 x6.toNat 0==0) (cond (decide (x6 < (x18.length:Int))) (cond (decide (x6.toNat < List.length x18)) (y x0 x1 x2 x3 x4 x5 (wI (x6+1)) x7 x8 x9 x10 x11 x12 x13 x14 x15 x16 x17 (List.set x18 x6.toNat (1000000000000:Int)) x19 x20) none) none) (cond (decide (x6 < (x3.length:Int))) (cond (decide (List.getD x3 x6.toNat 0 > 0)) (cond (decide (x6 < (x0.length:Int))) (cond (decide (x2≠0)) (cond (decide (x6 < (x18.length:Int))) (cond (decide (x6.toNat < List.length x18)) (y x0 x1 x2 x3 x4 x5 (wI (x6+1)) x7 x8 x9 x10 x11 x12 x13 x14 x15 x16 x17 (List.set x18 x6.toNat (wI (Int.tdiv (wI (wI (wI (x1*List.getD x0 x6.toNat 0)+x2) - (1:Int))) x2))) x19 x20) none) none) none) none) (y x0 x1 x2 x3 x4 x5 (wI (x6+1)) x7 x8 x9 x10 x11 x12 x13 x14 x15 x16 x17 x18 x19 x20)) none))) (z x18))
def qd1:Option β:=(cond (decide (x6 < x5)) (ck x6 (x4.length:Int) (cond (List.getD x4 x6.toNat 0==0) (ck x6 (x18.length:Int) (cond (decide (x6.toNat < List.length x18)) (y x0 x1 x2 x3 x4 x5 (wI (x6+1)) x7 x8 x9 x10 x11 x12 x13 x14 x15 x16 x17 (List.set x18 x6.toNat (1000000000000:Int)) x19 x20) none)) (ck x6 (x3.length:Int) (cond (decide (List.getD x3 x6.toNat 0 > 0)) (ck x6 (x0.length:Int) (cond (decide (x2≠0)) (ck x6 (x18.length:Int) (cond (decide (x6.toNat < List.length x18)) (y x0 x1 x2 x3 x4 x5 (wI (x6+1)) x7 x8 x9 x10 x11 x12 x13 x14 x15 x16 x17 (List.set x18 x6.toNat (wI (Int.tdiv (wI (wI (wI (x1*List.getD x0 x6.toNat 0)+x2) - (1:Int))) x2))) x19 x20) none)) none)) (y x0 x1 x2 x3 x4 x5 (wI (x6+1)) x7 x8 x9 x10 x11 x12 x13 x14 x15 x16 x17 x18 x19 x20))))) (z x18))
def jz:=itL (fun _ _ _ _ _ _ _ _ _ _ _ _ _ _ _ _ _ _ _ _ _=>none) fun f=>Jt f some
theorem Sw (n:Nat):jz (n+1)=Jt (jz n) some:=rfl
def HB:LI->Ex×CS:=fun r=>((.exit 2),⟨[(3,vP 3),(6,.l 6 0),(10,.l 10 0)],[(6,[.g 5,.g 6,I4 x7]),(10,[kd2 x8,.g 4,I4 x9])],[bx2 x10 x11 x12 x13 x14 x15,rd0 x16,rd0 x17,.box 53 [.ptr 0 0],rd0 r,rd1 x19,rd0 x20],3,false⟩)
abbrev DV:CS:=⟨[(2,vd0 x0),(3,vP 3),(6,.l 6 0),(10,.l 10 0),(11,vI x1),(12,vI x2),(19,vd0 x3),(85,vd0 x4),(86,vI x5),(87,vI x6)],[(6,[.g 5,.g 6,I4 x7]),(10,[kd2 x8,.g 4,I4 x9])],[bx2 x10 x11 x12 x13 x14 x15,rd0 x16,rd0 x17,.box 53 [.ptr 0 0],rd0 x18,rd1 x19,rd0 x20],3,false⟩
theorem qgy {k m n:Nat} {r:LI} (h:jz n x0 x1 x2 x3 x4 x5 x6 x7 x8 x9 x10 x11 x12 x13 x14 x15 x16 x17 x18 x19 x20=some r):lE S127 75 2 k (n+m) (DV x0 x1 x2 x3 x4 x5 x6 x7 x8 x9 x10 x11 x12 x13 x14 x15 x16 x17 x18 x19 x20)=some (HB x7 x8 x9 x10 x11 x12 x13 x14 x15 x16 x17 x19 x20 r):=by
 induction n generalizing x6 x18 with
 |zero=>cases h
 |succ n ih=>
 exact lS (qd1 (fun x0 x1 x2 x3 x4 x5 x6 x7 x8 x9 x10 x11 x12 x13 x14 x15 x16 x17 x18 x19 x20=>lE S127 75 2 k (n+m) (DV x0 x1 x2 x3 x4 x5 x6 x7 x8 x9 x10 x11 x12 x13 x14 x15 x16 x17 x18 x19 x20)) (sm (HB x7 x8 x9 x10 x11 x12 x13 x14 x15 x16 x17 x19 x20)) x0 x1 x2 x3 x4 x5 x6 x7 x8 x9 x10 x11 x12 x13 x14 x15 x16 x17 x18 x19 x20) (by kernel_rfl) (by rw [Sw];unfold Jt qd1;with_reducible repeat' first|apply gT ‹_›|apply gF ‹_›|(apply zz<;>intro _)|exact ih _ _|exact nX|exact sX) h
end
def S128:=S127.lp 75 2 (DV [] 0 0 [] [] 0 0 0 [] 0 [] [] [] [] [] 0 [] [] [] [] []) (fun x0 x1 x2 x3 x4 x5 x6 x7 x8 x9 x10 x11 x12 x13 x14 x15 x16 x17 x18 x19 x20=>some (y1 (jz FU x0 x1 x2 x3 x4 x5 x6 x7 x8 x9 x10 x11 x12 x13 x14 x15 x16 x17 x18 x19 x20) (HB x7 x8 x9 x10 x11 x12 x13 x14 x15 x16 x17 x19 x20))) (by kernel_rfl) fun _=>w1 fun h=>qgy _ _ _ _ _ _ _ _ _ _ _ _ _ _ _ _ _ _ _ _ _ h
section
variable {β:Type} (z:(Bool × Int × LI)->Option β) (x0:LI) (x1 x2:Int) (x3:LI) (x4:Int) (x5:LL) (x6:Int) (x7:LI) (x8:L3) (x9 x10:LL) (x11:LI) (x12:Int) (x13 x14 x15:LI) (x16:LL) (x17:LI)
def JK:Option β:=(ob (jz FU x0 x1 x2 x3 x7 (x7.length:Int) 0 x4 x5 x6 x7 x8 x9 x10 x11 x12 x13 x14 x15 x16 x17) fun r1=>(ob (gu x4 x5 x6 x7 x8 x9 x10 x11 x12 x13 x14 r1 x16 x17) fun r2=>(z (r2.1,r2.2,r1))))
def G5:=JK some x0 x1 x2 x3 x4 x5 x6 x7 x8 x9 x10 x11 x12 x13 x14 x15 x16 x17
def Dn:(Bool×Int×LI)->Ex×CS:=fun r=>(.ret,⟨[(6,.l 6 0),(7,vB r.1)],[(6,[kd2 x5,.g 3,I4 r.2.1])],[bx2 x7 x8 x9 x10 x11 x12,rd0 x13,rd0 x14,rd0 r.2.2],3,true⟩)
abbrev qcG:CS:=⟨[(2,vd0 x0),(3,vP 3),(6,.l 6 0),(10,.l 10 0),(11,vI x1),(12,vI x2),(19,vd0 x3)],[(6,[.g 5,.g 6,I4 x4]),(10,[kd2 x5,.g 4,I4 x6])],[bx2 x7 x8 x9 x10 x11 x12,rd0 x13,rd0 x14,.box 53 [.ptr 0 0],rd0 x15,rd1 x16,rd0 x17],3,false⟩
theorem qfc {k:Nat} {r:Bool×Int×LI}:G5 x0 x1 x2 x3 x4 x5 x6 x7 x8 x9 x10 x11 x12 x13 x14 x15 x16 x17=some r->pE S128 75 148 0 k (qcG x0 x1 x2 x3 x4 x5 x6 x7 x8 x9 x10 x11 x12 x13 x14 x15 x16 x17)=some (Dn x5 x7 x8 x9 x10 x11 x12 x13 x14 r):=lP (JK (sm (Dn x5 x7 x8 x9 x10 x11 x12 x13 x14)) x0 x1 x2 x3 x4 x5 x6 x7 x8 x9 x10 x11 x12 x13 x14 x15 x16 x17) (by kernel_rfl) (by unfold G5 JK;with_reducible repeat' first|apply zd|exact nX|exact sX)
end
def S129:=S128.pc 75 148 0 (qcG [] 0 0 [] 0 [] 0 [] [] [] [] [] 0 [] [] [] [] []) (fun x0 x1 x2 x3 x4 x5 x6 x7 x8 x9 x10 x11 x12 x13 x14 x15 x16 x17=>some (y1 (G5 x0 x1 x2 x3 x4 x5 x6 x7 x8 x9 x10 x11 x12 x13 x14 x15 x16 x17) (Dn x5 x7 x8 x9 x10 x11 x12 x13 x14))) (by kernel_rfl) rfl fun _=>w1 fun h=>qfc _ _ _ _ _ _ _ _ _ _ _ _ _ _ _ _ _ _ h
section
variable {β:Type} (z:(Bool × Int × LI)->Option β) (x0:LI) (x1:Int) (x2:LL) (x3:Int) (x4:LI) (x5:L3) (x6 x7:LL) (x8:LI) (x9:Int) (x10 x11 x12:LI) (x13:LL) (x14:LI)
def KG:Option β:=(cond (isL (jh FU x0 0 (1:Int) x2 (x2.length:Int) 0 x1 x2 x3 x4 x5 x6 x7 x8 x9 x10 x11 x12 x13 x14)) (z (zx (jh FU x0 0 (1:Int) x2 (x2.length:Int) 0 x1 x2 x3 x4 x5 x6 x7 x8 x9 x10 x11 x12 x13 x14),x3,x12)) (ob (zB (jh FU x0 0 (1:Int) x2 (x2.length:Int) 0 x1 x2 x3 x4 x5 x6 x7 x8 x9 x10 x11 x12 x13 x14)) fun r1=>(ob (JM x4 x5 x6 x7 x8 x9 x10 x11) fun r2=>(ob (v60 r2 x4 x5 x6 x7 x8 x9 x10 x11) fun r3=>(ob (G5 x0 r1.1 r1.2 r3 x1 x2 x3 x4 x5 x6 x7 x8 x9 x10 x11 x12 x13 x14) fun r4=>(z (r4.1,r4.2.1,r4.2.2)))))))
def JV:=KG some x0 x1 x2 x3 x4 x5 x6 x7 x8 x9 x10 x11 x12 x13 x14
def HF:(Bool×Int×LI)->Ex×CS:=fun r=>(.ret,⟨[(6,.l 6 0),(7,vB r.1)],[(6,[kd2 x2,.g 3,I4 r.2.1])],[bx2 x4 x5 x6 x7 x8 x9,rd0 x10,rd0 x11,rd0 r.2.2],3,true⟩)
abbrev qdz:CS:=⟨[(2,vd0 x0),(3,vP 3),(6,.l 6 0),(10,.l 10 0),(41,.l 10 0)],[(6,[.g 5,.g 6,I4 x1]),(10,[kd2 x2,.g 4,I4 x3])],[bx2 x4 x5 x6 x7 x8 x9,rd0 x10,rd0 x11,.box 53 [.ptr 0 0],rd0 x12,rd1 x13,rd0 x14],3,false⟩
theorem qgC {k:Nat} {r:Bool×Int×LI}:JV x0 x1 x2 x3 x4 x5 x6 x7 x8 x9 x10 x11 x12 x13 x14=some r->pE S129 75 44 0 k (qdz x0 x1 x2 x3 x4 x5 x6 x7 x8 x9 x10 x11 x12 x13 x14)=some (HF x2 x4 x5 x6 x7 x8 x9 x10 x11 r):=lP (KG (sm (HF x2 x4 x5 x6 x7 x8 x9 x10 x11)) x0 x1 x2 x3 x4 x5 x6 x7 x8 x9 x10 x11 x12 x13 x14) (by kernel_rfl) (by unfold JV KG;with_reducible repeat' first|apply zd|exact nX|exact sX)
end
def S130:=S129.pc 75 44 0 (qdz [] 0 [] 0 [] [] [] [] [] 0 [] [] [] [] []) (fun x0 x1 x2 x3 x4 x5 x6 x7 x8 x9 x10 x11 x12 x13 x14=>some (y1 (JV x0 x1 x2 x3 x4 x5 x6 x7 x8 x9 x10 x11 x12 x13 x14) (HF x2 x4 x5 x6 x7 x8 x9 x10 x11))) (by kernel_rfl) rfl fun _=>w1 fun h=>qgC _ _ _ _ _ _ _ _ _ _ _ _ _ _ _ h
section
variable {β:Type} (z:(Bool × LL × Int × LI)->Option β) (x0:LI) (x1 x2:Int) (x3:LI) (x4:L3) (x5 x6:LL) (x7:LI) (x8:Int) (x9 x10 x11:LI) (x12:LL) (x13:Int) (x14:LL) (x15:LI) (x16:LL) (x17:LI)
def KE:Option β:=(ob (JL x3 x4 x5 x6 x7 x8 x9 x10 x12 x13 x11) fun r1=>(ob (JV x0 x1 r1 x2 x3 x4 x5 x6 x7 x8 x9 x10 x15 x16 x17) fun r2=>(z (r2.1,r1,r2.2.1,r2.2.2))))
def Gs (x0:LI) (x1 x2:Int) (x3:LI) (x4:L3) (x5 x6:LL) (x7:LI) (x8:Int) (x9 x10 x11:LI) (x12:LL) (x13:Int) (x14:LL) (x15:LI) (x16:LL) (x17:LI):Option (Bool×LL×Int×LI):=KE some x0 x1 x2 x3 x4 x5 x6 x7 x8 x9 x10 x11 x12 x13 x15 x16 x17
def HD:(Bool×LL×Int×LI)->Ex×CS:=fun r=>(.ret,⟨[(6,.l 6 0),(7,vB r.1)],[(6,[kd2 r.2.1,.g 3,I4 r.2.2.1])],[bx2 x3 x4 x5 x6 x7 x8,rd0 x9,rd0 x10,rd0 r.2.2.2],3,true⟩)
abbrev qdx:CS:=⟨[(2,vd0 x0),(3,vP 6),(4,vP 4),(6,.l 6 0),(8,vP 3),(9,vP 5),(10,.l 10 0)],[(6,[.g 9,.g 10,I4 x1]),(10,[.g 7,.g 8,I4 x2])],[bx2 x3 x4 x5 x6 x7 x8,rd0 x9,rd0 x10,.box 22 [kd0 x11],.box 31 [kd2 x12],.box 3 [I4 x13],.box 53 [.ptr 0 0],rd1 x14,rd0 x15,rd1 x16,rd0 x17],3,false⟩
theorem qgA {k:Nat} {r:Bool×LL×Int×LI}:Gs x0 x1 x2 x3 x4 x5 x6 x7 x8 x9 x10 x11 x12 x13 x14 x15 x16 x17=some r->pE S130 75 36 0 k (qdx x0 x1 x2 x3 x4 x5 x6 x7 x8 x9 x10 x11 x12 x13 x14 x15 x16 x17)=some (HD x3 x4 x5 x6 x7 x8 x9 x10 r):=lP (KE (sm (HD x3 x4 x5 x6 x7 x8 x9 x10)) x0 x1 x2 x3 x4 x5 x6 x7 x8 x9 x10 x11 x12 x13 x15 x16 x17) (by kernel_rfl) (by unfold Gs KE;with_reducible repeat' first|apply zd|exact nX|exact sX)
end
def S131:=S130.pc 75 36 0 (qdx [] 0 0 [] [] [] [] [] 0 [] [] [] [] 0 [] [] [] []) (fun x0 x1 x2 x3 x4 x5 x6 x7 x8 x9 x10 x11 x12 x13 x14 x15 x16 x17=>some (y1 (Gs x0 x1 x2 x3 x4 x5 x6 x7 x8 x9 x10 x11 x12 x13 x14 x15 x16 x17) (HD x3 x4 x5 x6 x7 x8 x9 x10))) (by kernel_rfl) rfl fun _=>w1 fun h=>qgA _ _ _ _ _ _ _ _ _ _ _ _ _ _ _ _ _ _ h
section
variable {β:Type} (z:(LL × LI × Int × Bool)->Option β) (x0:LL) (x1 x2:LI) (x3:L3) (x4 x5:LL) (x6:LI) (x7:Int) (x8 x9:LI)
def qc5:Option β:=(ob (v60 x0 x2 x3 x4 x5 x6 x7 x8 x9) fun r1=>(ob (v61 r1 x2 x3 x4 x5 x6 x7 x8 x9) fun r2=>(cond (decide ((x2.length:Int)<=(x2.length:Int))) (cond (decide ((x2.length:Int)<=(↑(nat_lit 2147483648):Int))) (ob (Gs x1 0 0 x2 x3 x4 x5 x6 x7 x8 x9 r1 x0 r2 [] (List.replicate (x2.length:Int).toNat 0) [] []) fun r3=>(z (r3.2.1,r3.2.2.2,r3.2.2.1,r3.1))) none) none)))
def HT:=qc5 some x0 x1 x2 x3 x4 x5 x6 x7 x8 x9
abbrev qft:List TA:=[.sc (.ptr 0 0),.sc (kd2 x0),.sc (kd0 x1)]
abbrev qfM:List TO:=[bx2 x2 x3 x4 x5 x6 x7,rd0 x8,rd0 x9]
abbrev qgY:(LL×LI×Int×Bool)->List TA×List TO:=fun r=>([.agg [kd2 r.1,kd0 r.2.1,I4 r.2.2.1],.sc (.bool r.2.2.2)],[bx2 x2 x3 x4 x5 x6 x7,rd0 x8,rd0 x9])
theorem ev75_1:fE S131 75 (qft x0 x1) (qfM x2 x3 x4 x5 x6 x7 x8 x9)=(HT x0 x1 x2 x3 x4 x5 x6 x7 x8 x9).bind (sm (qgY x2 x3 x4 x5 x6 x7 x8 x9)):=zE (fun z=>qc5 z x0 x1 x2 x3 x4 x5 x6 x7 x8 x9) (by kernel_rfl) fun K=>by unfold HT qc5;with_reducible repeat' first|apply zc|exact nB|exact sB
end
def S132:=S131.fn 75 (qft [] []) (qfM [] [] [] [] [] 0 [] []) (fun x0 x1 x2 x3 x4 x5 x6 x7 x8 x9=>some (y1 (HT x0 x1 x2 x3 x4 x5 x6 x7 x8 x9) (qgY x2 x3 x4 x5 x6 x7 x8 x9))) rfl fun _=>w1 fun h=>(ev75_1 ..).trans (bD h)
section
variable {β:Type} (z:(LL × LI × Int)->Option β) (x0:LL) (x1 x2:LI) (x3:L3) (x4 x5:LL) (x6:LI) (x7:Int) (x8 x9:LI)
def qcZ:Option β:=(ob (HT x0 x1 x2 x3 x4 x5 x6 x7 x8 x9) fun r1=>(cond (r1.2.2.2) (cond ((x5.length:Int)==0) (z (r1.1,r1.2.1,r1.2.2.1)) (cond (decide (r1.2.2.1 < x7)) (z (r1.1,r1.2.1,r1.2.2.1)) (z (x5,x6,x7)))) (z (x5,x6,x7))))
def K7:=qcZ some x0 x1 x2 x3 x4 x5 x6 x7 x8 x9
abbrev qfn:List TA:=[.sc (.ptr 0 0),.sc (kd2 x0),.sc (kd0 x1)]
abbrev qfG:List TO:=[bx2 x2 x3 x4 x5 x6 x7,rd0 x8,rd0 x9]
abbrev qgS:(LL×LI×Int)->List TA×List TO:=fun r=>([],[bx2 x2 x3 x4 r.1 r.2.1 r.2.2,rd0 x8,rd0 x9])
theorem ev58_1:fE S132 58 (qfn x0 x1) (qfG x2 x3 x4 x5 x6 x7 x8 x9)=(K7 x0 x1 x2 x3 x4 x5 x6 x7 x8 x9).bind (sm (qgS x2 x3 x4 x8 x9)):=zE (fun z=>qcZ z x0 x1 x2 x3 x4 x5 x6 x7 x8 x9) (by kernel_rfl) fun K=>by unfold K7 qcZ;with_reducible repeat' first|apply zc|exact nB|exact sB
end
def S133:=S132.fn 58 (qfn [] []) (qfG [] [] [] [] [] 0 [] []) (fun x0 x1 x2 x3 x4 x5 x6 x7 x8 x9=>some (y1 (K7 x0 x1 x2 x3 x4 x5 x6 x7 x8 x9) (qgS x2 x3 x4 x8 x9))) rfl fun _=>w1 fun h=>(ev58_1 ..).trans (bD h)
section
variable {β:Type} (y:LI->Int->Int->Int->LI->L3->LL->LL->LI->Int->LI->LI->Option β) (z:LI->Option β) (x0:LI) (x1 x2 x3:Int) (x4:LI) (x5:L3) (x6 x7:LL) (x8:LI) (x9:Int) (x10 x11:LI)
def Jl:Option β:=(cond (decide (x3 < x2)) (ck x3 (x10.length:Int) (cond (decide (x3.toNat < List.length x10)) (cond (decide (x3 < (x4.length:Int))) (cond (decide (List.getD x4 x3.toNat 0 > 0)) (cond (decide (x3 < (x0.length:Int))) (ck x1 (x4.length:Int) (cond (decide (x1 < (x0.length:Int))) (cond (decide (List.getD x0 x1.toNat 0≠0)) (cond (decide (List.getD x4 x3.toNat 0≠0)) (y x0 x1 x2 (wI (x3+1)) x4 x5 x6 x7 x8 x9 (List.set x10 x3.toNat (min (1048576:Int) (max (16:Int) (wI (Int.tdiv (wI (List.getD x10 x3.toNat 0*wI ((1000:Int)+min (wI (Int.tdiv (wI (wI (Int.tdiv (wI (List.getD x0 x3.toNat 0*List.getD x4 x1.toNat 0)) (List.getD x0 x1.toNat 0))*1000)) (List.getD x4 x3.toNat 0))) (1000:Int)))) (1500:Int)))))) x11) none) none) none)) none) (y x0 x1 x2 (wI (x3+1)) x4 x5 x6 x7 x8 x9 x10 x11)) none) none)) (z x10))
def qdU:Option β:=(cond (decide (x3 < x2)) (ck x3 (x10.length:Int) (cond (decide (x3.toNat < List.length x10)) (ck x3 (x4.length:Int) (cond (decide (List.getD x4 x3.toNat 0 > 0)) (ck x3 (x0.length:Int) (ck x1 (x4.length:Int) (ck x1 (x0.length:Int) (cond (decide (List.getD x0 x1.toNat 0≠0)) (ck x3 (x4.length:Int) (cond (decide (List.getD x4 x3.toNat 0≠0)) (ck x3 (x10.length:Int) (cond (decide (x3.toNat < List.length x10)) (y x0 x1 x2 (wI (x3+1)) x4 x5 x6 x7 x8 x9 (List.set x10 x3.toNat (min (1048576:Int) (max (16:Int) (wI (Int.tdiv (wI (List.getD x10 x3.toNat 0*wI ((1000:Int)+min (wI (Int.tdiv (wI (wI (Int.tdiv (wI (List.getD x0 x3.toNat 0*List.getD x4 x1.toNat 0)) (List.getD x0 x1.toNat 0))*1000)) (List.getD x4 x3.toNat 0))) (1000:Int)))) (1500:Int)))))) x11) none)) none)) none)))) (y x0 x1 x2 (wI (x3+1)) x4 x5 x6 x7 x8 x9 x10 x11))) none)) (z x10))
def qY:=itL (fun _ _ _ _ _ _ _ _ _ _ _ _=>none) fun f=>Jl f some
theorem Sl (n:Nat):qY (n+1)=Jl (qY n) some:=rfl
def Hm:LI->Ex×CS:=fun r=>((.exit 4),⟨[],[],[bx2 x4 x5 x6 x7 x8 x9,rd0 r,rd0 x11],3,false⟩)
abbrev DK:CS:=⟨[(1,vP 3),(8,vd0 x0),(9,vI x1),(96,vG 1),(97,vI x2),(98,vI x3)],[],[bx2 x4 x5 x6 x7 x8 x9,rd0 x10,rd0 x11,.box 53 [.ptr 0 0]],3,false⟩
theorem qgl {k m n:Nat} {r:LI} (h:qY n x0 x1 x2 x3 x4 x5 x6 x7 x8 x9 x10 x11=some r):lE S133 34 4 k (n+m) (DK x0 x1 x2 x3 x4 x5 x6 x7 x8 x9 x10 x11)=some (Hm x4 x5 x6 x7 x8 x9 x11 r):=by
 induction n generalizing x3 x10 with
 |zero=>cases h
 |succ n ih=>
 exact lS (qdU (fun x0 x1 x2 x3 x4 x5 x6 x7 x8 x9 x10 x11=>lE S133 34 4 k (n+m) (DK x0 x1 x2 x3 x4 x5 x6 x7 x8 x9 x10 x11)) (sm (Hm x4 x5 x6 x7 x8 x9 x11)) x0 x1 x2 x3 x4 x5 x6 x7 x8 x9 x10 x11) (by kernel_rfl) (by rw [Sl];unfold Jl qdU;with_reducible repeat' first|apply gT ‹_›|apply gF ‹_›|(apply zz<;>intro _)|exact ih _ _|exact nX|exact sX) h
end
def S134:=S133.lp 34 4 (DK [] 0 0 0 [] [] [] [] [] 0 [] []) (fun x0 x1 x2 x3 x4 x5 x6 x7 x8 x9 x10 x11=>some (y1 (qY FU x0 x1 x2 x3 x4 x5 x6 x7 x8 x9 x10 x11) (Hm x4 x5 x6 x7 x8 x9 x11))) (by kernel_rfl) fun _=>w1 fun h=>qgl _ _ _ _ _ _ _ _ _ _ _ _ h
section
variable {β:Type} (z:LI->Option β) (x0:LI) (x1:Int) (x2:LI) (x3:L3) (x4 x5:LL) (x6:LI) (x7:Int) (x8 x9:LI)
def JA:Option β:=(ob (qY FU x0 x1 (x8.length:Int) 0 x2 x3 x4 x5 x6 x7 x8 x9) fun r1=>(z r1))
def GX:=JA some x0 x1 x2 x3 x4 x5 x6 x7 x8 x9
def Dd:LI->Ex×CS:=fun r=>(.normal,⟨[],[],[bx2 x2 x3 x4 x5 x6 x7,rd0 r,rd0 x9],3,false⟩)
abbrev qcx:CS:=⟨[(1,vP 3),(8,vd0 x0),(9,vI x1)],[],[bx2 x2 x3 x4 x5 x6 x7,rd0 x8,rd0 x9,.box 53 [.ptr 0 0]],3,false⟩
theorem qe3 {k:Nat} {r:LI}:GX x0 x1 x2 x3 x4 x5 x6 x7 x8 x9=some r->pE S134 34 148 0 k (qcx x0 x1 x2 x3 x4 x5 x6 x7 x8 x9)=some (Dd x2 x3 x4 x5 x6 x7 x9 r):=lP (JA (sm (Dd x2 x3 x4 x5 x6 x7 x9)) x0 x1 x2 x3 x4 x5 x6 x7 x8 x9) (by kernel_rfl) (by unfold GX JA;with_reducible repeat' first|apply zd|exact nX|exact sX)
end
def S135:=S134.pc 34 148 0 (qcx [] 0 [] [] [] [] [] 0 [] []) (fun x0 x1 x2 x3 x4 x5 x6 x7 x8 x9=>some (y1 (GX x0 x1 x2 x3 x4 x5 x6 x7 x8 x9) (Dd x2 x3 x4 x5 x6 x7 x9))) (by kernel_rfl) rfl fun _=>w1 fun h=>qe3 _ _ _ _ _ _ _ _ _ _ h
section
variable {β:Type} (z:LI->Option β) (x0:LI) (x1:L3) (x2 x3:LL) (x4:LI) (x5:Int) (x6 x7:LI) (x8:LL)
def Jz:Option β:=(ob (v60 x8 x0 x1 x2 x3 x4 x5 x6 x7) fun r1=>(ob (v61 r1 x0 x1 x2 x3 x4 x5 x6 x7) fun r2=>(ob (GX r1 r2 x0 x1 x2 x3 x4 x5 x6 x7) fun r3=>(z r3))))
def gN:=Jz some x0 x1 x2 x3 x4 x5 x6 x7 x8
def Dc:LI->Ex×CS:=fun r=>(.normal,⟨[],[],[bx2 x0 x1 x2 x3 x4 x5,rd0 r,rd0 x7],3,false⟩)
abbrev qcw:CS:=⟨[(1,vP 4),(2,vP 3)],[],[bx2 x0 x1 x2 x3 x4 x5,rd0 x6,rd0 x7,.box 31 [kd2 x8],.box 53 [.ptr 0 0]],3,false⟩
theorem qe2 {k:Nat} {r:LI}:gN x0 x1 x2 x3 x4 x5 x6 x7 x8=some r->pE S135 34 132 0 k (qcw x0 x1 x2 x3 x4 x5 x6 x7 x8)=some (Dc x0 x1 x2 x3 x4 x5 x7 r):=lP (Jz (sm (Dc x0 x1 x2 x3 x4 x5 x7)) x0 x1 x2 x3 x4 x5 x6 x7 x8) (by kernel_rfl) (by unfold gN Jz;with_reducible repeat' first|apply zd|exact nX|exact sX)
end
def S136:=S135.pc 34 132 0 (qcw [] [] [] [] [] 0 [] [] []) (fun x0 x1 x2 x3 x4 x5 x6 x7 x8=>some (y1 (gN x0 x1 x2 x3 x4 x5 x6 x7 x8) (Dc x0 x1 x2 x3 x4 x5 x7))) (by kernel_rfl) rfl fun _=>w1 fun h=>qe2 _ _ _ _ _ _ _ _ _ h
section
variable {β:Type} (z:(LL × LI × Int × LI)->Option β) (x0:LI) (x1:L3) (x2 x3:LL) (x4:LI) (x5:Int) (x6 x7:LI) (x8:LL) (x9:LI)
def Jy:Option β:=(ob (K7 x2 x9 x0 x1 x2 x3 x4 x5 x6 x7) fun r1=>(ob (gN x0 x1 x2 r1.1 r1.2.1 r1.2.2 x6 x7 x8) fun r2=>(z (r1.1,r1.2.1,r1.2.2,r2))))
def GW:=Jy some x0 x1 x2 x3 x4 x5 x6 x7 x8 x9
def Db:(LL×LI×Int×LI)->Ex×CS:=fun r=>(.normal,⟨[],[],[bx2 x0 x1 x2 r.1 r.2.1 r.2.2.1,rd0 r.2.2.2,rd0 x7],3,false⟩)
abbrev qcv:CS:=⟨[(1,vP 4),(2,vP 3),(5,vG 5)],[],[bx2 x0 x1 x2 x3 x4 x5,rd0 x6,rd0 x7,.box 31 [kd2 x8],.box 53 [.ptr 0 0],rd0 x9],3,false⟩
theorem qe1 {k:Nat} {r:LL×LI×Int×LI}:GW x0 x1 x2 x3 x4 x5 x6 x7 x8 x9=some r->pE S136 34 124 0 k (qcv x0 x1 x2 x3 x4 x5 x6 x7 x8 x9)=some (Db x0 x1 x2 x7 r):=lP (Jy (sm (Db x0 x1 x2 x7)) x0 x1 x2 x3 x4 x5 x6 x7 x8 x9) (by kernel_rfl) (by unfold GW Jy;with_reducible repeat' first|apply zd|exact nX|exact sX)
end
def S137:=S136.pc 34 124 0 (qcv [] [] [] [] [] 0 [] [] [] []) (fun x0 x1 x2 x3 x4 x5 x6 x7 x8 x9=>some (y1 (GW x0 x1 x2 x3 x4 x5 x6 x7 x8 x9) (Db x0 x1 x2 x7))) (by kernel_rfl) rfl fun _=>w1 fun h=>qe1 _ _ _ _ _ _ _ _ _ _ h
section
variable {β:Type} (z:(LL × LI × Int × LI)->Option β) (x0:LI) (x1:L3) (x2 x3:LL) (x4:LI) (x5:Int) (x6 x7:LI) (x8:LL)
def KB:Option β:=(cond (decide ((x7.length:Int)<=(x7.length:Int))) (cond (decide ((x7.length:Int)<=(↑(nat_lit 2147483648):Int))) (ob (jt FU (x7.length:Int) 0 x0 x1 x2 x3 x4 x5 x6 x7 x8 (List.replicate (x7.length:Int).toNat 0)) fun r1=>(ob (GW x0 x1 x2 x3 x4 x5 x6 x7 x8 r1) fun r2=>(z (r2.1,r2.2.1,r2.2.2.1,r2.2.2.2)))) none) none)
def Gn:=KB some x0 x1 x2 x3 x4 x5 x6 x7 x8
def Ho:(LL×LI×Int×LI)->Ex×CS:=fun r=>(.normal,⟨[],[],[bx2 x0 x1 x2 r.1 r.2.1 r.2.2.1,rd0 r.2.2.2,rd0 x7],3,false⟩)
abbrev qdu:CS:=⟨[(1,vP 4),(2,vP 3)],[],[bx2 x0 x1 x2 x3 x4 x5,rd0 x6,rd0 x7,.box 31 [kd2 x8],.box 53 [.ptr 0 0]],3,false⟩
theorem qgn {k:Nat} {r:LL×LI×Int×LI}:Gn x0 x1 x2 x3 x4 x5 x6 x7 x8=some r->pE S137 34 76 0 k (qdu x0 x1 x2 x3 x4 x5 x6 x7 x8)=some (Ho x0 x1 x2 x7 r):=lP (KB (sm (Ho x0 x1 x2 x7)) x0 x1 x2 x3 x4 x5 x6 x7 x8) (by kernel_rfl) (by unfold Gn KB;with_reducible repeat' first|apply zd|exact nX|exact sX)
end
def S138:=S137.pc 34 76 0 (qdu [] [] [] [] [] 0 [] [] []) (fun x0 x1 x2 x3 x4 x5 x6 x7 x8=>some (y1 (Gn x0 x1 x2 x3 x4 x5 x6 x7 x8) (Ho x0 x1 x2 x7))) (by kernel_rfl) rfl fun _=>w1 fun h=>qgn _ _ _ _ _ _ _ _ _ h
section
variable {β:Type} (z:(LL × LI × Int × LI)->Option β) (x0:LI) (x1:L3) (x2 x3:LL) (x4:LI) (x5:Int) (x6 x7:LI) (x8:LL)
def KA:Option β:=(ob (v58 x8 x0 x1 x2 x3 x4 x5 x6 x7) fun r1=>(ob (Gn x0 x1 x2 r1.1 r1.2.1 r1.2.2 x6 x7 x8) fun r2=>(z (r2.1,r2.2.1,r2.2.2.1,r2.2.2.2))))
def JT:=KA some x0 x1 x2 x3 x4 x5 x6 x7 x8
def Hn:(LL×LI×Int×LI)->Ex×CS:=fun r=>(.normal,⟨[],[],[bx2 x0 x1 x2 r.1 r.2.1 r.2.2.1,rd0 r.2.2.2,rd0 x7],3,false⟩)
abbrev qdt:CS:=⟨[(1,vP 4),(2,vP 3)],[],[bx2 x0 x1 x2 x3 x4 x5,rd0 x6,rd0 x7,.box 31 [kd2 x8],.box 53 [.ptr 0 0]],3,false⟩
theorem qgm {k:Nat} {r:LL×LI×Int×LI}:JT x0 x1 x2 x3 x4 x5 x6 x7 x8=some r->pE S138 34 68 0 k (qdt x0 x1 x2 x3 x4 x5 x6 x7 x8)=some (Hn x0 x1 x2 x7 r):=lP (KA (sm (Hn x0 x1 x2 x7)) x0 x1 x2 x3 x4 x5 x6 x7 x8) (by kernel_rfl) (by unfold JT KA;with_reducible repeat' first|apply zd|exact nX|exact sX)
end
def S139:=S138.pc 34 68 0 (qdt [] [] [] [] [] 0 [] [] []) (fun x0 x1 x2 x3 x4 x5 x6 x7 x8=>some (y1 (JT x0 x1 x2 x3 x4 x5 x6 x7 x8) (Hn x0 x1 x2 x7))) (by kernel_rfl) rfl fun _=>w1 fun h=>qgm _ _ _ _ _ _ _ _ _ h
section
variable {β:Type} (z:(LL × LL × LI × Int × LI × LI)->Option β) (x0:LI) (x1:L3) (x2 x3:LL) (x4:LI) (x5:Int) (x6 x7:LI) (x8:LL)
def Kz:Option β:=(ob (K5 x0 x1 x2 x3 x4 x5 x6 x7 x8) fun r1=>(ob (jI FU (x6.length:Int) 0 x0 x1 r1 x3 x4 x5 x6 x7 x8) fun r2=>(ob (JT x0 x1 r1 x3 x4 x5 x6 r2 x8) fun r3=>(z (r1,r3.1,r3.2.1,r3.2.2.1,r3.2.2.2,r2)))))
def JS:=Kz some x0 x1 x2 x3 x4 x5 x6 x7 x8
def Hl:(LL×LL×LI×Int×LI×LI)->Ex×CS:=fun r=>(.normal,⟨[],[],[bx2 x0 x1 r.1 r.2.1 r.2.2.1 r.2.2.2.1,rd0 r.2.2.2.2.1,rd0 r.2.2.2.2.2],3,false⟩)
abbrev qds:CS:=⟨[(1,vP 4),(2,vP 3)],[],[bx2 x0 x1 x2 x3 x4 x5,rd0 x6,rd0 x7,.box 31 [kd2 x8],.box 53 [.ptr 0 0]],3,false⟩
theorem qgk {k:Nat} {r:LL×LL×LI×Int×LI×LI}:JS x0 x1 x2 x3 x4 x5 x6 x7 x8=some r->pE S139 34 20 0 k (qds x0 x1 x2 x3 x4 x5 x6 x7 x8)=some (Hl x0 x1 r):=lP (Kz (sm (Hl x0 x1)) x0 x1 x2 x3 x4 x5 x6 x7 x8) (by kernel_rfl) (by unfold JS Kz;with_reducible repeat' first|apply zd|exact nX|exact sX)
end
def S140:=S139.pc 34 20 0 (qds [] [] [] [] [] 0 [] [] []) (fun x0 x1 x2 x3 x4 x5 x6 x7 x8=>some (y1 (JS x0 x1 x2 x3 x4 x5 x6 x7 x8) (Hl x0 x1))) (by kernel_rfl) rfl fun _=>w1 fun h=>qgk _ _ _ _ _ _ _ _ _ h
section
variable {β:Type} (z:(LL × LL × LI × Int × LI × LI)->Option β) (x0:LI) (x1:L3) (x2 x3:LL) (x4:LI) (x5:Int) (x6 x7:LI)
def tv34:Option β:=(ob (K4 x0 x1 x2 x3 x4 x5 x6 x7) fun r1=>(ob (JS x0 x1 x2 x3 x4 x5 x6 x7 r1) fun r2=>(z (r2.1,r2.2.1,r2.2.2.1,r2.2.2.2.1,r2.2.2.2.2.1,r2.2.2.2.2.2))))
def v34:=tv34 some x0 x1 x2 x3 x4 x5 x6 x7
abbrev aF34:List TA:=[.sc (.ptr 0 0)]
abbrev hF34:List TO:=[bx2 x0 x1 x2 x3 x4 x5,rd0 x6,rd0 x7]
abbrev rF34:(LL×LL×LI×Int×LI×LI)->List TA×List TO:=fun r=>([],[bx2 x0 x1 r.1 r.2.1 r.2.2.1 r.2.2.2.1,rd0 r.2.2.2.2.1,rd0 r.2.2.2.2.2])
theorem ev34:fE S140 34 aF34 (hF34 x0 x1 x2 x3 x4 x5 x6 x7)=(v34 x0 x1 x2 x3 x4 x5 x6 x7).bind (sm (rF34 x0 x1)):=zE (fun z=>tv34 z x0 x1 x2 x3 x4 x5 x6 x7) (by kernel_rfl) fun K=>by unfold v34 tv34;with_reducible repeat' first|apply zc|exact nB|exact sB
end
def S141:=S140.fn 34 aF34 (hF34 [] [] [] [] [] 0 [] []) (fun x0 x1 x2 x3 x4 x5 x6 x7=>some (y1 (v34 x0 x1 x2 x3 x4 x5 x6 x7) (rF34 x0 x1))) rfl fun _=>w1 fun h=>(ev34 ..).trans (bD h)
section
variable {β:Type} (y:Int->Int->Int->LI->L3->LL->LL->LI->Int->LI->LI->LL->LI->Option β) (z:(LL × LL × LI × Int × LI × LI)->Option β) (x0 x1 x2:Int) (x3:LI) (x4:L3) (x5 x6:LL) (x7:LI) (x8:Int) (x9 x10:LI) (x11:LL) (x12:LI)
def gV:Option β:=(cond (decide (x1 < x0)) (ob (v34 x3 x4 x5 x6 x7 x8 x9 x10) fun r1=>(y x0 (wI (x1+1)) x2 x3 x4 (r1.1) (r1.2.1) (r1.2.2.1) (r1.2.2.2.1) (r1.2.2.2.2.1) (r1.2.2.2.2.2) x11 x12)) (z (x5,x6,x7,x8,x9,x10)))
def jj:=itL (fun _ _ _ _ _ _ _ _ _ _ _ _ _=>none) fun f=>gV f some
theorem D4 (n:Nat):jj (n+1)=gV (jj n) some:=rfl
def SS:(LL×LL×LI×Int×LI×LI)->Ex×CS:=fun r=>((.exit 4),⟨[(4,.l 4 0),(6,vP 0)],[(4,[.g 3,.g 4,I4 x2])],[bx2 x3 x4 r.1 r.2.1 r.2.2.1 r.2.2.2.1,rd0 r.2.2.2.2.1,rd0 r.2.2.2.2.2,rd1 x11,rd0 x12],0,false⟩)
abbrev Du:CS:=⟨[(4,.l 4 0),(6,vP 0),(75,vI x0),(76,vI x1)],[(4,[.g 3,.g 4,I4 x2])],[bx2 x3 x4 x5 x6 x7 x8,rd0 x9,rd0 x10,rd1 x11,rd0 x12],0,false⟩
theorem qf2 {k m n:Nat} {r:LL×LL×LI×Int×LI×LI} (h:jj n x0 x1 x2 x3 x4 x5 x6 x7 x8 x9 x10 x11 x12=some r):lE S141 14 4 k (n+m) (Du x0 x1 x2 x3 x4 x5 x6 x7 x8 x9 x10 x11 x12)=some (SS x2 x3 x4 x11 x12 r):=by
 induction n generalizing x1 x5 x6 x7 x8 x9 x10 with
 |zero=>cases h
 |succ n ih=>
 exact lS (gV (fun x0 x1 x2 x3 x4 x5 x6 x7 x8 x9 x10 x11 x12=>lE S141 14 4 k (n+m) (Du x0 x1 x2 x3 x4 x5 x6 x7 x8 x9 x10 x11 x12)) (sm (SS x2 x3 x4 x11 x12)) x0 x1 x2 x3 x4 x5 x6 x7 x8 x9 x10 x11 x12) (by kernel_rfl) (by rw [D4];unfold gV;with_reducible repeat' first|apply zd|exact ih _ _ _ _ _ _ _|exact nX|exact sX) h
end
def S142:=S141.lp 14 4 (Du 0 0 0 [] [] [] [] [] 0 [] [] [] []) (fun x0 x1 x2 x3 x4 x5 x6 x7 x8 x9 x10 x11 x12=>some (y1 (jj FU x0 x1 x2 x3 x4 x5 x6 x7 x8 x9 x10 x11 x12) (SS x2 x3 x4 x11 x12))) (by kernel_rfl) fun _=>w1 fun h=>qf2 _ _ _ _ _ _ _ _ _ _ _ _ _ h
section
variable {β:Type} (z:(Int × LL × LI × Int)->Option β) (x0 x1:Int) (x2:LI) (x3:L3) (x4 x5:LL) (x6:LI) (x7:Int) (x8 x9:LI) (x10:LL) (x11:LI)
def Jx:Option β:=(ob (jj FU (wI (x0+1)) 0 x1 x2 x3 x4 x5 x6 x7 x8 x9 x10 x11) fun r1=>(z (0,r1.2.1,r1.2.2.1,r1.2.2.2.1)))
def GV:=Jx some x0 x1 x2 x3 x4 x5 x6 x7 x8 x9 x10 x11
def K9:(Int×LL×LI×Int)->Ex×CS:=fun r=>(.ret,⟨[(4,.l 4 0),(5,vI r.1)],[(4,[kd2 r.2.1,kd0 r.2.2.1,I4 r.2.2.2])],[],0,true⟩)
abbrev qct:CS:=⟨[(1,vI x0),(4,.l 4 0),(6,vP 0)],[(4,[.g 3,.g 4,I4 x1])],[bx2 x2 x3 x4 x5 x6 x7,rd0 x8,rd0 x9,rd1 x10,rd0 x11],0,false⟩
theorem qeZ {k:Nat} {r:Int×LL×LI×Int}:GV x0 x1 x2 x3 x4 x5 x6 x7 x8 x9 x10 x11=some r->pE S142 14 140 0 k (qct x0 x1 x2 x3 x4 x5 x6 x7 x8 x9 x10 x11)=some (K9 r):=lP (Jx (sm K9) x0 x1 x2 x3 x4 x5 x6 x7 x8 x9 x10 x11) (by kernel_rfl) (by unfold GV Jx;with_reducible repeat' first|apply zd|exact nX|exact sX)
end
def S143:=S142.pc 14 140 0 (qct 0 0 [] [] [] [] [] 0 [] [] [] []) (fun x0 x1 x2 x3 x4 x5 x6 x7 x8 x9 x10 x11=>some (y1 (GV x0 x1 x2 x3 x4 x5 x6 x7 x8 x9 x10 x11) K9)) (by kernel_rfl) rfl fun _=>w1 fun h=>qeZ _ _ _ _ _ _ _ _ _ _ _ _ h
section
variable {β:Type} (z:((Int × Int) ⊕ (Int × LL × LI × Int))->Option β) (x0:Int) (x1:LI) (x2:L3) (x3:Int) (x4:LI) (x5:L3) (x6 x7:LL) (x8:LI) (x9:Int) (x10 x11:LI) (x12:LL) (x13:LI)
def Ky:Option β:=(cond (isL (qO FU x0 (x2.length:Int) 0 x3 x4 x5 x6 x7 x8 x9 x10 x11 x12 x13)) (z (.inl ((zx (qO FU x0 (x2.length:Int) 0 x3 x4 x5 x6 x7 x8 x9 x10 x11 x12 x13)).1,(zx (qO FU x0 (x2.length:Int) 0 x3 x4 x5 x6 x7 x8 x9 x10 x11 x12 x13)).2))) (ob (zB (qO FU x0 (x2.length:Int) 0 x3 x4 x5 x6 x7 x8 x9 x10 x11 x12 x13)) fun _=>(ob (GV x0 x3 x4 x5 x6 x7 x8 x9 x10 x11 x12 x13) fun r2=>(z (.inr (r2.1,r2.2.1,r2.2.2.1,r2.2.2.2))))))
def gq (x0:Int) (x1:LI) (x2:L3) (x3:Int) (x4:LI) (x5:L3) (x6 x7:LL) (x8:LI) (x9:Int) (x10 x11:LI) (x12:LL) (x13:LI):Option ((Int×Int) ⊕ (Int×LL×LI×Int)):=Ky some x0 x2 x3 x4 x5 x6 x7 x8 x9 x10 x11 x12 x13
def SU:((Int×Int) ⊕ (Int×LL×LI×Int))->Ex×CS:=Sum.elim (fun r=>(.ret,⟨[(4,.l 4 0),(5,vI r.1)],[(4,[.nil,.nil,I4 r.2])],[],0,true⟩)) fun r=>(.ret,⟨[(4,.l 4 0),(5,vI r.1)],[(4,[kd2 r.2.1,kd0 r.2.2.1,I4 r.2.2.2])],[],0,true⟩)
abbrev qdr:CS:=⟨[(1,vI x0),(2,.l 2 0),(4,.l 4 0),(6,vP 0)],[(2,[kd0 x1,kd1 x2]),(4,[.g 3,.g 4,I4 x3])],[bx2 x4 x5 x6 x7 x8 x9,rd0 x10,rd0 x11,rd1 x12,rd0 x13],0,false⟩
theorem qf4 {k:Nat} {r:(Int×Int) ⊕ (Int×LL×LI×Int)}:gq x0 x1 x2 x3 x4 x5 x6 x7 x8 x9 x10 x11 x12 x13=some r->pE S143 14 84 0 k (qdr x0 x1 x2 x3 x4 x5 x6 x7 x8 x9 x10 x11 x12 x13)=some (SU r):=lP (Ky (sm SU) x0 x2 x3 x4 x5 x6 x7 x8 x9 x10 x11 x12 x13) (by kernel_rfl) (by unfold gq Ky;with_reducible repeat' first|apply zd|exact nX|exact sX)
end
def S144:=S143.pc 14 84 0 (qdr 0 [] [] 0 [] [] [] [] [] 0 [] [] [] []) (fun x0 x1 x2 x3 x4 x5 x6 x7 x8 x9 x10 x11 x12 x13=>some (y2 (gq x0 x1 x2 x3 x4 x5 x6 x7 x8 x9 x10 x11 x12 x13) SU)) (by kernel_rfl) rfl fun _=>w2 fun h=>qf4 _ _ _ _ _ _ _ _ _ _ _ _ _ _ h
section
variable {β:Type} (z:((Int × Int) ⊕ (Int × LL × LI × Int))->Option β) (x0:Int) (x1:LI) (x2:L3) (x3:Int) (x4:LI) (x5:L3) (x6:LL) (x7:LI) (x8:Int) (x9 x10:LI) (x11:LL) (x12:LI)
def Kx:Option β:=(ob (jR FU x0 (x9.length:Int) 0 x1 x2 x3 x4 x5 x6 x7 x8 x9 x10 x11 x12) fun r1=>(ob (v31 x4 x5 x6 x7 x8 r1 x10) fun r2=>(cond (isL (gq x0 x1 x2 x3 x4 x5 r2 x6 x7 x8 r1 x10 x11 x12)) (z (.inl ((zx (gq x0 x1 x2 x3 x4 x5 r2 x6 x7 x8 r1 x10 x11 x12)).1,(zx (gq x0 x1 x2 x3 x4 x5 r2 x6 x7 x8 r1 x10 x11 x12)).2))) (ob (zB (gq x0 x1 x2 x3 x4 x5 r2 x6 x7 x8 r1 x10 x11 x12)) fun r3=>(z (.inr (r3.1,r3.2.1,r3.2.2.1,r3.2.2.2)))))))
def qM:=Kx some x0 x1 x2 x3 x4 x5 x6 x7 x8 x9 x10 x11 x12
def ST:((Int×Int) ⊕ (Int×LL×LI×Int))->Ex×CS:=Sum.elim (fun r=>(.ret,⟨[(4,.l 4 0),(5,vI r.1)],[(4,[.nil,.nil,I4 r.2])],[],0,true⟩)) fun r=>(.ret,⟨[(4,.l 4 0),(5,vI r.1)],[(4,[kd2 r.2.1,kd0 r.2.2.1,I4 r.2.2.2])],[],0,true⟩)
abbrev qdq:CS:=⟨[(1,vI x0),(2,.l 2 0),(4,.l 4 0),(6,vP 0),(24,.l 2 0),(28,.l 2 0)],[(2,[kd0 x1,kd1 x2]),(4,[.g 3,.g 4,I4 x3])],[bx0 x4 x5 x6 x7 x8,rd0 x9,rd0 x10,rd1 x11,rd0 x12],0,false⟩
theorem qf3 {k:Nat} {r:(Int×Int) ⊕ (Int×LL×LI×Int)}:qM x0 x1 x2 x3 x4 x5 x6 x7 x8 x9 x10 x11 x12=some r->pE S144 14 36 0 k (qdq x0 x1 x2 x3 x4 x5 x6 x7 x8 x9 x10 x11 x12)=some (ST r):=lP (Kx (sm ST) x0 x1 x2 x3 x4 x5 x6 x7 x8 x9 x10 x11 x12) (by kernel_rfl) (by unfold qM Kx;with_reducible repeat' first|apply zd|exact nX|exact sX)
end
def S145:=S144.pc 14 36 0 (qdq 0 [] [] 0 [] [] [] [] 0 [] [] [] []) (fun x0 x1 x2 x3 x4 x5 x6 x7 x8 x9 x10 x11 x12=>some (y2 (qM x0 x1 x2 x3 x4 x5 x6 x7 x8 x9 x10 x11 x12) ST)) (by kernel_rfl) rfl fun _=>w2 fun h=>qf3 _ _ _ _ _ _ _ _ _ _ _ _ _ h
section
variable {β:Type} (z:(LL × LI × Int × Int)->Option β) (x0:LI) (x1:L3) (x2:Int)
def tv14:Option β:=(ob (v28 x0 x1) fun r1=>(cond (!r1) (z ([],[],0,(1:Int))) (cond (decide (x2 < 0)) (z ([],[],0,(1:Int))) (cond (decide (x2 > (1000:Int))) (z ([],[],0,(1:Int))) (cond (decide ((x0.length:Int)<=(x0.length:Int))) (cond (decide ((x0.length:Int)<=(↑(nat_lit 2147483648):Int))) (cond (isL (qM x2 x0 x1 0 x0 x1 [] [] 0 (List.replicate (x0.length:Int).toNat 0) (List.replicate (x0.length:Int).toNat 0) [] [])) (z ([],[],(zx (qM x2 x0 x1 0 x0 x1 [] [] 0 (List.replicate (x0.length:Int).toNat 0) (List.replicate (x0.length:Int).toNat 0) [] [])).2,(zx (qM x2 x0 x1 0 x0 x1 [] [] 0 (List.replicate (x0.length:Int).toNat 0) (List.replicate (x0.length:Int).toNat 0) [] [])).1)) (ob (zB (qM x2 x0 x1 0 x0 x1 [] [] 0 (List.replicate (x0.length:Int).toNat 0) (List.replicate (x0.length:Int).toNat 0) [] [])) fun r2=>(z (r2.2.1,r2.2.2.1,r2.2.2.2,r2.1)))) none) none)))))
def v14:=tv14 some x0 x1 x2
def uv14:Option β:=(ob (v28 x0 x1) fun r1=>(cond (!r1) (z ([],[],0,(1:Int))) (cond (decide (x2 < 0)) (z ([],[],0,(1:Int))) (cond (decide (x2 > (1000:Int))) (z ([],[],0,(1:Int))) (cond (decide ((x0.length:Int)<=(x0.length:Int))) (cond (decide ((x0.length:Int)<=(↑(nat_lit 2147483648):Int))) (cond (decide ((x0.length:Int)<=(x0.length:Int))) (cond (decide ((x0.length:Int)<=(↑(nat_lit 2147483648):Int))) (cond (isL (qM x2 x0 x1 0 x0 x1 [] [] 0 (List.replicate (x0.length:Int).toNat 0) (List.replicate (x0.length:Int).toNat 0) [] [])) (z ([],[],(zx (qM x2 x0 x1 0 x0 x1 [] [] 0 (List.replicate (x0.length:Int).toNat 0) (List.replicate (x0.length:Int).toNat 0) [] [])).2,(zx (qM x2 x0 x1 0 x0 x1 [] [] 0 (List.replicate (x0.length:Int).toNat 0) (List.replicate (x0.length:Int).toNat 0) [] [])).1)) (ob (zB (qM x2 x0 x1 0 x0 x1 [] [] 0 (List.replicate (x0.length:Int).toNat 0) (List.replicate (x0.length:Int).toNat 0) [] [])) fun r2=>(z (r2.2.1,r2.2.2.1,r2.2.2.2,r2.1)))) none) none) none) none)))))
abbrev aF14:List TA:=[.agg [kd0 x0,kd1 x1],.sc (I4 x2)]
abbrev rF14:(LL×LI×Int×Int)->List TA×List TO:=fun r=>([.agg [kd2 r.1,kd0 r.2.1,I4 r.2.2.1],.sc (I4 r.2.2.2)],[])
theorem ev14:fE S145 14 (aF14 x0 x1 x2) []=(v14 x0 x1 x2).bind (sm rF14):=zE (fun z=>uv14 z x0 x1 x2) (by kernel_rfl) fun K=>by unfold v14 tv14 uv14;with_reducible repeat' first|apply bT ‹_›|apply bF ‹_›|(apply Yi<;>intro _)|exact nB|exact sB
end
def S146:=S145.fn 14 (aF14 [] [] 0) [] (fun x0 x1 x2=>some (y1 (v14 x0 x1 x2) rF14)) rfl fun _=>w1 fun h=>(ev14 ..).trans (bD h)
section
variable {β:Type} (y:LL->Int->Int->LI->L3->Option β) (z:(Bool ⊕ Unit)->Option β) (x0:LL) (x1 x2:Int) (x3:LI) (x4:L3)
def Ja:Option β:=(ck x1 (x4.length:Int) (cond (decide (x2 < (↑(List.length (List.getD x4 x1.toNat [])):Int))) (cond (decide (0<=x2)) (cond (decide ((↑(List.length (List.getD (List.getD x4 x1.toNat []) x2.toNat [])):Int) > (20:Int))) (z (.inl (false))) (y x0 x1 (wI (x2+1)) x3 x4)) none) (z (.inr ()))))
def qdJ:Option β:=(ck x1 (x4.length:Int) (cond (decide (x2 < (↑(List.length (List.getD x4 x1.toNat [])):Int))) (ck x1 (x4.length:Int) (ck x2 (↑(List.length (List.getD x4 x1.toNat [])):Int) (cond (decide ((↑(List.length (List.getD (List.getD x4 x1.toNat []) x2.toNat [])):Int) > (20:Int))) (z (.inl (false))) (y x0 x1 (wI (x2+1)) x3 x4)))) (z (.inr ()))))
def qJ:=itL (fun _ _ _ _ _=>none) fun f=>Ja f some
theorem D0 (n:Nat):qJ (n+1)=Ja (qJ n) some:=rfl
def SN:(Bool ⊕ Unit)->Ex×CS:=Sum.elim (fun r=>(.ret,⟨[(6,vB r)],[],[],0,true⟩)) fun r=>((.exit 2),⟨[(1,vd1 x0),(3,.l 3 0),(7,vI x1),(45,.l 3 1)],[(3,[kd0 x3,kd1 x4])],[],0,false⟩)
abbrev Dq:CS:=⟨[(1,vd1 x0),(3,.l 3 0),(7,vI x1),(8,vI x2)],[(3,[kd0 x3,kd1 x4])],[],0,false⟩
theorem qfY {k m n:Nat} {r:Bool ⊕ Unit} (h:qJ n x0 x1 x2 x3 x4=some r):lE S146 11 2 k (n+m) (Dq x0 x1 x2 x3 x4)=some (SN x0 x1 x3 x4 r):=by
 induction n generalizing x2 with
 |zero=>cases h
 |succ n ih=>
 exact lS (qdJ (fun x0 x1 x2 x3 x4=>lE S146 11 2 k (n+m) (Dq x0 x1 x2 x3 x4)) (sm (SN x0 x1 x3 x4)) x0 x1 x2 x3 x4) (by kernel_rfl) (by rw [D0];unfold Ja qdJ;with_reducible repeat' first|apply gT ‹_›|apply gF ‹_›|(apply zz<;>intro _)|exact ih _|exact nX|exact sX) h
end
def S147:=S146.lp 11 2 (Dq [] 0 0 [] []) (fun x0 x1 x2 x3 x4=>some (y2 (qJ FU x0 x1 x2 x3 x4) (SN x0 x1 x3 x4))) (by kernel_rfl) fun _=>w2 fun h=>qfY _ _ _ _ _ h
section
variable {β:Type} (y:LL->Int->LI->L3->Option β) (z:(Bool ⊕ Unit)->Option β) (x0:LL) (x1:Int) (x2:LI) (x3:L3)
def JY:Option β:=(cond (decide (x1 < (x3.length:Int))) (cond (decide (0<=x1)) (cond (decide ((↑(List.length (List.getD x3 x1.toNat [])):Int) > (20:Int))) (z (.inl (false))) (cond (isL (qJ FU x0 x1 0 x2 x3)) (z (.inl (zx (qJ FU x0 x1 0 x2 x3)))) (ob (zB (qJ FU x0 x1 0 x2 x3)) fun _=>(y x0 (wI (x1+1)) x2 x3)))) none) (z (.inr ())))
def qei:Option β:=(cond (decide (x1 < (x3.length:Int))) (ck x1 (x3.length:Int) (cond (decide ((↑(List.length (List.getD x3 x1.toNat [])):Int) > (20:Int))) (z (.inl (false))) (cond (isL (qJ FU x0 x1 0 x2 x3)) (z (.inl (zx (qJ FU x0 x1 0 x2 x3)))) (ob (zB (qJ FU x0 x1 0 x2 x3)) fun _=>(y x0 (wI (x1+1)) x2 x3))))) (z (.inr ())))
def jC:=itL (fun _ _ _ _=>none) fun f=>JY f some
theorem qaU (n:Nat):jC (n+1)=JY (jC n) some:=rfl
def qbF:(Bool ⊕ Unit)->Ex×CS:=Sum.elim (fun r=>(.ret,⟨[(6,vB r)],[],[],0,true⟩)) fun r=>((.exit 0),⟨[(1,vd1 x0),(3,.l 3 0),(31,.l 3 1)],[],[],0,false⟩)
abbrev HY:CS:=⟨[(1,vd1 x0),(3,.l 3 0),(7,vI x1)],[(3,[kd0 x2,kd1 x3])],[],0,false⟩
theorem qhp {k m n:Nat} {r:Bool ⊕ Unit} (h:jC n x0 x1 x2 x3=some r):lE S147 11 0 k (n+m) (HY x0 x1 x2 x3)=some (qbF x0 r):=by
 induction n generalizing x1 with
 |zero=>cases h
 |succ n ih=>
 exact lS (qei (fun x0 x1 x2 x3=>lE S147 11 0 k (n+m) (HY x0 x1 x2 x3)) (sm (qbF x0)) x0 x1 x2 x3) (by kernel_rfl) (by rw [qaU];unfold JY qei;with_reducible repeat' first|apply gT ‹_›|apply gF ‹_›|(apply zz<;>intro _)|exact ih _|exact nX|exact sX) h
end
def S148:=S147.lp 11 0 (HY [] 0 [] []) (fun x0 x1 x2 x3=>some (y2 (jC FU x0 x1 x2 x3) (qbF x0))) (by kernel_rfl) fun _=>w2 fun h=>qhp _ _ _ _ h
section
variable {β:Type} (y:LL->Int->Option β) (z:(Bool ⊕ Unit)->Option β) (x0:LL) (x1:Int)
def Jb:Option β:=(cond (decide (x1 < (x0.length:Int))) (cond (decide (0<=x1)) (cond (decide ((↑(List.length (List.getD x0 x1.toNat [])):Int) > (20:Int))) (z (.inl (false))) (y x0 (wI (x1+1)))) none) (z (.inr ())))
def qdK:Option β:=(cond (decide (x1 < (x0.length:Int))) (ck x1 (x0.length:Int) (cond (decide ((↑(List.length (List.getD x0 x1.toNat [])):Int) > (20:Int))) (z (.inl (false))) (y x0 (wI (x1+1))))) (z (.inr ())))
def qV:=itL (fun _ _=>none) fun f=>Jb f some
theorem D1 (n:Nat):qV (n+1)=Jb (qV n) some:=rfl
def SO:(Bool ⊕ Unit)->Ex×CS:=Sum.elim (fun r=>(.ret,⟨[(6,vB r)],[],[],0,true⟩)) fun r=>((.exit 4),⟨[],[],[],0,false⟩)
abbrev Dr:CS:=⟨[(1,vd1 x0),(9,vI x1)],[],[],0,false⟩
theorem qfZ {k m n:Nat} {r:Bool ⊕ Unit} (h:qV n x0 x1=some r):lE S148 11 4 k (n+m) (Dr x0 x1)=some (SO r):=by
 induction n generalizing x1 with
 |zero=>cases h
 |succ n ih=>
 exact lS (qdK (fun x0 x1=>lE S148 11 4 k (n+m) (Dr x0 x1)) (sm SO) x0 x1) (by kernel_rfl) (by rw [D1];unfold Jb qdK;with_reducible repeat' first|apply gT ‹_›|apply gF ‹_›|(apply zz<;>intro _)|exact ih _|exact nX|exact sX) h
end
def S149:=S148.lp 11 4 (Dr [] 0) (fun x0 x1=>some (y2 (qV FU x0 x1) SO)) (by kernel_rfl) fun _=>w2 fun h=>qfZ _ _ h
section
variable {β:Type} (z:Bool->Option β) (x0:LI) (x1:L3) (x2:LL) (x3:LI)
def tv11:Option β:=(cond (decide ((x0.length:Int) > (20:Int))) (z false) (cond (decide ((x1.length:Int) > (20:Int))) (z false) (cond (decide ((x2.length:Int) > (20:Int))) (z false) (cond (decide ((x3.length:Int) > (20:Int))) (z false) (cond (isL (jC FU x2 0 x0 x1)) (z (zx (jC FU x2 0 x0 x1))) (ob (zB (jC FU x2 0 x0 x1)) fun _=>(cond (isL (qV FU x2 0)) (z (zx (qV FU x2 0))) (ob (zB (qV FU x2 0)) fun _=>(z true)))))))))
def v11:=tv11 some x0 x1 x2 x3
abbrev aF11:List TA:=[.agg [kd0 x0,kd1 x1],.sc (kd2 x2),.sc (kd0 x3)]
abbrev rF11:Bool->List TA×List TO:=fun r=>([.sc (.bool r)],[])
theorem ev11:fE S149 11 (aF11 x0 x1 x2 x3) []=(v11 x0 x1 x2 x3).bind (sm rF11):=zE (fun z=>tv11 z x0 x1 x2 x3) (by kernel_rfl) fun K=>by unfold v11 tv11;with_reducible repeat' first|apply zc|exact nB|exact sB
end
def S150:=S149.fn 11 (aF11 [] [] [] []) [] (fun x0 x1 x2 x3=>some (y1 (v11 x0 x1 x2 x3) rF11)) rfl fun _=>w1 fun h=>(ev11 ..).trans (bD h)
end
end Go.Proofs.Ytpfphfobneehmaa
