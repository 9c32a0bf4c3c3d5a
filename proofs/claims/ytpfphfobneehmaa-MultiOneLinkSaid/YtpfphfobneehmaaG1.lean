/- What some functions and loops come to: printed and checked. Written by a program of ours. -/
import Derived.Test.YtpfphfobneehmaaG0
set_option linter.all false
set_option maxRecDepth 1000000
set_option maxHeartbeats 4000000
namespace Go.Proofs.Ytpfphfobneehmaa
open Go Go.AM Go.TM Go.Proofs
noncomputable section
section
variable {β:Type} (y:Int->Int->Int->Int->Int->Int->Int->Int->Int->Option β) (z:Int->Option β) (x0 x1 x2 x3 x4 x5 x6 x7 x8:Int)
def Je:Option β:=(cond (decide (x7≥(4294967296:Int))) (cond (decide (wU (x8+x2)≥(4294967296:Int))) (z (wU (x7 - (1:Int)))) (y x0 x1 x2 x3 x4 x5 x6 (wU (x7 - (1:Int))) (wU (x8+x2)))) (cond (decide (wU (x7*x3) > wU (wU ((4294967296:Int)*x8)+x5))) (cond (decide (wU (x8+x2)≥(4294967296:Int))) (z (wU (x7 - (1:Int)))) (y x0 x1 x2 x3 x4 x5 x6 (wU (x7 - (1:Int))) (wU (x8+x2)))) (z x7)))
def gx:=itL (fun _ _ _ _ _ _ _ _ _=>none) fun f=>Je f some
theorem qbK (n:Nat):gx (n+1)=Je (gx n) some:=rfl
def HS:Int->Ex×CS:=fun r=>((.exit 0),⟨[(2,.v (.sc (.int .u64 x0))),(8,.v (.sc (.int .u64 x1))),(9,.v (.sc (.int .u64 x2))),(10,.v (.sc (.int .u64 x3))),(11,.v (.sc (.int .u64 x4))),(13,.v (.sc (.int .u64 x5))),(14,.v (.sc (.int .u64 x6))),(15,.v (.sc (.int .u64 r)))],[],[],0,false⟩)
abbrev Su:CS:=⟨[(2,.v (.sc (.int .u64 x0))),(8,.v (.sc (.int .u64 x1))),(9,.v (.sc (.int .u64 x2))),(10,.v (.sc (.int .u64 x3))),(11,.v (.sc (.int .u64 x4))),(13,.v (.sc (.int .u64 x5))),(14,.v (.sc (.int .u64 x6))),(15,.v (.sc (.int .u64 x7))),(16,.v (.sc (.int .u64 x8)))],[],[],0,false⟩
theorem qe2 {k m n:Nat} {r:Int} (h:gx n x0 x1 x2 x3 x4 x5 x6 x7 x8=some r):lE S76 74 0 k (n+m) (Su x0 x1 x2 x3 x4 x5 x6 x7 x8)=some (HS x0 x1 x2 x3 x4 x5 x6 r):=by
 induction n generalizing x7 x8 with
 |zero=>cases h
 |succ n ih=>
 exact lS (Je (fun x0 x1 x2 x3 x4 x5 x6 x7 x8=>lE S76 74 0 k (n+m) (Su x0 x1 x2 x3 x4 x5 x6 x7 x8)) (sm (HS x0 x1 x2 x3 x4 x5 x6)) x0 x1 x2 x3 x4 x5 x6 x7 x8) (by kernel_rfl) (by rw [qbK];unfold Je;with_reducible repeat' first|apply zd|exact ih _ _|exact nX|exact sX) h
end
def S77:=S76.lp 74 0 (Su 0 0 0 0 0 0 0 0 0) (fun x0 x1 x2 x3 x4 x5 x6 x7 x8=>some (y1 (gx FU x0 x1 x2 x3 x4 x5 x6 x7 x8) (HS x0 x1 x2 x3 x4 x5 x6))) (by kernel_rfl) fun _=>w1 fun h=>qe2 _ _ _ _ _ _ _ _ _ h
section
variable {β:Type} (y:Int->Int->Int->Int->Int->Int->Int->Int->Int->Option β) (z:Int->Option β) (x0 x1 x2 x3 x4 x5 x6 x7 x8:Int)
def Gz:Option β:=(cond (decide (x8≥(4294967296:Int))) (cond (decide (wU (x6+x2)≥(4294967296:Int))) (z (wU (x8 - (1:Int)))) (y x0 x1 x2 x3 x4 x5 (wU (x6+x2)) x7 (wU (x8 - (1:Int))))) (cond (decide (wU (x8*x3) > wU (wU ((4294967296:Int)*x6)+x4))) (cond (decide (wU (x6+x2)≥(4294967296:Int))) (z (wU (x8 - (1:Int)))) (y x0 x1 x2 x3 x4 x5 (wU (x6+x2)) x7 (wU (x8 - (1:Int))))) (z x8)))
def jV:=itL (fun _ _ _ _ _ _ _ _ _=>none) fun f=>Gz f some
theorem qbm (n:Nat):jV (n+1)=Gz (jV n) some:=rfl
def DE:Int->Ex×CS:=fun r=>((.exit 2),⟨[(2,.v (.sc (.int .u64 x0))),(8,.v (.sc (.int .u64 x1))),(14,.v (.sc (.int .u64 x4))),(15,.v (.sc (.int .u64 x5))),(17,.v (.sc (.int .u64 x7))),(18,.v (.sc (.int .u64 r)))],[],[],0,false⟩)
abbrev Kz:CS:=⟨[(2,.v (.sc (.int .u64 x0))),(8,.v (.sc (.int .u64 x1))),(9,.v (.sc (.int .u64 x2))),(10,.v (.sc (.int .u64 x3))),(14,.v (.sc (.int .u64 x4))),(15,.v (.sc (.int .u64 x5))),(16,.v (.sc (.int .u64 x6))),(17,.v (.sc (.int .u64 x7))),(18,.v (.sc (.int .u64 x8)))],[],[],0,false⟩
theorem qdF {k m n:Nat} {r:Int} (h:jV n x0 x1 x2 x3 x4 x5 x6 x7 x8=some r):lE S77 74 2 k (n+m) (Kz x0 x1 x2 x3 x4 x5 x6 x7 x8)=some (DE x0 x1 x4 x5 x7 r):=by
 induction n generalizing x6 x8 with
 |zero=>cases h
 |succ n ih=>
 exact lS (Gz (fun x0 x1 x2 x3 x4 x5 x6 x7 x8=>lE S77 74 2 k (n+m) (Kz x0 x1 x2 x3 x4 x5 x6 x7 x8)) (sm (DE x0 x1 x4 x5 x7)) x0 x1 x2 x3 x4 x5 x6 x7 x8) (by kernel_rfl) (by rw [qbm];unfold Gz;with_reducible repeat' first|apply zd|exact ih _ _|exact nX|exact sX) h
end
def S78:=S77.lp 74 2 (Kz 0 0 0 0 0 0 0 0 0) (fun x0 x1 x2 x3 x4 x5 x6 x7 x8=>some (y1 (jV FU x0 x1 x2 x3 x4 x5 x6 x7 x8) (DE x0 x1 x4 x5 x7))) (by kernel_rfl) fun _=>w1 fun h=>qdF _ _ _ _ _ _ _ _ _ h
section
variable {β:Type} (z:(Int × Int)->Option β) (x0 x1 x2 x3 x4 x5:Int)
def GR:Option β:=(cond (decide (0<=x1)) (z (wU (wU (x3*4294967296)+x5),Int.fdiv (wU (wU (wU (x4*4294967296)+x2) - wU (x5*x0))) ((2:Int) ^ min x1.toNat (IntKind.bits IntKind.u64)))) none)
def Gk:=GR some x0 x1 x2 x3 x4 x5
def Kb:(Int×Int)->Ex×CS:=fun r=>(.ret,⟨[(6,.v (.sc (.int .u64 r.1))),(7,.v (.sc (.int .u64 r.2)))],[],[],0,true⟩)
abbrev qak:CS:=⟨[(2,.v (.sc (.int .u64 x0))),(8,.v (.sc (.int .u64 x1))),(14,.v (.sc (.int .u64 x2))),(15,.v (.sc (.int .u64 x3))),(17,.v (.sc (.int .u64 x4))),(18,.v (.sc (.int .u64 x5)))],[],[],0,false⟩
theorem qcs {k:Nat} {r:Int×Int}:Gk x0 x1 x2 x3 x4 x5=some r->pE S78 74 228 0 k (qak x0 x1 x2 x3 x4 x5)=some (Kb r):=lP (GR (sm Kb) x0 x1 x2 x3 x4 x5) (by kernel_rfl) (by unfold Gk GR;with_reducible repeat' first|apply zd|exact nX|exact sX)
end
def S79:=S78.pc 74 228 0 (qak 0 0 0 0 0 0) (fun x0 x1 x2 x3 x4 x5=>some (y1 (Gk x0 x1 x2 x3 x4 x5) Kb)) (by kernel_rfl) rfl fun _=>w1 fun h=>qcs _ _ _ _ _ _ h
section
variable {β:Type} (z:(Int × Int)->Option β) (x0 x1 x2 x3 x4 x5 x6 x7:Int)
def GQ:Option β:=(ob (jV FU x0 x1 x2 x3 x4 x5 (wU (x6 - wU (x7*x2))) x6 x7) fun r1=>(ob (Gk x0 x1 x4 x5 x6 r1) fun r2=>(z (r2.1,r2.2))))
def Gj:=GQ some x0 x1 x2 x3 x4 x5 x6 x7
def Ka:(Int×Int)->Ex×CS:=fun r=>(.ret,⟨[(6,.v (.sc (.int .u64 r.1))),(7,.v (.sc (.int .u64 r.2)))],[],[],0,true⟩)
abbrev qaj:CS:=⟨[(2,.v (.sc (.int .u64 x0))),(8,.v (.sc (.int .u64 x1))),(9,.v (.sc (.int .u64 x2))),(10,.v (.sc (.int .u64 x3))),(14,.v (.sc (.int .u64 x4))),(15,.v (.sc (.int .u64 x5))),(17,.v (.sc (.int .u64 x6))),(18,.v (.sc (.int .u64 x7)))],[],[],0,false⟩
theorem qcr {k:Nat} {r:Int×Int}:Gj x0 x1 x2 x3 x4 x5 x6 x7=some r->pE S79 74 188 0 k (qaj x0 x1 x2 x3 x4 x5 x6 x7)=some (Ka r):=lP (GQ (sm Ka) x0 x1 x2 x3 x4 x5 x6 x7) (by kernel_rfl) (by unfold Gj GQ;with_reducible repeat' first|apply zd|exact nX|exact sX)
end
def S80:=S79.pc 74 188 0 (qaj 0 0 0 0 0 0 0 0) (fun x0 x1 x2 x3 x4 x5 x6 x7=>some (y1 (Gj x0 x1 x2 x3 x4 x5 x6 x7) Ka)) (by kernel_rfl) rfl fun _=>w1 fun h=>qcr _ _ _ _ _ _ _ _ h
section
variable {β:Type} (z:(Int × Int)->Option β) (x0 x1 x2 x3 x4 x5 x6:Int)
def GP:Option β:=(cond (decide (x2≠0)) (ob (Gj x0 x1 x2 x3 x4 x5 x6 (wU (Int.tdiv x6 x2))) fun r1=>(z (r1.1,r1.2))) none)
def Gi:=GP some x0 x1 x2 x3 x4 x5 x6
def J9:(Int×Int)->Ex×CS:=fun r=>(.ret,⟨[(6,.v (.sc (.int .u64 r.1))),(7,.v (.sc (.int .u64 r.2)))],[],[],0,true⟩)
abbrev qai:CS:=⟨[(2,.v (.sc (.int .u64 x0))),(8,.v (.sc (.int .u64 x1))),(9,.v (.sc (.int .u64 x2))),(10,.v (.sc (.int .u64 x3))),(14,.v (.sc (.int .u64 x4))),(15,.v (.sc (.int .u64 x5))),(17,.v (.sc (.int .u64 x6)))],[],[],0,false⟩
theorem qcq {k:Nat} {r:Int×Int}:Gi x0 x1 x2 x3 x4 x5 x6=some r->pE S80 74 180 0 k (qai x0 x1 x2 x3 x4 x5 x6)=some (J9 r):=lP (GP (sm J9) x0 x1 x2 x3 x4 x5 x6) (by kernel_rfl) (by unfold Gi GP;with_reducible repeat' first|apply zd|exact nX|exact sX)
end
def S81:=S80.pc 74 180 0 (qai 0 0 0 0 0 0 0) (fun x0 x1 x2 x3 x4 x5 x6=>some (y1 (Gi x0 x1 x2 x3 x4 x5 x6) J9)) (by kernel_rfl) rfl fun _=>w1 fun h=>qcq _ _ _ _ _ _ _ h
section
variable {β:Type} (z:(Int × Int)->Option β) (x0 x1 x2 x3 x4 x5 x6 x7:Int)
def GO:Option β:=(ob (Gi x0 x1 x2 x3 x6 x7 (wU (wU (wU (x4*4294967296)+x5) - wU (x7*x0)))) fun r1=>(z (r1.1,r1.2)))
def Gh:=GO some x0 x1 x2 x3 x4 x5 x6 x7
def J8:(Int×Int)->Ex×CS:=fun r=>(.ret,⟨[(6,.v (.sc (.int .u64 r.1))),(7,.v (.sc (.int .u64 r.2)))],[],[],0,true⟩)
abbrev qah:CS:=⟨[(2,.v (.sc (.int .u64 x0))),(8,.v (.sc (.int .u64 x1))),(9,.v (.sc (.int .u64 x2))),(10,.v (.sc (.int .u64 x3))),(11,.v (.sc (.int .u64 x4))),(13,.v (.sc (.int .u64 x5))),(14,.v (.sc (.int .u64 x6))),(15,.v (.sc (.int .u64 x7)))],[],[],0,false⟩
theorem qcp {k:Nat} {r:Int×Int}:Gh x0 x1 x2 x3 x4 x5 x6 x7=some r->pE S81 74 172 0 k (qah x0 x1 x2 x3 x4 x5 x6 x7)=some (J8 r):=lP (GO (sm J8) x0 x1 x2 x3 x4 x5 x6 x7) (by kernel_rfl) (by unfold Gh GO;with_reducible repeat' first|apply zd|exact nX|exact sX)
end
def S82:=S81.pc 74 172 0 (qah 0 0 0 0 0 0 0 0) (fun x0 x1 x2 x3 x4 x5 x6 x7=>some (y1 (Gh x0 x1 x2 x3 x4 x5 x6 x7) J8)) (by kernel_rfl) rfl fun _=>w1 fun h=>qcp _ _ _ _ _ _ _ _ h
section
variable {β:Type} (z:(Int × Int)->Option β) (x0 x1 x2 x3 x4 x5 x6 x7:Int)
def GN:Option β:=(ob (gx FU x0 x1 x2 x3 x4 x5 x6 x7 (wU (x4 - wU (x7*x2)))) fun r1=>(ob (Gh x0 x1 x2 x3 x4 x5 x6 r1) fun r2=>(z (r2.1,r2.2))))
def Gg:=GN some x0 x1 x2 x3 x4 x5 x6 x7
def J7:(Int×Int)->Ex×CS:=fun r=>(.ret,⟨[(6,.v (.sc (.int .u64 r.1))),(7,.v (.sc (.int .u64 r.2)))],[],[],0,true⟩)
abbrev qag:CS:=⟨[(2,.v (.sc (.int .u64 x0))),(8,.v (.sc (.int .u64 x1))),(9,.v (.sc (.int .u64 x2))),(10,.v (.sc (.int .u64 x3))),(11,.v (.sc (.int .u64 x4))),(13,.v (.sc (.int .u64 x5))),(14,.v (.sc (.int .u64 x6))),(15,.v (.sc (.int .u64 x7)))],[],[],0,false⟩
theorem qco {k:Nat} {r:Int×Int}:Gg x0 x1 x2 x3 x4 x5 x6 x7=some r->pE S82 74 132 0 k (qag x0 x1 x2 x3 x4 x5 x6 x7)=some (J7 r):=lP (GN (sm J7) x0 x1 x2 x3 x4 x5 x6 x7) (by kernel_rfl) (by unfold Gg GN;with_reducible repeat' first|apply zd|exact nX|exact sX)
end
def S83:=S82.pc 74 132 0 (qag 0 0 0 0 0 0 0 0) (fun x0 x1 x2 x3 x4 x5 x6 x7=>some (y1 (Gg x0 x1 x2 x3 x4 x5 x6 x7) J7)) (by kernel_rfl) rfl fun _=>w1 fun h=>qco _ _ _ _ _ _ _ _ h
section
variable {β:Type} (z:(Int × Int)->Option β) (x0 x1 x2 x3 x4 x5 x6:Int)
def GM:Option β:=(cond (decide (x2≠0)) (ob (Gg x0 x1 x2 x3 x4 x5 x6 (wU (Int.tdiv x4 x2))) fun r1=>(z (r1.1,r1.2))) none)
def j5:=GM some x0 x1 x2 x3 x4 x5 x6
def J6:(Int×Int)->Ex×CS:=fun r=>(.ret,⟨[(6,.v (.sc (.int .u64 r.1))),(7,.v (.sc (.int .u64 r.2)))],[],[],0,true⟩)
abbrev qaf:CS:=⟨[(2,.v (.sc (.int .u64 x0))),(8,.v (.sc (.int .u64 x1))),(9,.v (.sc (.int .u64 x2))),(10,.v (.sc (.int .u64 x3))),(11,.v (.sc (.int .u64 x4))),(13,.v (.sc (.int .u64 x5))),(14,.v (.sc (.int .u64 x6)))],[],[],0,false⟩
theorem qcn {k:Nat} {r:Int×Int}:j5 x0 x1 x2 x3 x4 x5 x6=some r->pE S83 74 124 0 k (qaf x0 x1 x2 x3 x4 x5 x6)=some (J6 r):=lP (GM (sm J6) x0 x1 x2 x3 x4 x5 x6) (by kernel_rfl) (by unfold j5 GM;with_reducible repeat' first|apply zd|exact nX|exact sX)
end
def S84:=S83.pc 74 124 0 (qaf 0 0 0 0 0 0 0) (fun x0 x1 x2 x3 x4 x5 x6=>some (y1 (j5 x0 x1 x2 x3 x4 x5 x6) J6)) (by kernel_rfl) rfl fun _=>w1 fun h=>qcn _ _ _ _ _ _ _ h
section
variable {β:Type} (z:(Int × Int)->Option β) (x0 x1 x2 x3 x4 x5:Int)
def GL:Option β:=(cond (decide (0<=x2)) (ob (j5 x1 x2 x3 x4 x5 (Int.fdiv (wU (x0*2 ^ min x2.toNat (IntKind.bits IntKind.u64))) ((2:Int) ^ min (Int.toNat (32:Int)) (IntKind.bits IntKind.u64))) (wU (↑(BitVec.toNat (BitVec.ofInt (IntKind.bits IntKind.u64) (wU (x0*2 ^ min x2.toNat (IntKind.bits IntKind.u64))) &&& BitVec.ofInt (IntKind.bits IntKind.u64) (4294967295:Int))):Int))) fun r1=>(z (r1.1,r1.2))) none)
def Gf:=GL some x0 x1 x2 x3 x4 x5
def J5:(Int×Int)->Ex×CS:=fun r=>(.ret,⟨[(6,.v (.sc (.int .u64 r.1))),(7,.v (.sc (.int .u64 r.2)))],[],[],0,true⟩)
abbrev qae:CS:=⟨[(1,.v (.sc (.int .u64 x0))),(2,.v (.sc (.int .u64 x1))),(8,.v (.sc (.int .u64 x2))),(9,.v (.sc (.int .u64 x3))),(10,.v (.sc (.int .u64 x4))),(11,.v (.sc (.int .u64 x5)))],[],[],0,false⟩
theorem qcm {k:Nat} {r:Int×Int}:Gf x0 x1 x2 x3 x4 x5=some r->pE S84 74 100 0 k (qae x0 x1 x2 x3 x4 x5)=some (J5 r):=lP (GL (sm J5) x0 x1 x2 x3 x4 x5) (by kernel_rfl) (by unfold Gf GL;with_reducible repeat' first|apply zd|exact nX|exact sX)
end
def S85:=S84.pc 74 100 0 (qae 0 0 0 0 0 0) (fun x0 x1 x2 x3 x4 x5=>some (y1 (Gf x0 x1 x2 x3 x4 x5) J5)) (by kernel_rfl) rfl fun _=>w1 fun h=>qcm _ _ _ _ _ _ h
section
variable {β:Type} (z:(Int × Int)->Option β) (x0 x1 x2 x3:Int)
def Jp:Option β:=(cond (decide (0<=x3)) (cond (decide (0<=wU ((64:Int) - x3))) (ob (Gf x1 x2 x3 (Int.fdiv x2 ((2:Int) ^ min (Int.toNat (32:Int)) (IntKind.bits IntKind.u64))) (wU (↑(BitVec.toNat (BitVec.ofInt (IntKind.bits IntKind.u64) x2 &&& BitVec.ofInt (IntKind.bits IntKind.u64) (4294967295:Int))):Int)) (wU (↑(BitVec.toNat (BitVec.ofInt (IntKind.bits IntKind.u64) (wU (x0*2 ^ min x3.toNat (IntKind.bits IntKind.u64))) ||| BitVec.ofInt (IntKind.bits IntKind.u64) (Int.fdiv x1 ((2:Int) ^ min (wU ((64:Int) - x3)).toNat (IntKind.bits IntKind.u64))))):Int))) fun r1=>(z (r1.1,r1.2))) none) none)
def gy:=Jp some x0 x1 x2 x3
def DF:(Int×Int)->Ex×CS:=fun r=>(.ret,⟨[(6,.v (.sc (.int .u64 r.1))),(7,.v (.sc (.int .u64 r.2)))],[],[],0,true⟩)
abbrev qba:CS:=⟨[(0,.v (.sc (.int .u64 x0))),(1,.v (.sc (.int .u64 x1))),(2,.v (.sc (.int .u64 x2))),(8,.v (.sc (.int .u64 x3)))],[],[],0,false⟩
theorem qdG {k:Nat} {r:Int×Int}:gy x0 x1 x2 x3=some r->pE S85 74 76 0 k (qba x0 x1 x2 x3)=some (DF r):=lP (Jp (sm DF) x0 x1 x2 x3) (by kernel_rfl) (by unfold gy Jp;with_reducible repeat' first|apply zd|exact nX|exact sX)
end
def S86:=S85.pc 74 76 0 (qba 0 0 0 0) (fun x0 x1 x2 x3=>some (y1 (gy x0 x1 x2 x3) DF)) (by kernel_rfl) rfl fun _=>w1 fun h=>qdG _ _ _ _ h
section
variable {β:Type} (z:(Int × Int)->Option β) (x0 x1 x2:Int)
def tv74:Option β:=(cond (x2==0) none (cond (decide (x2<=x0)) none (cond (x0==0) (cond (decide (x2≠0)) (z (wU (Int.tdiv x1 x2),Int.tmod x1 x2)) none) (ob (v80 x2) fun r1=>(cond (decide (0<=wU r1)) (ob (gy x0 x1 (wU (x2*2 ^ min (wU r1).toNat (IntKind.bits IntKind.u64))) (wU r1)) fun r2=>(z (r2.1,r2.2))) none)))))
def v74:=tv74 some x0 x1 x2
def uv74:Option β:=(cond (x2==0) none (cond (decide (x2<=x0)) none (cond (x0==0) (cond (decide (x2≠0)) (cond (decide (x2≠0)) (z (wU (Int.tdiv x1 x2),Int.tmod x1 x2)) none) none) (ob (v80 x2) fun r1=>(cond (decide (0<=wU r1)) (ob (gy x0 x1 (wU (x2*2 ^ min (wU r1).toNat (IntKind.bits IntKind.u64))) (wU r1)) fun r2=>(z (r2.1,r2.2))) none)))))
abbrev aF74:List TA:=[.sc (.int .u64 x0),.sc (.int .u64 x1),.sc (.int .u64 x2)]
abbrev rF74:(Int×Int)->List TA×List TO:=fun r=>([.sc (.int .u64 r.1),.sc (.int .u64 r.2)],[])
theorem ev74:fE S86 74 (aF74 x0 x1 x2) []=(v74 x0 x1 x2).bind (sm rF74):=zE (fun z=>uv74 z x0 x1 x2) (by kernel_rfl) fun K=>by unfold v74 tv74 uv74;with_reducible repeat' first|apply bT ‹_›|apply bF ‹_›|(apply Yi<;>intro _)|exact nB|exact sB
end
def S87:=S86.fn 74 (aF74 0 0 0) [] (fun x0 x1 x2=>some (y1 (v74 x0 x1 x2) rF74)) rfl fun _=>w1 fun h=>(ev74 ..).trans (bD h)
section
variable {β:Type} (z:Int->Option β) (x0 x1 x2:Int)
def tv56:Option β:=(ob (v74 (val (v73 (wU x0) (wU x1))).1 (val (v73 (wU x0) (wU x1))).2 (wU x2)) fun r1=>(z (wI r1.1)))
def v56:=tv56 some x0 x1 x2
abbrev aF56:List TA:=[.sc (I4 x0),.sc (I4 x1),.sc (I4 x2)]
abbrev rF56:Int->List TA×List TO:=fun r=>([.sc (I4 r)],[])
theorem ev56:fE S87 56 (aF56 x0 x1 x2) []=(v56 x0 x1 x2).bind (sm rF56):=zE (fun z=>tv56 z x0 x1 x2) (by kernel_rfl) fun K=>by unfold v56 tv56;with_reducible repeat' first|apply zc|exact nB|exact sB
end
def S88:=S87.fn 56 (aF56 0 0 0) [] (fun x0 x1 x2=>some (y1 (v56 x0 x1 x2) rF56)) rfl fun _=>w1 fun h=>(ev56 ..).trans (bD h)
section
variable {β:Type} (z:Int->Option β) (x0 x1:Int) (x2:LI) (x3:L3) (x4 x5:LL) (x6:LI) (x7:Int) (x8 x9:LI)
def tv55:Option β:=(ob (v33 x0 x2 x3 x4 x5 x6 x7 x8 x9) fun r1=>(cond (r1.1==x1) (ob (v56 (1000000000:Int) (1024:Int) r1.2) fun r2=>(z r2)) (z 0)))
def v55:=tv55 some x0 x1 x2 x3 x4 x5 x6 x7 x8 x9
abbrev aF55:List TA:=[.sc (I4 x0),.sc (I4 x1),.sc (.ptr 0 0)]
abbrev hF55:List TO:=[.box 53 [.ptr 1 0],bx1 x2 x3 x4 x5 x6 x7,rd0 x8,rd0 x9]
abbrev rF55:Int->List TA×List TO:=fun r=>([.sc (I4 r)],[.box 53 [.ptr 1 0],bx1 x2 x3 x4 x5 x6 x7,rd0 x8,rd0 x9])
theorem ev55:fE S88 55 (aF55 x0 x1) (hF55 x2 x3 x4 x5 x6 x7 x8 x9)=(v55 x0 x1 x2 x3 x4 x5 x6 x7 x8 x9).bind (sm (rF55 x2 x3 x4 x5 x6 x7 x8 x9)):=zE (fun z=>tv55 z x0 x1 x2 x3 x4 x5 x6 x7 x8 x9) (by kernel_rfl) fun K=>by unfold v55 tv55;with_reducible repeat' first|apply zc|exact nB|exact sB
end
def S89:=S88.fn 55 (aF55 0 0) (hF55 [] [] [] [] [] 0 [] []) (fun x0 x1 x2 x3 x4 x5 x6 x7 x8 x9=>some (y1 (v55 x0 x1 x2 x3 x4 x5 x6 x7 x8 x9) (rF55 x2 x3 x4 x5 x6 x7 x8 x9))) rfl fun _=>w1 fun h=>(ev55 ..).trans (bD h)
section
variable {β:Type} (y:Int->L3->Int->Int->Int->Int->LI->L3->LL->LL->LI->Int->LI->LI->LI->LL->Option β) (z:LI->Option β) (x0:Int) (x1:L3) (x2 x3 x4 x5:Int) (x6:LI) (x7:L3) (x8 x9:LL) (x10:LI) (x11:Int) (x12 x13 x14:LI) (x15:LL)
def ga:Option β:=(cond (decide (x5 < x4)) (ob (v55 x0 x5 x6 x7 x8 x9 x10 x11 x12 x13) fun r1=>(ck x5 (x14.length:Int) (cond (decide (x5.toNat < List.length x14)) (y x0 x1 x2 x3 x4 (wI (x5+1)) x6 x7 x8 x9 x10 x11 x12 x13 (List.set x14 x5.toNat r1) x15) none))) (z x14))
def qK:=itL (fun _ _ _ _ _ _ _ _ _ _ _ _ _ _ _ _=>none) fun f=>ga f some
theorem KI (n:Nat):qK (n+1)=ga (qK n) some:=rfl
def Dq:LI->Ex×CS:=fun r=>((.exit 2),⟨[(1,.v (.sc (.fn 55 0 [none] [.ptr 3 0]))),(5,vG 5),(8,vG 4),(14,vd2 x1),(15,vI x2),(16,vI x3)],[],[bx2 x6 x7 x8 x9 x10 x11,rd0 x12,rd0 x13,.box 53 [.ptr 0 0],rd0 r,rd1 x15],4,false⟩)
abbrev Kn:CS:=⟨[(1,.v (.sc (.fn 55 0 [none] [.ptr 3 0]))),(5,vG 5),(6,vI x0),(8,vG 4),(14,vd2 x1),(15,vI x2),(16,vI x3),(25,vI x4),(26,vI x5)],[],[bx2 x6 x7 x8 x9 x10 x11,rd0 x12,rd0 x13,.box 53 [.ptr 0 0],rd0 x14,rd1 x15],4,false⟩
theorem qdr {k m n:Nat} {r:LI} (h:qK n x0 x1 x2 x3 x4 x5 x6 x7 x8 x9 x10 x11 x12 x13 x14 x15=some r):lE S89 31 2 k (n+m) (Kn x0 x1 x2 x3 x4 x5 x6 x7 x8 x9 x10 x11 x12 x13 x14 x15)=some (Dq x1 x2 x3 x6 x7 x8 x9 x10 x11 x12 x13 x15 r):=by
 induction n generalizing x5 x14 with
 |zero=>cases h
 |succ n ih=>
 exact lS (ga (fun x0 x1 x2 x3 x4 x5 x6 x7 x8 x9 x10 x11 x12 x13 x14 x15=>lE S89 31 2 k (n+m) (Kn x0 x1 x2 x3 x4 x5 x6 x7 x8 x9 x10 x11 x12 x13 x14 x15)) (sm (Dq x1 x2 x3 x6 x7 x8 x9 x10 x11 x12 x13 x15)) x0 x1 x2 x3 x4 x5 x6 x7 x8 x9 x10 x11 x12 x13 x14 x15) (by kernel_rfl) (by rw [KI];unfold ga;with_reducible repeat' first|apply zd|exact ih _ _|exact nX|exact sX) h
end
def S90:=S89.lp 31 2 (Kn 0 [] 0 0 0 0 [] [] [] [] [] 0 [] [] [] []) (fun x0 x1 x2 x3 x4 x5 x6 x7 x8 x9 x10 x11 x12 x13 x14 x15=>some (y1 (qK FU x0 x1 x2 x3 x4 x5 x6 x7 x8 x9 x10 x11 x12 x13 x14 x15) (Dq x1 x2 x3 x6 x7 x8 x9 x10 x11 x12 x13 x15))) (by kernel_rfl) fun _=>w1 fun h=>qdr _ _ _ _ _ _ _ _ _ _ _ _ _ _ _ _ h
section
variable {β:Type} (y:L3->Int->Int->LI->L3->LL->LL->LI->Int->LI->LI->LL->Option β) (z:LL->Option β) (x0:L3) (x1 x2:Int) (x3:LI) (x4:L3) (x5 x6:LL) (x7:LI) (x8:Int) (x9 x10:LI) (x11:LL)
def gI:Option β:=(cond (decide (x2 < x1)) (ck x2 (x0.length:Int) (cond (decide ((↑(List.length (List.getD x0 x2.toNat [])):Int)<=(↑(List.length (List.getD x0 x2.toNat [])):Int))) (cond (decide ((↑(List.length (List.getD x0 x2.toNat [])):Int)<=(↑(nat_lit 2147483648):Int))) (ob (qK FU x2 x0 x1 x2 (↑(List.length (List.replicate (↑(List.length (List.getD x0 x2.toNat [])):Int).toNat (0:Int))):Int) 0 x3 x4 x5 x6 x7 x8 x9 x10 (List.replicate (↑(List.length (List.getD x0 x2.toNat [])):Int).toNat 0) x11) fun r1=>(cond (decide (List.length x11+List.length [val (qK FU x2 x0 x1 x2 (↑(List.length (List.replicate (↑(List.length (List.getD x0 x2.toNat [])):Int).toNat (0:Int))):Int) (0:Int) x3 x4 x5 x6 x7 x8 x9 x10 (List.replicate (↑(List.length (List.getD x0 x2.toNat [])):Int).toNat (0:Int)) x11)]<=nat_lit 2147483648)) (y x0 x1 (wI (x2+1)) x3 x4 x5 x6 x7 x8 x9 x10 (x11++[r1])) none)) none) none)) (z x11))
def jq:=itL (fun _ _ _ _ _ _ _ _ _ _ _ _=>none) fun f=>gI f some
theorem SM (n:Nat):jq (n+1)=gI (jq n) some:=rfl
def HB:LL->Ex×CS:=fun r=>((.exit 0),⟨[(5,vG 4)],[],[bx2 x3 x4 x5 x6 x7 x8,rd0 x9,rd0 x10,.box 53 [.ptr 0 0],rd1 r],4,false⟩)
abbrev Sd:CS:=⟨[(1,.v (.sc (.fn 55 0 [none] [.ptr 3 0]))),(5,vG 4),(14,vd2 x0),(15,vI x1),(16,vI x2)],[],[bx2 x3 x4 x5 x6 x7 x8,rd0 x9,rd0 x10,.box 53 [.ptr 0 0],rd1 x11],4,false⟩
theorem qeM {k m n:Nat} {r:LL} (h:jq n x0 x1 x2 x3 x4 x5 x6 x7 x8 x9 x10 x11=some r):lE S90 31 0 k (n+m) (Sd x0 x1 x2 x3 x4 x5 x6 x7 x8 x9 x10 x11)=some (HB x3 x4 x5 x6 x7 x8 x9 x10 r):=by
 induction n generalizing x2 x11 with
 |zero=>cases h
 |succ n ih=>
 exact lS (gI (fun x0 x1 x2 x3 x4 x5 x6 x7 x8 x9 x10 x11=>lE S90 31 0 k (n+m) (Sd x0 x1 x2 x3 x4 x5 x6 x7 x8 x9 x10 x11)) (sm (HB x3 x4 x5 x6 x7 x8 x9 x10)) x0 x1 x2 x3 x4 x5 x6 x7 x8 x9 x10 x11) (by kernel_rfl) (by rw [SM];unfold gI;with_reducible repeat' first|apply zd|exact ih _ _|exact nX|exact sX) h
end
def S91:=S90.lp 31 0 (Sd [] 0 0 [] [] [] [] [] 0 [] [] []) (fun x0 x1 x2 x3 x4 x5 x6 x7 x8 x9 x10 x11=>some (y1 (jq FU x0 x1 x2 x3 x4 x5 x6 x7 x8 x9 x10 x11) (HB x3 x4 x5 x6 x7 x8 x9 x10))) (by kernel_rfl) fun _=>w1 fun h=>qeM _ _ _ _ _ _ _ _ _ _ _ _ h
section
variable {β:Type} (z:LL->Option β) (x0:LI) (x1:L3) (x2 x3:LL) (x4:LI) (x5:Int) (x6 x7:LI)
def qat:Option β:=(ob (jq FU x1 (x1.length:Int) 0 x0 x1 x2 x3 x4 x5 x6 x7 []) fun r1=>(z r1))
def JR:=qat some x0 x1 x2 x3 x4 x5 x6 x7
abbrev qcy:List TA:=[.sc (.ptr 0 0),.sc (.fn 55 0 [none] [.ptr 3 0])]
abbrev qcV:List TO:=[bx2 x0 x1 x2 x3 x4 x5,rd0 x6,rd0 x7,.box 53 [.ptr 0 0]]
abbrev qd1:LL->List TA×List TO:=fun r=>([.sc (kd2 r)],[bx2 x0 x1 x2 x3 x4 x5,rd0 x6,rd0 x7,.box 53 [.ptr 0 0]])
theorem ev31_1:fE S91 31 qcy (qcV x0 x1 x2 x3 x4 x5 x6 x7)=(JR x0 x1 x2 x3 x4 x5 x6 x7).bind (sm (qd1 x0 x1 x2 x3 x4 x5 x6 x7)):=zE (fun z=>qat z x0 x1 x2 x3 x4 x5 x6 x7) (by kernel_rfl) fun K=>by unfold JR qat;with_reducible repeat' first|apply zc|exact nB|exact sB
end
def S92:=S91.fn 31 qcy (qcV [] [] [] [] [] 0 [] []) (fun x0 x1 x2 x3 x4 x5 x6 x7=>some (y1 (JR x0 x1 x2 x3 x4 x5 x6 x7) (qd1 x0 x1 x2 x3 x4 x5 x6 x7))) rfl fun _=>w1 fun h=>(ev31_1 ..).trans (bD h)
section
variable {β:Type} (z:Int->Option β) (x0 x1:Int) (x2:LI) (x3:L3) (x4 x5:LL) (x6:LI) (x7:Int) (x8 x9:LI) (x10:LL)
def tv57:Option β:=(ck x0 (x4.length:Int) (ck x1 (↑(List.length (List.getD x4 x0.toNat [])):Int) (cond (decide (x0 < (x10.length:Int))) (cond (decide (x1 < (↑(List.length (List.getD x10 x0.toNat [])):Int))) (z (wI (List.getD (List.getD x4 x0.toNat []) x1.toNat 0+List.getD (List.getD x10 x0.toNat []) x1.toNat 0))) none) none)))
def v57 (x0 x1:Int) (x2:LI) (x3:L3) (x4 x5:LL) (x6:LI) (x7:Int) (x8 x9:LI) (x10:LL):Option Int:=tv57 some x0 x1 x4 x10
def uv57:Option β:=(ck x0 (x4.length:Int) (ck x1 (↑(List.length (List.getD x4 x0.toNat [])):Int) (ck x0 (x10.length:Int) (ck x1 (↑(List.length (List.getD x10 x0.toNat [])):Int) (z (wI (List.getD (List.getD x4 x0.toNat []) x1.toNat 0+List.getD (List.getD x10 x0.toNat []) x1.toNat 0)))))))
abbrev aF57:List TA:=[.sc (I4 x0),.sc (I4 x1),.sc (.ptr 0 0),.sc (.ptr 4 0)]
abbrev hF57:List TO:=[.box 53 [.ptr 1 0],bx1 x2 x3 x4 x5 x6 x7,rd0 x8,rd0 x9,.box 31 [kd2 x10]]
abbrev rF57:Int->List TA×List TO:=fun r=>([.sc (I4 r)],[.box 53 [.ptr 1 0],bx1 x2 x3 x4 x5 x6 x7,rd0 x8,rd0 x9,.box 31 [kd2 x10]])
theorem ev57:fE S92 57 (aF57 x0 x1) (hF57 x2 x3 x4 x5 x6 x7 x8 x9 x10)=(v57 x0 x1 x2 x3 x4 x5 x6 x7 x8 x9 x10).bind (sm (rF57 x2 x3 x4 x5 x6 x7 x8 x9 x10)):=zE (fun z=>uv57 z x0 x1 x4 x10) (by kernel_rfl) fun K=>by unfold v57 tv57 uv57;with_reducible repeat' first|apply bT ‹_›|apply bF ‹_›|(apply Yi<;>intro _)|exact nB|exact sB
end
def S93:=S92.fn 57 (aF57 0 0) (hF57 [] [] [] [] [] 0 [] [] []) (fun x0 x1 x2 x3 x4 x5 x6 x7 x8 x9 x10=>some (y1 (v57 x0 x1 x2 x3 x4 x5 x6 x7 x8 x9 x10) (rF57 x2 x3 x4 x5 x6 x7 x8 x9 x10))) rfl fun _=>w1 fun h=>(ev57 ..).trans (bD h)
section
variable {β:Type} (y:Int->L3->Int->Int->Int->Int->LI->L3->LL->LL->LI->Int->LI->LI->LL->LI->LL->Option β) (z:LI->Option β) (x0:Int) (x1:L3) (x2 x3 x4 x5:Int) (x6:LI) (x7:L3) (x8 x9:LL) (x10:LI) (x11:Int) (x12 x13:LI) (x14:LL) (x15:LI) (x16:LL)
def gb:Option β:=(cond (decide (x5 < x4)) (ob (v57 x0 x5 x6 x7 x8 x9 x10 x11 x12 x13 x14) fun r1=>(ck x5 (x15.length:Int) (cond (decide (x5.toNat < List.length x15)) (y x0 x1 x2 x3 x4 (wI (x5+1)) x6 x7 x8 x9 x10 x11 x12 x13 x14 (List.set x15 x5.toNat r1) x16) none))) (z x15))
def qL:=itL (fun _ _ _ _ _ _ _ _ _ _ _ _ _ _ _ _ _=>none) fun f=>gb f some
theorem KJ (n:Nat):qL (n+1)=gb (qL n) some:=rfl
def Dr:LI->Ex×CS:=fun r=>((.exit 2),⟨[(1,.v (.sc (.fn 57 0 [none,none] [.ptr 3 0,.ptr 4 0]))),(5,vG 6),(8,vG 5),(14,vd2 x1),(15,vI x2),(16,vI x3)],[],[bx2 x6 x7 x8 x9 x10 x11,rd0 x12,rd0 x13,.box 53 [.ptr 0 0],.box 31 [kd2 x14],rd0 r,rd1 x16],5,false⟩)
abbrev Ko:CS:=⟨[(1,.v (.sc (.fn 57 0 [none,none] [.ptr 3 0,.ptr 4 0]))),(5,vG 6),(6,vI x0),(8,vG 5),(14,vd2 x1),(15,vI x2),(16,vI x3),(25,vI x4),(26,vI x5)],[],[bx2 x6 x7 x8 x9 x10 x11,rd0 x12,rd0 x13,.box 53 [.ptr 0 0],.box 31 [kd2 x14],rd0 x15,rd1 x16],5,false⟩
theorem qds {k m n:Nat} {r:LI} (h:qL n x0 x1 x2 x3 x4 x5 x6 x7 x8 x9 x10 x11 x12 x13 x14 x15 x16=some r):lE S93 31 2 k (n+m) (Ko x0 x1 x2 x3 x4 x5 x6 x7 x8 x9 x10 x11 x12 x13 x14 x15 x16)=some (Dr x1 x2 x3 x6 x7 x8 x9 x10 x11 x12 x13 x14 x16 r):=by
 induction n generalizing x5 x15 with
 |zero=>cases h
 |succ n ih=>
 exact lS (gb (fun x0 x1 x2 x3 x4 x5 x6 x7 x8 x9 x10 x11 x12 x13 x14 x15 x16=>lE S93 31 2 k (n+m) (Ko x0 x1 x2 x3 x4 x5 x6 x7 x8 x9 x10 x11 x12 x13 x14 x15 x16)) (sm (Dr x1 x2 x3 x6 x7 x8 x9 x10 x11 x12 x13 x14 x16)) x0 x1 x2 x3 x4 x5 x6 x7 x8 x9 x10 x11 x12 x13 x14 x15 x16) (by kernel_rfl) (by rw [KJ];unfold gb;with_reducible repeat' first|apply zd|exact ih _ _|exact nX|exact sX) h
end
def S94:=S93.lp 31 2 (Ko 0 [] 0 0 0 0 [] [] [] [] [] 0 [] [] [] [] []) (fun x0 x1 x2 x3 x4 x5 x6 x7 x8 x9 x10 x11 x12 x13 x14 x15 x16=>some (y1 (qL FU x0 x1 x2 x3 x4 x5 x6 x7 x8 x9 x10 x11 x12 x13 x14 x15 x16) (Dr x1 x2 x3 x6 x7 x8 x9 x10 x11 x12 x13 x14 x16))) (by kernel_rfl) fun _=>w1 fun h=>qds _ _ _ _ _ _ _ _ _ _ _ _ _ _ _ _ _ h
section
variable {β:Type} (y:L3->Int->Int->LI->L3->LL->LL->LI->Int->LI->LI->LL->LL->Option β) (z:LL->Option β) (x0:L3) (x1 x2:Int) (x3:LI) (x4:L3) (x5 x6:LL) (x7:LI) (x8:Int) (x9 x10:LI) (x11 x12:LL)
def gJ:Option β:=(cond (decide (x2 < x1)) (ck x2 (x0.length:Int) (cond (decide ((↑(List.length (List.getD x0 x2.toNat [])):Int)<=(↑(List.length (List.getD x0 x2.toNat [])):Int))) (cond (decide ((↑(List.length (List.getD x0 x2.toNat [])):Int)<=(↑(nat_lit 2147483648):Int))) (ob (qL FU x2 x0 x1 x2 (↑(List.length (List.replicate (↑(List.length (List.getD x0 x2.toNat [])):Int).toNat (0:Int))):Int) 0 x3 x4 x5 x6 x7 x8 x9 x10 x11 (List.replicate (↑(List.length (List.getD x0 x2.toNat [])):Int).toNat 0) x12) fun r1=>(cond (decide (List.length x12+List.length [val (qL FU x2 x0 x1 x2 (↑(List.length (List.replicate (↑(List.length (List.getD x0 x2.toNat [])):Int).toNat (0:Int))):Int) (0:Int) x3 x4 x5 x6 x7 x8 x9 x10 x11 (List.replicate (↑(List.length (List.getD x0 x2.toNat [])):Int).toNat (0:Int)) x12)]<=nat_lit 2147483648)) (y x0 x1 (wI (x2+1)) x3 x4 x5 x6 x7 x8 x9 x10 x11 (x12++[r1])) none)) none) none)) (z x12))
def jr:=itL (fun _ _ _ _ _ _ _ _ _ _ _ _ _=>none) fun f=>gJ f some
theorem SN (n:Nat):jr (n+1)=gJ (jr n) some:=rfl
def HC:LL->Ex×CS:=fun r=>((.exit 0),⟨[(5,vG 5)],[],[bx2 x3 x4 x5 x6 x7 x8,rd0 x9,rd0 x10,.box 53 [.ptr 0 0],.box 31 [kd2 x11],rd1 r],5,false⟩)
abbrev Se:CS:=⟨[(1,.v (.sc (.fn 57 0 [none,none] [.ptr 3 0,.ptr 4 0]))),(5,vG 5),(14,vd2 x0),(15,vI x1),(16,vI x2)],[],[bx2 x3 x4 x5 x6 x7 x8,rd0 x9,rd0 x10,.box 53 [.ptr 0 0],.box 31 [kd2 x11],rd1 x12],5,false⟩
theorem qeN {k m n:Nat} {r:LL} (h:jr n x0 x1 x2 x3 x4 x5 x6 x7 x8 x9 x10 x11 x12=some r):lE S94 31 0 k (n+m) (Se x0 x1 x2 x3 x4 x5 x6 x7 x8 x9 x10 x11 x12)=some (HC x3 x4 x5 x6 x7 x8 x9 x10 x11 r):=by
 induction n generalizing x2 x12 with
 |zero=>cases h
 |succ n ih=>
 exact lS (gJ (fun x0 x1 x2 x3 x4 x5 x6 x7 x8 x9 x10 x11 x12=>lE S94 31 0 k (n+m) (Se x0 x1 x2 x3 x4 x5 x6 x7 x8 x9 x10 x11 x12)) (sm (HC x3 x4 x5 x6 x7 x8 x9 x10 x11)) x0 x1 x2 x3 x4 x5 x6 x7 x8 x9 x10 x11 x12) (by kernel_rfl) (by rw [SN];unfold gJ;with_reducible repeat' first|apply zd|exact ih _ _|exact nX|exact sX) h
end
def S95:=S94.lp 31 0 (Se [] 0 0 [] [] [] [] [] 0 [] [] [] []) (fun x0 x1 x2 x3 x4 x5 x6 x7 x8 x9 x10 x11 x12=>some (y1 (jr FU x0 x1 x2 x3 x4 x5 x6 x7 x8 x9 x10 x11 x12) (HC x3 x4 x5 x6 x7 x8 x9 x10 x11))) (by kernel_rfl) fun _=>w1 fun h=>qeN _ _ _ _ _ _ _ _ _ _ _ _ _ h
section
variable {β:Type} (z:LL->Option β) (x0:LI) (x1:L3) (x2 x3:LL) (x4:LI) (x5:Int) (x6 x7:LI) (x8:LL)
def qau:Option β:=(ob (jr FU x1 (x1.length:Int) 0 x0 x1 x2 x3 x4 x5 x6 x7 x8 []) fun r1=>(z r1))
def JS:=qau some x0 x1 x2 x3 x4 x5 x6 x7 x8
abbrev qcz:List TA:=[.sc (.ptr 0 0),.sc (.fn 57 0 [none,none] [.ptr 3 0,.ptr 4 0])]
abbrev qcW:List TO:=[bx2 x0 x1 x2 x3 x4 x5,rd0 x6,rd0 x7,.box 53 [.ptr 0 0],.box 31 [kd2 x8]]
abbrev qd2:LL->List TA×List TO:=fun r=>([.sc (kd2 r)],[bx2 x0 x1 x2 x3 x4 x5,rd0 x6,rd0 x7,.box 53 [.ptr 0 0],.box 31 [kd2 x8]])
theorem ev31_2:fE S95 31 qcz (qcW x0 x1 x2 x3 x4 x5 x6 x7 x8)=(JS x0 x1 x2 x3 x4 x5 x6 x7 x8).bind (sm (qd2 x0 x1 x2 x3 x4 x5 x6 x7 x8)):=zE (fun z=>qau z x0 x1 x2 x3 x4 x5 x6 x7 x8) (by kernel_rfl) fun K=>by unfold JS qau;with_reducible repeat' first|apply zc|exact nB|exact sB
end
def S96:=S95.fn 31 qcz (qcW [] [] [] [] [] 0 [] [] []) (fun x0 x1 x2 x3 x4 x5 x6 x7 x8=>some (y1 (JS x0 x1 x2 x3 x4 x5 x6 x7 x8) (qd2 x0 x1 x2 x3 x4 x5 x6 x7 x8))) rfl fun _=>w1 fun h=>(ev31_2 ..).trans (bD h)
section
variable {β:Type} (y:Int->Int->LI->L3->LL->LL->LI->Int->LI->LI->LL->Option β) (z:LI->Option β) (x0 x1:Int) (x2:LI) (x3:L3) (x4 x5:LL) (x6:LI) (x7:Int) (x8 x9:LI) (x10:LL)
def G9:Option β:=(cond (decide (x1 < x0)) (ck x1 (x8.length:Int) (cond (decide (x1.toNat < List.length x8)) (cond (decide (x1 < (x9.length:Int))) (cond (decide (x1.toNat < List.length x9)) (y x0 (wI (x1+1)) x2 x3 x4 x5 x6 x7 x8 (List.set x9 x1.toNat (wI (List.getD x9 x1.toNat 0+List.getD x8 x1.toNat 0))) x10) none) none) none)) (z x9))
def qbT:Option β:=(cond (decide (x1 < x0)) (ck x1 (x8.length:Int) (cond (decide (x1.toNat < List.length x8)) (ck x1 (x9.length:Int) (cond (decide (x1.toNat < List.length x9)) (ck x1 (x9.length:Int) (cond (decide (x1.toNat < List.length x9)) (y x0 (wI (x1+1)) x2 x3 x4 x5 x6 x7 x8 (List.set x9 x1.toNat (wI (List.getD x9 x1.toNat 0+List.getD x8 x1.toNat 0))) x10) none)) none)) none)) (z x9))
def jg:=itL (fun _ _ _ _ _ _ _ _ _ _ _=>none) fun f=>G9 f some
theorem ST (n:Nat):jg (n+1)=G9 (jg n) some:=rfl
def HH:LI->Ex×CS:=fun r=>((.exit 0),⟨[(1,vP 4),(2,vP 3)],[],[bx2 x2 x3 x4 x5 x6 x7,rd0 x8,rd0 r,.box 31 [kd2 x10],.box 53 [.ptr 0 0]],3,false⟩)
abbrev Sj:CS:=⟨[(1,vP 4),(2,vP 3),(25,vG 1),(26,vI x0),(27,vI x1)],[],[bx2 x2 x3 x4 x5 x6 x7,rd0 x8,rd0 x9,.box 31 [kd2 x10],.box 53 [.ptr 0 0]],3,false⟩
theorem qeS {k m n:Nat} {r:LI} (h:jg n x0 x1 x2 x3 x4 x5 x6 x7 x8 x9 x10=some r):lE S96 34 0 k (n+m) (Sj x0 x1 x2 x3 x4 x5 x6 x7 x8 x9 x10)=some (HH x2 x3 x4 x5 x6 x7 x8 x10 r):=by
 induction n generalizing x1 x9 with
 |zero=>cases h
 |succ n ih=>
 exact lS (qbT (fun x0 x1 x2 x3 x4 x5 x6 x7 x8 x9 x10=>lE S96 34 0 k (n+m) (Sj x0 x1 x2 x3 x4 x5 x6 x7 x8 x9 x10)) (sm (HH x2 x3 x4 x5 x6 x7 x8 x10)) x0 x1 x2 x3 x4 x5 x6 x7 x8 x9 x10) (by kernel_rfl) (by rw [ST];unfold G9 qbT;with_reducible repeat' first|apply gT ‹_›|apply gF ‹_›|(apply zz<;>intro _)|exact ih _ _|exact nX|exact sX) h
end
def S97:=S96.lp 34 0 (Sj 0 0 [] [] [] [] [] 0 [] [] []) (fun x0 x1 x2 x3 x4 x5 x6 x7 x8 x9 x10=>some (y1 (jg FU x0 x1 x2 x3 x4 x5 x6 x7 x8 x9 x10) (HH x2 x3 x4 x5 x6 x7 x8 x10))) (by kernel_rfl) fun _=>w1 fun h=>qeS _ _ _ _ _ _ _ _ _ _ _ h
section
variable {β:Type} (y:LL->Int->Int->L3->Int->Int->LL->Int->Int->LI->Int->Int->LI->L3->LL->LL->LI->Int->LI->LI->LI->Option β) (z:LI->Option β) (x0:LL) (x1 x2:Int) (x3:L3) (x4 x5:Int) (x6:LL) (x7 x8:Int) (x9:LI) (x10 x11:Int) (x12:LI) (x13:L3) (x14 x15:LL) (x16:LI) (x17:Int) (x18 x19 x20:LI)
def Gy:Option β:=(cond (decide (x11 < x10)) (ck x11 (x9.length:Int) (ck (List.getD x9 x11.toNat 0) (x20.length:Int) (cond (decide ((List.getD x9 x11.toNat 0).toNat < List.length x20)) (ck x1 (x0.length:Int) (ck x2 (↑(List.length (List.getD x0 x1.toNat [])):Int) (y x0 x1 x2 x3 x4 x5 x6 x7 x8 x9 x10 (wI (x11+1)) x12 x13 x14 x15 x16 x17 x18 x19 (List.set x20 (List.getD x9 x11.toNat 0).toNat (wI (List.getD x20 (List.getD x9 x11.toNat 0).toNat 0+List.getD (List.getD x0 x1.toNat []) x2.toNat 0)))))) none))) (z x20))
def qbv:Option β:=(cond (decide (x11 < x10)) (ck x11 (x9.length:Int) (ck (List.getD x9 x11.toNat 0) (x20.length:Int) (cond (decide ((List.getD x9 x11.toNat 0).toNat < List.length x20)) (ck x1 (x0.length:Int) (ck x2 (↑(List.length (List.getD x0 x1.toNat [])):Int) (ck (List.getD x9 x11.toNat 0) (x20.length:Int) (cond (decide ((List.getD x9 x11.toNat 0).toNat < List.length x20)) (y x0 x1 x2 x3 x4 x5 x6 x7 x8 x9 x10 (wI (x11+1)) x12 x13 x14 x15 x16 x17 x18 x19 (List.set x20 (List.getD x9 x11.toNat 0).toNat (wI (List.getD x20 (List.getD x9 x11.toNat 0).toNat 0+List.getD (List.getD x0 x1.toNat []) x2.toNat 0)))) none)))) none))) (z x20))
def jb:=itL (fun _ _ _ _ _ _ _ _ _ _ _ _ _ _ _ _ _ _ _ _ _=>none) fun f=>Gy f some
theorem KS (n:Nat):jb (n+1)=Gy (jb n) some:=rfl
def DD:LI->Ex×CS:=fun r=>((.exit 4),⟨[(1,vd1 x0),(5,vG 3),(6,vI x1),(23,vd2 x3),(24,vI x4),(25,vI x5),(30,vd1 x6),(31,vI x7),(32,vI x8)],[],[bx2 x12 x13 x14 x15 x16 x17,rd0 x18,rd0 x19,rd0 r],3,false⟩)
abbrev Ky:CS:=⟨[(1,vd1 x0),(5,vG 3),(6,vI x1),(8,vI x2),(23,vd2 x3),(24,vI x4),(25,vI x5),(30,vd1 x6),(31,vI x7),(32,vI x8),(37,vd0 x9),(38,vI x10),(39,vI x11)],[],[bx2 x12 x13 x14 x15 x16 x17,rd0 x18,rd0 x19,rd0 x20],3,false⟩
theorem qdE {k m n:Nat} {r:LI} (h:jb n x0 x1 x2 x3 x4 x5 x6 x7 x8 x9 x10 x11 x12 x13 x14 x15 x16 x17 x18 x19 x20=some r):lE S97 60 4 k (n+m) (Ky x0 x1 x2 x3 x4 x5 x6 x7 x8 x9 x10 x11 x12 x13 x14 x15 x16 x17 x18 x19 x20)=some (DD x0 x1 x3 x4 x5 x6 x7 x8 x12 x13 x14 x15 x16 x17 x18 x19 r):=by
 induction n generalizing x11 x20 with
 |zero=>cases h
 |succ n ih=>
 exact lS (qbv (fun x0 x1 x2 x3 x4 x5 x6 x7 x8 x9 x10 x11 x12 x13 x14 x15 x16 x17 x18 x19 x20=>lE S97 60 4 k (n+m) (Ky x0 x1 x2 x3 x4 x5 x6 x7 x8 x9 x10 x11 x12 x13 x14 x15 x16 x17 x18 x19 x20)) (sm (DD x0 x1 x3 x4 x5 x6 x7 x8 x12 x13 x14 x15 x16 x17 x18 x19)) x0 x1 x2 x3 x4 x5 x6 x7 x8 x9 x10 x11 x12 x13 x14 x15 x16 x17 x18 x19 x20) (by kernel_rfl) (by rw [KS];unfold Gy qbv;with_reducible repeat' first|apply gT ‹_›|apply gF ‹_›|(apply zz<;>intro _)|exact ih _ _|exact nX|exact sX) h
end
def S98:=S97.lp 60 4 (Ky [] 0 0 [] 0 0 [] 0 0 [] 0 0 [] [] [] [] [] 0 [] [] []) (fun x0 x1 x2 x3 x4 x5 x6 x7 x8 x9 x10 x11 x12 x13 x14 x15 x16 x17 x18 x19 x20=>some (y1 (jb FU x0 x1 x2 x3 x4 x5 x6 x7 x8 x9 x10 x11 x12 x13 x14 x15 x16 x17 x18 x19 x20) (DD x0 x1 x3 x4 x5 x6 x7 x8 x12 x13 x14 x15 x16 x17 x18 x19))) (by kernel_rfl) fun _=>w1 fun h=>qdE _ _ _ _ _ _ _ _ _ _ _ _ _ _ _ _ _ _ _ _ _ h
section
variable {β:Type} (y:LL->Int->L3->Int->Int->LL->Int->Int->LI->L3->LL->LL->LI->Int->LI->LI->LI->Option β) (z:LI->Option β) (x0:LL) (x1:Int) (x2:L3) (x3 x4:Int) (x5:LL) (x6 x7:Int) (x8:LI) (x9:L3) (x10 x11:LL) (x12:LI) (x13:Int) (x14 x15 x16:LI)
def gg:Option β:=(cond (decide (x7 < x6)) (ck x7 (x5.length:Int) (ob (jb FU x0 x1 x7 x2 x3 x4 x5 x6 x7 (List.getD x5 x7.toNat []) (↑(List.length (List.getD x5 x7.toNat [])):Int) 0 x8 x9 x10 x11 x12 x13 x14 x15 x16) fun r1=>(y x0 x1 x2 x3 x4 x5 x6 (wI (x7+1)) x8 x9 x10 x11 x12 x13 x14 x15 r1))) (z x16))
def ja:=itL (fun _ _ _ _ _ _ _ _ _ _ _ _ _ _ _ _ _=>none) fun f=>gg f some
theorem KR (n:Nat):ja (n+1)=gg (ja n) some:=rfl
def DC:LI->Ex×CS:=fun r=>((.exit 2),⟨[(1,vd1 x0),(5,vG 3),(23,vd2 x2),(24,vI x3),(25,vI x4)],[],[bx2 x8 x9 x10 x11 x12 x13,rd0 x14,rd0 x15,rd0 r],3,false⟩)
abbrev Kx:CS:=⟨[(1,vd1 x0),(5,vG 3),(6,vI x1),(23,vd2 x2),(24,vI x3),(25,vI x4),(30,vd1 x5),(31,vI x6),(32,vI x7)],[],[bx2 x8 x9 x10 x11 x12 x13,rd0 x14,rd0 x15,rd0 x16],3,false⟩
theorem qdD {k m n:Nat} {r:LI} (h:ja n x0 x1 x2 x3 x4 x5 x6 x7 x8 x9 x10 x11 x12 x13 x14 x15 x16=some r):lE S98 60 2 k (n+m) (Kx x0 x1 x2 x3 x4 x5 x6 x7 x8 x9 x10 x11 x12 x13 x14 x15 x16)=some (DC x0 x2 x3 x4 x8 x9 x10 x11 x12 x13 x14 x15 r):=by
 induction n generalizing x7 x16 with
 |zero=>cases h
 |succ n ih=>
 exact lS (gg (fun x0 x1 x2 x3 x4 x5 x6 x7 x8 x9 x10 x11 x12 x13 x14 x15 x16=>lE S98 60 2 k (n+m) (Kx x0 x1 x2 x3 x4 x5 x6 x7 x8 x9 x10 x11 x12 x13 x14 x15 x16)) (sm (DC x0 x2 x3 x4 x8 x9 x10 x11 x12 x13 x14 x15)) x0 x1 x2 x3 x4 x5 x6 x7 x8 x9 x10 x11 x12 x13 x14 x15 x16) (by kernel_rfl) (by rw [KR];unfold gg;with_reducible repeat' first|apply zd|exact ih _ _|exact nX|exact sX) h
end
def S99:=S98.lp 60 2 (Kx [] 0 [] 0 0 [] 0 0 [] [] [] [] [] 0 [] [] []) (fun x0 x1 x2 x3 x4 x5 x6 x7 x8 x9 x10 x11 x12 x13 x14 x15 x16=>some (y1 (ja FU x0 x1 x2 x3 x4 x5 x6 x7 x8 x9 x10 x11 x12 x13 x14 x15 x16) (DC x0 x2 x3 x4 x8 x9 x10 x11 x12 x13 x14 x15))) (by kernel_rfl) fun _=>w1 fun h=>qdD _ _ _ _ _ _ _ _ _ _ _ _ _ _ _ _ _ h
section
variable {β:Type} (y:LL->L3->Int->Int->LI->L3->LL->LL->LI->Int->LI->LI->LI->Option β) (z:LI->Option β) (x0:LL) (x1:L3) (x2 x3:Int) (x4:LI) (x5:L3) (x6 x7:LL) (x8:LI) (x9:Int) (x10 x11 x12:LI)
def gP:Option β:=(cond (decide (x3 < x2)) (ck x3 (x1.length:Int) (ob (ja FU x0 x3 x1 x2 x3 (List.getD x1 x3.toNat []) (↑(List.length (List.getD x1 x3.toNat [])):Int) 0 x4 x5 x6 x7 x8 x9 x10 x11 x12) fun r1=>(y x0 x1 x2 (wI (x3+1)) x4 x5 x6 x7 x8 x9 x10 x11 r1))) (z x12))
def jx:=itL (fun _ _ _ _ _ _ _ _ _ _ _ _ _=>none) fun f=>gP f some
theorem SZ (n:Nat):jx (n+1)=gP (jx n) some:=rfl
def HN:LI->Ex×CS:=fun r=>((.exit 0),⟨[(5,vG 3)],[],[bx2 x4 x5 x6 x7 x8 x9,rd0 x10,rd0 x11,rd0 r],3,false⟩)
abbrev Sq:CS:=⟨[(1,vd1 x0),(5,vG 3),(23,vd2 x1),(24,vI x2),(25,vI x3)],[],[bx2 x4 x5 x6 x7 x8 x9,rd0 x10,rd0 x11,rd0 x12],3,false⟩
theorem qeY {k m n:Nat} {r:LI} (h:jx n x0 x1 x2 x3 x4 x5 x6 x7 x8 x9 x10 x11 x12=some r):lE S99 60 0 k (n+m) (Sq x0 x1 x2 x3 x4 x5 x6 x7 x8 x9 x10 x11 x12)=some (HN x4 x5 x6 x7 x8 x9 x10 x11 r):=by
 induction n generalizing x3 x12 with
 |zero=>cases h
 |succ n ih=>
 exact lS (gP (fun x0 x1 x2 x3 x4 x5 x6 x7 x8 x9 x10 x11 x12=>lE S99 60 0 k (n+m) (Sq x0 x1 x2 x3 x4 x5 x6 x7 x8 x9 x10 x11 x12)) (sm (HN x4 x5 x6 x7 x8 x9 x10 x11)) x0 x1 x2 x3 x4 x5 x6 x7 x8 x9 x10 x11 x12) (by kernel_rfl) (by rw [SZ];unfold gP;with_reducible repeat' first|apply zd|exact ih _ _|exact nX|exact sX) h
end
def S100:=S99.lp 60 0 (Sq [] [] 0 0 [] [] [] [] [] 0 [] [] []) (fun x0 x1 x2 x3 x4 x5 x6 x7 x8 x9 x10 x11 x12=>some (y1 (jx FU x0 x1 x2 x3 x4 x5 x6 x7 x8 x9 x10 x11 x12) (HN x4 x5 x6 x7 x8 x9 x10 x11))) (by kernel_rfl) fun _=>w1 fun h=>qeY _ _ _ _ _ _ _ _ _ _ _ _ _ h
section
variable {β:Type} (z:LI->Option β) (x0:LL) (x1:LI) (x2:L3) (x3 x4:LL) (x5:LI) (x6:Int) (x7 x8:LI)
def tv60:Option β:=(cond (decide ((x1.length:Int)<=(x1.length:Int))) (cond (decide ((x1.length:Int)<=(↑(nat_lit 2147483648):Int))) (ob (jx FU x0 x2 (x2.length:Int) 0 x1 x2 x3 x4 x5 x6 x7 x8 (List.replicate (x1.length:Int).toNat 0)) fun r1=>(z r1)) none) none)
def v60:=tv60 some x0 x1 x2 x3 x4 x5 x6 x7 x8
abbrev aF60:List TA:=[.sc (.ptr 0 0),.sc (kd2 x0)]
abbrev hF60:List TO:=[bx2 x1 x2 x3 x4 x5 x6,rd0 x7,rd0 x8]
abbrev rF60:LI->List TA×List TO:=fun r=>([.sc (kd0 r)],[bx2 x1 x2 x3 x4 x5 x6,rd0 x7,rd0 x8])
theorem ev60:fE S100 60 (aF60 x0) (hF60 x1 x2 x3 x4 x5 x6 x7 x8)=(v60 x0 x1 x2 x3 x4 x5 x6 x7 x8).bind (sm (rF60 x1 x2 x3 x4 x5 x6 x7 x8)):=zE (fun z=>tv60 z x0 x1 x2 x3 x4 x5 x6 x7 x8) (by kernel_rfl) fun K=>by unfold v60 tv60;with_reducible repeat' first|apply zc|exact nB|exact sB
end
def S101:=S100.fn 60 (aF60 []) (hF60 [] [] [] [] [] 0 [] []) (fun x0 x1 x2 x3 x4 x5 x6 x7 x8=>some (y1 (v60 x0 x1 x2 x3 x4 x5 x6 x7 x8) (rF60 x1 x2 x3 x4 x5 x6 x7 x8))) rfl fun _=>w1 fun h=>(ev60 ..).trans (bD h)
section
variable {β:Type} (y:LI->Int->LI->Int->Int->LI->L3->LL->LL->LI->Int->LI->LI->Option β) (z:Int->Option β) (x0:LI) (x1:Int) (x2:LI) (x3 x4:Int) (x5:LI) (x6:L3) (x7 x8:LL) (x9:LI) (x10:Int) (x11 x12:LI)
def Jd:Option β:=(cond (decide (x4 < x3)) (ck x4 (x2.length:Int) (cond (decide (List.getD x2 x4.toNat 0 > 0)) (cond (decide (x1 < 0)) (y x0 x4 x2 x3 (wI (x4+1)) x5 x6 x7 x8 x9 x10 x11 x12) (cond (decide (x4 < (x5.length:Int))) (ck x1 (x0.length:Int) (cond (decide (x1 < (x5.length:Int))) (cond (decide (wI (List.getD x5 x4.toNat 0*List.getD x0 x1.toNat 0) < wI (List.getD x5 x1.toNat 0*List.getD x2 x4.toNat 0))) (y x0 x4 x2 x3 (wI (x4+1)) x5 x6 x7 x8 x9 x10 x11 x12) (y x0 x1 x2 x3 (wI (x4+1)) x5 x6 x7 x8 x9 x10 x11 x12)) none)) none)) (y x0 x1 x2 x3 (wI (x4+1)) x5 x6 x7 x8 x9 x10 x11 x12))) (z x1))
def qbY:Option β:=(cond (decide (x4 < x3)) (ck x4 (x2.length:Int) (cond (decide (List.getD x2 x4.toNat 0 > 0)) (cond (decide (x1 < 0)) (y x0 x4 x2 x3 (wI (x4+1)) x5 x6 x7 x8 x9 x10 x11 x12) (ck x4 (x5.length:Int) (ck x1 (x0.length:Int) (ck x1 (x5.length:Int) (cond (decide (wI (List.getD x5 x4.toNat 0*List.getD x0 x1.toNat 0) < wI (List.getD x5 x1.toNat 0*List.getD x2 x4.toNat 0))) (y x0 x4 x2 x3 (wI (x4+1)) x5 x6 x7 x8 x9 x10 x11 x12) (y x0 x1 x2 x3 (wI (x4+1)) x5 x6 x7 x8 x9 x10 x11 x12)))))) (y x0 x1 x2 x3 (wI (x4+1)) x5 x6 x7 x8 x9 x10 x11 x12))) (z x1))
def jy:=itL (fun _ _ _ _ _ _ _ _ _ _ _ _ _=>none) fun f=>Jd f some
theorem Ha (n:Nat):jy (n+1)=Jd (jy n) some:=rfl
def HO:Int->Ex×CS:=fun r=>((.exit 0),⟨[(5,vI r)],[],[bx2 x5 x6 x7 x8 x9 x10,rd0 x11,rd0 x12],3,false⟩)
abbrev Sr:CS:=⟨[(0,vP 0),(1,vd0 x0),(5,vI x1),(8,vd0 x2),(9,vI x3),(10,vI x4)],[],[bx2 x5 x6 x7 x8 x9 x10,rd0 x11,rd0 x12],3,false⟩
theorem qeZ {k m n:Nat} {r:Int} (h:jy n x0 x1 x2 x3 x4 x5 x6 x7 x8 x9 x10 x11 x12=some r):lE S101 61 0 k (n+m) (Sr x0 x1 x2 x3 x4 x5 x6 x7 x8 x9 x10 x11 x12)=some (HO x5 x6 x7 x8 x9 x10 x11 x12 r):=by
 induction n generalizing x1 x4 with
 |zero=>cases h
 |succ n ih=>
 exact lS (qbY (fun x0 x1 x2 x3 x4 x5 x6 x7 x8 x9 x10 x11 x12=>lE S101 61 0 k (n+m) (Sr x0 x1 x2 x3 x4 x5 x6 x7 x8 x9 x10 x11 x12)) (sm (HO x5 x6 x7 x8 x9 x10 x11 x12)) x0 x1 x2 x3 x4 x5 x6 x7 x8 x9 x10 x11 x12) (by kernel_rfl) (by rw [Ha];unfold Jd qbY;with_reducible repeat' first|apply gT ‹_›|apply gF ‹_›|(apply zz<;>intro _)|exact ih _ _|exact nX|exact sX) h
end
def S102:=S101.lp 61 0 (Sr [] 0 [] 0 0 [] [] [] [] [] 0 [] []) (fun x0 x1 x2 x3 x4 x5 x6 x7 x8 x9 x10 x11 x12=>some (y1 (jy FU x0 x1 x2 x3 x4 x5 x6 x7 x8 x9 x10 x11 x12) (HO x5 x6 x7 x8 x9 x10 x11 x12))) (by kernel_rfl) fun _=>w1 fun h=>qeZ _ _ _ _ _ _ _ _ _ _ _ _ _ h
section
variable {β:Type} (z:Int->Option β) (x0 x1:LI) (x2:L3) (x3 x4:LL) (x5:LI) (x6:Int) (x7 x8:LI)
def tv61:Option β:=(ob (jy FU x0 (-1:Int) x0 (x0.length:Int) 0 x1 x2 x3 x4 x5 x6 x7 x8) fun r1=>(z r1))
def v61:=tv61 some x0 x1 x2 x3 x4 x5 x6 x7 x8
abbrev aF61:List TA:=[.sc (.ptr 0 0),.sc (kd0 x0)]
abbrev hF61:List TO:=[bx2 x1 x2 x3 x4 x5 x6,rd0 x7,rd0 x8]
abbrev rF61:Int->List TA×List TO:=fun r=>([.sc (I4 r)],[bx2 x1 x2 x3 x4 x5 x6,rd0 x7,rd0 x8])
theorem ev61:fE S102 61 (aF61 x0) (hF61 x1 x2 x3 x4 x5 x6 x7 x8)=(v61 x0 x1 x2 x3 x4 x5 x6 x7 x8).bind (sm (rF61 x1 x2 x3 x4 x5 x6 x7 x8)):=zE (fun z=>tv61 z x0 x1 x2 x3 x4 x5 x6 x7 x8) (by kernel_rfl) fun K=>by unfold v61 tv61;with_reducible repeat' first|apply zc|exact nB|exact sB
end
def S103:=S102.fn 61 (aF61 []) (hF61 [] [] [] [] [] 0 [] []) (fun x0 x1 x2 x3 x4 x5 x6 x7 x8=>some (y1 (v61 x0 x1 x2 x3 x4 x5 x6 x7 x8) (rF61 x1 x2 x3 x4 x5 x6 x7 x8))) rfl fun _=>w1 fun h=>(ev61 ..).trans (bD h)
abbrev bx3 (y0:LI) (y1:L3) (y2:LL) (y3:LL) (y4:LI) (y5:Int):TO:=.box 55 [kd0 y0,kd1 y1,.g 3,kd2 y2,.g 4,kd2 y3,kd0 y4,I4 y5]
section
variable {β:Type} (z:Int->Option β) (x0 x1:Int) (x2:LL) (x3:LI) (x4:L3) (x5 x6:LL) (x7:LI) (x8:Int) (x9 x10:LI) (x11:Int) (x12:LI)
def tv81:Option β:=(ck x0 (x2.length:Int) (ck x1 (↑(List.length (List.getD x2 x0.toNat [])):Int) (ck x11 (x3.length:Int) (cond (decide (x11 < (x12.length:Int))) (ob (v56 (List.getD (List.getD x2 x0.toNat []) x1.toNat 0) (wI ((1000000:Int)*List.getD x3 x11.toNat 0)) (List.getD x12 x11.toNat 0)) fun r1=>(z r1)) none))))
def v81 (x0 x1:Int) (x2:LL) (x3:LI) (x4:L3) (x5 x6:LL) (x7:LI) (x8:Int) (x9 x10:LI) (x11:Int) (x12:LI):Option Int:=tv81 some x0 x1 x2 x3 x11 x12
def uv81:Option β:=(ck x0 (x2.length:Int) (ck x1 (↑(List.length (List.getD x2 x0.toNat [])):Int) (ck x11 (x3.length:Int) (ck x11 (x12.length:Int) (ob (v56 (List.getD (List.getD x2 x0.toNat []) x1.toNat 0) (wI ((1000000:Int)*List.getD x3 x11.toNat 0)) (List.getD x12 x11.toNat 0)) fun r1=>(z r1))))))
abbrev aF81:List TA:=[.sc (I4 x0),.sc (I4 x1),.sc (.ptr 0 0),.sc (.ptr 1 0),.sc (.ptr 5 0),.sc (.ptr 6 0)]
abbrev hF81:List TO:=[.box 31 [kd2 x2],.box 53 [.ptr 2 0],bx3 x3 x4 x5 x6 x7 x8,rd0 x9,rd0 x10,.box 3 [I4 x11],.box 22 [kd0 x12]]
abbrev rF81:Int->List TA×List TO:=fun r=>([.sc (I4 r)],[.box 31 [kd2 x2],.box 53 [.ptr 2 0],bx3 x3 x4 x5 x6 x7 x8,rd0 x9,rd0 x10,.box 3 [I4 x11],.box 22 [kd0 x12]])
theorem ev81:fE S103 81 (aF81 x0 x1) (hF81 x2 x3 x4 x5 x6 x7 x8 x9 x10 x11 x12)=(v81 x0 x1 x2 x3 x4 x5 x6 x7 x8 x9 x10 x11 x12).bind (sm (rF81 x2 x3 x4 x5 x6 x7 x8 x9 x10 x11 x12)):=zE (fun z=>uv81 z x0 x1 x2 x3 x11 x12) (by kernel_rfl) fun K=>by unfold v81 tv81 uv81;with_reducible repeat' first|apply bT ‹_›|apply bF ‹_›|(apply Yi<;>intro _)|exact nB|exact sB
end
def S104:=S103.fn 81 (aF81 0 0) (hF81 [] [] [] [] [] [] 0 [] [] 0 []) (fun x0 x1 x2 x3 x4 x5 x6 x7 x8 x9 x10 x11 x12=>some (y1 (v81 x0 x1 x2 x3 x4 x5 x6 x7 x8 x9 x10 x11 x12) (rF81 x2 x3 x4 x5 x6 x7 x8 x9 x10 x11 x12))) rfl fun _=>w1 fun h=>(ev81 ..).trans (bD h)
section
variable {β:Type} (y:Int->L3->Int->Int->Int->Int->LI->L3->LL->LL->LI->Int->LI->LI->LL->Int->LI->LI->LL->Option β) (z:LI->Option β) (x0:Int) (x1:L3) (x2 x3 x4 x5:Int) (x6:LI) (x7:L3) (x8 x9:LL) (x10:LI) (x11:Int) (x12 x13:LI) (x14:LL) (x15:Int) (x16 x17:LI) (x18:LL)
def gd:Option β:=(cond (decide (x5 < x4)) (ob (v81 x0 x5 x14 x6 x7 x8 x9 x10 x11 x12 x13 x15 x16) fun r1=>(ck x5 (x17.length:Int) (cond (decide (x5.toNat < List.length x17)) (y x0 x1 x2 x3 x4 (wI (x5+1)) x6 x7 x8 x9 x10 x11 x12 x13 x14 x15 x16 (List.set x17 x5.toNat r1) x18) none))) (z x17))
def qM:=itL (fun _ _ _ _ _ _ _ _ _ _ _ _ _ _ _ _ _ _ _=>none) fun f=>gd f some
theorem KK (n:Nat):qM (n+1)=gd (qM n) some:=rfl
def Ds:LI->Ex×CS:=fun r=>((.exit 2),⟨[(1,.v (.sc (.fn 81 0 [none,none,none,none] [.ptr 3 0,.ptr 4 0,.ptr 5 0,.ptr 6 0]))),(5,vG 8),(8,vG 7),(14,vd2 x1),(15,vI x2),(16,vI x3)],[],[bx2 x6 x7 x8 x9 x10 x11,rd0 x12,rd0 x13,.box 31 [kd2 x14],.box 53 [.ptr 0 0],.box 3 [I4 x15],.box 22 [kd0 x16],rd0 r,rd1 x18],7,false⟩)
abbrev Kq:CS:=⟨[(1,.v (.sc (.fn 81 0 [none,none,none,none] [.ptr 3 0,.ptr 4 0,.ptr 5 0,.ptr 6 0]))),(5,vG 8),(6,vI x0),(8,vG 7),(14,vd2 x1),(15,vI x2),(16,vI x3),(25,vI x4),(26,vI x5)],[],[bx2 x6 x7 x8 x9 x10 x11,rd0 x12,rd0 x13,.box 31 [kd2 x14],.box 53 [.ptr 0 0],.box 3 [I4 x15],.box 22 [kd0 x16],rd0 x17,rd1 x18],7,false⟩
theorem qdt {k m n:Nat} {r:LI} (h:qM n x0 x1 x2 x3 x4 x5 x6 x7 x8 x9 x10 x11 x12 x13 x14 x15 x16 x17 x18=some r):lE S104 31 2 k (n+m) (Kq x0 x1 x2 x3 x4 x5 x6 x7 x8 x9 x10 x11 x12 x13 x14 x15 x16 x17 x18)=some (Ds x1 x2 x3 x6 x7 x8 x9 x10 x11 x12 x13 x14 x15 x16 x18 r):=by
 induction n generalizing x5 x17 with
 |zero=>cases h
 |succ n ih=>
 exact lS (gd (fun x0 x1 x2 x3 x4 x5 x6 x7 x8 x9 x10 x11 x12 x13 x14 x15 x16 x17 x18=>lE S104 31 2 k (n+m) (Kq x0 x1 x2 x3 x4 x5 x6 x7 x8 x9 x10 x11 x12 x13 x14 x15 x16 x17 x18)) (sm (Ds x1 x2 x3 x6 x7 x8 x9 x10 x11 x12 x13 x14 x15 x16 x18)) x0 x1 x2 x3 x4 x5 x6 x7 x8 x9 x10 x11 x12 x13 x14 x15 x16 x17 x18) (by kernel_rfl) (by rw [KK];unfold gd;with_reducible repeat' first|apply zd|exact ih _ _|exact nX|exact sX) h
end
def S105:=S104.lp 31 2 (Kq 0 [] 0 0 0 0 [] [] [] [] [] 0 [] [] [] 0 [] [] []) (fun x0 x1 x2 x3 x4 x5 x6 x7 x8 x9 x10 x11 x12 x13 x14 x15 x16 x17 x18=>some (y1 (qM FU x0 x1 x2 x3 x4 x5 x6 x7 x8 x9 x10 x11 x12 x13 x14 x15 x16 x17 x18) (Ds x1 x2 x3 x6 x7 x8 x9 x10 x11 x12 x13 x14 x15 x16 x18))) (by kernel_rfl) fun _=>w1 fun h=>qdt _ _ _ _ _ _ _ _ _ _ _ _ _ _ _ _ _ _ _ h
section
variable {β:Type} (y:L3->Int->Int->LI->L3->LL->LL->LI->Int->LI->LI->LL->Int->LI->LL->Option β) (z:LL->Option β) (x0:L3) (x1 x2:Int) (x3:LI) (x4:L3) (x5 x6:LL) (x7:LI) (x8:Int) (x9 x10:LI) (x11:LL) (x12:Int) (x13:LI) (x14:LL)
def gK:Option β:=(cond (decide (x2 < x1)) (ck x2 (x0.length:Int) (cond (decide ((↑(List.length (List.getD x0 x2.toNat [])):Int)<=(↑(List.length (List.getD x0 x2.toNat [])):Int))) (cond (decide ((↑(List.length (List.getD x0 x2.toNat [])):Int)<=(↑(nat_lit 2147483648):Int))) (ob (qM FU x2 x0 x1 x2 (↑(List.length (List.replicate (↑(List.length (List.getD x0 x2.toNat [])):Int).toNat (0:Int))):Int) 0 x3 x4 x5 x6 x7 x8 x9 x10 x11 x12 x13 (List.replicate (↑(List.length (List.getD x0 x2.toNat [])):Int).toNat 0) x14) fun r1=>(cond (decide (List.length x14+List.length [val (qM FU x2 x0 x1 x2 (↑(List.length (List.replicate (↑(List.length (List.getD x0 x2.toNat [])):Int).toNat (0:Int))):Int) (0:Int) x3 x4 x5 x6 x7 x8 x9 x10 x11 x12 x13 (List.replicate (↑(List.length (List.getD x0 x2.toNat [])):Int).toNat (0:Int)) x14)]<=nat_lit 2147483648)) (y x0 x1 (wI (x2+1)) x3 x4 x5 x6 x7 x8 x9 x10 x11 x12 x13 (x14++[r1])) none)) none) none)) (z x14))
def js:=itL (fun _ _ _ _ _ _ _ _ _ _ _ _ _ _ _=>none) fun f=>gK f some
theorem SO (n:Nat):js (n+1)=gK (js n) some:=rfl
def HD:LL->Ex×CS:=fun r=>((.exit 0),⟨[(5,vG 7)],[],[bx2 x3 x4 x5 x6 x7 x8,rd0 x9,rd0 x10,.box 31 [kd2 x11],.box 53 [.ptr 0 0],.box 3 [I4 x12],.box 22 [kd0 x13],rd1 r],7,false⟩)
abbrev Sf:CS:=⟨[(1,.v (.sc (.fn 81 0 [none,none,none,none] [.ptr 3 0,.ptr 4 0,.ptr 5 0,.ptr 6 0]))),(5,vG 7),(14,vd2 x0),(15,vI x1),(16,vI x2)],[],[bx2 x3 x4 x5 x6 x7 x8,rd0 x9,rd0 x10,.box 31 [kd2 x11],.box 53 [.ptr 0 0],.box 3 [I4 x12],.box 22 [kd0 x13],rd1 x14],7,false⟩
theorem qeO {k m n:Nat} {r:LL} (h:js n x0 x1 x2 x3 x4 x5 x6 x7 x8 x9 x10 x11 x12 x13 x14=some r):lE S105 31 0 k (n+m) (Sf x0 x1 x2 x3 x4 x5 x6 x7 x8 x9 x10 x11 x12 x13 x14)=some (HD x3 x4 x5 x6 x7 x8 x9 x10 x11 x12 x13 r):=by
 induction n generalizing x2 x14 with
 |zero=>cases h
 |succ n ih=>
 exact lS (gK (fun x0 x1 x2 x3 x4 x5 x6 x7 x8 x9 x10 x11 x12 x13 x14=>lE S105 31 0 k (n+m) (Sf x0 x1 x2 x3 x4 x5 x6 x7 x8 x9 x10 x11 x12 x13 x14)) (sm (HD x3 x4 x5 x6 x7 x8 x9 x10 x11 x12 x13)) x0 x1 x2 x3 x4 x5 x6 x7 x8 x9 x10 x11 x12 x13 x14) (by kernel_rfl) (by rw [SO];unfold gK;with_reducible repeat' first|apply zd|exact ih _ _|exact nX|exact sX) h
end
def S106:=S105.lp 31 0 (Sf [] 0 0 [] [] [] [] [] 0 [] [] [] 0 [] []) (fun x0 x1 x2 x3 x4 x5 x6 x7 x8 x9 x10 x11 x12 x13 x14=>some (y1 (js FU x0 x1 x2 x3 x4 x5 x6 x7 x8 x9 x10 x11 x12 x13 x14) (HD x3 x4 x5 x6 x7 x8 x9 x10 x11 x12 x13))) (by kernel_rfl) fun _=>w1 fun h=>qeO _ _ _ _ _ _ _ _ _ _ _ _ _ _ _ h
section
variable {β:Type} (z:LL->Option β) (x0:LI) (x1:L3) (x2 x3:LL) (x4:LI) (x5:Int) (x6 x7:LI) (x8:LL) (x9:Int) (x10:LI)
def qav:Option β:=(ob (js FU x1 (x1.length:Int) 0 x0 x1 x2 x3 x4 x5 x6 x7 x8 x9 x10 []) fun r1=>(z r1))
def GU:=qav some x0 x1 x2 x3 x4 x5 x6 x7 x8 x9 x10
abbrev qcA:List TA:=[.sc (.ptr 0 0),.sc (.fn 81 0 [none,none,none,none] [.ptr 3 0,.ptr 4 0,.ptr 5 0,.ptr 6 0])]
abbrev qcX:List TO:=[bx2 x0 x1 x2 x3 x4 x5,rd0 x6,rd0 x7,.box 31 [kd2 x8],.box 53 [.ptr 0 0],.box 3 [I4 x9],.box 22 [kd0 x10]]
abbrev qd3:LL->List TA×List TO:=fun r=>([.sc (kd2 r)],[bx2 x0 x1 x2 x3 x4 x5,rd0 x6,rd0 x7,.box 31 [kd2 x8],.box 53 [.ptr 0 0],.box 3 [I4 x9],.box 22 [kd0 x10]])
theorem ev31_3:fE S106 31 qcA (qcX x0 x1 x2 x3 x4 x5 x6 x7 x8 x9 x10)=(GU x0 x1 x2 x3 x4 x5 x6 x7 x8 x9 x10).bind (sm (qd3 x0 x1 x2 x3 x4 x5 x6 x7 x8 x9 x10)):=zE (fun z=>qav z x0 x1 x2 x3 x4 x5 x6 x7 x8 x9 x10) (by kernel_rfl) fun K=>by unfold GU qav;with_reducible repeat' first|apply zc|exact nB|exact sB
end
def S107:=S106.fn 31 qcA (qcX [] [] [] [] [] 0 [] [] [] 0 []) (fun x0 x1 x2 x3 x4 x5 x6 x7 x8 x9 x10=>some (y1 (GU x0 x1 x2 x3 x4 x5 x6 x7 x8 x9 x10) (qd3 x0 x1 x2 x3 x4 x5 x6 x7 x8 x9 x10))) rfl fun _=>w1 fun h=>(ev31_3 ..).trans (bD h)
section
variable {β:Type} (y:Int->LI->Int->Int->Option β) (z:Int->Option β) (x0:Int) (x1:LI) (x2 x3:Int)
def Ga:Option β:=(cond (decide (x3 < x2)) (ck x3 (x1.length:Int) (y (wI (x0+List.getD x1 x3.toNat 0)) x1 x2 (wI (x3+1)))) (z x0))
def jH:=itL (fun _ _ _ _=>none) fun f=>Ga f some
theorem Hm (n:Nat):jH (n+1)=Ga (jH n) some:=rfl
def H8:Int->Ex×CS:=fun r=>((.exit 0),⟨[(3,vI r)],[],[],0,false⟩)
abbrev SF:CS:=⟨[(3,vI x0),(6,vd0 x1),(7,vI x2),(8,vI x3)],[],[],0,false⟩
theorem qfd {k m n:Nat} {r:Int} (h:jH n x0 x1 x2 x3=some r):lE S107 82 0 k (n+m) (SF x0 x1 x2 x3)=some (H8 r):=by
 induction n generalizing x0 x3 with
 |zero=>cases h
 |succ n ih=>
 exact lS (Ga (fun x0 x1 x2 x3=>lE S107 82 0 k (n+m) (SF x0 x1 x2 x3)) (sm H8) x0 x1 x2 x3) (by kernel_rfl) (by rw [Hm];unfold Ga;with_reducible repeat' first|apply zd|exact ih _ _|exact nX|exact sX) h
end
def S108:=S107.lp 82 0 (SF 0 [] 0 0) (fun x0 x1 x2 x3=>some (y1 (jH FU x0 x1 x2 x3) H8)) (by kernel_rfl) fun _=>w1 fun h=>qfd _ _ _ _ h
section
variable {β:Type} (z:Int->Option β) (x0:LI)
def tv82:Option β:=(ob (jH FU 0 x0 (x0.length:Int) 0) fun r1=>(z r1))
def v82:=tv82 some x0
abbrev aF82:List TA:=[.sc (kd0 x0)]
abbrev rF82:Int->List TA×List TO:=fun r=>([.sc (I4 r)],[])
theorem ev82:fE S108 82 (aF82 x0) []=(v82 x0).bind (sm rF82):=zE (fun z=>tv82 z x0) (by kernel_rfl) fun K=>by unfold v82 tv82;with_reducible repeat' first|apply zc|exact nB|exact sB
end
def S109:=S108.fn 82 (aF82 []) [] (fun x0=>some (y1 (v82 x0) rF82)) rfl fun _=>w1 fun h=>(ev82 ..).trans (bD h)
section
variable {β:Type} (y:Int->Int->LL->Int->Int->Int->LL->Int->LI->L3->LL->LL->LI->Int->LI->LI->LI->LL->LI->Option β) (z:(Bool ⊕ (Int × Int))->Option β) (x0 x1:Int) (x2:LL) (x3 x4 x5:Int) (x6:LL) (x7:Int) (x8:LI) (x9:L3) (x10 x11:LL) (x12:LI) (x13:Int) (x14 x15 x16:LI) (x17:LL) (x18:LI)
def gR:Option β:=(cond (decide (x4 < x3)) (ck x4 (x2.length:Int) (ob (v82 (List.getD x2 x4.toNat [])) fun r1=>(cond (r1==0) (z (.inl (false))) (cond (decide (r1≠0)) (ob (v33 x4 x8 x9 x10 x11 x12 x13 x14 x15) fun r2=>(cond (decide (wI (x0*r2.2) < wI (wI (Int.tdiv (wI (wI ((1000000000000:Int)+r1) - (1:Int))) r1)*x1))) (y (wI (Int.tdiv (wI (wI ((1000000000000:Int)+r1) - (1:Int))) r1)) (r2.2) x2 x3 (wI (x4+1)) x5 x6 x7 x8 x9 x10 x11 x12 x13 x14 x15 x16 x17 x18) (y x0 x1 x2 x3 (wI (x4+1)) x5 x6 x7 x8 x9 x10 x11 x12 x13 x14 x15 x16 x17 x18))) none)))) (z (.inr (x0,x1))))
def qW:=itL (fun _ _ _ _ _ _ _ _ _ _ _ _ _ _ _ _ _ _ _=>none) fun f=>gR f some
theorem Hc (n:Nat):qW (n+1)=gR (qW n) some:=rfl
def HT:(Bool ⊕ (Int×Int))->Ex×CS:=Sum.elim (fun r=>(.ret,⟨[(6,.l 6 0),(7,vB r)],[(6,[kd2 x6,.g 3,I4 x7])],[bx2 x8 x9 x10 x11 x12 x13,rd0 x14,rd0 x15,rd0 x16],3,true⟩)) fun r=>((.exit 0),⟨[(2,vG 1),(3,vP 3),(6,.l 6 0),(10,.l 10 0),(11,vI r.1),(12,vI r.2)],[(6,[.g 5,.g 6,I4 x5]),(10,[kd2 x6,.g 4,I4 x7])],[bx2 x8 x9 x10 x11 x12 x13,rd0 x14,rd0 x15,.box 53 [.ptr 0 0],rd0 x16,rd1 x17,rd0 x18],3,false⟩)
abbrev Sv:CS:=⟨[(2,vG 1),(3,vP 3),(6,.l 6 0),(10,.l 10 0),(11,vI x0),(12,vI x1),(43,vd1 x2),(44,vI x3),(45,vI x4)],[(6,[.g 5,.g 6,I4 x5]),(10,[kd2 x6,.g 4,I4 x7])],[bx2 x8 x9 x10 x11 x12 x13,rd0 x14,rd0 x15,.box 53 [.ptr 0 0],rd0 x16,rd1 x17,rd0 x18],3,false⟩
theorem qe3 {k m n:Nat} {r:Bool ⊕ (Int×Int)} (h:qW n x0 x1 x2 x3 x4 x5 x6 x7 x8 x9 x10 x11 x12 x13 x14 x15 x16 x17 x18=some r):lE S109 75 0 k (n+m) (Sv x0 x1 x2 x3 x4 x5 x6 x7 x8 x9 x10 x11 x12 x13 x14 x15 x16 x17 x18)=some (HT x5 x6 x7 x8 x9 x10 x11 x12 x13 x14 x15 x16 x17 x18 r):=by
 induction n generalizing x0 x1 x4 with
 |zero=>cases h
 |succ n ih=>
 exact lS (gR (fun x0 x1 x2 x3 x4 x5 x6 x7 x8 x9 x10 x11 x12 x13 x14 x15 x16 x17 x18=>lE S109 75 0 k (n+m) (Sv x0 x1 x2 x3 x4 x5 x6 x7 x8 x9 x10 x11 x12 x13 x14 x15 x16 x17 x18)) (sm (HT x5 x6 x7 x8 x9 x10 x11 x12 x13 x14 x15 x16 x17 x18)) x0 x1 x2 x3 x4 x5 x6 x7 x8 x9 x10 x11 x12 x13 x14 x15 x16 x17 x18) (by kernel_rfl) (by rw [Hc];unfold gR;with_reducible repeat' first|apply zd|exact ih _ _ _|exact nX|exact sX) h
end
def S110:=S109.lp 75 0 (Sv 0 0 [] 0 0 0 [] 0 [] [] [] [] [] 0 [] [] [] [] []) (fun x0 x1 x2 x3 x4 x5 x6 x7 x8 x9 x10 x11 x12 x13 x14 x15 x16 x17 x18=>some (y2 (qW FU x0 x1 x2 x3 x4 x5 x6 x7 x8 x9 x10 x11 x12 x13 x14 x15 x16 x17 x18) (HT x5 x6 x7 x8 x9 x10 x11 x12 x13 x14 x15 x16 x17 x18))) (by kernel_rfl) fun _=>w2 fun h=>qe3 _ _ _ _ _ _ _ _ _ _ _ _ _ _ _ _ _ _ _ h
section
variable {β:Type} (z:Int->Option β) (x0 x1:Int)
def tv83:Option β:=(z ((1:Int)))
def v83 (x0 x1:Int):Option Int:=tv83 some
abbrev aF83:List TA:=[.sc (I4 x0),.sc (I4 x1)]
abbrev rF83:Int->List TA×List TO:=fun r=>([.sc (I4 r)],[])
theorem ev83:fE S110 83 (aF83 x0 x1) []=(v83 x0 x1).bind (sm rF83):=zE (fun z=>tv83 z) (by kernel_rfl) fun K=>by unfold v83 tv83;with_reducible repeat' first|apply zc|exact nB|exact sB
end
def S111:=S110.fn 83 (aF83 0 0) [] (fun x0 x1=>some (y1 (v83 x0 x1) rF83)) rfl fun _=>w1 fun h=>(ev83 ..).trans (bD h)
section
variable {β:Type} (y:Int->L3->Int->Int->Int->Int->LI->L3->LL->LL->LI->Int->LI->LI->LI->LL->Option β) (z:LI->Option β) (x0:Int) (x1:L3) (x2 x3 x4 x5:Int) (x6:LI) (x7:L3) (x8 x9:LL) (x10:LI) (x11:Int) (x12 x13 x14:LI) (x15:LL)
def ge:Option β:=(cond (decide (x5 < x4)) (ck x5 (x14.length:Int) (cond (decide (x5.toNat < List.length x14)) (y x0 x1 x2 x3 x4 (wI (x5+1)) x6 x7 x8 x9 x10 x11 x12 x13 (List.set x14 x5.toNat (val (v83 x0 x5))) x15) none)) (z x14))
def qN:=itL (fun _ _ _ _ _ _ _ _ _ _ _ _ _ _ _ _=>none) fun f=>ge f some
theorem KL (n:Nat):qN (n+1)=ge (qN n) some:=rfl
def Dt:LI->Ex×CS:=fun r=>((.exit 2),⟨[(1,.v (.sc (.fn 83 0 [] []))),(5,vG 4),(8,vG 3),(14,vd2 x1),(15,vI x2),(16,vI x3)],[],[bx2 x6 x7 x8 x9 x10 x11,rd0 x12,rd0 x13,rd0 r,rd1 x15],3,false⟩)
abbrev Kr:CS:=⟨[(1,.v (.sc (.fn 83 0 [] []))),(5,vG 4),(6,vI x0),(8,vG 3),(14,vd2 x1),(15,vI x2),(16,vI x3),(25,vI x4),(26,vI x5)],[],[bx2 x6 x7 x8 x9 x10 x11,rd0 x12,rd0 x13,rd0 x14,rd1 x15],3,false⟩
theorem qdu {k m n:Nat} {r:LI} (h:qN n x0 x1 x2 x3 x4 x5 x6 x7 x8 x9 x10 x11 x12 x13 x14 x15=some r):lE S111 31 2 k (n+m) (Kr x0 x1 x2 x3 x4 x5 x6 x7 x8 x9 x10 x11 x12 x13 x14 x15)=some (Dt x1 x2 x3 x6 x7 x8 x9 x10 x11 x12 x13 x15 r):=by
 induction n generalizing x5 x14 with
 |zero=>cases h
 |succ n ih=>
 exact lS (ge (fun x0 x1 x2 x3 x4 x5 x6 x7 x8 x9 x10 x11 x12 x13 x14 x15=>lE S111 31 2 k (n+m) (Kr x0 x1 x2 x3 x4 x5 x6 x7 x8 x9 x10 x11 x12 x13 x14 x15)) (sm (Dt x1 x2 x3 x6 x7 x8 x9 x10 x11 x12 x13 x15)) x0 x1 x2 x3 x4 x5 x6 x7 x8 x9 x10 x11 x12 x13 x14 x15) (by kernel_rfl) (by rw [KL];unfold ge;with_reducible repeat' first|apply zd|exact ih _ _|exact nX|exact sX) h
end
def S112:=S111.lp 31 2 (Kr 0 [] 0 0 0 0 [] [] [] [] [] 0 [] [] [] []) (fun x0 x1 x2 x3 x4 x5 x6 x7 x8 x9 x10 x11 x12 x13 x14 x15=>some (y1 (qN FU x0 x1 x2 x3 x4 x5 x6 x7 x8 x9 x10 x11 x12 x13 x14 x15) (Dt x1 x2 x3 x6 x7 x8 x9 x10 x11 x12 x13 x15))) (by kernel_rfl) fun _=>w1 fun h=>qdu _ _ _ _ _ _ _ _ _ _ _ _ _ _ _ _ h
section
variable {β:Type} (y:L3->Int->Int->LI->L3->LL->LL->LI->Int->LI->LI->LL->Option β) (z:LL->Option β) (x0:L3) (x1 x2:Int) (x3:LI) (x4:L3) (x5 x6:LL) (x7:LI) (x8:Int) (x9 x10:LI) (x11:LL)
def gL:Option β:=(cond (decide (x2 < x1)) (ck x2 (x0.length:Int) (cond (decide ((↑(List.length (List.getD x0 x2.toNat [])):Int)<=(↑(List.length (List.getD x0 x2.toNat [])):Int))) (cond (decide ((↑(List.length (List.getD x0 x2.toNat [])):Int)<=(↑(nat_lit 2147483648):Int))) (ob (qN FU x2 x0 x1 x2 (↑(List.length (List.replicate (↑(List.length (List.getD x0 x2.toNat [])):Int).toNat (0:Int))):Int) 0 x3 x4 x5 x6 x7 x8 x9 x10 (List.replicate (↑(List.length (List.getD x0 x2.toNat [])):Int).toNat 0) x11) fun r1=>(cond (decide (List.length x11+List.length [val (qN FU x2 x0 x1 x2 (↑(List.length (List.replicate (↑(List.length (List.getD x0 x2.toNat [])):Int).toNat (0:Int))):Int) (0:Int) x3 x4 x5 x6 x7 x8 x9 x10 (List.replicate (↑(List.length (List.getD x0 x2.toNat [])):Int).toNat (0:Int)) x11)]<=nat_lit 2147483648)) (y x0 x1 (wI (x2+1)) x3 x4 x5 x6 x7 x8 x9 x10 (x11++[r1])) none)) none) none)) (z x11))
def jt:=itL (fun _ _ _ _ _ _ _ _ _ _ _ _=>none) fun f=>gL f some
theorem SP (n:Nat):jt (n+1)=gL (jt n) some:=rfl
def HE:LL->Ex×CS:=fun r=>((.exit 0),⟨[(5,vG 3)],[],[bx2 x3 x4 x5 x6 x7 x8,rd0 x9,rd0 x10,rd1 r],3,false⟩)
abbrev Sg:CS:=⟨[(1,.v (.sc (.fn 83 0 [] []))),(5,vG 3),(14,vd2 x0),(15,vI x1),(16,vI x2)],[],[bx2 x3 x4 x5 x6 x7 x8,rd0 x9,rd0 x10,rd1 x11],3,false⟩
theorem qeP {k m n:Nat} {r:LL} (h:jt n x0 x1 x2 x3 x4 x5 x6 x7 x8 x9 x10 x11=some r):lE S112 31 0 k (n+m) (Sg x0 x1 x2 x3 x4 x5 x6 x7 x8 x9 x10 x11)=some (HE x3 x4 x5 x6 x7 x8 x9 x10 r):=by
 induction n generalizing x2 x11 with
 |zero=>cases h
 |succ n ih=>
 exact lS (gL (fun x0 x1 x2 x3 x4 x5 x6 x7 x8 x9 x10 x11=>lE S112 31 0 k (n+m) (Sg x0 x1 x2 x3 x4 x5 x6 x7 x8 x9 x10 x11)) (sm (HE x3 x4 x5 x6 x7 x8 x9 x10)) x0 x1 x2 x3 x4 x5 x6 x7 x8 x9 x10 x11) (by kernel_rfl) (by rw [SP];unfold gL;with_reducible repeat' first|apply zd|exact ih _ _|exact nX|exact sX) h
end
def S113:=S112.lp 31 0 (Sg [] 0 0 [] [] [] [] [] 0 [] [] []) (fun x0 x1 x2 x3 x4 x5 x6 x7 x8 x9 x10 x11=>some (y1 (jt FU x0 x1 x2 x3 x4 x5 x6 x7 x8 x9 x10 x11) (HE x3 x4 x5 x6 x7 x8 x9 x10))) (by kernel_rfl) fun _=>w1 fun h=>qeP _ _ _ _ _ _ _ _ _ _ _ _ h
section
variable {β:Type} (z:LL->Option β) (x0:LI) (x1:L3) (x2 x3:LL) (x4:LI) (x5:Int) (x6 x7:LI)
def qaw:Option β:=(ob (jt FU x1 (x1.length:Int) 0 x0 x1 x2 x3 x4 x5 x6 x7 []) fun r1=>(z r1))
def GV:=qaw some x0 x1 x2 x3 x4 x5 x6 x7
abbrev qcB:List TA:=[.sc (.ptr 0 0),.sc (.fn 83 0 [] [])]
abbrev qcY:List TO:=[bx2 x0 x1 x2 x3 x4 x5,rd0 x6,rd0 x7]
abbrev qd4:LL->List TA×List TO:=fun r=>([.sc (kd2 r)],[bx2 x0 x1 x2 x3 x4 x5,rd0 x6,rd0 x7])
theorem ev31_4:fE S113 31 qcB (qcY x0 x1 x2 x3 x4 x5 x6 x7)=(GV x0 x1 x2 x3 x4 x5 x6 x7).bind (sm (qd4 x0 x1 x2 x3 x4 x5 x6 x7)):=zE (fun z=>qaw z x0 x1 x2 x3 x4 x5 x6 x7) (by kernel_rfl) fun K=>by unfold GV qaw;with_reducible repeat' first|apply zc|exact nB|exact sB
end
def S114:=S113.fn 31 qcB (qcY [] [] [] [] [] 0 [] []) (fun x0 x1 x2 x3 x4 x5 x6 x7=>some (y1 (GV x0 x1 x2 x3 x4 x5 x6 x7) (qd4 x0 x1 x2 x3 x4 x5 x6 x7))) rfl fun _=>w1 fun h=>(ev31_4 ..).trans (bD h)
section
variable {β:Type} (y:Int->Int->LI->LI->Int->Int->Int->LL->Int->LI->L3->LL->LL->LI->Int->LI->LI->LI->LL->LI->Option β) (z:LI->Option β) (x0 x1:Int) (x2 x3:LI) (x4 x5 x6:Int) (x7:LL) (x8:Int) (x9:LI) (x10:L3) (x11 x12:LL) (x13:LI) (x14:Int) (x15 x16 x17:LI) (x18:LL) (x19:LI)
def GA:Option β:=(cond (decide (x5 < x4)) (ck x5 (x3.length:Int) (cond (List.getD x3 x5.toNat 0==0) (cond (decide (x5 < (x17.length:Int))) (cond (decide (x5.toNat < List.length x17)) (y x0 x1 x2 x3 x4 (wI (x5+1)) x6 x7 x8 x9 x10 x11 x12 x13 x14 x15 x16 (List.set x17 x5.toNat (1000000000000:Int)) x18 x19) none) none) (cond (decide (x5 < (x2.length:Int))) (cond (decide (List.getD x2 x5.toNat 0 > 0)) (cond (decide (x5 < (x15.length:Int))) (cond (decide (x5.toNat < List.length x15)) (cond (decide (x1≠0)) (cond (decide (x5 < (x17.length:Int))) (cond (decide (x5.toNat < List.length x17)) (y x0 x1 x2 x3 x4 (wI (x5+1)) x6 x7 x8 x9 x10 x11 x12 x13 x14 x15 x16 (List.set x17 x5.toNat (wI (Int.tdiv (wI (wI (wI (x0*List.getD x15 x5.toNat 0)+x1) - (1:Int))) x1))) x18 x19) none) none) none) none) none) (y x0 x1 x2 x3 x4 (wI (x5+1)) x6 x7 x8 x9 x10 x11 x12 x13 x14 x15 x16 x17 x18 x19)) none))) (z x17))
def qbw:Option β:=(cond (decide (x5 < x4)) (ck x5 (x3.length:Int) (cond (List.getD x3 x5.toNat 0==0) (ck x5 (x17.length:Int) (cond (decide (x5.toNat < List.length x17)) (y x0 x1 x2 x3 x4 (wI (x5+1)) x6 x7 x8 x9 x10 x11 x12 x13 x14 x15 x16 (List.set x17 x5.toNat (1000000000000:Int)) x18 x19) none)) (ck x5 (x2.length:Int) (cond (decide (List.getD x2 x5.toNat 0 > 0)) (ck x5 (x15.length:Int) (cond (decide (x5.toNat < List.length x15)) (cond (decide (x1≠0)) (ck x5 (x17.length:Int) (cond (decide (x5.toNat < List.length x17)) (y x0 x1 x2 x3 x4 (wI (x5+1)) x6 x7 x8 x9 x10 x11 x12 x13 x14 x15 x16 (List.set x17 x5.toNat (wI (Int.tdiv (wI (wI (wI (x0*List.getD x15 x5.toNat 0)+x1) - (1:Int))) x1))) x18 x19) none)) none) none)) (y x0 x1 x2 x3 x4 (wI (x5+1)) x6 x7 x8 x9 x10 x11 x12 x13 x14 x15 x16 x17 x18 x19))))) (z x17))
def jc:=itL (fun _ _ _ _ _ _ _ _ _ _ _ _ _ _ _ _ _ _ _ _=>none) fun f=>GA f some
theorem KT (n:Nat):jc (n+1)=GA (jc n) some:=rfl
def DG:LI->Ex×CS:=fun r=>((.exit 2),⟨[(3,vP 3),(6,.l 6 0),(10,.l 10 0)],[(6,[.g 5,.g 6,I4 x6]),(10,[kd2 x7,.g 4,I4 x8])],[bx2 x9 x10 x11 x12 x13 x14,rd0 x15,rd0 x16,.box 53 [.ptr 0 0],rd0 r,rd1 x18,rd0 x19],3,false⟩)
abbrev KA:CS:=⟨[(2,vG 1),(3,vP 3),(6,.l 6 0),(10,.l 10 0),(11,vI x0),(12,vI x1),(19,vd0 x2),(85,vd0 x3),(86,vI x4),(87,vI x5)],[(6,[.g 5,.g 6,I4 x6]),(10,[kd2 x7,.g 4,I4 x8])],[bx2 x9 x10 x11 x12 x13 x14,rd0 x15,rd0 x16,.box 53 [.ptr 0 0],rd0 x17,rd1 x18,rd0 x19],3,false⟩
theorem qdH {k m n:Nat} {r:LI} (h:jc n x0 x1 x2 x3 x4 x5 x6 x7 x8 x9 x10 x11 x12 x13 x14 x15 x16 x17 x18 x19=some r):lE S114 75 2 k (n+m) (KA x0 x1 x2 x3 x4 x5 x6 x7 x8 x9 x10 x11 x12 x13 x14 x15 x16 x17 x18 x19)=some (DG x6 x7 x8 x9 x10 x11 x12 x13 x14 x15 x16 x18 x19 r):=by
 induction n generalizing x5 x17 with
 |zero=>cases h
 |succ n ih=>
 exact lS (qbw (fun x0 x1 x2 x3 x4 x5 x6 x7 x8 x9 x10 x11 x12 x13 x14 x15 x16 x17 x18 x19=>lE S114 75 2 k (n+m) (KA x0 x1 x2 x3 x4 x5 x6 x7 x8 x9 x10 x11 x12 x13 x14 x15 x16 x17 x18 x19)) (sm (DG x6 x7 x8 x9 x10 x11 x12 x13 x14 x15 x16 x18 x19)) x0 x1 x2 x3 x4 x5 x6 x7 x8 x9 x10 x11 x12 x13 x14 x15 x16 x17 x18 x19) (by kernel_rfl) (by rw [KT];unfold GA qbw;with_reducible repeat' first|apply gT ‹_›|apply gF ‹_›|(apply zz<;>intro _)|exact ih _ _|exact nX|exact sX) h
end
def S115:=S114.lp 75 2 (KA 0 0 [] [] 0 0 0 [] 0 [] [] [] [] [] 0 [] [] [] [] []) (fun x0 x1 x2 x3 x4 x5 x6 x7 x8 x9 x10 x11 x12 x13 x14 x15 x16 x17 x18 x19=>some (y1 (jc FU x0 x1 x2 x3 x4 x5 x6 x7 x8 x9 x10 x11 x12 x13 x14 x15 x16 x17 x18 x19) (DG x6 x7 x8 x9 x10 x11 x12 x13 x14 x15 x16 x18 x19))) (by kernel_rfl) fun _=>w1 fun h=>qdH _ _ _ _ _ _ _ _ _ _ _ _ _ _ _ _ _ _ _ _ h
section
variable {β:Type} (z:(Bool × Int)->Option β) (x0:Int) (x1:LL) (x2:Int) (x3:LI) (x4:L3) (x5 x6:LL) (x7:LI) (x8:Int) (x9 x10 x11:LI) (x12:LL) (x13:LI)
def gn:Option β:=(ob (v26 x3 x4 x1 x11) fun r1=>(z (r1.2==0,r1.1)))
def jN (x0:Int) (x1:LL) (x2:Int) (x3:LI) (x4:L3) (x5 x6:LL) (x7:LI) (x8:Int) (x9 x10 x11:LI) (x12:LL) (x13:LI):Option (Bool×Int):=gn some x1 x3 x4 x11
def Kf:(Bool×Int)->Ex×CS:=fun r=>(.ret,⟨[(6,.l 6 0),(7,vB r.1)],[(6,[kd2 x1,.g 3,I4 r.2])],[bx2 x3 x4 x5 x6 x7 x8,rd0 x9,rd0 x10,rd0 x11],3,true⟩)
abbrev qan:CS:=⟨[(3,vP 3),(6,.l 6 0),(10,.l 10 0)],[(6,[.g 5,.g 6,I4 x0]),(10,[kd2 x1,.g 4,I4 x2])],[bx2 x3 x4 x5 x6 x7 x8,rd0 x9,rd0 x10,.box 53 [.ptr 0 0],rd0 x11,rd1 x12,rd0 x13],3,false⟩
theorem qcv {k:Nat} {r:Bool×Int}:jN x0 x1 x2 x3 x4 x5 x6 x7 x8 x9 x10 x11 x12 x13=some r->pE S115 75 212 0 k (qan x0 x1 x2 x3 x4 x5 x6 x7 x8 x9 x10 x11 x12 x13)=some (Kf x1 x3 x4 x5 x6 x7 x8 x9 x10 x11 r):=lP (gn (sm (Kf x1 x3 x4 x5 x6 x7 x8 x9 x10 x11)) x1 x3 x4 x11) (by kernel_rfl) (by unfold jN gn;with_reducible repeat' first|apply zd|exact nX|exact sX)
end
def S116:=S115.pc 75 212 0 (qan 0 [] 0 [] [] [] [] [] 0 [] [] [] [] []) (fun x0 x1 x2 x3 x4 x5 x6 x7 x8 x9 x10 x11 x12 x13=>some (y1 (jN x0 x1 x2 x3 x4 x5 x6 x7 x8 x9 x10 x11 x12 x13) (Kf x1 x3 x4 x5 x6 x7 x8 x9 x10 x11))) (by kernel_rfl) rfl fun _=>w1 fun h=>qcv _ _ _ _ _ _ _ _ _ _ _ _ _ _ h
section
variable {β:Type} (z:(Bool × Int × LI)->Option β) (x0 x1:Int) (x2:LI) (x3:Int) (x4:LL) (x5:Int) (x6:LI) (x7:L3) (x8 x9:LL) (x10:LI) (x11:Int) (x12 x13 x14:LI) (x15:LL) (x16:LI)
def GS:Option β:=(ob (jc FU x0 x1 x2 x6 (x6.length:Int) 0 x3 x4 x5 x6 x7 x8 x9 x10 x11 x12 x13 x14 x15 x16) fun r1=>(ob (jN x3 x4 x5 x6 x7 x8 x9 x10 x11 x12 x13 r1 x15 x16) fun r2=>(z (r2.1,r2.2,r1))))
def Gl:=GS some x0 x1 x2 x3 x4 x5 x6 x7 x8 x9 x10 x11 x12 x13 x14 x15 x16
def Kc:(Bool×Int×LI)->Ex×CS:=fun r=>(.ret,⟨[(6,.l 6 0),(7,vB r.1)],[(6,[kd2 x4,.g 3,I4 r.2.1])],[bx2 x6 x7 x8 x9 x10 x11,rd0 x12,rd0 x13,rd0 r.2.2],3,true⟩)
abbrev qal:CS:=⟨[(2,vG 1),(3,vP 3),(6,.l 6 0),(10,.l 10 0),(11,vI x0),(12,vI x1),(19,vd0 x2)],[(6,[.g 5,.g 6,I4 x3]),(10,[kd2 x4,.g 4,I4 x5])],[bx2 x6 x7 x8 x9 x10 x11,rd0 x12,rd0 x13,.box 53 [.ptr 0 0],rd0 x14,rd1 x15,rd0 x16],3,false⟩
theorem qct {k:Nat} {r:Bool×Int×LI}:Gl x0 x1 x2 x3 x4 x5 x6 x7 x8 x9 x10 x11 x12 x13 x14 x15 x16=some r->pE S116 75 148 0 k (qal x0 x1 x2 x3 x4 x5 x6 x7 x8 x9 x10 x11 x12 x13 x14 x15 x16)=some (Kc x4 x6 x7 x8 x9 x10 x11 x12 x13 r):=lP (GS (sm (Kc x4 x6 x7 x8 x9 x10 x11 x12 x13)) x0 x1 x2 x3 x4 x5 x6 x7 x8 x9 x10 x11 x12 x13 x14 x15 x16) (by kernel_rfl) (by unfold Gl GS;with_reducible repeat' first|apply zd|exact nX|exact sX)
end
def S117:=S116.pc 75 148 0 (qal 0 0 [] 0 [] 0 [] [] [] [] [] 0 [] [] [] [] []) (fun x0 x1 x2 x3 x4 x5 x6 x7 x8 x9 x10 x11 x12 x13 x14 x15 x16=>some (y1 (Gl x0 x1 x2 x3 x4 x5 x6 x7 x8 x9 x10 x11 x12 x13 x14 x15 x16) (Kc x4 x6 x7 x8 x9 x10 x11 x12 x13))) (by kernel_rfl) rfl fun _=>w1 fun h=>qct _ _ _ _ _ _ _ _ _ _ _ _ _ _ _ _ _ h
section
variable {β:Type} (z:(Bool × Int × LI)->Option β) (x0:Int) (x1:LL) (x2:Int) (x3:LI) (x4:L3) (x5 x6:LL) (x7:LI) (x8:Int) (x9 x10 x11:LI) (x12:LL) (x13:LI)
def Js:Option β:=(cond (isL (qW FU 0 (1:Int) x1 (x1.length:Int) 0 x0 x1 x2 x3 x4 x5 x6 x7 x8 x9 x10 x11 x12 x13)) (z (zx (qW FU 0 (1:Int) x1 (x1.length:Int) 0 x0 x1 x2 x3 x4 x5 x6 x7 x8 x9 x10 x11 x12 x13),x2,x11)) (ob (zB (qW FU 0 (1:Int) x1 (x1.length:Int) 0 x0 x1 x2 x3 x4 x5 x6 x7 x8 x9 x10 x11 x12 x13)) fun r1=>(ob (GV x3 x4 x5 x6 x7 x8 x9 x10) fun r2=>(ob (v60 r2 x3 x4 x5 x6 x7 x8 x9 x10) fun r3=>(ob (Gl r1.1 r1.2 r3 x0 x1 x2 x3 x4 x5 x6 x7 x8 x9 x10 x11 x12 x13) fun r4=>(z (r4.1,r4.2.1,r4.2.2)))))))
def G3:=Js some x0 x1 x2 x3 x4 x5 x6 x7 x8 x9 x10 x11 x12 x13
def DK:(Bool×Int×LI)->Ex×CS:=fun r=>(.ret,⟨[(6,.l 6 0),(7,vB r.1)],[(6,[kd2 x1,.g 3,I4 r.2.1])],[bx2 x3 x4 x5 x6 x7 x8,rd0 x9,rd0 x10,rd0 r.2.2],3,true⟩)
abbrev qbd:CS:=⟨[(2,vG 1),(3,vP 3),(6,.l 6 0),(10,.l 10 0),(41,.l 10 0)],[(6,[.g 5,.g 6,I4 x0]),(10,[kd2 x1,.g 4,I4 x2])],[bx2 x3 x4 x5 x6 x7 x8,rd0 x9,rd0 x10,.box 53 [.ptr 0 0],rd0 x11,rd1 x12,rd0 x13],3,false⟩
theorem qdL {k:Nat} {r:Bool×Int×LI}:G3 x0 x1 x2 x3 x4 x5 x6 x7 x8 x9 x10 x11 x12 x13=some r->pE S117 75 44 0 k (qbd x0 x1 x2 x3 x4 x5 x6 x7 x8 x9 x10 x11 x12 x13)=some (DK x1 x3 x4 x5 x6 x7 x8 x9 x10 r):=lP (Js (sm (DK x1 x3 x4 x5 x6 x7 x8 x9 x10)) x0 x1 x2 x3 x4 x5 x6 x7 x8 x9 x10 x11 x12 x13) (by kernel_rfl) (by unfold G3 Js;with_reducible repeat' first|apply zd|exact nX|exact sX)
end
def S118:=S117.pc 75 44 0 (qbd 0 [] 0 [] [] [] [] [] 0 [] [] [] [] []) (fun x0 x1 x2 x3 x4 x5 x6 x7 x8 x9 x10 x11 x12 x13=>some (y1 (G3 x0 x1 x2 x3 x4 x5 x6 x7 x8 x9 x10 x11 x12 x13) (DK x1 x3 x4 x5 x6 x7 x8 x9 x10))) (by kernel_rfl) rfl fun _=>w1 fun h=>qdL _ _ _ _ _ _ _ _ _ _ _ _ _ _ h
section
variable {β:Type} (z:(Bool × LL × Int × LI)->Option β) (x0 x1:Int) (x2:LI) (x3:L3) (x4 x5:LL) (x6:LI) (x7:Int) (x8 x9 x10:LI) (x11:LL) (x12:Int) (x13:LL) (x14:LI) (x15:LL) (x16:LI)
def Jq:Option β:=(ob (GU x2 x3 x4 x5 x6 x7 x8 x9 x11 x12 x10) fun r1=>(ob (G3 x0 r1 x1 x2 x3 x4 x5 x6 x7 x8 x9 x14 x15 x16) fun r2=>(z (r2.1,r1,r2.2.1,r2.2.2))))
def gz (x0 x1:Int) (x2:LI) (x3:L3) (x4 x5:LL) (x6:LI) (x7:Int) (x8 x9 x10:LI) (x11:LL) (x12:Int) (x13:LL) (x14:LI) (x15:LL) (x16:LI):Option (Bool×LL×Int×LI):=Jq some x0 x1 x2 x3 x4 x5 x6 x7 x8 x9 x10 x11 x12 x14 x15 x16
def DI:(Bool×LL×Int×LI)->Ex×CS:=fun r=>(.ret,⟨[(6,.l 6 0),(7,vB r.1)],[(6,[kd2 r.2.1,.g 3,I4 r.2.2.1])],[bx2 x2 x3 x4 x5 x6 x7,rd0 x8,rd0 x9,rd0 r.2.2.2],3,true⟩)
abbrev qbb:CS:=⟨[(2,vG 1),(3,vP 6),(4,vP 4),(6,.l 6 0),(8,vP 3),(9,vP 5),(10,.l 10 0)],[(6,[.g 9,.g 10,I4 x0]),(10,[.g 7,.g 8,I4 x1])],[bx2 x2 x3 x4 x5 x6 x7,rd0 x8,rd0 x9,.box 22 [kd0 x10],.box 31 [kd2 x11],.box 3 [I4 x12],.box 53 [.ptr 0 0],rd1 x13,rd0 x14,rd1 x15,rd0 x16],3,false⟩
theorem qdJ {k:Nat} {r:Bool×LL×Int×LI}:gz x0 x1 x2 x3 x4 x5 x6 x7 x8 x9 x10 x11 x12 x13 x14 x15 x16=some r->pE S118 75 36 0 k (qbb x0 x1 x2 x3 x4 x5 x6 x7 x8 x9 x10 x11 x12 x13 x14 x15 x16)=some (DI x2 x3 x4 x5 x6 x7 x8 x9 r):=lP (Jq (sm (DI x2 x3 x4 x5 x6 x7 x8 x9)) x0 x1 x2 x3 x4 x5 x6 x7 x8 x9 x10 x11 x12 x14 x15 x16) (by kernel_rfl) (by unfold gz Jq;with_reducible repeat' first|apply zd|exact nX|exact sX)
end
def S119:=S118.pc 75 36 0 (qbb 0 0 [] [] [] [] [] 0 [] [] [] [] 0 [] [] [] []) (fun x0 x1 x2 x3 x4 x5 x6 x7 x8 x9 x10 x11 x12 x13 x14 x15 x16=>some (y1 (gz x0 x1 x2 x3 x4 x5 x6 x7 x8 x9 x10 x11 x12 x13 x14 x15 x16) (DI x2 x3 x4 x5 x6 x7 x8 x9))) (by kernel_rfl) rfl fun _=>w1 fun h=>qdJ _ _ _ _ _ _ _ _ _ _ _ _ _ _ _ _ _ h
section
variable {β:Type} (z:(LL × LI × Int × Bool)->Option β) (x0:LL) (x1:LI) (x2:L3) (x3 x4:LL) (x5:LI) (x6:Int) (x7 x8:LI)
def tv75:Option β:=(ob (v60 x0 x1 x2 x3 x4 x5 x6 x7 x8) fun r1=>(ob (v61 r1 x1 x2 x3 x4 x5 x6 x7 x8) fun r2=>(cond (decide ((x1.length:Int)<=(x1.length:Int))) (cond (decide ((x1.length:Int)<=(↑(nat_lit 2147483648):Int))) (ob (gz 0 0 x1 x2 x3 x4 x5 x6 x7 x8 r1 x0 r2 [] (List.replicate (x1.length:Int).toNat 0) [] []) fun r3=>(z (r3.2.1,r3.2.2.2,r3.2.2.1,r3.1))) none) none)))
def v75:=tv75 some x0 x1 x2 x3 x4 x5 x6 x7 x8
abbrev aF75:List TA:=[.sc (.ptr 0 0),.sc (kd2 x0),.sc (.g 1)]
abbrev hF75:List TO:=[bx2 x1 x2 x3 x4 x5 x6,rd0 x7,rd0 x8]
abbrev rF75:(LL×LI×Int×Bool)->List TA×List TO:=fun r=>([.agg [kd2 r.1,kd0 r.2.1,I4 r.2.2.1],.sc (.bool r.2.2.2)],[bx2 x1 x2 x3 x4 x5 x6,rd0 x7,rd0 x8])
theorem ev75:fE S119 75 (aF75 x0) (hF75 x1 x2 x3 x4 x5 x6 x7 x8)=(v75 x0 x1 x2 x3 x4 x5 x6 x7 x8).bind (sm (rF75 x1 x2 x3 x4 x5 x6 x7 x8)):=zE (fun z=>tv75 z x0 x1 x2 x3 x4 x5 x6 x7 x8) (by kernel_rfl) fun K=>by unfold v75 tv75;with_reducible repeat' first|apply zc|exact nB|exact sB
end
def S120:=S119.fn 75 (aF75 []) (hF75 [] [] [] [] [] 0 [] []) (fun x0 x1 x2 x3 x4 x5 x6 x7 x8=>some (y1 (v75 x0 x1 x2 x3 x4 x5 x6 x7 x8) (rF75 x1 x2 x3 x4 x5 x6 x7 x8))) rfl fun _=>w1 fun h=>(ev75 ..).trans (bD h)
section
variable {β:Type} (z:(LL × LI × Int)->Option β) (x0:LL) (x1:LI) (x2:L3) (x3 x4:LL) (x5:LI) (x6:Int) (x7 x8:LI)
def tv58:Option β:=(ob (v75 x0 x1 x2 x3 x4 x5 x6 x7 x8) fun r1=>(cond (r1.2.2.2) (cond ((x4.length:Int)==0) (z (r1.1,r1.2.1,r1.2.2.1)) (cond (decide (r1.2.2.1 < x6)) (z (r1.1,r1.2.1,r1.2.2.1)) (z (x4,x5,x6)))) (z (x4,x5,x6))))
def v58:=tv58 some x0 x1 x2 x3 x4 x5 x6 x7 x8
abbrev aF58:List TA:=[.sc (.ptr 0 0),.sc (kd2 x0),.sc (.g 1)]
abbrev hF58:List TO:=[bx2 x1 x2 x3 x4 x5 x6,rd0 x7,rd0 x8]
abbrev rF58:(LL×LI×Int)->List TA×List TO:=fun r=>([],[bx2 x1 x2 x3 r.1 r.2.1 r.2.2,rd0 x7,rd0 x8])
theorem ev58:fE S120 58 (aF58 x0) (hF58 x1 x2 x3 x4 x5 x6 x7 x8)=(v58 x0 x1 x2 x3 x4 x5 x6 x7 x8).bind (sm (rF58 x1 x2 x3 x7 x8)):=zE (fun z=>tv58 z x0 x1 x2 x3 x4 x5 x6 x7 x8) (by kernel_rfl) fun K=>by unfold v58 tv58;with_reducible repeat' first|apply zc|exact nB|exact sB
end
def S121:=S120.fn 58 (aF58 []) (hF58 [] [] [] [] [] 0 [] []) (fun x0 x1 x2 x3 x4 x5 x6 x7 x8=>some (y1 (v58 x0 x1 x2 x3 x4 x5 x6 x7 x8) (rF58 x1 x2 x3 x7 x8))) rfl fun _=>w1 fun h=>(ev58 ..).trans (bD h)
section
variable {β:Type} (y:LI->Int->Int->Option β) (z:Int->Option β) (x0:LI) (x1 x2:Int)
def Jc:Option β:=(cond (decide (x2 < (x0.length:Int))) (cond (decide (0<=x2)) (y x0 (max x1 (List.getD x0 x2.toNat 0)) (wI (x2+1))) none) (z x1))
def qbX:Option β:=(cond (decide (x2 < (x0.length:Int))) (ck x2 (x0.length:Int) (y x0 (max x1 (List.getD x0 x2.toNat 0)) (wI (x2+1)))) (z x1))
def GW:=itL (fun _ _ _=>none) fun f=>Jc f some
theorem SY (n:Nat):GW (n+1)=Jc (GW n) some:=rfl
def HM:Int->Ex×CS:=fun r=>((.exit 0),⟨[(3,vI r)],[],[],0,false⟩)
abbrev Sp:CS:=⟨[(0,vd0 x0),(3,vI x1),(4,vI x2)],[],[],0,false⟩
theorem qeX {k m n:Nat} {r:Int} (h:GW n x0 x1 x2=some r):lE S121 59 0 k (n+m) (Sp x0 x1 x2)=some (HM r):=by
 induction n generalizing x1 x2 with
 |zero=>cases h
 |succ n ih=>
 exact lS (qbX (fun x0 x1 x2=>lE S121 59 0 k (n+m) (Sp x0 x1 x2)) (sm HM) x0 x1 x2) (by kernel_rfl) (by rw [SY];unfold Jc qbX;with_reducible repeat' first|apply gT ‹_›|apply gF ‹_›|(apply zz<;>intro _)|exact ih _ _|exact nX|exact sX) h
end
def S122:=S121.lp 59 0 (Sp [] 0 0) (fun x0 x1 x2=>some (y1 (GW FU x0 x1 x2) HM)) (by kernel_rfl) fun _=>w1 fun h=>qeX _ _ _ h
section
variable {β:Type} (z:Int->Option β) (x0:LI)
def tv59:Option β:=(cond (decide ((x0.length:Int) < (1:Int))) none (cond (decide (0 < (x0.length:Int))) (ob (GW FU x0 (List.getD x0 (Int.toNat 0) 0) (1:Int)) fun r1=>(z r1)) none))
def v59:=tv59 some x0
abbrev aF59:List TA:=[.sc (kd0 x0)]
abbrev rF59:Int->List TA×List TO:=fun r=>([.sc (I4 r)],[])
theorem ev59:fE S122 59 (aF59 x0) []=(v59 x0).bind (sm rF59):=zE (fun z=>tv59 z x0) (by kernel_rfl) fun K=>by unfold v59 tv59;with_reducible repeat' first|apply zc|exact nB|exact sB
end
def S123:=S122.fn 59 (aF59 []) [] (fun x0=>some (y1 (v59 x0) rF59)) rfl fun _=>w1 fun h=>(ev59 ..).trans (bD h)
section
variable {β:Type} (y:Int->Int->LI->L3->LL->LL->LI->Int->LI->LI->LL->LI->Option β) (z:LI->Option β) (x0 x1:Int) (x2:LI) (x3:L3) (x4 x5:LL) (x6:LI) (x7:Int) (x8 x9:LI) (x10:LL) (x11:LI)
def Gu:Option β:=(cond (decide (x1 < x0)) (ck x1 (x9.length:Int) (cond (decide (x1.toNat < List.length x9)) (ob (v59 x9) fun r1=>(cond (decide (max (1:Int) r1≠0)) (cond (decide (x1 < (x11.length:Int))) (cond (decide (x1.toNat < List.length x11)) (y x0 (wI (x1+1)) x2 x3 x4 x5 x6 x7 x8 x9 x10 (List.set x11 x1.toNat (max (16:Int) (wI (Int.tdiv (wI (List.getD x9 x1.toNat 0*1024)) (max (1:Int) r1)))))) none) none) none)) none)) (z x11))
def qbr:Option β:=(cond (decide (x1 < x0)) (ck x1 (x9.length:Int) (cond (decide (x1.toNat < List.length x9)) (ob (v59 x9) fun r1=>(cond (decide (max (1:Int) r1≠0)) (ck x1 (x11.length:Int) (cond (decide (x1.toNat < List.length x11)) (y x0 (wI (x1+1)) x2 x3 x4 x5 x6 x7 x8 x9 x10 (List.set x11 x1.toNat (max (16:Int) (wI (Int.tdiv (wI (List.getD x9 x1.toNat 0*1024)) (max (1:Int) r1)))))) none)) none)) none)) (z x11))
def q8:=itL (fun _ _ _ _ _ _ _ _ _ _ _ _=>none) fun f=>Gu f some
theorem KM (n:Nat):q8 (n+1)=Gu (q8 n) some:=rfl
def Du:LI->Ex×CS:=fun r=>((.exit 2),⟨[(1,vP 4),(2,vP 3),(5,vG 5)],[],[bx2 x2 x3 x4 x5 x6 x7,rd0 x8,rd0 x9,.box 31 [kd2 x10],.box 53 [.ptr 0 0],rd0 r],3,false⟩)
abbrev Ks:CS:=⟨[(1,vP 4),(2,vP 3),(5,vG 5),(59,vG 2),(60,vI x0),(61,vI x1)],[],[bx2 x2 x3 x4 x5 x6 x7,rd0 x8,rd0 x9,.box 31 [kd2 x10],.box 53 [.ptr 0 0],rd0 x11],3,false⟩
theorem qdv {k m n:Nat} {r:LI} (h:q8 n x0 x1 x2 x3 x4 x5 x6 x7 x8 x9 x10 x11=some r):lE S123 34 2 k (n+m) (Ks x0 x1 x2 x3 x4 x5 x6 x7 x8 x9 x10 x11)=some (Du x2 x3 x4 x5 x6 x7 x8 x9 x10 r):=by
 induction n generalizing x1 x11 with
 |zero=>cases h
 |succ n ih=>
 exact lS (qbr (fun x0 x1 x2 x3 x4 x5 x6 x7 x8 x9 x10 x11=>lE S123 34 2 k (n+m) (Ks x0 x1 x2 x3 x4 x5 x6 x7 x8 x9 x10 x11)) (sm (Du x2 x3 x4 x5 x6 x7 x8 x9 x10)) x0 x1 x2 x3 x4 x5 x6 x7 x8 x9 x10 x11) (by kernel_rfl) (by rw [KM];unfold Gu qbr;with_reducible repeat' first|apply gT ‹_›|apply gF ‹_›|(apply zz<;>intro _)|exact ih _ _|exact nX|exact sX) h
end
def S124:=S123.lp 34 2 (Ks 0 0 [] [] [] [] [] 0 [] [] [] []) (fun x0 x1 x2 x3 x4 x5 x6 x7 x8 x9 x10 x11=>some (y1 (q8 FU x0 x1 x2 x3 x4 x5 x6 x7 x8 x9 x10 x11) (Du x2 x3 x4 x5 x6 x7 x8 x9 x10))) (by kernel_rfl) fun _=>w1 fun h=>qdv _ _ _ _ _ _ _ _ _ _ _ _ h
section
variable {β:Type} (y:LI->Int->Int->LL->Int->Int->LI->L3->LL->LL->LI->Int->LI->LI->Option β) (z:(Int × Int)->Option β) (x0:LI) (x1 x2:Int) (x3:LL) (x4 x5:Int) (x6:LI) (x7:L3) (x8 x9:LL) (x10:LI) (x11:Int) (x12 x13:LI)
def gN:Option β:=(cond (decide (x5 < x4)) (ck x5 (x3.length:Int) (ob (v29 (List.getD x3 x5.toNat []) x0) fun r1=>(ob (v54 (List.getD x3 x5.toNat []) x6 x7 x8 x9 x10 x11 x12 x13) fun r2=>(cond r2 (cond (decide (x1 < 0)) (y x0 x5 r1 x3 x4 (wI (x5+1)) x6 x7 x8 x9 x10 x11 x12 x13) (cond (decide (r1 < x2)) (y x0 x5 r1 x3 x4 (wI (x5+1)) x6 x7 x8 x9 x10 x11 x12 x13) (y x0 x1 x2 x3 x4 (wI (x5+1)) x6 x7 x8 x9 x10 x11 x12 x13))) (y x0 x1 x2 x3 x4 (wI (x5+1)) x6 x7 x8 x9 x10 x11 x12 x13))))) (z (x1,x2)))
def jv:=itL (fun _ _ _ _ _ _ _ _ _ _ _ _ _ _=>none) fun f=>gN f some
theorem SS (n:Nat):jv (n+1)=gN (jv n) some:=rfl
def HG:(Int×Int)->Ex×CS:=fun r=>((.exit 0),⟨[(8,vI r.1),(9,vI r.2)],[],[bx2 x6 x7 x8 x9 x10 x11,rd0 x12,rd0 x13],3,false⟩)
abbrev Si:CS:=⟨[(0,vP 0),(2,vd0 x0),(8,vI x1),(9,vI x2),(20,vd1 x3),(21,vI x4),(22,vI x5)],[],[bx2 x6 x7 x8 x9 x10 x11,rd0 x12,rd0 x13],3,false⟩
theorem qeR {k m n:Nat} {r:Int×Int} (h:jv n x0 x1 x2 x3 x4 x5 x6 x7 x8 x9 x10 x11 x12 x13=some r):lE S124 33 0 k (n+m) (Si x0 x1 x2 x3 x4 x5 x6 x7 x8 x9 x10 x11 x12 x13)=some (HG x6 x7 x8 x9 x10 x11 x12 x13 r):=by
 induction n generalizing x1 x2 x5 with
 |zero=>cases h
 |succ n ih=>
 exact lS (gN (fun x0 x1 x2 x3 x4 x5 x6 x7 x8 x9 x10 x11 x12 x13=>lE S124 33 0 k (n+m) (Si x0 x1 x2 x3 x4 x5 x6 x7 x8 x9 x10 x11 x12 x13)) (sm (HG x6 x7 x8 x9 x10 x11 x12 x13)) x0 x1 x2 x3 x4 x5 x6 x7 x8 x9 x10 x11 x12 x13) (by kernel_rfl) (by rw [SS];unfold gN;with_reducible repeat' first|apply zd|exact ih _ _ _|exact nX|exact sX) h
end
def S125:=S124.lp 33 0 (Si [] 0 0 [] 0 0 [] [] [] [] [] 0 [] []) (fun x0 x1 x2 x3 x4 x5 x6 x7 x8 x9 x10 x11 x12 x13=>some (y1 (jv FU x0 x1 x2 x3 x4 x5 x6 x7 x8 x9 x10 x11 x12 x13) (HG x6 x7 x8 x9 x10 x11 x12 x13))) (by kernel_rfl) fun _=>w1 fun h=>qeR _ _ _ _ _ _ _ _ _ _ _ _ _ _ h
section
variable {β:Type} (z:(Int × Int)->Option β) (x0:Int) (x1 x2:LI) (x3:L3) (x4 x5:LL) (x6:LI) (x7:Int) (x8 x9:LI)
def qax:Option β:=(ck x0 (x3.length:Int) (ob (jv FU x1 (-1:Int) 0 (List.getD x3 x0.toNat []) (↑(List.length (List.getD x3 x0.toNat [])):Int) 0 x2 x3 x4 x5 x6 x7 x8 x9) fun r1=>(z (r1.1,r1.2))))
def DY:=qax some x0 x1 x2 x3 x4 x5 x6 x7 x8 x9
abbrev qcC:List TA:=[.sc (.ptr 0 0),.sc (I4 x0),.sc (kd0 x1)]
abbrev qcZ:List TO:=[bx2 x2 x3 x4 x5 x6 x7,rd0 x8,rd0 x9]
abbrev qd5:(Int×Int)->List TA×List TO:=fun r=>([.sc (I4 r.1),.sc (I4 r.2)],[bx2 x2 x3 x4 x5 x6 x7,rd0 x8,rd0 x9])
theorem ev33_1:fE S125 33 (qcC x0 x1) (qcZ x2 x3 x4 x5 x6 x7 x8 x9)=(DY x0 x1 x2 x3 x4 x5 x6 x7 x8 x9).bind (sm (qd5 x2 x3 x4 x5 x6 x7 x8 x9)):=zE (fun z=>qax z x0 x1 x2 x3 x4 x5 x6 x7 x8 x9) (by kernel_rfl) fun K=>by unfold DY qax;with_reducible repeat' first|apply zc|exact nB|exact sB
end
def S126:=S125.fn 33 (qcC 0 []) (qcZ [] [] [] [] [] 0 [] []) (fun x0 x1 x2 x3 x4 x5 x6 x7 x8 x9=>some (y1 (DY x0 x1 x2 x3 x4 x5 x6 x7 x8 x9) (qd5 x2 x3 x4 x5 x6 x7 x8 x9))) rfl fun _=>w1 fun h=>(ev33_1 ..).trans (bD h)
section
variable {β:Type} (y:LI->Int->Int->LL->Int->Int->Int->LL->Int->LI->L3->LL->LL->LI->Int->LI->LI->LI->LL->LI->Option β) (z:(Bool ⊕ (Int × Int))->Option β) (x0:LI) (x1 x2:Int) (x3:LL) (x4 x5 x6:Int) (x7:LL) (x8:Int) (x9:LI) (x10:L3) (x11 x12:LL) (x13:LI) (x14:Int) (x15 x16 x17:LI) (x18:LL) (x19:LI)
def gS:Option β:=(cond (decide (x5 < x4)) (ck x5 (x3.length:Int) (ob (v82 (List.getD x3 x5.toNat [])) fun r1=>(cond (r1==0) (z (.inl (false))) (cond (decide (r1≠0)) (ob (DY x5 x0 x9 x10 x11 x12 x13 x14 x15 x16) fun r2=>(cond (decide (wI (x1*r2.2) < wI (wI (Int.tdiv (wI (wI ((1000000000000:Int)+r1) - (1:Int))) r1)*x2))) (y x0 (wI (Int.tdiv (wI (wI ((1000000000000:Int)+r1) - (1:Int))) r1)) (r2.2) x3 x4 (wI (x5+1)) x6 x7 x8 x9 x10 x11 x12 x13 x14 x15 x16 x17 x18 x19) (y x0 x1 x2 x3 x4 (wI (x5+1)) x6 x7 x8 x9 x10 x11 x12 x13 x14 x15 x16 x17 x18 x19))) none)))) (z (.inr (x1,x2))))
def qX:=itL (fun _ _ _ _ _ _ _ _ _ _ _ _ _ _ _ _ _ _ _ _=>none) fun f=>gS f some
theorem Hd (n:Nat):qX (n+1)=gS (qX n) some:=rfl
def HU:(Bool ⊕ (Int×Int))->Ex×CS:=Sum.elim (fun r=>(.ret,⟨[(6,.l 6 0),(7,vB r)],[(6,[kd2 x7,.g 3,I4 x8])],[bx2 x9 x10 x11 x12 x13 x14,rd0 x15,rd0 x16,rd0 x17],3,true⟩)) fun r=>((.exit 0),⟨[(2,vd0 x0),(3,vP 3),(6,.l 6 0),(10,.l 10 0),(11,vI r.1),(12,vI r.2)],[(6,[.g 5,.g 6,I4 x6]),(10,[kd2 x7,.g 4,I4 x8])],[bx2 x9 x10 x11 x12 x13 x14,rd0 x15,rd0 x16,.box 53 [.ptr 0 0],rd0 x17,rd1 x18,rd0 x19],3,false⟩)
abbrev Sw:CS:=⟨[(2,vd0 x0),(3,vP 3),(6,.l 6 0),(10,.l 10 0),(11,vI x1),(12,vI x2),(43,vd1 x3),(44,vI x4),(45,vI x5)],[(6,[.g 5,.g 6,I4 x6]),(10,[kd2 x7,.g 4,I4 x8])],[bx2 x9 x10 x11 x12 x13 x14,rd0 x15,rd0 x16,.box 53 [.ptr 0 0],rd0 x17,rd1 x18,rd0 x19],3,false⟩
theorem qe4 {k m n:Nat} {r:Bool ⊕ (Int×Int)} (h:qX n x0 x1 x2 x3 x4 x5 x6 x7 x8 x9 x10 x11 x12 x13 x14 x15 x16 x17 x18 x19=some r):lE S126 75 0 k (n+m) (Sw x0 x1 x2 x3 x4 x5 x6 x7 x8 x9 x10 x11 x12 x13 x14 x15 x16 x17 x18 x19)=some (HU x0 x6 x7 x8 x9 x10 x11 x12 x13 x14 x15 x16 x17 x18 x19 r):=by
 induction n generalizing x1 x2 x5 with
 |zero=>cases h
 |succ n ih=>
 exact lS (gS (fun x0 x1 x2 x3 x4 x5 x6 x7 x8 x9 x10 x11 x12 x13 x14 x15 x16 x17 x18 x19=>lE S126 75 0 k (n+m) (Sw x0 x1 x2 x3 x4 x5 x6 x7 x8 x9 x10 x11 x12 x13 x14 x15 x16 x17 x18 x19)) (sm (HU x0 x6 x7 x8 x9 x10 x11 x12 x13 x14 x15 x16 x17 x18 x19)) x0 x1 x2 x3 x4 x5 x6 x7 x8 x9 x10 x11 x12 x13 x14 x15 x16 x17 x18 x19) (by kernel_rfl) (by rw [Hd];unfold gS;with_reducible repeat' first|apply zd|exact ih _ _ _|exact nX|exact sX) h
end
def S127:=S126.lp 75 0 (Sw [] 0 0 [] 0 0 0 [] 0 [] [] [] [] [] 0 [] [] [] [] []) (fun x0 x1 x2 x3 x4 x5 x6 x7 x8 x9 x10 x11 x12 x13 x14 x15 x16 x17 x18 x19=>some (y2 (qX FU x0 x1 x2 x3 x4 x5 x6 x7 x8 x9 x10 x11 x12 x13 x14 x15 x16 x17 x18 x19) (HU x0 x6 x7 x8 x9 x10 x11 x12 x13 x14 x15 x16 x17 x18 x19))) (by kernel_rfl) fun _=>w2 fun h=>qe4 _ _ _ _ _ _ _ _ _ _ _ _ _ _ _ _ _ _ _ _ h
section
variable {β:Type} (y:LI->Int->Int->LI->LI->Int->Int->Int->LL->Int->LI->L3->LL->LL->LI->Int->LI->LI->LI->LL->LI->Option β) (z:LI->Option β) (x0:LI) (x1 x2:Int) (x3 x4:LI) (x5 x6 x7:Int) (x8:LL) (x9:Int) (x10:LI) (x11:L3) (x12 x13:LL) (x14:LI) (x15:Int) (x16 x17 x18:LI) (x19:LL) (x20:LI)
def GB:Option β:=(cond (decide (x6 < x5)) (ck x6 (x4.length:Int) (cond (List.getD x4 x6.toNat 0==0) (cond (decide (x6 < (x18.length:Int))) (cond (decide (x6.toNat < List.length x18)) (y x0 x1 x2 x3 x4 x5 (wI (x6+1)) x7 x8 x9 x10 x11 x12 x13 x14 x15 x16 x17 (List.set x18 x6.toNat (1000000000000:Int)) x19 x20) none) none) (cond (decide (x6 < (x3.length:Int))) (cond (decide (List.getD x3 x6.toNat 0 > 0)) (cond (decide (x6 < (x0.length:Int))) (cond (decide (x2≠0)) (cond (decide (x6 < (x18.length:Int))) (cond (decide (x6.toNat < List.length x18)) (y x0 x1 x2 x3 x4 x5 (wI (x6+1)) x7 x8 x9 x10 x11 x12 x13 x14 x15 x16 x17 (List.set x18 x6.toNat (wI (Int.tdiv (wI (wI (wI (x1*List.getD x0 x6.toNat 0)+x2) - (1:Int))) x2))) x19 x20) none) none) none) none) (y x0 x1 x2 x3 x4 x5 (wI (x6+1)) x7 x8 x9 x10 x11 x12 x13 x14 x15 x16 x17 x18 x19 x20)) none))) (z x18))
def qbx:Option β:=(cond (decide (x6 < x5)) (ck x6 (x4.length:Int) (cond (List.getD x4 x6.toNat 0==0) (ck x6 (x18.length:Int) (cond (decide (x6.toNat < List.length x18)) (y x0 x1 x2 x3 x4 x5 (wI (x6+1)) x7 x8 x9 x10 x11 x12 x13 x14 x15 x16 x17 (List.set x18 x6.toNat (1000000000000:Int)) x19 x20) none)) (ck x6 (x3.length:Int) (cond (decide (List.getD x3 x6.toNat 0 > 0)) (ck x6 (x0.length:Int) (cond (decide (x2≠0)) (ck x6 (x18.length:Int) (cond (decide (x6.toNat < List.length x18)) (y x0 x1 x2 x3 x4 x5 (wI (x6+1)) x7 x8 x9 x10 x11 x12 x13 x14 x15 x16 x17 (List.set x18 x6.toNat (wI (Int.tdiv (wI (wI (wI (x1*List.getD x0 x6.toNat 0)+x2) - (1:Int))) x2))) x19 x20) none)) none)) (y x0 x1 x2 x3 x4 x5 (wI (x6+1)) x7 x8 x9 x10 x11 x12 x13 x14 x15 x16 x17 x18 x19 x20))))) (z x18))
def jd:=itL (fun _ _ _ _ _ _ _ _ _ _ _ _ _ _ _ _ _ _ _ _ _=>none) fun f=>GB f some
theorem KU (n:Nat):jd (n+1)=GB (jd n) some:=rfl
def DH:LI->Ex×CS:=fun r=>((.exit 2),⟨[(3,vP 3),(6,.l 6 0),(10,.l 10 0)],[(6,[.g 5,.g 6,I4 x7]),(10,[kd2 x8,.g 4,I4 x9])],[bx2 x10 x11 x12 x13 x14 x15,rd0 x16,rd0 x17,.box 53 [.ptr 0 0],rd0 r,rd1 x19,rd0 x20],3,false⟩)
abbrev KB:CS:=⟨[(2,vd0 x0),(3,vP 3),(6,.l 6 0),(10,.l 10 0),(11,vI x1),(12,vI x2),(19,vd0 x3),(85,vd0 x4),(86,vI x5),(87,vI x6)],[(6,[.g 5,.g 6,I4 x7]),(10,[kd2 x8,.g 4,I4 x9])],[bx2 x10 x11 x12 x13 x14 x15,rd0 x16,rd0 x17,.box 53 [.ptr 0 0],rd0 x18,rd1 x19,rd0 x20],3,false⟩
theorem qdI {k m n:Nat} {r:LI} (h:jd n x0 x1 x2 x3 x4 x5 x6 x7 x8 x9 x10 x11 x12 x13 x14 x15 x16 x17 x18 x19 x20=some r):lE S127 75 2 k (n+m) (KB x0 x1 x2 x3 x4 x5 x6 x7 x8 x9 x10 x11 x12 x13 x14 x15 x16 x17 x18 x19 x20)=some (DH x7 x8 x9 x10 x11 x12 x13 x14 x15 x16 x17 x19 x20 r):=by
 induction n generalizing x6 x18 with
 |zero=>cases h
 |succ n ih=>
 exact lS (qbx (fun x0 x1 x2 x3 x4 x5 x6 x7 x8 x9 x10 x11 x12 x13 x14 x15 x16 x17 x18 x19 x20=>lE S127 75 2 k (n+m) (KB x0 x1 x2 x3 x4 x5 x6 x7 x8 x9 x10 x11 x12 x13 x14 x15 x16 x17 x18 x19 x20)) (sm (DH x7 x8 x9 x10 x11 x12 x13 x14 x15 x16 x17 x19 x20)) x0 x1 x2 x3 x4 x5 x6 x7 x8 x9 x10 x11 x12 x13 x14 x15 x16 x17 x18 x19 x20) (by kernel_rfl) (by rw [KU];unfold GB qbx;with_reducible repeat' first|apply gT ‹_›|apply gF ‹_›|(apply zz<;>intro _)|exact ih _ _|exact nX|exact sX) h
end
def S128:=S127.lp 75 2 (KB [] 0 0 [] [] 0 0 0 [] 0 [] [] [] [] [] 0 [] [] [] [] []) (fun x0 x1 x2 x3 x4 x5 x6 x7 x8 x9 x10 x11 x12 x13 x14 x15 x16 x17 x18 x19 x20=>some (y1 (jd FU x0 x1 x2 x3 x4 x5 x6 x7 x8 x9 x10 x11 x12 x13 x14 x15 x16 x17 x18 x19 x20) (DH x7 x8 x9 x10 x11 x12 x13 x14 x15 x16 x17 x19 x20))) (by kernel_rfl) fun _=>w1 fun h=>qdI _ _ _ _ _ _ _ _ _ _ _ _ _ _ _ _ _ _ _ _ _ h
section
variable {β:Type} (z:(Bool × Int × LI)->Option β) (x0:LI) (x1 x2:Int) (x3:LI) (x4:Int) (x5:LL) (x6:Int) (x7:LI) (x8:L3) (x9 x10:LL) (x11:LI) (x12:Int) (x13 x14 x15:LI) (x16:LL) (x17:LI)
def GT:Option β:=(ob (jd FU x0 x1 x2 x3 x7 (x7.length:Int) 0 x4 x5 x6 x7 x8 x9 x10 x11 x12 x13 x14 x15 x16 x17) fun r1=>(ob (jN x4 x5 x6 x7 x8 x9 x10 x11 x12 x13 x14 r1 x16 x17) fun r2=>(z (r2.1,r2.2,r1))))
def Gm:=GT some x0 x1 x2 x3 x4 x5 x6 x7 x8 x9 x10 x11 x12 x13 x14 x15 x16 x17
def Ke:(Bool×Int×LI)->Ex×CS:=fun r=>(.ret,⟨[(6,.l 6 0),(7,vB r.1)],[(6,[kd2 x5,.g 3,I4 r.2.1])],[bx2 x7 x8 x9 x10 x11 x12,rd0 x13,rd0 x14,rd0 r.2.2],3,true⟩)
abbrev qam:CS:=⟨[(2,vd0 x0),(3,vP 3),(6,.l 6 0),(10,.l 10 0),(11,vI x1),(12,vI x2),(19,vd0 x3)],[(6,[.g 5,.g 6,I4 x4]),(10,[kd2 x5,.g 4,I4 x6])],[bx2 x7 x8 x9 x10 x11 x12,rd0 x13,rd0 x14,.box 53 [.ptr 0 0],rd0 x15,rd1 x16,rd0 x17],3,false⟩
theorem qcu {k:Nat} {r:Bool×Int×LI}:Gm x0 x1 x2 x3 x4 x5 x6 x7 x8 x9 x10 x11 x12 x13 x14 x15 x16 x17=some r->pE S128 75 148 0 k (qam x0 x1 x2 x3 x4 x5 x6 x7 x8 x9 x10 x11 x12 x13 x14 x15 x16 x17)=some (Ke x5 x7 x8 x9 x10 x11 x12 x13 x14 r):=lP (GT (sm (Ke x5 x7 x8 x9 x10 x11 x12 x13 x14)) x0 x1 x2 x3 x4 x5 x6 x7 x8 x9 x10 x11 x12 x13 x14 x15 x16 x17) (by kernel_rfl) (by unfold Gm GT;with_reducible repeat' first|apply zd|exact nX|exact sX)
end
def S129:=S128.pc 75 148 0 (qam [] 0 0 [] 0 [] 0 [] [] [] [] [] 0 [] [] [] [] []) (fun x0 x1 x2 x3 x4 x5 x6 x7 x8 x9 x10 x11 x12 x13 x14 x15 x16 x17=>some (y1 (Gm x0 x1 x2 x3 x4 x5 x6 x7 x8 x9 x10 x11 x12 x13 x14 x15 x16 x17) (Ke x5 x7 x8 x9 x10 x11 x12 x13 x14))) (by kernel_rfl) rfl fun _=>w1 fun h=>qcu _ _ _ _ _ _ _ _ _ _ _ _ _ _ _ _ _ _ h
section
variable {β:Type} (z:(Bool × Int × LI)->Option β) (x0:LI) (x1:Int) (x2:LL) (x3:Int) (x4:LI) (x5:L3) (x6 x7:LL) (x8:LI) (x9:Int) (x10 x11 x12:LI) (x13:LL) (x14:LI)
def Jt:Option β:=(cond (isL (qX FU x0 0 (1:Int) x2 (x2.length:Int) 0 x1 x2 x3 x4 x5 x6 x7 x8 x9 x10 x11 x12 x13 x14)) (z (zx (qX FU x0 0 (1:Int) x2 (x2.length:Int) 0 x1 x2 x3 x4 x5 x6 x7 x8 x9 x10 x11 x12 x13 x14),x3,x12)) (ob (zB (qX FU x0 0 (1:Int) x2 (x2.length:Int) 0 x1 x2 x3 x4 x5 x6 x7 x8 x9 x10 x11 x12 x13 x14)) fun r1=>(ob (GV x4 x5 x6 x7 x8 x9 x10 x11) fun r2=>(ob (v60 r2 x4 x5 x6 x7 x8 x9 x10 x11) fun r3=>(ob (Gm x0 r1.1 r1.2 r3 x1 x2 x3 x4 x5 x6 x7 x8 x9 x10 x11 x12 x13 x14) fun r4=>(z (r4.1,r4.2.1,r4.2.2)))))))
def G4:=Jt some x0 x1 x2 x3 x4 x5 x6 x7 x8 x9 x10 x11 x12 x13 x14
def DL:(Bool×Int×LI)->Ex×CS:=fun r=>(.ret,⟨[(6,.l 6 0),(7,vB r.1)],[(6,[kd2 x2,.g 3,I4 r.2.1])],[bx2 x4 x5 x6 x7 x8 x9,rd0 x10,rd0 x11,rd0 r.2.2],3,true⟩)
abbrev qbe:CS:=⟨[(2,vd0 x0),(3,vP 3),(6,.l 6 0),(10,.l 10 0),(41,.l 10 0)],[(6,[.g 5,.g 6,I4 x1]),(10,[kd2 x2,.g 4,I4 x3])],[bx2 x4 x5 x6 x7 x8 x9,rd0 x10,rd0 x11,.box 53 [.ptr 0 0],rd0 x12,rd1 x13,rd0 x14],3,false⟩
theorem qdM {k:Nat} {r:Bool×Int×LI}:G4 x0 x1 x2 x3 x4 x5 x6 x7 x8 x9 x10 x11 x12 x13 x14=some r->pE S129 75 44 0 k (qbe x0 x1 x2 x3 x4 x5 x6 x7 x8 x9 x10 x11 x12 x13 x14)=some (DL x2 x4 x5 x6 x7 x8 x9 x10 x11 r):=lP (Jt (sm (DL x2 x4 x5 x6 x7 x8 x9 x10 x11)) x0 x1 x2 x3 x4 x5 x6 x7 x8 x9 x10 x11 x12 x13 x14) (by kernel_rfl) (by unfold G4 Jt;with_reducible repeat' first|apply zd|exact nX|exact sX)
end
def S130:=S129.pc 75 44 0 (qbe [] 0 [] 0 [] [] [] [] [] 0 [] [] [] [] []) (fun x0 x1 x2 x3 x4 x5 x6 x7 x8 x9 x10 x11 x12 x13 x14=>some (y1 (G4 x0 x1 x2 x3 x4 x5 x6 x7 x8 x9 x10 x11 x12 x13 x14) (DL x2 x4 x5 x6 x7 x8 x9 x10 x11))) (by kernel_rfl) rfl fun _=>w1 fun h=>qdM _ _ _ _ _ _ _ _ _ _ _ _ _ _ _ h
section
variable {β:Type} (z:(Bool × LL × Int × LI)->Option β) (x0:LI) (x1 x2:Int) (x3:LI) (x4:L3) (x5 x6:LL) (x7:LI) (x8:Int) (x9 x10 x11:LI) (x12:LL) (x13:Int) (x14:LL) (x15:LI) (x16:LL) (x17:LI)
def Jr:Option β:=(ob (GU x3 x4 x5 x6 x7 x8 x9 x10 x12 x13 x11) fun r1=>(ob (G4 x0 x1 r1 x2 x3 x4 x5 x6 x7 x8 x9 x10 x15 x16 x17) fun r2=>(z (r2.1,r1,r2.2.1,r2.2.2))))
def gC (x0:LI) (x1 x2:Int) (x3:LI) (x4:L3) (x5 x6:LL) (x7:LI) (x8:Int) (x9 x10 x11:LI) (x12:LL) (x13:Int) (x14:LL) (x15:LI) (x16:LL) (x17:LI):Option (Bool×LL×Int×LI):=Jr some x0 x1 x2 x3 x4 x5 x6 x7 x8 x9 x10 x11 x12 x13 x15 x16 x17
def DJ:(Bool×LL×Int×LI)->Ex×CS:=fun r=>(.ret,⟨[(6,.l 6 0),(7,vB r.1)],[(6,[kd2 r.2.1,.g 3,I4 r.2.2.1])],[bx2 x3 x4 x5 x6 x7 x8,rd0 x9,rd0 x10,rd0 r.2.2.2],3,true⟩)
abbrev qbc:CS:=⟨[(2,vd0 x0),(3,vP 6),(4,vP 4),(6,.l 6 0),(8,vP 3),(9,vP 5),(10,.l 10 0)],[(6,[.g 9,.g 10,I4 x1]),(10,[.g 7,.g 8,I4 x2])],[bx2 x3 x4 x5 x6 x7 x8,rd0 x9,rd0 x10,.box 22 [kd0 x11],.box 31 [kd2 x12],.box 3 [I4 x13],.box 53 [.ptr 0 0],rd1 x14,rd0 x15,rd1 x16,rd0 x17],3,false⟩
theorem qdK {k:Nat} {r:Bool×LL×Int×LI}:gC x0 x1 x2 x3 x4 x5 x6 x7 x8 x9 x10 x11 x12 x13 x14 x15 x16 x17=some r->pE S130 75 36 0 k (qbc x0 x1 x2 x3 x4 x5 x6 x7 x8 x9 x10 x11 x12 x13 x14 x15 x16 x17)=some (DJ x3 x4 x5 x6 x7 x8 x9 x10 r):=lP (Jr (sm (DJ x3 x4 x5 x6 x7 x8 x9 x10)) x0 x1 x2 x3 x4 x5 x6 x7 x8 x9 x10 x11 x12 x13 x15 x16 x17) (by kernel_rfl) (by unfold gC Jr;with_reducible repeat' first|apply zd|exact nX|exact sX)
end
def S131:=S130.pc 75 36 0 (qbc [] 0 0 [] [] [] [] [] 0 [] [] [] [] 0 [] [] [] []) (fun x0 x1 x2 x3 x4 x5 x6 x7 x8 x9 x10 x11 x12 x13 x14 x15 x16 x17=>some (y1 (gC x0 x1 x2 x3 x4 x5 x6 x7 x8 x9 x10 x11 x12 x13 x14 x15 x16 x17) (DJ x3 x4 x5 x6 x7 x8 x9 x10))) (by kernel_rfl) rfl fun _=>w1 fun h=>qdK _ _ _ _ _ _ _ _ _ _ _ _ _ _ _ _ _ _ h
section
variable {β:Type} (z:(LL × LI × Int × Bool)->Option β) (x0:LL) (x1 x2:LI) (x3:L3) (x4 x5:LL) (x6:LI) (x7:Int) (x8 x9:LI)
def qaG:Option β:=(ob (v60 x0 x2 x3 x4 x5 x6 x7 x8 x9) fun r1=>(ob (v61 r1 x2 x3 x4 x5 x6 x7 x8 x9) fun r2=>(cond (decide ((x2.length:Int)<=(x2.length:Int))) (cond (decide ((x2.length:Int)<=(↑(nat_lit 2147483648):Int))) (ob (gC x1 0 0 x2 x3 x4 x5 x6 x7 x8 x9 r1 x0 r2 [] (List.replicate (x2.length:Int).toNat 0) [] []) fun r3=>(z (r3.2.1,r3.2.2.2,r3.2.2.1,r3.1))) none) none)))
def D0:=qaG some x0 x1 x2 x3 x4 x5 x6 x7 x8 x9
abbrev qcL:List TA:=[.sc (.ptr 0 0),.sc (kd2 x0),.sc (kd0 x1)]
abbrev qc6:List TO:=[bx2 x2 x3 x4 x5 x6 x7,rd0 x8,rd0 x9]
abbrev qee:(LL×LI×Int×Bool)->List TA×List TO:=fun r=>([.agg [kd2 r.1,kd0 r.2.1,I4 r.2.2.1],.sc (.bool r.2.2.2)],[bx2 x2 x3 x4 x5 x6 x7,rd0 x8,rd0 x9])
theorem ev75_1:fE S131 75 (qcL x0 x1) (qc6 x2 x3 x4 x5 x6 x7 x8 x9)=(D0 x0 x1 x2 x3 x4 x5 x6 x7 x8 x9).bind (sm (qee x2 x3 x4 x5 x6 x7 x8 x9)):=zE (fun z=>qaG z x0 x1 x2 x3 x4 x5 x6 x7 x8 x9) (by kernel_rfl) fun K=>by unfold D0 qaG;with_reducible repeat' first|apply zc|exact nB|exact sB
end
def S132:=S131.fn 75 (qcL [] []) (qc6 [] [] [] [] [] 0 [] []) (fun x0 x1 x2 x3 x4 x5 x6 x7 x8 x9=>some (y1 (D0 x0 x1 x2 x3 x4 x5 x6 x7 x8 x9) (qee x2 x3 x4 x5 x6 x7 x8 x9))) rfl fun _=>w1 fun h=>(ev75_1 ..).trans (bD h)
section
variable {β:Type} (z:(LL × LI × Int)->Option β) (x0:LL) (x1 x2:LI) (x3:L3) (x4 x5:LL) (x6:LI) (x7:Int) (x8 x9:LI)
def qaA:Option β:=(ob (D0 x0 x1 x2 x3 x4 x5 x6 x7 x8 x9) fun r1=>(cond (r1.2.2.2) (cond ((x5.length:Int)==0) (z (r1.1,r1.2.1,r1.2.2.1)) (cond (decide (r1.2.2.1 < x7)) (z (r1.1,r1.2.1,r1.2.2.1)) (z (x5,x6,x7)))) (z (x5,x6,x7))))
def JU:=qaA some x0 x1 x2 x3 x4 x5 x6 x7 x8 x9
abbrev qcF:List TA:=[.sc (.ptr 0 0),.sc (kd2 x0),.sc (kd0 x1)]
abbrev qc0:List TO:=[bx2 x2 x3 x4 x5 x6 x7,rd0 x8,rd0 x9]
abbrev qd8:(LL×LI×Int)->List TA×List TO:=fun r=>([],[bx2 x2 x3 x4 r.1 r.2.1 r.2.2,rd0 x8,rd0 x9])
theorem ev58_1:fE S132 58 (qcF x0 x1) (qc0 x2 x3 x4 x5 x6 x7 x8 x9)=(JU x0 x1 x2 x3 x4 x5 x6 x7 x8 x9).bind (sm (qd8 x2 x3 x4 x8 x9)):=zE (fun z=>qaA z x0 x1 x2 x3 x4 x5 x6 x7 x8 x9) (by kernel_rfl) fun K=>by unfold JU qaA;with_reducible repeat' first|apply zc|exact nB|exact sB
end
def S133:=S132.fn 58 (qcF [] []) (qc0 [] [] [] [] [] 0 [] []) (fun x0 x1 x2 x3 x4 x5 x6 x7 x8 x9=>some (y1 (JU x0 x1 x2 x3 x4 x5 x6 x7 x8 x9) (qd8 x2 x3 x4 x8 x9))) rfl fun _=>w1 fun h=>(ev58_1 ..).trans (bD h)
section
variable {β:Type} (y:LI->Int->Int->Int->LI->L3->LL->LL->LI->Int->LI->LI->Option β) (z:LI->Option β) (x0:LI) (x1 x2 x3:Int) (x4:LI) (x5:L3) (x6 x7:LL) (x8:LI) (x9:Int) (x10 x11:LI)
def Gv:Option β:=(cond (decide (x3 < x2)) (ck x3 (x10.length:Int) (cond (decide (x3.toNat < List.length x10)) (cond (decide (x3 < (x4.length:Int))) (cond (decide (List.getD x4 x3.toNat 0 > 0)) (cond (decide (x3 < (x0.length:Int))) (ck x1 (x4.length:Int) (cond (decide (x1 < (x0.length:Int))) (cond (decide (List.getD x0 x1.toNat 0≠0)) (cond (decide (List.getD x4 x3.toNat 0≠0)) (y x0 x1 x2 (wI (x3+1)) x4 x5 x6 x7 x8 x9 (List.set x10 x3.toNat (min (1048576:Int) (max (16:Int) (wI (Int.tdiv (wI (List.getD x10 x3.toNat 0*wI ((1000:Int)+min (wI (Int.tdiv (wI (wI (Int.tdiv (wI (List.getD x0 x3.toNat 0*List.getD x4 x1.toNat 0)) (List.getD x0 x1.toNat 0))*1000)) (List.getD x4 x3.toNat 0))) (1000:Int)))) (1500:Int)))))) x11) none) none) none)) none) (y x0 x1 x2 (wI (x3+1)) x4 x5 x6 x7 x8 x9 x10 x11)) none) none)) (z x10))
def qbs:Option β:=(cond (decide (x3 < x2)) (ck x3 (x10.length:Int) (cond (decide (x3.toNat < List.length x10)) (ck x3 (x4.length:Int) (cond (decide (List.getD x4 x3.toNat 0 > 0)) (ck x3 (x0.length:Int) (ck x1 (x4.length:Int) (ck x1 (x0.length:Int) (cond (decide (List.getD x0 x1.toNat 0≠0)) (ck x3 (x4.length:Int) (cond (decide (List.getD x4 x3.toNat 0≠0)) (ck x3 (x10.length:Int) (cond (decide (x3.toNat < List.length x10)) (y x0 x1 x2 (wI (x3+1)) x4 x5 x6 x7 x8 x9 (List.set x10 x3.toNat (min (1048576:Int) (max (16:Int) (wI (Int.tdiv (wI (List.getD x10 x3.toNat 0*wI ((1000:Int)+min (wI (Int.tdiv (wI (wI (Int.tdiv (wI (List.getD x0 x3.toNat 0*List.getD x4 x1.toNat 0)) (List.getD x0 x1.toNat 0))*1000)) (List.getD x4 x3.toNat 0))) (1000:Int)))) (1500:Int)))))) x11) none)) none)) none)))) (y x0 x1 x2 (wI (x3+1)) x4 x5 x6 x7 x8 x9 x10 x11))) none)) (z x10))
def qO:=itL (fun _ _ _ _ _ _ _ _ _ _ _ _=>none) fun f=>Gv f some
theorem KN (n:Nat):qO (n+1)=Gv (qO n) some:=rfl
def Dw:LI->Ex×CS:=fun r=>((.exit 4),⟨[],[],[bx2 x4 x5 x6 x7 x8 x9,rd0 r,rd0 x11],3,false⟩)
abbrev Kt:CS:=⟨[(1,vP 3),(8,vd0 x0),(9,vI x1),(96,vG 1),(97,vI x2),(98,vI x3)],[],[bx2 x4 x5 x6 x7 x8 x9,rd0 x10,rd0 x11,.box 53 [.ptr 0 0]],3,false⟩
theorem qdx {k m n:Nat} {r:LI} (h:qO n x0 x1 x2 x3 x4 x5 x6 x7 x8 x9 x10 x11=some r):lE S133 34 4 k (n+m) (Kt x0 x1 x2 x3 x4 x5 x6 x7 x8 x9 x10 x11)=some (Dw x4 x5 x6 x7 x8 x9 x11 r):=by
 induction n generalizing x3 x10 with
 |zero=>cases h
 |succ n ih=>
 exact lS (qbs (fun x0 x1 x2 x3 x4 x5 x6 x7 x8 x9 x10 x11=>lE S133 34 4 k (n+m) (Kt x0 x1 x2 x3 x4 x5 x6 x7 x8 x9 x10 x11)) (sm (Dw x4 x5 x6 x7 x8 x9 x11)) x0 x1 x2 x3 x4 x5 x6 x7 x8 x9 x10 x11) (by kernel_rfl) (by rw [KN];unfold Gv qbs;with_reducible repeat' first|apply gT ‹_›|apply gF ‹_›|(apply zz<;>intro _)|exact ih _ _|exact nX|exact sX) h
end
def S134:=S133.lp 34 4 (Kt [] 0 0 0 [] [] [] [] [] 0 [] []) (fun x0 x1 x2 x3 x4 x5 x6 x7 x8 x9 x10 x11=>some (y1 (qO FU x0 x1 x2 x3 x4 x5 x6 x7 x8 x9 x10 x11) (Dw x4 x5 x6 x7 x8 x9 x11))) (by kernel_rfl) fun _=>w1 fun h=>qdx _ _ _ _ _ _ _ _ _ _ _ _ h
section
variable {β:Type} (z:LI->Option β) (x0:LI) (x1:Int) (x2:LI) (x3:L3) (x4 x5:LL) (x6:LI) (x7:Int) (x8 x9:LI)
def GK:Option β:=(ob (qO FU x0 x1 (x8.length:Int) 0 x2 x3 x4 x5 x6 x7 x8 x9) fun r1=>(z r1))
def Ge:=GK some x0 x1 x2 x3 x4 x5 x6 x7 x8 x9
def JZ:LI->Ex×CS:=fun r=>(.normal,⟨[],[],[bx2 x2 x3 x4 x5 x6 x7,rd0 r,rd0 x9],3,false⟩)
abbrev qad:CS:=⟨[(1,vP 3),(8,vd0 x0),(9,vI x1)],[],[bx2 x2 x3 x4 x5 x6 x7,rd0 x8,rd0 x9,.box 53 [.ptr 0 0]],3,false⟩
theorem qcl {k:Nat} {r:LI}:Ge x0 x1 x2 x3 x4 x5 x6 x7 x8 x9=some r->pE S134 34 148 0 k (qad x0 x1 x2 x3 x4 x5 x6 x7 x8 x9)=some (JZ x2 x3 x4 x5 x6 x7 x9 r):=lP (GK (sm (JZ x2 x3 x4 x5 x6 x7 x9)) x0 x1 x2 x3 x4 x5 x6 x7 x8 x9) (by kernel_rfl) (by unfold Ge GK;with_reducible repeat' first|apply zd|exact nX|exact sX)
end
def S135:=S134.pc 34 148 0 (qad [] 0 [] [] [] [] [] 0 [] []) (fun x0 x1 x2 x3 x4 x5 x6 x7 x8 x9=>some (y1 (Ge x0 x1 x2 x3 x4 x5 x6 x7 x8 x9) (JZ x2 x3 x4 x5 x6 x7 x9))) (by kernel_rfl) rfl fun _=>w1 fun h=>qcl _ _ _ _ _ _ _ _ _ _ h
section
variable {β:Type} (z:LI->Option β) (x0:LI) (x1:L3) (x2 x3:LL) (x4:LI) (x5:Int) (x6 x7:LI) (x8:LL)
def GJ:Option β:=(ob (v60 x8 x0 x1 x2 x3 x4 x5 x6 x7) fun r1=>(ob (v61 r1 x0 x1 x2 x3 x4 x5 x6 x7) fun r2=>(ob (Ge r1 r2 x0 x1 x2 x3 x4 x5 x6 x7) fun r3=>(z r3))))
def jZ:=GJ some x0 x1 x2 x3 x4 x5 x6 x7 x8
def JY:LI->Ex×CS:=fun r=>(.normal,⟨[],[],[bx2 x0 x1 x2 x3 x4 x5,rd0 r,rd0 x7],3,false⟩)
abbrev qac:CS:=⟨[(1,vP 4),(2,vP 3)],[],[bx2 x0 x1 x2 x3 x4 x5,rd0 x6,rd0 x7,.box 31 [kd2 x8],.box 53 [.ptr 0 0]],3,false⟩
theorem qck {k:Nat} {r:LI}:jZ x0 x1 x2 x3 x4 x5 x6 x7 x8=some r->pE S135 34 132 0 k (qac x0 x1 x2 x3 x4 x5 x6 x7 x8)=some (JY x0 x1 x2 x3 x4 x5 x7 r):=lP (GJ (sm (JY x0 x1 x2 x3 x4 x5 x7)) x0 x1 x2 x3 x4 x5 x6 x7 x8) (by kernel_rfl) (by unfold jZ GJ;with_reducible repeat' first|apply zd|exact nX|exact sX)
end
def S136:=S135.pc 34 132 0 (qac [] [] [] [] [] 0 [] [] []) (fun x0 x1 x2 x3 x4 x5 x6 x7 x8=>some (y1 (jZ x0 x1 x2 x3 x4 x5 x6 x7 x8) (JY x0 x1 x2 x3 x4 x5 x7))) (by kernel_rfl) rfl fun _=>w1 fun h=>qck _ _ _ _ _ _ _ _ _ h
section
variable {β:Type} (z:(LL × LI × Int × LI)->Option β) (x0:LI) (x1:L3) (x2 x3:LL) (x4:LI) (x5:Int) (x6 x7:LI) (x8:LL) (x9:LI)
def GI:Option β:=(ob (JU x2 x9 x0 x1 x2 x3 x4 x5 x6 x7) fun r1=>(ob (jZ x0 x1 x2 r1.1 r1.2.1 r1.2.2 x6 x7 x8) fun r2=>(z (r1.1,r1.2.1,r1.2.2,r2))))
def Gd:=GI some x0 x1 x2 x3 x4 x5 x6 x7 x8 x9
def JX:(LL×LI×Int×LI)->Ex×CS:=fun r=>(.normal,⟨[],[],[bx2 x0 x1 x2 r.1 r.2.1 r.2.2.1,rd0 r.2.2.2,rd0 x7],3,false⟩)
abbrev qab:CS:=⟨[(1,vP 4),(2,vP 3),(5,vG 5)],[],[bx2 x0 x1 x2 x3 x4 x5,rd0 x6,rd0 x7,.box 31 [kd2 x8],.box 53 [.ptr 0 0],rd0 x9],3,false⟩
theorem qcj {k:Nat} {r:LL×LI×Int×LI}:Gd x0 x1 x2 x3 x4 x5 x6 x7 x8 x9=some r->pE S136 34 124 0 k (qab x0 x1 x2 x3 x4 x5 x6 x7 x8 x9)=some (JX x0 x1 x2 x7 r):=lP (GI (sm (JX x0 x1 x2 x7)) x0 x1 x2 x3 x4 x5 x6 x7 x8 x9) (by kernel_rfl) (by unfold Gd GI;with_reducible repeat' first|apply zd|exact nX|exact sX)
end
def S137:=S136.pc 34 124 0 (qab [] [] [] [] [] 0 [] [] [] []) (fun x0 x1 x2 x3 x4 x5 x6 x7 x8 x9=>some (y1 (Gd x0 x1 x2 x3 x4 x5 x6 x7 x8 x9) (JX x0 x1 x2 x7))) (by kernel_rfl) rfl fun _=>w1 fun h=>qcj _ _ _ _ _ _ _ _ _ _ h
section
variable {β:Type} (z:(LL × LI × Int × LI)->Option β) (x0:LI) (x1:L3) (x2 x3:LL) (x4:LI) (x5:Int) (x6 x7:LI) (x8:LL)
def Jo:Option β:=(cond (decide ((x7.length:Int)<=(x7.length:Int))) (cond (decide ((x7.length:Int)<=(↑(nat_lit 2147483648):Int))) (ob (q8 FU (x7.length:Int) 0 x0 x1 x2 x3 x4 x5 x6 x7 x8 (List.replicate (x7.length:Int).toNat 0)) fun r1=>(ob (Gd x0 x1 x2 x3 x4 x5 x6 x7 x8 r1) fun r2=>(z (r2.1,r2.2.1,r2.2.2.1,r2.2.2.2)))) none) none)
def gv:=Jo some x0 x1 x2 x3 x4 x5 x6 x7 x8
def Dy:(LL×LI×Int×LI)->Ex×CS:=fun r=>(.normal,⟨[],[],[bx2 x0 x1 x2 r.1 r.2.1 r.2.2.1,rd0 r.2.2.2,rd0 x7],3,false⟩)
abbrev qa9:CS:=⟨[(1,vP 4),(2,vP 3)],[],[bx2 x0 x1 x2 x3 x4 x5,rd0 x6,rd0 x7,.box 31 [kd2 x8],.box 53 [.ptr 0 0]],3,false⟩
theorem qdz {k:Nat} {r:LL×LI×Int×LI}:gv x0 x1 x2 x3 x4 x5 x6 x7 x8=some r->pE S137 34 76 0 k (qa9 x0 x1 x2 x3 x4 x5 x6 x7 x8)=some (Dy x0 x1 x2 x7 r):=lP (Jo (sm (Dy x0 x1 x2 x7)) x0 x1 x2 x3 x4 x5 x6 x7 x8) (by kernel_rfl) (by unfold gv Jo;with_reducible repeat' first|apply zd|exact nX|exact sX)
end
def S138:=S137.pc 34 76 0 (qa9 [] [] [] [] [] 0 [] [] []) (fun x0 x1 x2 x3 x4 x5 x6 x7 x8=>some (y1 (gv x0 x1 x2 x3 x4 x5 x6 x7 x8) (Dy x0 x1 x2 x7))) (by kernel_rfl) rfl fun _=>w1 fun h=>qdz _ _ _ _ _ _ _ _ _ h
section
variable {β:Type} (z:(LL × LI × Int × LI)->Option β) (x0:LI) (x1:L3) (x2 x3:LL) (x4:LI) (x5:Int) (x6 x7:LI) (x8:LL)
def Jn:Option β:=(ob (v58 x8 x0 x1 x2 x3 x4 x5 x6 x7) fun r1=>(ob (gv x0 x1 x2 r1.1 r1.2.1 r1.2.2 x6 x7 x8) fun r2=>(z (r2.1,r2.2.1,r2.2.2.1,r2.2.2.2))))
def G2:=Jn some x0 x1 x2 x3 x4 x5 x6 x7 x8
def Dx:(LL×LI×Int×LI)->Ex×CS:=fun r=>(.normal,⟨[],[],[bx2 x0 x1 x2 r.1 r.2.1 r.2.2.1,rd0 r.2.2.2,rd0 x7],3,false⟩)
abbrev qa8:CS:=⟨[(1,vP 4),(2,vP 3)],[],[bx2 x0 x1 x2 x3 x4 x5,rd0 x6,rd0 x7,.box 31 [kd2 x8],.box 53 [.ptr 0 0]],3,false⟩
theorem qdy {k:Nat} {r:LL×LI×Int×LI}:G2 x0 x1 x2 x3 x4 x5 x6 x7 x8=some r->pE S138 34 68 0 k (qa8 x0 x1 x2 x3 x4 x5 x6 x7 x8)=some (Dx x0 x1 x2 x7 r):=lP (Jn (sm (Dx x0 x1 x2 x7)) x0 x1 x2 x3 x4 x5 x6 x7 x8) (by kernel_rfl) (by unfold G2 Jn;with_reducible repeat' first|apply zd|exact nX|exact sX)
end
def S139:=S138.pc 34 68 0 (qa8 [] [] [] [] [] 0 [] [] []) (fun x0 x1 x2 x3 x4 x5 x6 x7 x8=>some (y1 (G2 x0 x1 x2 x3 x4 x5 x6 x7 x8) (Dx x0 x1 x2 x7))) (by kernel_rfl) rfl fun _=>w1 fun h=>qdy _ _ _ _ _ _ _ _ _ h
section
variable {β:Type} (z:(LL × LL × LI × Int × LI × LI)->Option β) (x0:LI) (x1:L3) (x2 x3:LL) (x4:LI) (x5:Int) (x6 x7:LI) (x8:LL)
def Jm:Option β:=(ob (JS x0 x1 x2 x3 x4 x5 x6 x7 x8) fun r1=>(ob (jg FU (x6.length:Int) 0 x0 x1 r1 x3 x4 x5 x6 x7 x8) fun r2=>(ob (G2 x0 x1 r1 x3 x4 x5 x6 r2 x8) fun r3=>(z (r1,r3.1,r3.2.1,r3.2.2.1,r3.2.2.2,r2)))))
def G1:=Jm some x0 x1 x2 x3 x4 x5 x6 x7 x8
def Dv:(LL×LL×LI×Int×LI×LI)->Ex×CS:=fun r=>(.normal,⟨[],[],[bx2 x0 x1 r.1 r.2.1 r.2.2.1 r.2.2.2.1,rd0 r.2.2.2.2.1,rd0 r.2.2.2.2.2],3,false⟩)
abbrev qa7:CS:=⟨[(1,vP 4),(2,vP 3)],[],[bx2 x0 x1 x2 x3 x4 x5,rd0 x6,rd0 x7,.box 31 [kd2 x8],.box 53 [.ptr 0 0]],3,false⟩
theorem qdw {k:Nat} {r:LL×LL×LI×Int×LI×LI}:G1 x0 x1 x2 x3 x4 x5 x6 x7 x8=some r->pE S139 34 20 0 k (qa7 x0 x1 x2 x3 x4 x5 x6 x7 x8)=some (Dv x0 x1 r):=lP (Jm (sm (Dv x0 x1)) x0 x1 x2 x3 x4 x5 x6 x7 x8) (by kernel_rfl) (by unfold G1 Jm;with_reducible repeat' first|apply zd|exact nX|exact sX)
end
def S140:=S139.pc 34 20 0 (qa7 [] [] [] [] [] 0 [] [] []) (fun x0 x1 x2 x3 x4 x5 x6 x7 x8=>some (y1 (G1 x0 x1 x2 x3 x4 x5 x6 x7 x8) (Dv x0 x1))) (by kernel_rfl) rfl fun _=>w1 fun h=>qdw _ _ _ _ _ _ _ _ _ h
section
variable {β:Type} (z:(LL × LL × LI × Int × LI × LI)->Option β) (x0:LI) (x1:L3) (x2 x3:LL) (x4:LI) (x5:Int) (x6 x7:LI)
def tv34:Option β:=(ob (JR x0 x1 x2 x3 x4 x5 x6 x7) fun r1=>(ob (G1 x0 x1 x2 x3 x4 x5 x6 x7 r1) fun r2=>(z (r2.1,r2.2.1,r2.2.2.1,r2.2.2.2.1,r2.2.2.2.2.1,r2.2.2.2.2.2))))
def v34:=tv34 some x0 x1 x2 x3 x4 x5 x6 x7
abbrev aF34:List TA:=[.sc (.ptr 0 0)]
abbrev hF34:List TO:=[bx2 x0 x1 x2 x3 x4 x5,rd0 x6,rd0 x7]
abbrev rF34:(LL×LL×LI×Int×LI×LI)->List TA×List TO:=fun r=>([],[bx2 x0 x1 r.1 r.2.1 r.2.2.1 r.2.2.2.1,rd0 r.2.2.2.2.1,rd0 r.2.2.2.2.2])
theorem ev34:fE S140 34 aF34 (hF34 x0 x1 x2 x3 x4 x5 x6 x7)=(v34 x0 x1 x2 x3 x4 x5 x6 x7).bind (sm (rF34 x0 x1)):=zE (fun z=>tv34 z x0 x1 x2 x3 x4 x5 x6 x7) (by kernel_rfl) fun K=>by unfold v34 tv34;with_reducible repeat' first|apply zc|exact nB|exact sB
end
def S141:=S140.fn 34 aF34 (hF34 [] [] [] [] [] 0 [] []) (fun x0 x1 x2 x3 x4 x5 x6 x7=>some (y1 (v34 x0 x1 x2 x3 x4 x5 x6 x7) (rF34 x0 x1))) rfl fun _=>w1 fun h=>(ev34 ..).trans (bD h)
section
variable {β:Type} (y:Int->Int->Int->LI->L3->LL->LL->LI->Int->LI->LI->LL->LI->Option β) (z:(LL × LL × LI × Int × LI × LI)->Option β) (x0 x1 x2:Int) (x3:LI) (x4:L3) (x5 x6:LL) (x7:LI) (x8:Int) (x9 x10:LI) (x11:LL) (x12:LI)
def j8:Option β:=(cond (decide (x1 < x0)) (ob (v34 x3 x4 x5 x6 x7 x8 x9 x10) fun r1=>(y x0 (wI (x1+1)) x2 x3 x4 (r1.1) (r1.2.1) (r1.2.2.1) (r1.2.2.2.1) (r1.2.2.2.2.1) (r1.2.2.2.2.2) x11 x12)) (z (x5,x6,x7,x8,x9,x10)))
def q7:=itL (fun _ _ _ _ _ _ _ _ _ _ _ _ _=>none) fun f=>j8 f some
theorem KG (n:Nat):q7 (n+1)=j8 (q7 n) some:=rfl
def Dm:(LL×LL×LI×Int×LI×LI)->Ex×CS:=fun r=>((.exit 4),⟨[(4,.l 4 0),(6,vP 0)],[(4,[.g 3,.g 4,I4 x2])],[bx2 x3 x4 r.1 r.2.1 r.2.2.1 r.2.2.2.1,rd0 r.2.2.2.2.1,rd0 r.2.2.2.2.2,rd1 x11,rd0 x12],0,false⟩)
abbrev Kl:CS:=⟨[(4,.l 4 0),(6,vP 0),(75,vI x0),(76,vI x1)],[(4,[.g 3,.g 4,I4 x2])],[bx2 x3 x4 x5 x6 x7 x8,rd0 x9,rd0 x10,rd1 x11,rd0 x12],0,false⟩
theorem qdn {k m n:Nat} {r:LL×LL×LI×Int×LI×LI} (h:q7 n x0 x1 x2 x3 x4 x5 x6 x7 x8 x9 x10 x11 x12=some r):lE S141 14 4 k (n+m) (Kl x0 x1 x2 x3 x4 x5 x6 x7 x8 x9 x10 x11 x12)=some (Dm x2 x3 x4 x11 x12 r):=by
 induction n generalizing x1 x5 x6 x7 x8 x9 x10 with
 |zero=>cases h
 |succ n ih=>
 exact lS (j8 (fun x0 x1 x2 x3 x4 x5 x6 x7 x8 x9 x10 x11 x12=>lE S141 14 4 k (n+m) (Kl x0 x1 x2 x3 x4 x5 x6 x7 x8 x9 x10 x11 x12)) (sm (Dm x2 x3 x4 x11 x12)) x0 x1 x2 x3 x4 x5 x6 x7 x8 x9 x10 x11 x12) (by kernel_rfl) (by rw [KG];unfold j8;with_reducible repeat' first|apply zd|exact ih _ _ _ _ _ _ _|exact nX|exact sX) h
end
def S142:=S141.lp 14 4 (Kl 0 0 0 [] [] [] [] [] 0 [] [] [] []) (fun x0 x1 x2 x3 x4 x5 x6 x7 x8 x9 x10 x11 x12=>some (y1 (q7 FU x0 x1 x2 x3 x4 x5 x6 x7 x8 x9 x10 x11 x12) (Dm x2 x3 x4 x11 x12))) (by kernel_rfl) fun _=>w1 fun h=>qdn _ _ _ _ _ _ _ _ _ _ _ _ _ h
section
variable {β:Type} (z:(Int × LL × LI × Int)->Option β) (x0 x1:Int) (x2:LI) (x3:L3) (x4 x5:LL) (x6:LI) (x7:Int) (x8 x9:LI) (x10:LL) (x11:LI)
def GH:Option β:=(ob (q7 FU (wI (x0+1)) 0 x1 x2 x3 x4 x5 x6 x7 x8 x9 x10 x11) fun r1=>(z (0,r1.2.1,r1.2.2.1,r1.2.2.2.1)))
def Gc:=GH some x0 x1 x2 x3 x4 x5 x6 x7 x8 x9 x10 x11
def JW:(Int×LL×LI×Int)->Ex×CS:=fun r=>(.ret,⟨[(4,.l 4 0),(5,vI r.1)],[(4,[kd2 r.2.1,kd0 r.2.2.1,I4 r.2.2.2])],[],0,true⟩)
abbrev qaa:CS:=⟨[(1,vI x0),(4,.l 4 0),(6,vP 0)],[(4,[.g 3,.g 4,I4 x1])],[bx2 x2 x3 x4 x5 x6 x7,rd0 x8,rd0 x9,rd1 x10,rd0 x11],0,false⟩
theorem qci {k:Nat} {r:Int×LL×LI×Int}:Gc x0 x1 x2 x3 x4 x5 x6 x7 x8 x9 x10 x11=some r->pE S142 14 140 0 k (qaa x0 x1 x2 x3 x4 x5 x6 x7 x8 x9 x10 x11)=some (JW r):=lP (GH (sm JW) x0 x1 x2 x3 x4 x5 x6 x7 x8 x9 x10 x11) (by kernel_rfl) (by unfold Gc GH;with_reducible repeat' first|apply zd|exact nX|exact sX)
end
def S143:=S142.pc 14 140 0 (qaa 0 0 [] [] [] [] [] 0 [] [] [] []) (fun x0 x1 x2 x3 x4 x5 x6 x7 x8 x9 x10 x11=>some (y1 (Gc x0 x1 x2 x3 x4 x5 x6 x7 x8 x9 x10 x11) JW)) (by kernel_rfl) rfl fun _=>w1 fun h=>qci _ _ _ _ _ _ _ _ _ _ _ _ h
section
variable {β:Type} (z:((Int × Int) ⊕ (Int × LL × LI × Int))->Option β) (x0:Int) (x1:LI) (x2:L3) (x3:Int) (x4:LI) (x5:L3) (x6 x7:LL) (x8:LI) (x9:Int) (x10 x11:LI) (x12:LL) (x13:LI)
def Jl:Option β:=(cond (isL (qH FU x0 (x2.length:Int) 0 x3 x4 x5 x6 x7 x8 x9 x10 x11 x12 x13)) (z (.inl ((zx (qH FU x0 (x2.length:Int) 0 x3 x4 x5 x6 x7 x8 x9 x10 x11 x12 x13)).1,(zx (qH FU x0 (x2.length:Int) 0 x3 x4 x5 x6 x7 x8 x9 x10 x11 x12 x13)).2))) (ob (zB (qH FU x0 (x2.length:Int) 0 x3 x4 x5 x6 x7 x8 x9 x10 x11 x12 x13)) fun _=>(ob (Gc x0 x3 x4 x5 x6 x7 x8 x9 x10 x11 x12 x13) fun r2=>(z (.inr (r2.1,r2.2.1,r2.2.2.1,r2.2.2.2))))))
def jM (x0:Int) (x1:LI) (x2:L3) (x3:Int) (x4:LI) (x5:L3) (x6 x7:LL) (x8:LI) (x9:Int) (x10 x11:LI) (x12:LL) (x13:LI):Option ((Int×Int) ⊕ (Int×LL×LI×Int)):=Jl some x0 x2 x3 x4 x5 x6 x7 x8 x9 x10 x11 x12 x13
def Do:((Int×Int) ⊕ (Int×LL×LI×Int))->Ex×CS:=Sum.elim (fun r=>(.ret,⟨[(4,.l 4 0),(5,vI r.1)],[(4,[.nil,.nil,I4 r.2])],[],0,true⟩)) fun r=>(.ret,⟨[(4,.l 4 0),(5,vI r.1)],[(4,[kd2 r.2.1,kd0 r.2.2.1,I4 r.2.2.2])],[],0,true⟩)
abbrev qa6:CS:=⟨[(1,vI x0),(2,.l 2 0),(4,.l 4 0),(6,vP 0)],[(2,[kd0 x1,kd1 x2]),(4,[.g 3,.g 4,I4 x3])],[bx2 x4 x5 x6 x7 x8 x9,rd0 x10,rd0 x11,rd1 x12,rd0 x13],0,false⟩
theorem qdp {k:Nat} {r:(Int×Int) ⊕ (Int×LL×LI×Int)}:jM x0 x1 x2 x3 x4 x5 x6 x7 x8 x9 x10 x11 x12 x13=some r->pE S143 14 84 0 k (qa6 x0 x1 x2 x3 x4 x5 x6 x7 x8 x9 x10 x11 x12 x13)=some (Do r):=lP (Jl (sm Do) x0 x2 x3 x4 x5 x6 x7 x8 x9 x10 x11 x12 x13) (by kernel_rfl) (by unfold jM Jl;with_reducible repeat' first|apply zd|exact nX|exact sX)
end
def S144:=S143.pc 14 84 0 (qa6 0 [] [] 0 [] [] [] [] [] 0 [] [] [] []) (fun x0 x1 x2 x3 x4 x5 x6 x7 x8 x9 x10 x11 x12 x13=>some (y2 (jM x0 x1 x2 x3 x4 x5 x6 x7 x8 x9 x10 x11 x12 x13) Do)) (by kernel_rfl) rfl fun _=>w2 fun h=>qdp _ _ _ _ _ _ _ _ _ _ _ _ _ _ h
section
variable {β:Type} (z:((Int × Int) ⊕ (Int × LL × LI × Int))->Option β) (x0:Int) (x1:LI) (x2:L3) (x3:Int) (x4:LI) (x5:L3) (x6:LL) (x7:LI) (x8:Int) (x9 x10:LI) (x11:LL) (x12:LI)
def Jk:Option β:=(ob (jm FU x0 (x9.length:Int) 0 x1 x2 x3 x4 x5 x6 x7 x8 x9 x10 x11 x12) fun r1=>(ob (v31 x4 x5 x6 x7 x8 r1 x10) fun r2=>(cond (isL (jM x0 x1 x2 x3 x4 x5 r2 x6 x7 x8 r1 x10 x11 x12)) (z (.inl ((zx (jM x0 x1 x2 x3 x4 x5 r2 x6 x7 x8 r1 x10 x11 x12)).1,(zx (jM x0 x1 x2 x3 x4 x5 r2 x6 x7 x8 r1 x10 x11 x12)).2))) (ob (zB (jM x0 x1 x2 x3 x4 x5 r2 x6 x7 x8 r1 x10 x11 x12)) fun r3=>(z (.inr (r3.1,r3.2.1,r3.2.2.1,r3.2.2.2)))))))
def qF:=Jk some x0 x1 x2 x3 x4 x5 x6 x7 x8 x9 x10 x11 x12
def Dn:((Int×Int) ⊕ (Int×LL×LI×Int))->Ex×CS:=Sum.elim (fun r=>(.ret,⟨[(4,.l 4 0),(5,vI r.1)],[(4,[.nil,.nil,I4 r.2])],[],0,true⟩)) fun r=>(.ret,⟨[(4,.l 4 0),(5,vI r.1)],[(4,[kd2 r.2.1,kd0 r.2.2.1,I4 r.2.2.2])],[],0,true⟩)
abbrev qa5:CS:=⟨[(1,vI x0),(2,.l 2 0),(4,.l 4 0),(6,vP 0),(24,.l 2 0),(28,.l 2 0)],[(2,[kd0 x1,kd1 x2]),(4,[.g 3,.g 4,I4 x3])],[bx0 x4 x5 x6 x7 x8,rd0 x9,rd0 x10,rd1 x11,rd0 x12],0,false⟩
theorem qdo {k:Nat} {r:(Int×Int) ⊕ (Int×LL×LI×Int)}:qF x0 x1 x2 x3 x4 x5 x6 x7 x8 x9 x10 x11 x12=some r->pE S144 14 36 0 k (qa5 x0 x1 x2 x3 x4 x5 x6 x7 x8 x9 x10 x11 x12)=some (Dn r):=lP (Jk (sm Dn) x0 x1 x2 x3 x4 x5 x6 x7 x8 x9 x10 x11 x12) (by kernel_rfl) (by unfold qF Jk;with_reducible repeat' first|apply zd|exact nX|exact sX)
end
def S145:=S144.pc 14 36 0 (qa5 0 [] [] 0 [] [] [] [] 0 [] [] [] []) (fun x0 x1 x2 x3 x4 x5 x6 x7 x8 x9 x10 x11 x12=>some (y2 (qF x0 x1 x2 x3 x4 x5 x6 x7 x8 x9 x10 x11 x12) Dn)) (by kernel_rfl) rfl fun _=>w2 fun h=>qdo _ _ _ _ _ _ _ _ _ _ _ _ _ h
section
variable {β:Type} (z:(LL × LI × Int × Int)->Option β) (x0:LI) (x1:L3) (x2:Int)
def tv14:Option β:=(ob (v28 x0 x1) fun r1=>(cond (!r1) (z ([],[],0,(1:Int))) (cond (decide (x2 < 0)) (z ([],[],0,(1:Int))) (cond (decide (x2 > (1000:Int))) (z ([],[],0,(1:Int))) (cond (decide ((x0.length:Int)<=(x0.length:Int))) (cond (decide ((x0.length:Int)<=(↑(nat_lit 2147483648):Int))) (cond (isL (qF x2 x0 x1 0 x0 x1 [] [] 0 (List.replicate (x0.length:Int).toNat 0) (List.replicate (x0.length:Int).toNat 0) [] [])) (z ([],[],(zx (qF x2 x0 x1 0 x0 x1 [] [] 0 (List.replicate (x0.length:Int).toNat 0) (List.replicate (x0.length:Int).toNat 0) [] [])).2,(zx (qF x2 x0 x1 0 x0 x1 [] [] 0 (List.replicate (x0.length:Int).toNat 0) (List.replicate (x0.length:Int).toNat 0) [] [])).1)) (ob (zB (qF x2 x0 x1 0 x0 x1 [] [] 0 (List.replicate (x0.length:Int).toNat 0) (List.replicate (x0.length:Int).toNat 0) [] [])) fun r2=>(z (r2.2.1,r2.2.2.1,r2.2.2.2,r2.1)))) none) none)))))
def v14:=tv14 some x0 x1 x2
def uv14:Option β:=(ob (v28 x0 x1) fun r1=>(cond (!r1) (z ([],[],0,(1:Int))) (cond (decide (x2 < 0)) (z ([],[],0,(1:Int))) (cond (decide (x2 > (1000:Int))) (z ([],[],0,(1:Int))) (cond (decide ((x0.length:Int)<=(x0.length:Int))) (cond (decide ((x0.length:Int)<=(↑(nat_lit 2147483648):Int))) (cond (decide ((x0.length:Int)<=(x0.length:Int))) (cond (decide ((x0.length:Int)<=(↑(nat_lit 2147483648):Int))) (cond (isL (qF x2 x0 x1 0 x0 x1 [] [] 0 (List.replicate (x0.length:Int).toNat 0) (List.replicate (x0.length:Int).toNat 0) [] [])) (z ([],[],(zx (qF x2 x0 x1 0 x0 x1 [] [] 0 (List.replicate (x0.length:Int).toNat 0) (List.replicate (x0.length:Int).toNat 0) [] [])).2,(zx (qF x2 x0 x1 0 x0 x1 [] [] 0 (List.replicate (x0.length:Int).toNat 0) (List.replicate (x0.length:Int).toNat 0) [] [])).1)) (ob (zB (qF x2 x0 x1 0 x0 x1 [] [] 0 (List.replicate (x0.length:Int).toNat 0) (List.replicate (x0.length:Int).toNat 0) [] [])) fun r2=>(z (r2.2.1,r2.2.2.1,r2.2.2.2,r2.1)))) none) none) none) none)))))
abbrev aF14:List TA:=[.agg [kd0 x0,kd1 x1],.sc (I4 x2)]
abbrev rF14:(LL×LI×Int×Int)->List TA×List TO:=fun r=>([.agg [kd2 r.1,kd0 r.2.1,I4 r.2.2.1],.sc (I4 r.2.2.2)],[])
theorem ev14:fE S145 14 (aF14 x0 x1 x2) []=(v14 x0 x1 x2).bind (sm rF14):=zE (fun z=>uv14 z x0 x1 x2) (by kernel_rfl) fun K=>by unfold v14 tv14 uv14;with_reducible repeat' first|apply bT ‹_›|apply bF ‹_›|(apply Yi<;>intro _)|exact nB|exact sB
end
def S146:=S145.fn 14 (aF14 [] [] 0) [] (fun x0 x1 x2=>some (y1 (v14 x0 x1 x2) rF14)) rfl fun _=>w1 fun h=>(ev14 ..).trans (bD h)
section
variable {β:Type} (y:LL->Int->Int->LI->L3->Option β) (z:(Bool ⊕ Unit)->Option β) (x0:LL) (x1 x2:Int) (x3:LI) (x4:L3)
def K7:Option β:=(ck x1 (x4.length:Int) (cond (decide (x2 < (↑(List.length (List.getD x4 x1.toNat [])):Int))) (cond (decide (0<=x2)) (cond (decide ((↑(List.length (List.getD (List.getD x4 x1.toNat []) x2.toNat [])):Int) > (20:Int))) (z (.inl (false))) (y x0 x1 (wI (x2+1)) x3 x4)) none) (z (.inr ()))))
def qbp:Option β:=(ck x1 (x4.length:Int) (cond (decide (x2 < (↑(List.length (List.getD x4 x1.toNat [])):Int))) (ck x1 (x4.length:Int) (ck x2 (↑(List.length (List.getD x4 x1.toNat [])):Int) (cond (decide ((↑(List.length (List.getD (List.getD x4 x1.toNat []) x2.toNat [])):Int) > (20:Int))) (z (.inl (false))) (y x0 x1 (wI (x2+1)) x3 x4)))) (z (.inr ()))))
def q6:=itL (fun _ _ _ _ _=>none) fun f=>K7 f some
theorem qdY (n:Nat):q6 (n+1)=K7 (q6 n) some:=rfl
def Di:(Bool ⊕ Unit)->Ex×CS:=Sum.elim (fun r=>(.ret,⟨[(6,vB r)],[],[],0,true⟩)) fun r=>((.exit 2),⟨[(1,vd1 x0),(3,.l 3 0),(7,vI x1),(45,.l 3 1)],[(3,[kd0 x3,kd1 x4])],[],0,false⟩)
abbrev Kh:CS:=⟨[(1,vd1 x0),(3,.l 3 0),(7,vI x1),(8,vI x2)],[(3,[kd0 x3,kd1 x4])],[],0,false⟩
theorem qdj {k m n:Nat} {r:Bool ⊕ Unit} (h:q6 n x0 x1 x2 x3 x4=some r):lE S146 11 2 k (n+m) (Kh x0 x1 x2 x3 x4)=some (Di x0 x1 x3 x4 r):=by
 induction n generalizing x2 with
 |zero=>cases h
 |succ n ih=>
 exact lS (qbp (fun x0 x1 x2 x3 x4=>lE S146 11 2 k (n+m) (Kh x0 x1 x2 x3 x4)) (sm (Di x0 x1 x3 x4)) x0 x1 x2 x3 x4) (by kernel_rfl) (by rw [qdY];unfold K7 qbp;with_reducible repeat' first|apply gT ‹_›|apply gF ‹_›|(apply zz<;>intro _)|exact ih _|exact nX|exact sX) h
end
def S147:=S146.lp 11 2 (Kh [] 0 0 [] []) (fun x0 x1 x2 x3 x4=>some (y2 (q6 FU x0 x1 x2 x3 x4) (Di x0 x1 x3 x4))) (by kernel_rfl) fun _=>w2 fun h=>qdj _ _ _ _ _ h
section
variable {β:Type} (y:LL->Int->LI->L3->Option β) (z:(Bool ⊕ Unit)->Option β) (x0:LL) (x1:Int) (x2:LI) (x3:L3)
def Ho:Option β:=(cond (decide (x1 < (x3.length:Int))) (cond (decide (0<=x1)) (cond (decide ((↑(List.length (List.getD x3 x1.toNat [])):Int) > (20:Int))) (z (.inl (false))) (cond (isL (q6 FU x0 x1 0 x2 x3)) (z (.inl (zx (q6 FU x0 x1 0 x2 x3)))) (ob (zB (q6 FU x0 x1 0 x2 x3)) fun _=>(y x0 (wI (x1+1)) x2 x3)))) none) (z (.inr ())))
def qbQ:Option β:=(cond (decide (x1 < (x3.length:Int))) (ck x1 (x3.length:Int) (cond (decide ((↑(List.length (List.getD x3 x1.toNat [])):Int) > (20:Int))) (z (.inl (false))) (cond (isL (q6 FU x0 x1 0 x2 x3)) (z (.inl (zx (q6 FU x0 x1 0 x2 x3)))) (ob (zB (q6 FU x0 x1 0 x2 x3)) fun _=>(y x0 (wI (x1+1)) x2 x3))))) (z (.inr ())))
def gt:=itL (fun _ _ _ _=>none) fun f=>Ho f some
theorem qfh (n:Nat):gt (n+1)=Ho (gt n) some:=rfl
def Hs:(Bool ⊕ Unit)->Ex×CS:=Sum.elim (fun r=>(.ret,⟨[(6,vB r)],[],[],0,true⟩)) fun r=>((.exit 0),⟨[(1,vd1 x0),(3,.l 3 0),(31,.l 3 1)],[],[],0,false⟩)
abbrev D5:CS:=⟨[(1,vd1 x0),(3,.l 3 0),(7,vI x1)],[(3,[kd0 x2,kd1 x3])],[],0,false⟩
theorem qeF {k m n:Nat} {r:Bool ⊕ Unit} (h:gt n x0 x1 x2 x3=some r):lE S147 11 0 k (n+m) (D5 x0 x1 x2 x3)=some (Hs x0 r):=by
 induction n generalizing x1 with
 |zero=>cases h
 |succ n ih=>
 exact lS (qbQ (fun x0 x1 x2 x3=>lE S147 11 0 k (n+m) (D5 x0 x1 x2 x3)) (sm (Hs x0)) x0 x1 x2 x3) (by kernel_rfl) (by rw [qfh];unfold Ho qbQ;with_reducible repeat' first|apply gT ‹_›|apply gF ‹_›|(apply zz<;>intro _)|exact ih _|exact nX|exact sX) h
end
def S148:=S147.lp 11 0 (D5 [] 0 [] []) (fun x0 x1 x2 x3=>some (y2 (gt FU x0 x1 x2 x3) (Hs x0))) (by kernel_rfl) fun _=>w2 fun h=>qeF _ _ _ _ h
end
end Go.Proofs.Ytpfphfobneehmaa
