/- What the machines are told of each function. Written by a program of ours. -/
import Derived.Test.YtgmebdomopdgmaaB8
import Derived.Test.YtgmebdomopdgmaaProg
import Derived.KernelRfl
set_option linter.all false
set_option maxRecDepth 1000000
set_option maxHeartbeats 4000000
namespace Go.Proofs.Ytgmebdomopdgmaa
open Go Go.AM Go.TM Go.Proofs
noncomputable section
abbrev iT:Ty:=.int .i64
abbrev lT:Ty:=.list 3 iT
abbrev mT:Ty:=.list 22 lT
abbrev LI:=List Int
abbrev LL:=List LI
abbrev L3:=List LL
abbrev cP (cX:Ex→CS→Option (Ex×CS)) (p:Ex×CS):Option (Ex×CS):=cX p.1 p.2
abbrev te {ρ:Type} [Inhabited ρ] (o:Option ρ) (f:ρ→Ex×CS):Bool×Ex×CS:=(ok o,(f (val o)).1,(f (val o)).2)
abbrev zP:=Try.prog
abbrev KN:=CS→Option (Ex×CS)
abbrev KX:=Ex→CS→Option (Ex×CS)
theorem dT {p:Prop} [inst:Decidable p] (h:p):decide p=true:=decide_eq_true h
theorem dF {p:Prop} [inst:Decidable p] (h:¬ p):decide p=false:=decide_eq_false h
theorem tN (n:Nat):(n:Int).toNat=n:=Int.toNat_natCast n
abbrev PKt:=(Int×(Int×(Int×(Int×(Int×(Int×(Bool×Bool)))))))
abbrev PKy:Ty:=(.pair iT (.pair iT (.pair iT (.pair iT (.pair iT (.pair iT (.pair .bool .bool)))))))
abbrev QDy:Ty:=.pair PKy iT
abbrev PKz:PKt:=((0:Int),(0:Int),(0:Int),(0:Int),(0:Int),(0:Int),false,false)
abbrev I4 (x:Int):TC:=.int .i64 x
theorem dJ2 {R:Type} {r:R} {k0 k1:IntKind} {l:List TC} {K:Int→Int→List TC→Option R} (h:dCI k0 l (fun a0 m0=>dCI k1 m0 (K a0))=some r):∃ a0 a1 m,l=.int k0 a0::.int k1 a1::m∧K a0 a1 m=some r:=by
 replace h:=zQ h;obtain ⟨a0,m,rfl,h⟩:=h
 replace h:=zQ h;obtain ⟨a1,m,rfl,h⟩:=h
 exact ⟨a0,a1,m,rfl,h⟩
theorem dJ3 {R:Type} {r:R} {k0 k1 k2:IntKind} {l:List TC} {K:Int→Int→Int→List TC→Option R} (h:dCI k0 l (fun a0 m0=>dCI k1 m0 (fun a1 m1=>dCI k2 m1 (K a0 a1)))=some r):∃ a0 a1 a2 m,l=.int k0 a0::.int k1 a1::.int k2 a2::m∧K a0 a1 a2 m=some r:=by
 replace h:=zQ h;obtain ⟨a0,m,rfl,h⟩:=h
 replace h:=zQ h;obtain ⟨a1,m,rfl,h⟩:=h
 replace h:=zQ h;obtain ⟨a2,m,rfl,h⟩:=h
 exact ⟨a0,a1,a2,m,rfl,h⟩
theorem dJ4 {R:Type} {r:R} {k0 k1 k2 k3:IntKind} {l:List TC} {K:Int→Int→Int→Int→List TC→Option R} (h:dCI k0 l (fun a0 m0=>dCI k1 m0 (fun a1 m1=>dCI k2 m1 (fun a2 m2=>dCI k3 m2 (K a0 a1 a2))))=some r):∃ a0 a1 a2 a3 m,l=.int k0 a0::.int k1 a1::.int k2 a2::.int k3 a3::m∧K a0 a1 a2 a3 m=some r:=by
 replace h:=zQ h;obtain ⟨a0,m,rfl,h⟩:=h
 replace h:=zQ h;obtain ⟨a1,m,rfl,h⟩:=h
 replace h:=zQ h;obtain ⟨a2,m,rfl,h⟩:=h
 replace h:=zQ h;obtain ⟨a3,m,rfl,h⟩:=h
 exact ⟨a0,a1,a2,a3,m,rfl,h⟩
theorem dJ5 {R:Type} {r:R} {k0 k1 k2 k3 k4:IntKind} {l:List TC} {K:Int→Int→Int→Int→Int→List TC→Option R} (h:dCI k0 l (fun a0 m0=>dCI k1 m0 (fun a1 m1=>dCI k2 m1 (fun a2 m2=>dCI k3 m2 (fun a3 m3=>dCI k4 m3 (K a0 a1 a2 a3)))))=some r):∃ a0 a1 a2 a3 a4 m,l=.int k0 a0::.int k1 a1::.int k2 a2::.int k3 a3::.int k4 a4::m∧K a0 a1 a2 a3 a4 m=some r:=by
 replace h:=zQ h;obtain ⟨a0,m,rfl,h⟩:=h
 replace h:=zQ h;obtain ⟨a1,m,rfl,h⟩:=h
 replace h:=zQ h;obtain ⟨a2,m,rfl,h⟩:=h
 replace h:=zQ h;obtain ⟨a3,m,rfl,h⟩:=h
 replace h:=zQ h;obtain ⟨a4,m,rfl,h⟩:=h
 exact ⟨a0,a1,a2,a3,a4,m,rfl,h⟩
theorem dJ6 {R:Type} {r:R} {k0 k1 k2 k3 k4 k5:IntKind} {l:List TC} {K:Int→Int→Int→Int→Int→Int→List TC→Option R} (h:dCI k0 l (fun a0 m0=>dCI k1 m0 (fun a1 m1=>dCI k2 m1 (fun a2 m2=>dCI k3 m2 (fun a3 m3=>dCI k4 m3 (fun a4 m4=>dCI k5 m4 (K a0 a1 a2 a3 a4))))))=some r):∃ a0 a1 a2 a3 a4 a5 m,l=.int k0 a0::.int k1 a1::.int k2 a2::.int k3 a3::.int k4 a4::.int k5 a5::m∧K a0 a1 a2 a3 a4 a5 m=some r:=by
 replace h:=zQ h;obtain ⟨a0,m,rfl,h⟩:=h
 replace h:=zQ h;obtain ⟨a1,m,rfl,h⟩:=h
 replace h:=zQ h;obtain ⟨a2,m,rfl,h⟩:=h
 replace h:=zQ h;obtain ⟨a3,m,rfl,h⟩:=h
 replace h:=zQ h;obtain ⟨a4,m,rfl,h⟩:=h
 replace h:=zQ h;obtain ⟨a5,m,rfl,h⟩:=h
 exact ⟨a0,a1,a2,a3,a4,a5,m,rfl,h⟩
theorem dJ7 {R:Type} {r:R} {k0 k1 k2 k3 k4 k5 k6:IntKind} {l:List TC} {K:Int→Int→Int→Int→Int→Int→Int→List TC→Option R} (h:dCI k0 l (fun a0 m0=>dCI k1 m0 (fun a1 m1=>dCI k2 m1 (fun a2 m2=>dCI k3 m2 (fun a3 m3=>dCI k4 m3 (fun a4 m4=>dCI k5 m4 (fun a5 m5=>dCI k6 m5 (K a0 a1 a2 a3 a4 a5)))))))=some r):∃ a0 a1 a2 a3 a4 a5 a6 m,l=.int k0 a0::.int k1 a1::.int k2 a2::.int k3 a3::.int k4 a4::.int k5 a5::.int k6 a6::m∧K a0 a1 a2 a3 a4 a5 a6 m=some r:=by
 replace h:=zQ h;obtain ⟨a0,m,rfl,h⟩:=h
 replace h:=zQ h;obtain ⟨a1,m,rfl,h⟩:=h
 replace h:=zQ h;obtain ⟨a2,m,rfl,h⟩:=h
 replace h:=zQ h;obtain ⟨a3,m,rfl,h⟩:=h
 replace h:=zQ h;obtain ⟨a4,m,rfl,h⟩:=h
 replace h:=zQ h;obtain ⟨a5,m,rfl,h⟩:=h
 replace h:=zQ h;obtain ⟨a6,m,rfl,h⟩:=h
 exact ⟨a0,a1,a2,a3,a4,a5,a6,m,rfl,h⟩
theorem dJ8 {R:Type} {r:R} {k0 k1 k2 k3 k4 k5 k6 k7:IntKind} {l:List TC} {K:Int→Int→Int→Int→Int→Int→Int→Int→List TC→Option R} (h:dCI k0 l (fun a0 m0=>dCI k1 m0 (fun a1 m1=>dCI k2 m1 (fun a2 m2=>dCI k3 m2 (fun a3 m3=>dCI k4 m3 (fun a4 m4=>dCI k5 m4 (fun a5 m5=>dCI k6 m5 (fun a6 m6=>dCI k7 m6 (K a0 a1 a2 a3 a4 a5 a6))))))))=some r):∃ a0 a1 a2 a3 a4 a5 a6 a7 m,l=.int k0 a0::.int k1 a1::.int k2 a2::.int k3 a3::.int k4 a4::.int k5 a5::.int k6 a6::.int k7 a7::m∧K a0 a1 a2 a3 a4 a5 a6 a7 m=some r:=by
 replace h:=zQ h;obtain ⟨a0,m,rfl,h⟩:=h
 replace h:=zQ h;obtain ⟨a1,m,rfl,h⟩:=h
 replace h:=zQ h;obtain ⟨a2,m,rfl,h⟩:=h
 replace h:=zQ h;obtain ⟨a3,m,rfl,h⟩:=h
 replace h:=zQ h;obtain ⟨a4,m,rfl,h⟩:=h
 replace h:=zQ h;obtain ⟨a5,m,rfl,h⟩:=h
 replace h:=zQ h;obtain ⟨a6,m,rfl,h⟩:=h
 replace h:=zQ h;obtain ⟨a7,m,rfl,h⟩:=h
 exact ⟨a0,a1,a2,a3,a4,a5,a6,a7,m,rfl,h⟩
theorem dJ9 {R:Type} {r:R} {k0 k1 k2 k3 k4 k5 k6 k7 k8:IntKind} {l:List TC} {K:Int→Int→Int→Int→Int→Int→Int→Int→Int→List TC→Option R} (h:dCI k0 l (fun a0 m0=>dCI k1 m0 (fun a1 m1=>dCI k2 m1 (fun a2 m2=>dCI k3 m2 (fun a3 m3=>dCI k4 m3 (fun a4 m4=>dCI k5 m4 (fun a5 m5=>dCI k6 m5 (fun a6 m6=>dCI k7 m6 (fun a7 m7=>dCI k8 m7 (K a0 a1 a2 a3 a4 a5 a6 a7)))))))))=some r):∃ a0 a1 a2 a3 a4 a5 a6 a7 a8 m,l=.int k0 a0::.int k1 a1::.int k2 a2::.int k3 a3::.int k4 a4::.int k5 a5::.int k6 a6::.int k7 a7::.int k8 a8::m∧K a0 a1 a2 a3 a4 a5 a6 a7 a8 m=some r:=by
 replace h:=zQ h;obtain ⟨a0,m,rfl,h⟩:=h
 replace h:=zQ h;obtain ⟨a1,m,rfl,h⟩:=h
 replace h:=zQ h;obtain ⟨a2,m,rfl,h⟩:=h
 replace h:=zQ h;obtain ⟨a3,m,rfl,h⟩:=h
 replace h:=zQ h;obtain ⟨a4,m,rfl,h⟩:=h
 replace h:=zQ h;obtain ⟨a5,m,rfl,h⟩:=h
 replace h:=zQ h;obtain ⟨a6,m,rfl,h⟩:=h
 replace h:=zQ h;obtain ⟨a7,m,rfl,h⟩:=h
 replace h:=zQ h;obtain ⟨a8,m,rfl,h⟩:=h
 exact ⟨a0,a1,a2,a3,a4,a5,a6,a7,a8,m,rfl,h⟩
abbrev dK {R:Type} (l:List TC) (K:Int→List TC→Option R):Option R:=dCI .i64 l K
def base:List (FuncId×TAn):=[
 (2,{ a:={ loc:=[],keep:=[] },own:=false,crow:=[],cuts:=[],live:=[],coe:=[],nt:=1 }),
 (3,{ a:={ loc:=[2,6,8],keep:=[],keepR:=[(0,[1,2]),(1,[1,2,5]),(2,[1,2,5,21]),(3,[4]),(4,[1,2,5,6,7]),(5,[5,6,7,8,9]),(6,[4])] },own:=false,crow:=[],cuts:=[4],live:=[(36,[1,2,5],[2]),(37,[4],[]),(38,[4],[]),(39,[4],[])],coe:=[(36,[((1,2,0),3,true),((1,2,1),22,true),((1,2,2),3,true)])],nt:=46 }),
 (11,{ a:={ loc:=[1,3,5,6,8,22],keep:=[] },own:=false,crow:=[],cuts:=[],live:=[],coe:=[],nt:=56 }),
 (12,{ a:={ loc:=[1,5,11,18,23,29],keep:=[(0,[1,3],[1])] },own:=false,crow:=[],cuts:=[],live:=[(0,[1,3],[1]),(2,[1],[1]),(3,[2],[])],coe:=[(0,[((1,1,0),3,true),((1,1,1),22,true),((1,1,2),3,true)])],nt:=34 }),
 (13,{ a:={ loc:=[2,4,9,11,13,21,24,66,68],keep:=[(0,[4,7,9,54,55],[4,9])] },own:=false,crow:=[],cuts:=[],live:=[(0,[4,7,9,54,55],[4,9]),(2,[4,9],[4,9]),(3,[4,5],[4])],coe:=[(0,[((1,4,0),22,true),((1,4,1),3,true),((1,9,0),22,true),((1,9,1),3,true)])],nt:=75 }),
 (14,{ a:={ loc:=[2,4,8,11,26,36,68,70],keep:=[(0,[1,2,4,6],[2,4]),(2,[1,2,4,7,8,10],[2,4,8])] },own:=false,crow:=[],cuts:=[],live:=[(0,[1,2,4,6],[2,4]),(2,[1,2,4],[2,4]),(3,[4,5],[4]),(16,[1,2,4,7,8,10],[2,4,8]),(18,[4,8],[4,8]),(19,[4,5],[4])],coe:=[(0,[((1,2,0),3,true),((1,2,1),22,true),((1,2,2),3,true),((1,4,0),22,true),((1,4,1),3,true)]),(16,[((0,7,0),3,true),((1,2,0),3,true),((1,2,1),22,true),((1,2,2),3,true),((1,4,0),22,true),((1,4,1),3,true),((1,8,0),22,true),((1,8,1),3,true)])],nt:=76 }),
 (15,{ a:={ loc:=[2,3,6,8,12,15,21,23,29,35,40],keep:=[(0,[2,3,5],[2,3])],hst:=[38,43],ro:=[20] },own:=false,crow:=[],cuts:=[],live:=[(0,[2,3,5],[2,3]),(2,[],[]),(3,[4],[])],coe:=[(0,[((1,2,0),22,true),((1,2,1),3,true),((1,3,0),22,true),((1,3,1),3,true)])],nt:=47 }),
 (16,{ a:={ loc:=[2,9,24],keep:=[(0,[1,2,5],[2]),(2,[1,2,5,6],[2])],hst:=[21,27] },own:=false,crow:=[],cuts:=[],live:=[(0,[1,2,5],[2]),(2,[],[]),(3,[4],[]),(16,[1,2,5,6],[2]),(18,[1,2,5],[2]),(19,[4],[])],coe:=[(0,[((0,1,0),22,true),((1,2,0),3,true),((1,2,1),23,true)]),(16,[((0,1,0),22,true),((1,2,0),3,true),((1,2,1),23,true)])],nt:=58 }),
 (17,{ a:={ loc:=[1,2,3,5,9,15,17,25,23],keep:=[(0,[1,2,3,4],[1,2,3])],hst:=[20],rt:=[(15,3),(17,1),(25,3)] },own:=false,crow:=[],cuts:=[],live:=[(0,[1,2,3,4],[1,2,3]),(2,[2,3],[2,3]),(3,[2],[2])],coe:=[(0,[((1,1,0),3,true),((1,1,1),22,true),((1,1,2),3,true),((1,2,0),3,true),((1,2,1),23,true),((1,3,0),3,true),((1,3,1),23,true)])],nt:=27 }),
 (18,{ a:={ loc:=[2,7,17],keep:=[(0,[1,2,5],[2])],hst:=[20],ro:=[35] },own:=false,crow:=[],cuts:=[],live:=[(0,[1,2,5],[2]),(2,[],[]),(3,[4],[])],coe:=[(0,[((0,1,0),22,true),((1,2,0),3,true),((1,2,1),23,true)])],nt:=24 }),
 (19,{ a:={ loc:=[4,5,12,17,21,22,15,19],keep:=[(0,[4,5,9,10],[4,5])],rt:=[(12,5),(17,5),(21,5),(22,5)] },own:=false,crow:=[],cuts:=[],live:=[(0,[4,5,9,10],[4,5]),(2,[4,5],[4,5]),(3,[4],[4])],coe:=[(0,[((1,4,0),3,true),((1,4,1),22,true),((1,4,2),3,true),((1,5,0),3,true),((1,5,1),22,true),((1,5,2),3,true)])],nt:=25 }),
 (20,{ a:={ loc:=[],keep:=[(0,[0,1,5],[])] },own:=false,crow:=[],cuts:=[],live:=[(0,[0,1,5],[]),(2,[],[]),(3,[4],[])],coe:=[(0,[((0,0,0),3,true),((0,1,0),3,true)])],nt:=26 }),
 (21,{ a:={ loc:=[3,29],keep:=[],ro:=[38] },own:=false,crow:=[],cuts:=[],live:=[],coe:=[],nt:=38 }),
 (23,{ a:={ loc:=[],keep:=[] },own:=false,crow:=[],cuts:=[],live:=[],coe:=[],nt:=9 }),
 (24,{ a:={ loc:=[],keep:=[] },own:=false,crow:=[],cuts:=[],live:=[],coe:=[],nt:=5 }),
 (25,{ a:={ loc:=[],keep:=[] },own:=false,crow:=[],cuts:=[],live:=[],coe:=[],nt:=24 }),
 (26,{ a:={ loc:=[1,2,3,6,9,16,22,20],keep:=[(0,[2,3,10,11,12],[2,3])] },own:=false,crow:=[],cuts:=[],live:=[(0,[2,3,10,11,12],[2,3]),(2,[2,3],[2,3]),(3,[2],[2])],coe:=[(0,[((0,10,0),22,true),((1,2,0),3,true),((1,2,1),23,true),((1,3,0),3,true),((1,3,1),23,true)])],nt:=25 }),
 (27,{ a:={ loc:=[1,11,17,38],keep:=[(0,[1,4,5,18,19,20],[1]),(2,[1,4,5,18,19,20,24,25,26],[1])],hst:=[35] },own:=false,crow:=[],cuts:=[],live:=[(0,[1,4,5,18,19,20],[1]),(2,[4,5],[]),(3,[2,3],[]),(16,[1,4,5,18,19,20,24,25,26],[1]),(18,[1,4,5,18,19,20],[1]),(19,[2,3],[])],coe:=[(0,[((0,18,0),22,true),((1,1,0),3,true),((1,1,1),22,true),((1,1,2),3,true)]),(16,[((0,18,0),22,true),((0,24,0),3,true),((1,1,0),3,true),((1,1,1),22,true),((1,1,2),3,true)])],nt:=51 }),
 (28,{ a:={ loc:=[2,4,25,33,54,65,73,75,81,31,63],keep:=[(0,[1,2,4,5,19,20,21],[2,4]),(2,[1,2,4,8,48,49,50],[2,4])],hst:=[1,5,70],rt:=[(25,4),(33,4),(54,4),(65,4)],ldb:=[5] },own:=false,crow:=[],cuts:=[],live:=[(0,[1,2,4,5,19,20,21],[2,4]),(2,[1,2,4,5],[2,4]),(3,[2,3],[2]),(16,[1,2,4,8,48,49,50],[2,4]),(18,[1,2,4],[2,4]),(19,[2,3],[2])],coe:=[(0,[((0,19,0),22,true),((1,2,0),22,true),((1,2,1),3,true),((1,4,0),22,true),((1,4,1),3,true)]),(16,[((0,48,0),3,true),((1,2,0),22,true),((1,2,1),3,true),((1,4,0),22,true),((1,4,1),3,true)])],nt:=85 }),
 (29,{ a:={ loc:=[],keep:=[(0,[0,2,15,16,17],[]),(2,[0,5,6,7,89,90,91],[]),(4,[0,7,135,136],[])],hst:=[129,144] },own:=false,crow:=[],cuts:=[],live:=[(0,[0,2,15,16,17],[]),(2,[0,2],[]),(3,[],[]),(16,[0,5,6,7,89,90,91],[]),(18,[0,7],[]),(19,[],[]),(32,[0,7,135,136],[]),(34,[0,7],[]),(35,[],[])],coe:=[(0,[((0,15,0),3,true)]),(16,[((0,7,0),3,true),((0,89,0),3,true)]),(32,[((0,7,0),3,true)])],nt:=152 }),
 (30,{ a:={ loc:=[1,9,12,18,24],keep:=[(0,[1,3],[1])] },own:=false,crow:=[],cuts:=[],live:=[(0,[1,3],[1]),(2,[],[]),(3,[2],[])],coe:=[(0,[((1,1,0),3,true),((1,1,1),22,true),((1,1,2),3,true)])],nt:=30 }),
 (31,{ a:={ loc:=[2,7,13],keep:=[(0,[1,2,5],[2])] },own:=false,crow:=[],cuts:=[],live:=[(0,[1,2,5],[2]),(2,[],[]),(3,[4],[])],coe:=[(0,[((1,2,0),3,true),((1,2,1),22,true),((1,2,2),3,true)])],nt:=20 }),
 (32,{ a:={ loc:=[1,7,18],keep:=[(0,[1,3,4],[1])] },own:=false,crow:=[],cuts:=[],live:=[(0,[1,3,4],[1]),(2,[3],[]),(3,[2],[])],coe:=[(0,[((0,3,0),3,true),((1,1,0),3,true),((1,1,1),22,true),((1,1,2),3,true)])],nt:=21 }),
 (33,{ a:={ loc:=[2,4,7,19,28,34,40,42,62,68,82,86,88,97,38,80],keep:=[(0,[1,2,4,6,7,8,9],[2,4,7]),(2,[1,2,4,7,8,12],[2,4,7])],hst:=[31,72],rt:=[(68,7),(82,7)],ro:=[57,59] },own:=false,crow:=[],cuts:=[],live:=[(0,[1,2,4,6,7,8,9],[2,4,7]),(2,[1,2,4,7,8],[2,4,7]),(3,[4,5],[4]),(16,[1,2,4,7,8,12],[2,4,7]),(18,[2,4,7],[2,4,7]),(19,[4,5],[4])],coe:=[(0,[((0,1,0),3,true),((0,6,0),3,true),((1,2,0),3,true),((1,2,1),22,true),((1,2,2),3,true),((1,4,0),22,true),((1,4,1),3,true),((1,7,0),22,true),((1,7,1),3,true)]),(16,[((0,1,0),3,true),((1,2,0),3,true),((1,2,1),22,true),((1,2,2),3,true),((1,4,0),22,true),((1,4,1),3,true),((1,7,0),22,true),((1,7,1),3,true)])],nt:=99 }),
 (34,{ a:={ loc:=[2,17,36,46,57,76,82,94,114],keep:=[(0,[1,2,5,6,7],[2]),(2,[1,2,5,6,8,9,10],[2]),(4,[8,9,12],[])],hst:=[70,74,79,85,89,97,102,132] },own:=false,crow:=[],cuts:=[],live:=[(0,[1,2,5,6,7],[2]),(2,[1,2,5,6],[2]),(3,[4],[]),(16,[1,2,5,6,8,9,10],[2]),(18,[8,9],[]),(19,[4],[]),(32,[8,9,12],[]),(34,[8],[]),(35,[4],[])],coe:=[(0,[((0,1,0),3,true),((0,5,0),3,true),((1,2,0),3,true),((1,2,1),22,true),((1,2,2),3,true)]),(16,[((0,1,0),3,true),((0,5,0),3,true),((0,8,0),3,true),((1,2,0),3,true),((1,2,1),22,true),((1,2,2),3,true)]),(32,[((0,8,0),3,true)])],nt:=134 }),
 (35,{ a:={ loc:=[3,11,18,27],keep:=[(0,[1,2,3,7,8],[3]),(2,[1,2,3,7,8,9],[3])],ro:=[55] },own:=false,crow:=[],cuts:=[],live:=[(0,[1,2,3,7,8],[3]),(2,[7],[]),(3,[6],[]),(16,[1,2,3,7,8,9],[3]),(18,[1,2,3,7,8],[3]),(19,[6],[])],coe:=[(0,[((0,1,0),22,true),((1,3,0),3,true),((1,3,1),23,true)]),(16,[((0,1,0),22,true),((1,3,0),3,true),((1,3,1),23,true)])],nt:=47 }),
 (36,{ a:={ loc:=[3,11,18,32],keep:=[(0,[2,3,23,24,25],[3])] },own:=false,crow:=[],cuts:=[],live:=[(0,[2,3,23,24,25],[3]),(2,[2],[]),(3,[6],[])],coe:=[(0,[((0,2,0),3,true),((0,23,0),22,true),((1,3,0),3,true),((1,3,1),23,true)])],nt:=47 }),
 (37,{ a:={ loc:=[3,10,16,20,24,37,41,52,65,78],keep:=[(2,[7,10,42,43,44],[10]),(4,[1,3,5,6,8,57,58,59],[3]),(8,[5,6,8,15,17,79,80,81],[])],hst:=[7,8,35,40,50,55],rt:=[(20,3),(24,3),(37,10),(52,10)] },own:=false,crow:=[],cuts:=[],live:=[(16,[7,10,42,43,44],[10]),(18,[],[]),(19,[6],[]),(32,[1,3,5,6,8,57,58,59],[3]),(34,[1,3,5,6,8],[3]),(35,[6],[]),(64,[5,6,8,15,17,79,80,81],[]),(66,[6,8,15,17],[]),(67,[6],[]),(41,[7,8],[]),(161,[5,6,8],[])],coe:=[(16,[((0,42,0),3,true),((1,10,0),3,true)]),(32,[((0,1,0),22,true),((0,57,0),3,true),((1,3,0),3,true),((1,3,1),23,true)]),(64,[((0,79,0),3,true)])],nt:=106 }),
 (38,{ a:={ loc:=[2,17],keep:=[(0,[2,5,8,9,10],[2])] },own:=false,crow:=[],cuts:=[],live:=[(0,[2,5,8,9,10],[2]),(2,[5],[]),(3,[4],[])],coe:=[(0,[((0,8,0),3,true),((1,2,0),3,true),((1,2,1),23,true)])],nt:=26 }),
 (39,{ a:={ loc:=[],keep:=[] },own:=false,crow:=[],cuts:=[],live:=[],coe:=[],nt:=15 }),
 (40,{ a:={ loc:=[],keep:=[(0,[0,1,7,8],[])] },own:=false,crow:=[],cuts:=[],live:=[(0,[0,1,7,8],[]),(2,[],[]),(3,[4],[])],coe:=[(0,[((0,0,0),3,true)])],nt:=19 }),
 (41,{ a:={ loc:=[],keep:=[] },own:=false,crow:=[],cuts:=[],live:=[],coe:=[],nt:=9 }),
 (42,{ a:={ loc:=[],keep:=[] },own:=false,crow:=[],cuts:=[],live:=[],coe:=[],nt:=5 }),
 (43,{ a:={ loc:=[],keep:=[] },own:=false,crow:=[],cuts:=[],live:=[],coe:=[],nt:=9 }),
 (44,{ a:={ loc:=[],keep:=[] },own:=false,crow:=[],cuts:=[],live:=[],coe:=[],nt:=12 }),
 (45,{ a:={ loc:=[],keep:=[] },own:=false,crow:=[],cuts:=[],live:=[],coe:=[],nt:=9 }),
 (46,{ a:={ loc:=[],keep:=[] },own:=false,crow:=[],cuts:=[],live:=[],coe:=[],nt:=9 }),
 (47,{ a:={ loc:=[],keep:=[(0,[0,1,5,8,9,10],[])] },own:=false,crow:=[],cuts:=[],live:=[(0,[0,1,5,8,9,10],[]),(2,[0],[]),(3,[4],[])],coe:=[(0,[((0,0,0),3,true),((0,8,0),3,true)])],nt:=27 }),
 (48,{ a:={ loc:=[],keep:=[(0,[0,20,21,22],[]),(2,[0,4,20,21,22,30,31,32],[])],hst:=[45],gr:=[52] },own:=false,crow:=[],cuts:=[],live:=[(0,[0,20,21,22],[]),(2,[],[]),(3,[],[]),(16,[0,4,20,21,22,30,31,32],[]),(18,[0,20,21,22],[]),(19,[],[])],coe:=[(0,[((0,20,0),22,true)]),(16,[((0,20,0),22,true),((0,30,0),3,true)])],nt:=48 }),
 (49,{ a:={ loc:=[],keep:=[],gr:=[52] },own:=false,crow:=[],cuts:=[],live:=[],coe:=[],nt:=13 }),
 (50,{ a:={ loc:=[],keep:=[(0,[1,5,14,15,16],[])] },own:=false,crow:=[],cuts:=[],live:=[(0,[1,5,14,15,16],[]),(2,[5],[]),(3,[4],[])],coe:=[(0,[((0,14,0),22,true)])],nt:=27 }),
 (51,{ a:={ loc:=[],keep:=[],hst:=[1,2],gr:=[52] },own:=false,crow:=[],cuts:=[],live:=[],coe:=[],nt:=12 }),
 (52,{ a:={ loc:=[],keep:=[],ro:=[70] },own:=false,crow:=[],cuts:=[],live:=[],coe:=[],nt:=8 }),
 (53,{ a:={ loc:=[],keep:=[(0,[0,3,4],[])] },own:=false,crow:=[],cuts:=[],live:=[(0,[0,3,4],[]),(2,[3],[]),(3,[2],[])],coe:=[(0,[((0,0,0),3,true)])],nt:=25 }),
 (54,{ a:={ loc:=[1,7,12,18,24,30,36,43,51,57,80],keep:=[(0,[1,3],[1]),(2,[1,4],[1]),(4,[1,4,5,6],[1])],hst:=[78],ro:=[72] },own:=false,crow:=[],cuts:=[],live:=[(0,[1,3],[1]),(2,[1],[1]),(3,[2],[]),(16,[1,4],[1]),(18,[],[]),(19,[2],[]),(32,[1,4,5,6],[1]),(34,[1,4],[1]),(35,[2],[])],coe:=[(0,[((1,1,0),3,true),((1,1,1),23,true)]),(16,[((1,1,0),3,true),((1,1,1),23,true)]),(32,[((0,5,0),22,true),((1,1,0),3,true),((1,1,1),23,true)])],nt:=85 }),
 (55,{ a:={ loc:=[],keep:=[(0,[0,1,5],[])] },own:=false,crow:=[],cuts:=[],live:=[(0,[0,1,5],[]),(2,[],[]),(3,[4],[])],coe:=[(0,[((0,0,0),3,true)])],nt:=18 }),
 (56,{ a:={ loc:=[2,10,17,23,32,42],keep:=[(0,[1,2,5,6],[2]),(2,[1,2,5,6,7,8],[2])] },own:=false,crow:=[],cuts:=[],live:=[(0,[1,2,5,6],[2]),(2,[5],[]),(3,[4],[]),(16,[1,2,5,6,7,8],[2]),(18,[1,2,5,6,7],[2]),(19,[4],[])],coe:=[(0,[((0,1,0),3,true),((0,5,0),3,true),((1,2,0),3,true),((1,2,1),22,true),((1,2,2),3,true)]),(16,[((0,1,0),3,true),((0,5,0),3,true),((1,2,0),3,true),((1,2,1),22,true),((1,2,2),3,true)])],nt:=45 }),
 (57,{ a:={ loc:=[4,24],keep:=[(0,[2,3,4,9,10,11],[4])],ro:=[58] },own:=false,crow:=[],cuts:=[],live:=[(0,[2,3,4,9,10,11],[4]),(2,[10],[]),(3,[8],[])],coe:=[(0,[((0,2,0),3,true),((0,3,0),3,true),((1,4,0),3,true),((1,4,1),22,true),((1,4,2),3,true)])],nt:=51 }),
 (58,{ a:={ loc:=[],keep:=[(0,[0,1,5,6],[])] },own:=false,crow:=[],cuts:=[],live:=[(0,[0,1,5,6],[]),(2,[5],[]),(3,[4],[])],coe:=[(0,[((0,0,0),3,true),((0,1,0),3,true)])],nt:=23 }),
 (59,{ a:={ loc:=[3,32],keep:=[],ro:=[16,54,73,74,75] },own:=false,crow:=[],cuts:=[],live:=[],coe:=[],nt:=41 }),
 (60,{ a:={ loc:=[],keep:=[] },own:=false,crow:=[],cuts:=[],live:=[],coe:=[],nt:=5 }),
 (61,{ a:={ loc:=[],keep:=[] },own:=false,crow:=[],cuts:=[],live:=[],coe:=[],nt:=5 }),
 (62,{ a:={ loc:=[],keep:=[] },own:=false,crow:=[],cuts:=[],live:=[],coe:=[],nt:=6 }),
 (63,{ a:={ loc:=[],keep:=[] },own:=false,crow:=[],cuts:=[],live:=[],coe:=[],nt:=8 }),
 (64,{ a:={ loc:=[],keep:=[] },own:=false,crow:=[],cuts:=[],live:=[],coe:=[],nt:=9 }),
 (65,{ a:={ loc:=[],keep:=[] },own:=false,crow:=[],cuts:=[],live:=[],coe:=[],nt:=8 }),
 (66,{ a:={ loc:=[],keep:=[] },own:=false,crow:=[],cuts:=[],live:=[],coe:=[],nt:=9 }),
 (67,{ a:={ loc:=[],keep:=[] },own:=false,crow:=[],cuts:=[],live:=[],coe:=[],nt:=8 }),
 (68,{ a:={ loc:=[],keep:=[(0,[1,5,14,15,16],[])] },own:=false,crow:=[],cuts:=[],live:=[(0,[1,5,14,15,16],[]),(2,[5],[]),(3,[4],[])],coe:=[(0,[((0,14,0),3,true)])],nt:=27 }),
 (69,{ a:={ loc:=[],keep:=[] },own:=false,crow:=[],cuts:=[],live:=[],coe:=[],nt:=24 }),
 (70,{ a:={ loc:=[],keep:=[(0,[1,5,8,9,10],[])],ro:=[71],rov:=true },own:=false,crow:=[],cuts:=[],live:=[(0,[1,5,8,9,10],[]),(2,[5],[]),(3,[4],[])],coe:=[(0,[((0,8,0),3,true)])],nt:=21 }),
 (71,{ a:={ loc:=[],keep:=[] },own:=false,crow:=[],cuts:=[],live:=[],coe:=[],nt:=11 }),
 (72,{ a:={ loc:=[],keep:=[(0,[0,1,5],[])] },own:=false,crow:=[],cuts:=[],live:=[(0,[0,1,5],[]),(2,[0],[]),(3,[4],[])],coe:=[(0,[((0,0,0),3,true)])],nt:=49 }),
 (73,{ a:={ loc:=[2,26],keep:=[(0,[1,2,5],[2])] },own:=false,crow:=[],cuts:=[],live:=[(0,[1,2,5],[2]),(2,[1,2],[2]),(3,[4],[])],coe:=[(0,[((0,1,0),3,true),((1,2,0),3,true),((1,2,1),23,true)])],nt:=30 }),
 (74,{ a:={ loc:=[3,16,35,44],keep:=[(0,[1,2,3,7],[3]),(2,[1,2,3,7,9,10],[3])],ro:=[18,79,80] },own:=false,crow:=[],cuts:=[],live:=[(0,[1,2,3,7],[3]),(2,[],[]),(3,[6],[]),(16,[1,2,3,7,9,10],[3]),(18,[1,2,3,7],[3]),(19,[6],[])],coe:=[(0,[((0,1,0),22,true),((0,2,0),3,true),((1,3,0),3,true),((1,3,1),23,true)]),(16,[((0,1,0),22,true),((0,2,0),3,true),((1,3,0),3,true),((1,3,1),23,true)])],nt:=56 }),
 (75,{ a:={ loc:=[2,18],keep:=[(0,[1,2,5,6],[2])] },own:=false,crow:=[],cuts:=[],live:=[(0,[1,2,5,6],[2]),(2,[5],[]),(3,[4],[])],coe:=[(0,[((0,1,0),3,true),((1,2,0),3,true),((1,2,1),23,true)])],nt:=26 }),
 (76,{ a:={ loc:=[],keep:=[(0,[0,2,9,10,11],[]),(2,[0,2,4,9,10,11,16,17,18],[])] },own:=false,crow:=[],cuts:=[],live:=[(0,[0,2,9,10,11],[]),(2,[],[]),(3,[],[]),(16,[0,2,4,9,10,11,16,17,18],[]),(18,[0,2,9,10,11],[]),(19,[],[])],coe:=[(0,[((0,9,0),23,true)]),(16,[((0,9,0),23,true),((0,16,0),22,true)])],nt:=38 }),
 (77,{ a:={ loc:=[],keep:=[(0,[0,1,7,8],[])] },own:=false,crow:=[],cuts:=[],live:=[(0,[0,1,7,8],[]),(2,[],[]),(3,[4],[])],coe:=[(0,[((0,0,0),23,true)])],nt:=19 }),
 (78,{ a:={ loc:=[],keep:=[(0,[0,1,7,8],[])] },own:=false,crow:=[],cuts:=[],live:=[(0,[0,1,7,8],[]),(2,[],[]),(3,[4],[])],coe:=[(0,[((0,0,0),22,true)])],nt:=19 }),
 (79,{ a:={ loc:=[],keep:=[(0,[0,3,4],[])] },own:=false,crow:=[],cuts:=[],live:=[(0,[0,3,4],[]),(2,[3],[]),(3,[2],[])],coe:=[(0,[((0,0,0),3,true)])],nt:=18 }),
 (80,{ a:={ loc:=[],keep:=[(0,[0,1,5,6],[])] },own:=false,crow:=[],cuts:=[],live:=[(0,[0,1,5,6],[]),(2,[5],[]),(3,[4],[])],coe:=[(0,[((0,0,0),3,true),((0,1,0),3,true)])],nt:=23 })]
def o0:OrcT:=[]
def t0:TellT:=[]
abbrev tn0:FuncId→TAn:=ze base o0 t0
theorem names:yz Try.prog=true:=by kernel_rfl
theorem mixed:Try.prog.follows .mixedOrders=true:=by kernel_rfl
theorem ok0:TnOk Try.prog tn0 (mkA base) dOk:=tn_nil (by kernel_rfl)
abbrev OKT (T:FuncId→TAn):=TnOk Try.prog T (mkA base) dOk
noncomputable def v39 (x0 x1 x2:Int):Option Bool:=(cond (decide (x1≤x0)) (some (decide (x0≤x2))) (some (false)))
theorem ev39 (x0 x1 x2:Int):zn zP (tn0 39) (TM.evF zP (tn0) dOk 40) dOk 40 39 [.sc (I4 x0),.sc (I4 x1),.sc (I4 x2)] []=(v39 x0 x1 x2).bind fun r=>some ([.sc (.bool (r))],[]):=by
 refine Eq.trans (b:=(cond (decide (x1≤x0)) (some ([.sc (.bool (decide (x0≤x2)))],[])) (some ([.sc (.bool (false))],[])))) (by kernel_rfl) ?_
 unfold v39
 with_reducible repeat' refine zj ?_ ?_
 all_goals rfl
noncomputable def sv39:OrcS:=fun al H=>dC al fun y1 l2=>dS y1 fun y3=>yO .i64 y3 fun x0=>dC l2 fun y4 l5=>dS y4 fun y6=>yO .i64 y6 fun x1=>dC l5 fun y7 l8=>dS y7 fun y9=>yO .i64 y9 fun x2=>dE l8<|dE H <|  some [(ok (v39 x0 x1 x2),[.sc (.bool ((val (v39 x0 x1 x2))))],[])]
theorem wv39:zl zP dOk base o0 t0 (39,sv39):=by
 intro al H q hq rs H2 h2
 change sv39 al H=_ at hq
 unfold sv39 at hq
 repeat with_reducible first|replace hq:=dCq hq;obtain ⟨_,_,rfl,hq⟩:=hq|(first|replace hq:=dSq hq|replace hq:=yV hq);obtain ⟨_,rfl,hq⟩:=hq|replace hq:=dEq hq;obtain ⟨rfl,hq⟩:=hq
 cases hq
 obtain ⟨hc0,rfl,rfl⟩:=zd h2
 exact ⟨41,(zu (by kernel_rfl)).trans ((ev39 _ _ _).trans (zh (zc hc0)))⟩
noncomputable def o1:OrcT:=(39,sv39)::o0
noncomputable def t1:TellT:=t0
abbrev tn1:=ze base o1 t1
theorem ok1:OKT tn1:=zm ok0 ok0 (p:=(39,sv39)) wv39
noncomputable def v42 (x0:Int):Option Bool:=(cond (ok (v39 x0 0 (1000:Int))) (some (val (v39 x0 0 (1000:Int)))) none)
theorem ev42 (x0:Int):zn zP (tn1 42) (TM.evF zP (tn1) dOk 40) dOk 40 42 [.sc (I4 x0)] []=(v42 x0).bind fun r=>some ([.sc (.bool (r))],[]):=by
 refine Eq.trans (b:=(cond (ok (v39 x0 0 (1000:Int))) (some ([.sc (.bool (val (v39 x0 0 (1000:Int))))],[])) none)) (by kernel_rfl) ?_
 unfold v42
 with_reducible repeat' refine zj ?_ ?_
 all_goals rfl
noncomputable def sv42:OrcS:=fun al H=>dC al fun y1 l2=>dS y1 fun y3=>yO .i64 y3 fun x0=>dE l2<|dE H <|  some [(ok (v42 x0),[.sc (.bool ((val (v42 x0))))],[])]
theorem wv42:zl zP dOk base o1 t1 (42,sv42):=by
 intro al H q hq rs H2 h2
 change sv42 al H=_ at hq
 unfold sv42 at hq
 obtain ⟨_,_,rfl,g1⟩:=dCq hq
 obtain ⟨_,rfl,g2⟩:=dSq g1
 obtain ⟨_,rfl,g3⟩:=yV g2
 obtain ⟨rfl,g4⟩:=dEq g3
 obtain ⟨rfl,g5⟩:=dEq g4
 cases g5
 obtain ⟨hc0,rfl,rfl⟩:=zd h2
 exact ⟨41,(zu (by kernel_rfl)).trans ((ev42 _).trans (zh (zc hc0)))⟩
noncomputable def o2:OrcT:=(42,sv42)::o1
noncomputable def t2:TellT:=t1
abbrev tn2:=ze base o2 t2
theorem ok2:OKT tn2:=zm ok1 ok1 (p:=(42,sv42)) wv42
noncomputable def v63 (x0:Int):Option Bool:=(cond (ok (v42 x0)) (some (!val (v42 x0))) none)
theorem ev63 (x0:Int):zn zP (tn2 63) (TM.evF zP (tn2) dOk 40) dOk 40 63 [.sc (I4 x0),.sc (.ptr 0 0)] [.box 52 [.fn 42 0 [] []]]=(v63 x0).bind fun r=>some ([.sc (.bool (r))],[.box 52 [.fn 42 0 [] []]]):=by
 refine Eq.trans (b:=(cond (ok (v42 x0)) (some ([.sc (.bool (!val (v42 x0)))],[.box 52 [.fn 42 0 [] []]])) none)) (by kernel_rfl) ?_
 unfold v63
 with_reducible repeat' refine zj ?_ ?_
 all_goals rfl
noncomputable def sv63:OrcS:=fun al H=>dC al fun y1 l2=>dS y1 fun y3=>yO .i64 y3 fun x0=>dC l2 fun y4 l5=>dS y4 fun y6=>zp 0 0 y6<|dE l5<|dHB 52 H fun y8 l7=>dC y8 fun y9 l10=>dFn 42 0 [] y9 fun y11=>dE y11<|dE l10<|dE l7 <|  some [(ok (v63 x0),[.sc (.bool ((val (v63 x0))))],[.box 52 [.fn 42 0 [] []]])]
theorem wv63:zl zP dOk base o2 t2 (63,sv63):=by
 intro al H q hq rs H2 h2
 change sv63 al H=_ at hq
 unfold sv63 at hq
 repeat with_reducible first|(first|replace hq:=dCq hq|replace hq:=zM hq);obtain ⟨_,_,rfl,hq⟩:=hq|(first|replace hq:=dSq hq|replace hq:=yV hq|replace hq:=yt hq);obtain ⟨_,rfl,hq⟩:=hq|(first|replace hq:=zx hq|replace hq:=dEq hq);obtain ⟨rfl,hq⟩:=hq
 cases hq
 obtain ⟨hc0,rfl,rfl⟩:=zd h2
 exact ⟨41,(zu (by kernel_rfl)).trans ((ev63 _).trans (zh (zc hc0)))⟩
noncomputable def o3:OrcT:=(63,sv63)::o2
noncomputable def t3:TellT:=t2
abbrev tn3:=ze base o3 t3
theorem ok3:OKT tn3:=zm ok2 ok2 (p:=(63,sv63)) wv63
noncomputable def Lbg:Nat→LI→Int→Int→Option (Int ⊕ Unit)
 | 0,_,_,_=>none
 | n+1,x0,x1,x2=>(cond (decide (x2 < x1)) (cond (decide (0≤x2)) (cond (decide (x2 < (x0.length:Int))) (cond (ok (v63 (List.getD x0 x2.toNat 0))) (cond (val (v63 (List.getD x0 x2.toNat 0))) (some (.inl x2)) (Lbg n x0 x1 (IntKind.wrap IntKind.i64 (x2+(1:Int))))) none) none) none) (some (.inr ())))
theorem qLbg:type_of% @Lbg.eq_2:=@Lbg.eq_2
noncomputable def xLbg (x0:LI) (x1 x2:Int):(Int ⊕ Unit)→Ex×CS:=fun r=>match r with | .inl a0=>(.ret,{ sl:=[(4,.v (.sc (I4 (a0))))],lo:=[],h:=[.box 52 [.fn 42 0 [] []]],n0:=1,w:=true }) | .inr b0=>((.exit 0),{ sl:=[],lo:=[],h:=[.box 52 [.fn 42 0 [] []]],n0:=1,w:=false })
abbrev cLbg (x0:LI) (x1 x2:Int):CS:={ sl:=[(0,.v (.sc (.d 3 iT x0))),(1,.v (.sc (.fn 63 0 [none] [.ptr 0 0]))),(7,.v (.sc (I4 x1))),(8,.v (.sc (I4 x2)))],lo:=[],h:=[.box 52 [.fn 42 0 [] []]],n0:=1,w:=false }
theorem bLbg (k:Nat) (cN:KN) (cX:KX) (x0:LI) (x1 x2:Int):zi zP (tn3 40) (TM.evF zP (tn3) dOk (k+40)) dOk (k+40) (za zP (tn0 40) 40 0) 0 0 (cLbg x0 x1 x2) cN cX=(cond (decide (x2 < x1)) (cond (decide (0≤x2)) (cond (decide (x2 < (x0.length:Int))) (cond (ok (v63 (List.getD x0 x2.toNat 0))) (cond (val (v63 (List.getD x0 x2.toNat 0))) (cX .ret { sl:=[(4,.v (.sc (I4 x2)))],lo:=[],h:=[.box 52 [.fn 42 0 [] []]],n0:=1,w:=true }) (cN (cLbg x0 x1 (IntKind.wrap IntKind.i64 (x2+(1:Int)))))) none) none) none) (cX (.exit 0) { sl:=[],lo:=[],h:=[.box 52 [.fn 42 0 [] []]],n0:=1,w:=false })):=by kernel_rfl
theorem lLbg (k m:Nat):∀ (n:Nat) (x0:LI) (x1 x2:Int) (r:(Int ⊕ Unit)),Lbg n x0 x1 x2=some r→zw zP (tn3 40) (TM.evF zP (tn3) dOk (k+40)) dOk (k+40) (za zP (tn0 40) 40 0) 0 0 (n+m) (cLbg x0 x1 x2)=some (xLbg x0 x1 x2 r):=by
 intro n
 induction n with
 | zero=>intro _ _ _ r h;cases h
 | succ n ih=>
  intro x0 x1 x2 r
  rw [show n+1+m=n+m+1 by omega,zf,bLbg,qLbg]
  with_reducible repeat' refine zS ?_ ?_
  all_goals first | exact ih _ _ _ r | (intro h;cases h;done) | (intro h;cases h;rfl)
noncomputable def sLbg:TellS:=fun S=>dCS 1 S fun y1 y2 y3=>dSs 0 y1 fun y5 l4=>dD 3 iT y5 fun x0=>dSs 1 l4 fun y7 l6=>dFn 63 0 [none] y7 fun y8=>dC y8 fun y9 l10=>zp 0 0 y9<|dE l10<|dSI 7 .i64 l6 fun x1 l11=>dSI 8 .i64 l11 fun x2 l12=>dE l12<|dE y2<|dHB 52 y3 fun y14 l13=>dC y14 fun y15 l16=>dFn 42 0 [] y15 fun y17=>dE y17<|dE l16<|dE l13 <|  some [(isL (Lbg FU x0 x1 x2),.ret,{ sl:=[(4,.v (.sc (I4 ((zH (Lbg FU x0 x1 x2))))))],lo:=[],h:=[.box 52 [.fn 42 0 [] []]],n0:=1,w:=true }),(ok (zA (Lbg FU x0 x1 x2)),(.exit 0),{ sl:=[],lo:=[],h:=[.box 52 [.fn 42 0 [] []]],n0:=1,w:=false })]
theorem wLbg:zo zP dOk base o3 t3 ((40,0),sLbg):=by
 refine ⟨.loop (za zP (tn0 40) 40 0),0,by kernel_rfl,?_⟩
 intro S alts e S' h1 h2
 change sLbg S=_ at h1
 unfold sLbg at h1
 repeat with_reducible first|replace h1:=zE h1;obtain ⟨_,_,_,rfl,h1⟩:=h1|(first|replace h1:=zJ h1|replace h1:=dCq h1|replace h1:=zF h1|replace h1:=zM h1);obtain ⟨_,_,rfl,h1⟩:=h1|(first|replace h1:=dDq h1|replace h1:=yt h1);obtain ⟨_,rfl,h1⟩:=h1|(first|replace h1:=zx h1|replace h1:=dEq h1);obtain ⟨rfl,h1⟩:=h1
 cases h1
 rcases zK h2 with ⟨hc0,rfl,rfl⟩ | h2
 · exact ⟨FU+40,(zb rfl).trans (lLbg FU 40 FU _ _ _ _ (zT hc0))⟩
 obtain ⟨hc1,rfl,rfl⟩:=zk h2
 exact ⟨FU+40,(zb rfl).trans (lLbg FU 40 FU _ _ _ _ (zN (zc hc1)))⟩
noncomputable def o4:OrcT:=o3
noncomputable def t4:TellT:=((40,0),sLbg)::t3
abbrev tn4:=ze base o4 t4
theorem ok4:OKT tn4:=zq ok3 ok3 (p:=((40,0),sLbg)) wLbg
noncomputable def tv40 {β:Type} (x0:LI) (K:Int→Option β):Option β:=(cond (isL (Lbg FU x0 (x0.length:Int) 0)) (K (zH (Lbg FU x0 (x0.length:Int) 0))) (cond (ok (zA (Lbg FU x0 (x0.length:Int) 0))) (K ((-1:Int))) none))
noncomputable def v40 (x0:LI):Option Int:=tv40 x0 some
theorem ev40 (x0:LI):zn zP (tn4 40) (TM.evF zP (tn4) dOk 40) dOk 40 40 [.sc (.d 3 iT x0),.sc (.fn 63 0 [none] [.ptr 0 0])] [.box 52 [.fn 42 0 [] []]]=(v40 x0).bind fun r=>some ([.sc (I4 (r))],[.box 52 [.fn 42 0 [] []]]):=by
 refine Eq.trans (b:=tv40 x0 fun r=>some ([.sc (I4 (r))],[.box 52 [.fn 42 0 [] []]])) (by kernel_rfl) ?_
 unfold v40 tv40
 with_reducible repeat' refine zj ?_ ?_
 all_goals rfl
noncomputable def sv40:OrcS:=fun al H=>dC al fun y1 l2=>dS y1 fun y3=>dD 3 iT y3 fun x0=>dC l2 fun y4 l5=>dS y4 fun y6=>dFn 63 0 [none] y6 fun y7=>dC y7 fun y8 l9=>zp 0 0 y8<|dE l9<|dE l5<|dHB 52 H fun y11 l10=>dC y11 fun y12 l13=>dFn 42 0 [] y12 fun y14=>dE y14<|dE l13<|dE l10 <|  some [(ok (v40 x0),[.sc (I4 ((val (v40 x0))))],[.box 52 [.fn 42 0 [] []]])]
theorem wv40:zl zP dOk base o4 t4 (40,sv40):=by
 intro al H q hq rs H2 h2
 change sv40 al H=_ at hq
 unfold sv40 at hq
 repeat with_reducible first|(first|replace hq:=dCq hq|replace hq:=zM hq);obtain ⟨_,_,rfl,hq⟩:=hq|(first|replace hq:=dSq hq|replace hq:=dDq hq|replace hq:=yt hq);obtain ⟨_,rfl,hq⟩:=hq|(first|replace hq:=zx hq|replace hq:=dEq hq);obtain ⟨rfl,hq⟩:=hq
 cases hq
 obtain ⟨hc0,rfl,rfl⟩:=zd h2
 exact ⟨41,(zu (by kernel_rfl)).trans ((ev40 _).trans (zh (zc hc0)))⟩
noncomputable def o5:OrcT:=(40,sv40)::o4
noncomputable def t5:TellT:=t4
abbrev tn5:=ze base o5 t5
theorem ok5:OKT tn5:=zm ok4 ok4 (p:=(40,sv40)) wv40
noncomputable def v23 (x0:LI):Option Bool:=(cond (ok (v40 x0)) (some (decide (val (v40 x0)≥0))) none)
theorem ev23 (x0:LI):zn zP (tn5 23) (TM.evF zP (tn5) dOk 40) dOk 40 23 [.sc (.d 3 iT x0),.sc (.fn 63 0 [none] [.ptr 0 0])] [.box 52 [.fn 42 0 [] []]]=(v23 x0).bind fun r=>some ([.sc (.bool (r))],[.box 52 [.fn 42 0 [] []]]):=by
 refine Eq.trans (b:=(cond (ok (v40 x0)) (some ([.sc (.bool (decide (val (v40 x0)≥0)))],[.box 52 [.fn 42 0 [] []]])) none)) (by kernel_rfl) ?_
 unfold v23
 with_reducible repeat' refine zj ?_ ?_
 all_goals rfl
noncomputable def sv23:OrcS:=fun al H=>dC al fun y1 l2=>dS y1 fun y3=>dD 3 iT y3 fun x0=>dC l2 fun y4 l5=>dS y4 fun y6=>dFn 63 0 [none] y6 fun y7=>dC y7 fun y8 l9=>zp 0 0 y8<|dE l9<|dE l5<|dHB 52 H fun y11 l10=>dC y11 fun y12 l13=>dFn 42 0 [] y12 fun y14=>dE y14<|dE l13<|dE l10 <|  some [(ok (v23 x0),[.sc (.bool ((val (v23 x0))))],[.box 52 [.fn 42 0 [] []]])]
theorem wv23:zl zP dOk base o5 t5 (23,sv23):=by
 intro al H q hq rs H2 h2
 change sv23 al H=_ at hq
 unfold sv23 at hq
 repeat with_reducible first|(first|replace hq:=dCq hq|replace hq:=zM hq);obtain ⟨_,_,rfl,hq⟩:=hq|(first|replace hq:=dSq hq|replace hq:=dDq hq|replace hq:=yt hq);obtain ⟨_,rfl,hq⟩:=hq|(first|replace hq:=zx hq|replace hq:=dEq hq);obtain ⟨rfl,hq⟩:=hq
 cases hq
 obtain ⟨hc0,rfl,rfl⟩:=zd h2
 exact ⟨41,(zu (by kernel_rfl)).trans ((ev23 _).trans (zh (zc hc0)))⟩
noncomputable def o6:OrcT:=(23,sv23)::o5
noncomputable def t6:TellT:=t5
abbrev tn6:=ze base o6 t6
theorem ok6:OKT tn6:=zm ok5 ok5 (p:=(23,sv23)) wv23
noncomputable def v41 (x0:LI):Option Bool:=(cond (ok (v23 x0)) (some (!val (v23 x0))) none)
theorem ev41 (x0:LI):zn zP (tn6 41) (TM.evF zP (tn6) dOk 40) dOk 40 41 [.sc (.d 3 iT x0),.sc (.fn 42 0 [] [])] []=(v41 x0).bind fun r=>some ([.sc (.bool (r))],[]):=by
 refine Eq.trans (b:=(cond (ok (v23 x0)) (some ([.sc (.bool (!val (v23 x0)))],[])) none)) (by kernel_rfl) ?_
 unfold v41
 with_reducible repeat' refine zj ?_ ?_
 all_goals rfl
noncomputable def sv41:OrcS:=fun al H=>dC al fun y1 l2=>dS y1 fun y3=>dD 3 iT y3 fun x0=>dC l2 fun y4 l5=>dS y4 fun y6=>dFn 42 0 [] y6 fun y7=>dE y7<|dE l5<|dE H <|  some [(ok (v41 x0),[.sc (.bool ((val (v41 x0))))],[])]
theorem wv41:zl zP dOk base o6 t6 (41,sv41):=by
 intro al H q hq rs H2 h2
 change sv41 al H=_ at hq
 unfold sv41 at hq
 repeat with_reducible first|replace hq:=dCq hq;obtain ⟨_,_,rfl,hq⟩:=hq|(first|replace hq:=dSq hq|replace hq:=dDq hq|replace hq:=yt hq);obtain ⟨_,rfl,hq⟩:=hq|replace hq:=dEq hq;obtain ⟨rfl,hq⟩:=hq
 cases hq
 obtain ⟨hc0,rfl,rfl⟩:=zd h2
 exact ⟨41,(zu (by kernel_rfl)).trans ((ev41 _).trans (zh (zc hc0)))⟩
noncomputable def o7:OrcT:=(41,sv41)::o6
noncomputable def t7:TellT:=t6
abbrev tn7:=ze base o7 t7
theorem ok7:OKT tn7:=zm ok6 ok6 (p:=(41,sv41)) wv41
noncomputable def Lbm:Nat→LI→Int→Int→LI→Int→Int→Option (Bool ⊕ Unit)
 | 0,_,_,_,_,_,_=>none
 | n+1,x0,x1,x2,x3,x4,x5=>(cond (decide (x5 < x4)) (cond (decide (0≤x5)) (cond (decide (x5 < (x3.length:Int))) (cond (decide (List.getD x3 x5.toNat 0≤x2)) (some (.inl (false))) (cond (decide (List.getD x3 x5.toNat 0≥x1)) (some (.inl (false))) (Lbm n x0 x1 (List.getD x3 x5.toNat 0) x3 x4 (IntKind.wrap IntKind.i64 (x5+(1:Int)))))) none) none) (some (.inr ())))
theorem qLbm:type_of% @Lbm.eq_2:=@Lbm.eq_2
noncomputable def xLbm (x0:LI) (x1 x2:Int) (x3:LI) (x4 x5:Int):(Bool ⊕ Unit)→Ex×CS:=fun r=>match r with | .inl a0=>(.ret,{ sl:=[(4,.v (.sc (.bool (a0))))],lo:=[],h:=[],n0:=0,w:=true }) | .inr b0=>((.exit 0),{ sl:=[(0,.v (.sc (.d 3 iT x0)))],lo:=[],h:=[],n0:=0,w:=false })
abbrev cLbm (x0:LI) (x1 x2:Int) (x3:LI) (x4 x5:Int):CS:={ sl:=[(0,.v (.sc (.d 3 iT x0))),(1,.v (.sc (I4 x1))),(5,.v (.sc (I4 x2))),(8,.v (.sc (.d 3 iT x3))),(9,.v (.sc (I4 x4))),(10,.v (.sc (I4 x5)))],lo:=[],h:=[],n0:=0,w:=false }
theorem bLbm (k:Nat) (cN:KN) (cX:KX) (x0:LI) (x1 x2:Int) (x3:LI) (x4 x5:Int):zi zP (tn7 47) (TM.evF zP (tn7) dOk (k+40)) dOk (k+40) (za zP (tn0 47) 47 0) 0 0 (cLbm x0 x1 x2 x3 x4 x5) cN cX=(cond (decide (x5 < x4)) (cond (decide (0≤x5)) (cond (decide (x5 < (x3.length:Int))) (cond (decide (List.getD x3 x5.toNat 0≤x2)) (cX .ret { sl:=[(4,.v (.sc (.bool (false))))],lo:=[],h:=[],n0:=0,w:=true }) (cond (decide (List.getD x3 x5.toNat 0≥x1)) (cX .ret { sl:=[(4,.v (.sc (.bool (false))))],lo:=[],h:=[],n0:=0,w:=true }) (cN (cLbm x0 x1 (List.getD x3 x5.toNat 0) x3 x4 (IntKind.wrap IntKind.i64 (x5+(1:Int))))))) none) none) (cX (.exit 0) { sl:=[(0,.v (.sc (.d 3 iT x0)))],lo:=[],h:=[],n0:=0,w:=false })):=by kernel_rfl
theorem lLbm (k m:Nat):∀ (n:Nat) (x0:LI) (x1 x2:Int) (x3:LI) (x4 x5:Int) (r:(Bool ⊕ Unit)),Lbm n x0 x1 x2 x3 x4 x5=some r→zw zP (tn7 47) (TM.evF zP (tn7) dOk (k+40)) dOk (k+40) (za zP (tn0 47) 47 0) 0 0 (n+m) (cLbm x0 x1 x2 x3 x4 x5)=some (xLbm x0 x1 x2 x3 x4 x5 r):=by
 intro n
 induction n with
 | zero=>intro _ _ _ _ _ _ r h;cases h
 | succ n ih=>
  intro x0 x1 x2 x3 x4 x5 r
  rw [show n+1+m=n+m+1 by omega,zf,bLbm,qLbm]
  with_reducible repeat' refine zS ?_ ?_
  all_goals first | exact ih _ _ _ _ _ _ r | (intro h;cases h;done) | (intro h;cases h;rfl)
noncomputable def sLbm:TellS:=fun S=>dCS 0 S fun y1 y2 y3=>dSs 0 y1 fun y5 l4=>dD 3 iT y5 fun x0=>dSI 1 .i64 l4 fun x1 l6=>dSI 5 .i64 l6 fun x2 l7=>dSs 8 l7 fun y9 l8=>dD 3 iT y9 fun x3=>dSI 9 .i64 l8 fun x4 l10=>dSI 10 .i64 l10 fun x5 l11=>dE l11<|dE y2<|dE y3 <|  some [(isL (Lbm FU x0 x1 x2 x3 x4 x5),.ret,{ sl:=[(4,.v (.sc (.bool ((zH (Lbm FU x0 x1 x2 x3 x4 x5))))))],lo:=[],h:=[],n0:=0,w:=true }),(ok (zA (Lbm FU x0 x1 x2 x3 x4 x5)),(.exit 0),{ sl:=[(0,.v (.sc (.d 3 iT x0)))],lo:=[],h:=[],n0:=0,w:=false })]
theorem wLbm:zo zP dOk base o7 t7 ((47,0),sLbm):=by
 refine ⟨.loop (za zP (tn0 47) 47 0),0,by kernel_rfl,?_⟩
 intro S alts e S' h1 h2
 change sLbm S=_ at h1
 unfold sLbm at h1
 repeat with_reducible first|replace h1:=zE h1;obtain ⟨_,_,_,rfl,h1⟩:=h1|(first|replace h1:=zJ h1|replace h1:=zF h1);obtain ⟨_,_,rfl,h1⟩:=h1|replace h1:=dDq h1;obtain ⟨_,rfl,h1⟩:=h1|replace h1:=dEq h1;obtain ⟨rfl,h1⟩:=h1
 cases h1
 rcases zK h2 with ⟨hc0,rfl,rfl⟩ | h2
 · exact ⟨FU+40,(zb rfl).trans (lLbm FU 40 FU _ _ _ _ _ _ _ (zT hc0))⟩
 obtain ⟨hc1,rfl,rfl⟩:=zk h2
 exact ⟨FU+40,(zb rfl).trans (lLbm FU 40 FU _ _ _ _ _ _ _ (zN (zc hc1)))⟩
noncomputable def o8:OrcT:=o7
noncomputable def t8:TellT:=((47,0),sLbm)::t7
abbrev tn8:=ze base o8 t8
theorem ok8:OKT tn8:=zq ok7 ok7 (p:=((47,0),sLbm)) wLbm
noncomputable def tv47 {β:Type} (x0:LI) (x1:Int) (K:Bool→Option β):Option β:=(cond (isL (Lbm FU x0 x1 (-1:Int) x0 (x0.length:Int) 0)) (K (zH (Lbm FU x0 x1 (-1:Int) x0 (x0.length:Int) 0))) (cond (ok (zA (Lbm FU x0 x1 (-1:Int) x0 (x0.length:Int) 0))) (cond (ok (v39 (x0.length:Int) (1:Int) (6:Int))) (K (val (v39 (x0.length:Int) (1:Int) (6:Int)))) none) none))
noncomputable def v47 (x0:LI) (x1:Int):Option Bool:=tv47 x0 x1 some
theorem ev47 (x0:LI) (x1:Int):zn zP (tn8 47) (TM.evF zP (tn8) dOk 40) dOk 40 47 [.sc (.d 3 iT x0),.sc (I4 x1)] []=(v47 x0 x1).bind fun r=>some ([.sc (.bool (r))],[]):=by
 refine Eq.trans (b:=tv47 x0 x1 fun r=>some ([.sc (.bool (r))],[])) (by kernel_rfl) ?_
 unfold v47 tv47
 with_reducible repeat' refine zj ?_ ?_
 all_goals rfl
noncomputable def sv47:OrcS:=fun al H=>dC al fun y1 l2=>dS y1 fun y3=>dD 3 iT y3 fun x0=>dC l2 fun y4 l5=>dS y4 fun y6=>yO .i64 y6 fun x1=>dE l5<|dE H <|  some [(ok (v47 x0 x1),[.sc (.bool ((val (v47 x0 x1))))],[])]
theorem wv47:zl zP dOk base o8 t8 (47,sv47):=by
 intro al H q hq rs H2 h2
 change sv47 al H=_ at hq
 unfold sv47 at hq
 repeat with_reducible first|replace hq:=dCq hq;obtain ⟨_,_,rfl,hq⟩:=hq|(first|replace hq:=dSq hq|replace hq:=dDq hq|replace hq:=yV hq);obtain ⟨_,rfl,hq⟩:=hq|replace hq:=dEq hq;obtain ⟨rfl,hq⟩:=hq
 cases hq
 obtain ⟨hc0,rfl,rfl⟩:=zd h2
 exact ⟨41,(zu (by kernel_rfl)).trans ((ev47 _ _).trans (zh (zc hc0)))⟩
noncomputable def o9:OrcT:=(47,sv47)::o8
noncomputable def t9:TellT:=t8
abbrev tn9:=ze base o9 t9
theorem ok9:OKT tn9:=zm ok8 ok8 (p:=(47,sv47)) wv47
noncomputable def v46 (x0:LI) (x1:LI) (x2:L3):Option Bool:=(cond (ok (v47 x0 (x1.length:Int))) (some (val (v47 x0 (x1.length:Int)))) none)
theorem ev46 (x0:LI) (x1:LI) (x2:L3):zn zP (tn9 46) (TM.evF zP (tn9) dOk 40) dOk 40 46 [.sc (.d 3 iT x0),.sc (.ptr 0 0)] [.box 38 [.d 3 iT (x1),.d 23 mT (x2)]]=(v46 x0 x1 x2).bind fun r=>some ([.sc (.bool (r))],[.box 38 [.d 3 iT (x1),.d 23 mT (x2)]]):=by
 refine Eq.trans (b:=(cond (ok (v47 x0 (x1.length:Int))) (some ([.sc (.bool (val (v47 x0 (x1.length:Int))))],[.box 38 [.d 3 iT (x1),.d 23 mT (x2)]])) none)) (by kernel_rfl) ?_
 unfold v46
 with_reducible repeat' refine zj ?_ ?_
 all_goals rfl
noncomputable def sv46:OrcS:=fun al H=>dC al fun y1 l2=>dS y1 fun y3=>dD 3 iT y3 fun x0=>dC l2 fun y4 l5=>dS y4 fun y6=>zp 0 0 y6<|dE l5<|dHB 38 H fun y8 l7=>dC y8 fun y9 l10=>dD 3 iT y9 fun x1=>dC l10 fun y11 l12=>dD 23 mT y11 fun x2=>dE l12<|dE l7 <|  some [(ok (v46 x0 x1 x2),[.sc (.bool ((val (v46 x0 x1 x2))))],[.box 38 [.d 3 iT (x1),.d 23 mT (x2)]])]
theorem wv46:zl zP dOk base o9 t9 (46,sv46):=by
 intro al H q hq rs H2 h2
 change sv46 al H=_ at hq
 unfold sv46 at hq
 repeat with_reducible first|(first|replace hq:=dCq hq|replace hq:=zM hq);obtain ⟨_,_,rfl,hq⟩:=hq|(first|replace hq:=dSq hq|replace hq:=dDq hq);obtain ⟨_,rfl,hq⟩:=hq|(first|replace hq:=zx hq|replace hq:=dEq hq);obtain ⟨rfl,hq⟩:=hq
 cases hq
 obtain ⟨hc0,rfl,rfl⟩:=zd h2
 exact ⟨41,(zu (by kernel_rfl)).trans ((ev46 _ _ _).trans (zh (zc hc0)))⟩
noncomputable def o10:OrcT:=(46,sv46)::o9
noncomputable def t10:TellT:=t9
abbrev tn10:=ze base o10 t10
theorem ok10:OKT tn10:=zm ok9 ok9 (p:=(46,sv46)) wv46
noncomputable def v67 (x0:LI) (x1:LI) (x2:L3):Option Bool:=(cond (ok (v46 x0 x1 x2)) (some (!val (v46 x0 x1 x2))) none)
theorem ev67 (x0:LI) (x1:LI) (x2:L3):zn zP (tn10 67) (TM.evF zP (tn10) dOk 40) dOk 40 67 [.sc (.d 3 iT x0),.sc (.ptr 0 0)] [.box 70 [.fn 46 0 [none] [.ptr 1 0]],.box 38 [.d 3 iT (x1),.d 23 mT (x2)]]=(v67 x0 x1 x2).bind fun r=>some ([.sc (.bool (r))],[.box 70 [.fn 46 0 [none] [.ptr 1 0]],.box 38 [.d 3 iT (x1),.d 23 mT (x2)]]):=by
 refine Eq.trans (b:=(cond (ok (v46 x0 x1 x2)) (some ([.sc (.bool (!val (v46 x0 x1 x2)))],[.box 70 [.fn 46 0 [none] [.ptr 1 0]],.box 38 [.d 3 iT (x1),.d 23 mT (x2)]])) none)) (by kernel_rfl) ?_
 unfold v67
 with_reducible repeat' refine zj ?_ ?_
 all_goals rfl
noncomputable def sv67:OrcS:=fun al H=>dC al fun y1 l2=>dS y1 fun y3=>dD 3 iT y3 fun x0=>dC l2 fun y4 l5=>dS y4 fun y6=>zp 0 0 y6<|dE l5<|dHB 70 H fun y8 l7=>dC y8 fun y9 l10=>dFn 46 0 [none] y9 fun y11=>dC y11 fun y12 l13=>zp 1 0 y12<|dE l13<|dE l10<|dHB 38 l7 fun y15 l14=>dC y15 fun y16 l17=>dD 3 iT y16 fun x1=>dC l17 fun y18 l19=>dD 23 mT y18 fun x2=>dE l19<|dE l14 <|  some [(ok (v67 x0 x1 x2),[.sc (.bool ((val (v67 x0 x1 x2))))],[.box 70 [.fn 46 0 [none] [.ptr 1 0]],.box 38 [.d 3 iT (x1),.d 23 mT (x2)]])]
theorem wv67:zl zP dOk base o10 t10 (67,sv67):=by
 intro al H q hq rs H2 h2
 change sv67 al H=_ at hq
 unfold sv67 at hq
 repeat with_reducible first|(first|replace hq:=dCq hq|replace hq:=zM hq);obtain ⟨_,_,rfl,hq⟩:=hq|(first|replace hq:=dSq hq|replace hq:=dDq hq|replace hq:=yt hq);obtain ⟨_,rfl,hq⟩:=hq|(first|replace hq:=zx hq|replace hq:=dEq hq);obtain ⟨rfl,hq⟩:=hq
 cases hq
 obtain ⟨hc0,rfl,rfl⟩:=zd h2
 exact ⟨41,(zu (by kernel_rfl)).trans ((ev67 _ _ _).trans (zh (zc hc0)))⟩
noncomputable def o11:OrcT:=(67,sv67)::o10
noncomputable def t11:TellT:=t10
abbrev tn11:=ze base o11 t11
theorem ok11:OKT tn11:=zm ok10 ok10 (p:=(67,sv67)) wv67
noncomputable def Lbc:Nat→LL→Int→Int→LI→L3→Option (Int ⊕ Unit)
 | 0,_,_,_,_,_=>none
 | n+1,x0,x1,x2,x3,x4=>(cond (decide (x2 < x1)) (cond (decide (0≤x2)) (cond (decide (x2 < (x0.length:Int))) (cond (ok (v67 (List.getD x0 x2.toNat []) x3 x4)) (cond (val (v67 (List.getD x0 x2.toNat []) x3 x4)) (some (.inl x2)) (Lbc n x0 x1 (IntKind.wrap IntKind.i64 (x2+(1:Int))) x3 x4)) none) none) none) (some (.inr ())))
theorem qLbc:type_of% @Lbc.eq_2:=@Lbc.eq_2
noncomputable def xLbc (x0:LL) (x1 x2:Int) (x3:LI) (x4:L3):(Int ⊕ Unit)→Ex×CS:=fun r=>match r with | .inl a0=>(.ret,{ sl:=[(4,.v (.sc (I4 (a0))))],lo:=[],h:=[.box 70 [.fn 46 0 [none] [.ptr 1 0]],.box 38 [.d 3 iT (x3),.d 23 mT (x4)]],n0:=2,w:=true }) | .inr b0=>((.exit 0),{ sl:=[],lo:=[],h:=[.box 70 [.fn 46 0 [none] [.ptr 1 0]],.box 38 [.d 3 iT (x3),.d 23 mT (x4)]],n0:=2,w:=false })
abbrev cLbc (x0:LL) (x1 x2:Int) (x3:LI) (x4:L3):CS:={ sl:=[(0,.v (.sc (.d 22 lT x0))),(1,.v (.sc (.fn 67 0 [none] [.ptr 0 0]))),(7,.v (.sc (I4 x1))),(8,.v (.sc (I4 x2)))],lo:=[],h:=[.box 70 [.fn 46 0 [none] [.ptr 1 0]],.box 38 [.d 3 iT (x3),.d 23 mT (x4)]],n0:=2,w:=false }
theorem bLbc (k:Nat) (cN:KN) (cX:KX) (x0:LL) (x1 x2:Int) (x3:LI) (x4:L3):zi zP (tn11 78) (TM.evF zP (tn11) dOk (k+40)) dOk (k+40) (za zP (tn0 78) 78 0) 0 0 (cLbc x0 x1 x2 x3 x4) cN cX=(cond (decide (x2 < x1)) (cond (decide (0≤x2)) (cond (decide (x2 < (x0.length:Int))) (cond (ok (v67 (List.getD x0 x2.toNat []) x3 x4)) (cond (val (v67 (List.getD x0 x2.toNat []) x3 x4)) (cX .ret { sl:=[(4,.v (.sc (I4 x2)))],lo:=[],h:=[.box 70 [.fn 46 0 [none] [.ptr 1 0]],.box 38 [.d 3 iT (x3),.d 23 mT (x4)]],n0:=2,w:=true }) (cN (cLbc x0 x1 (IntKind.wrap IntKind.i64 (x2+(1:Int))) x3 x4))) none) none) none) (cX (.exit 0) { sl:=[],lo:=[],h:=[.box 70 [.fn 46 0 [none] [.ptr 1 0]],.box 38 [.d 3 iT (x3),.d 23 mT (x4)]],n0:=2,w:=false })):=by kernel_rfl
theorem lLbc (k m:Nat):∀ (n:Nat) (x0:LL) (x1 x2:Int) (x3:LI) (x4:L3) (r:(Int ⊕ Unit)),Lbc n x0 x1 x2 x3 x4=some r→zw zP (tn11 78) (TM.evF zP (tn11) dOk (k+40)) dOk (k+40) (za zP (tn0 78) 78 0) 0 0 (n+m) (cLbc x0 x1 x2 x3 x4)=some (xLbc x0 x1 x2 x3 x4 r):=by
 intro n
 induction n with
 | zero=>intro _ _ _ _ _ r h;cases h
 | succ n ih=>
  intro x0 x1 x2 x3 x4 r
  rw [show n+1+m=n+m+1 by omega,zf,bLbc,qLbc]
  with_reducible repeat' refine zS ?_ ?_
  all_goals first | exact ih _ _ _ _ _ r | (intro h;cases h;done) | (intro h;cases h;rfl)
noncomputable def sLbc:TellS:=fun S=>dCS 2 S fun y1 y2 y3=>dSs 0 y1 fun y5 l4=>dD 22 lT y5 fun x0=>dSs 1 l4 fun y7 l6=>dFn 67 0 [none] y7 fun y8=>dC y8 fun y9 l10=>zp 0 0 y9<|dE l10<|dSI 7 .i64 l6 fun x1 l11=>dSI 8 .i64 l11 fun x2 l12=>dE l12<|dE y2<|dHB 70 y3 fun y14 l13=>dC y14 fun y15 l16=>dFn 46 0 [none] y15 fun y17=>dC y17 fun y18 l19=>zp 1 0 y18<|dE l19<|dE l16<|dHB 38 l13 fun y21 l20=>dC y21 fun y22 l23=>dD 3 iT y22 fun x3=>dC l23 fun y24 l25=>dD 23 mT y24 fun x4=>dE l25<|dE l20 <|  some [(isL (Lbc FU x0 x1 x2 x3 x4),.ret,{ sl:=[(4,.v (.sc (I4 ((zH (Lbc FU x0 x1 x2 x3 x4))))))],lo:=[],h:=[.box 70 [.fn 46 0 [none] [.ptr 1 0]],.box 38 [.d 3 iT (x3),.d 23 mT (x4)]],n0:=2,w:=true }),(ok (zA (Lbc FU x0 x1 x2 x3 x4)),(.exit 0),{ sl:=[],lo:=[],h:=[.box 70 [.fn 46 0 [none] [.ptr 1 0]],.box 38 [.d 3 iT (x3),.d 23 mT (x4)]],n0:=2,w:=false })]
theorem wLbc:zo zP dOk base o11 t11 ((78,0),sLbc):=by
 refine ⟨.loop (za zP (tn0 78) 78 0),0,by kernel_rfl,?_⟩
 intro S alts e S' h1 h2
 change sLbc S=_ at h1
 unfold sLbc at h1
 repeat with_reducible first|replace h1:=zE h1;obtain ⟨_,_,_,rfl,h1⟩:=h1|(first|replace h1:=zJ h1|replace h1:=dCq h1|replace h1:=zF h1|replace h1:=zM h1);obtain ⟨_,_,rfl,h1⟩:=h1|(first|replace h1:=dDq h1|replace h1:=yt h1);obtain ⟨_,rfl,h1⟩:=h1|(first|replace h1:=zx h1|replace h1:=dEq h1);obtain ⟨rfl,h1⟩:=h1
 cases h1
 rcases zK h2 with ⟨hc0,rfl,rfl⟩ | h2
 · exact ⟨FU+40,(zb rfl).trans (lLbc FU 40 FU _ _ _ _ _ _ (zT hc0))⟩
 obtain ⟨hc1,rfl,rfl⟩:=zk h2
 exact ⟨FU+40,(zb rfl).trans (lLbc FU 40 FU _ _ _ _ _ _ (zN (zc hc1)))⟩
noncomputable def o12:OrcT:=o11
noncomputable def t12:TellT:=((78,0),sLbc)::t11
abbrev tn12:=ze base o12 t12
theorem ok12:OKT tn12:=zq ok11 ok11 (p:=((78,0),sLbc)) wLbc
noncomputable def tv78 {β:Type} (x0:LL) (x1:LI) (x2:L3) (K:Int→Option β):Option β:=(cond (isL (Lbc FU x0 (x0.length:Int) 0 x1 x2)) (K (zH (Lbc FU x0 (x0.length:Int) 0 x1 x2))) (cond (ok (zA (Lbc FU x0 (x0.length:Int) 0 x1 x2))) (K ((-1:Int))) none))
noncomputable def v78 (x0:LL) (x1:LI) (x2:L3):Option Int:=tv78 x0 x1 x2 some
theorem ev78 (x0:LL) (x1:LI) (x2:L3):zn zP (tn12 78) (TM.evF zP (tn12) dOk 40) dOk 40 78 [.sc (.d 22 lT x0),.sc (.fn 67 0 [none] [.ptr 0 0])] [.box 70 [.fn 46 0 [none] [.ptr 1 0]],.box 38 [.d 3 iT (x1),.d 23 mT (x2)]]=(v78 x0 x1 x2).bind fun r=>some ([.sc (I4 (r))],[.box 70 [.fn 46 0 [none] [.ptr 1 0]],.box 38 [.d 3 iT (x1),.d 23 mT (x2)]]):=by
 refine Eq.trans (b:=tv78 x0 x1 x2 fun r=>some ([.sc (I4 (r))],[.box 70 [.fn 46 0 [none] [.ptr 1 0]],.box 38 [.d 3 iT (x1),.d 23 mT (x2)]])) (by kernel_rfl) ?_
 unfold v78 tv78
 with_reducible repeat' refine zj ?_ ?_
 all_goals rfl
noncomputable def sv78:OrcS:=fun al H=>dC al fun y1 l2=>dS y1 fun y3=>dD 22 lT y3 fun x0=>dC l2 fun y4 l5=>dS y4 fun y6=>dFn 67 0 [none] y6 fun y7=>dC y7 fun y8 l9=>zp 0 0 y8<|dE l9<|dE l5<|dHB 70 H fun y11 l10=>dC y11 fun y12 l13=>dFn 46 0 [none] y12 fun y14=>dC y14 fun y15 l16=>zp 1 0 y15<|dE l16<|dE l13<|dHB 38 l10 fun y18 l17=>dC y18 fun y19 l20=>dD 3 iT y19 fun x1=>dC l20 fun y21 l22=>dD 23 mT y21 fun x2=>dE l22<|dE l17 <|  some [(ok (v78 x0 x1 x2),[.sc (I4 ((val (v78 x0 x1 x2))))],[.box 70 [.fn 46 0 [none] [.ptr 1 0]],.box 38 [.d 3 iT (x1),.d 23 mT (x2)]])]
theorem wv78:zl zP dOk base o12 t12 (78,sv78):=by
 intro al H q hq rs H2 h2
 change sv78 al H=_ at hq
 unfold sv78 at hq
 repeat with_reducible first|(first|replace hq:=dCq hq|replace hq:=zM hq);obtain ⟨_,_,rfl,hq⟩:=hq|(first|replace hq:=dSq hq|replace hq:=dDq hq|replace hq:=yt hq);obtain ⟨_,rfl,hq⟩:=hq|(first|replace hq:=zx hq|replace hq:=dEq hq);obtain ⟨rfl,hq⟩:=hq
 cases hq
 obtain ⟨hc0,rfl,rfl⟩:=zd h2
 exact ⟨41,(zu (by kernel_rfl)).trans ((ev78 _ _ _).trans (zh (zc hc0)))⟩
noncomputable def o13:OrcT:=(78,sv78)::o12
noncomputable def t13:TellT:=t12
abbrev tn13:=ze base o13 t13
theorem ok13:OKT tn13:=zm ok12 ok12 (p:=(78,sv78)) wv78
noncomputable def v66 (x0:LL) (x1:LI) (x2:L3):Option Bool:=(cond (ok (v78 x0 x1 x2)) (some (decide (val (v78 x0 x1 x2)≥0))) none)
theorem ev66 (x0:LL) (x1:LI) (x2:L3):zn zP (tn13 66) (TM.evF zP (tn13) dOk 40) dOk 40 66 [.sc (.d 22 lT x0),.sc (.fn 67 0 [none] [.ptr 0 0])] [.box 70 [.fn 46 0 [none] [.ptr 1 0]],.box 38 [.d 3 iT (x1),.d 23 mT (x2)]]=(v66 x0 x1 x2).bind fun r=>some ([.sc (.bool (r))],[.box 70 [.fn 46 0 [none] [.ptr 1 0]],.box 38 [.d 3 iT (x1),.d 23 mT (x2)]]):=by
 refine Eq.trans (b:=(cond (ok (v78 x0 x1 x2)) (some ([.sc (.bool (decide (val (v78 x0 x1 x2)≥0)))],[.box 70 [.fn 46 0 [none] [.ptr 1 0]],.box 38 [.d 3 iT (x1),.d 23 mT (x2)]])) none)) (by kernel_rfl) ?_
 unfold v66
 with_reducible repeat' refine zj ?_ ?_
 all_goals rfl
noncomputable def sv66:OrcS:=fun al H=>dC al fun y1 l2=>dS y1 fun y3=>dD 22 lT y3 fun x0=>dC l2 fun y4 l5=>dS y4 fun y6=>dFn 67 0 [none] y6 fun y7=>dC y7 fun y8 l9=>zp 0 0 y8<|dE l9<|dE l5<|dHB 70 H fun y11 l10=>dC y11 fun y12 l13=>dFn 46 0 [none] y12 fun y14=>dC y14 fun y15 l16=>zp 1 0 y15<|dE l16<|dE l13<|dHB 38 l10 fun y18 l17=>dC y18 fun y19 l20=>dD 3 iT y19 fun x1=>dC l20 fun y21 l22=>dD 23 mT y21 fun x2=>dE l22<|dE l17 <|  some [(ok (v66 x0 x1 x2),[.sc (.bool ((val (v66 x0 x1 x2))))],[.box 70 [.fn 46 0 [none] [.ptr 1 0]],.box 38 [.d 3 iT (x1),.d 23 mT (x2)]])]
theorem wv66:zl zP dOk base o13 t13 (66,sv66):=by
 intro al H q hq rs H2 h2
 change sv66 al H=_ at hq
 unfold sv66 at hq
 repeat with_reducible first|(first|replace hq:=dCq hq|replace hq:=zM hq);obtain ⟨_,_,rfl,hq⟩:=hq|(first|replace hq:=dSq hq|replace hq:=dDq hq|replace hq:=yt hq);obtain ⟨_,rfl,hq⟩:=hq|(first|replace hq:=zx hq|replace hq:=dEq hq);obtain ⟨rfl,hq⟩:=hq
 cases hq
 obtain ⟨hc0,rfl,rfl⟩:=zd h2
 exact ⟨41,(zu (by kernel_rfl)).trans ((ev66 _ _ _).trans (zh (zc hc0)))⟩
noncomputable def o14:OrcT:=(66,sv66)::o13
noncomputable def t14:TellT:=t13
abbrev tn14:=ze base o14 t14
theorem ok14:OKT tn14:=zm ok13 ok13 (p:=(66,sv66)) wv66
noncomputable def v45 (x0:LL) (x1:LI) (x2:L3):Option Bool:=(cond (ok (v66 x0 x1 x2)) (some (!val (v66 x0 x1 x2))) none)
theorem ev45 (x0:LL) (x1:LI) (x2:L3):zn zP (tn14 45) (TM.evF zP (tn14) dOk 40) dOk 40 45 [.sc (.d 22 lT x0),.sc (.fn 46 0 [none] [.ptr 0 0])] [.box 38 [.d 3 iT (x1),.d 23 mT (x2)]]=(v45 x0 x1 x2).bind fun r=>some ([.sc (.bool (r))],[.box 38 [.d 3 iT (x1),.d 23 mT (x2)]]):=by
 refine Eq.trans (b:=(cond (ok (v66 x0 x1 x2)) (some ([.sc (.bool (!val (v66 x0 x1 x2)))],[.box 38 [.d 3 iT (x1),.d 23 mT (x2)]])) none)) (by kernel_rfl) ?_
 unfold v45
 with_reducible repeat' refine zj ?_ ?_
 all_goals rfl
noncomputable def sv45:OrcS:=fun al H=>dC al fun y1 l2=>dS y1 fun y3=>dD 22 lT y3 fun x0=>dC l2 fun y4 l5=>dS y4 fun y6=>dFn 46 0 [none] y6 fun y7=>dC y7 fun y8 l9=>zp 0 0 y8<|dE l9<|dE l5<|dHB 38 H fun y11 l10=>dC y11 fun y12 l13=>dD 3 iT y12 fun x1=>dC l13 fun y14 l15=>dD 23 mT y14 fun x2=>dE l15<|dE l10 <|  some [(ok (v45 x0 x1 x2),[.sc (.bool ((val (v45 x0 x1 x2))))],[.box 38 [.d 3 iT (x1),.d 23 mT (x2)]])]
theorem wv45:zl zP dOk base o14 t14 (45,sv45):=by
 intro al H q hq rs H2 h2
 change sv45 al H=_ at hq
 unfold sv45 at hq
 repeat with_reducible first|(first|replace hq:=dCq hq|replace hq:=zM hq);obtain ⟨_,_,rfl,hq⟩:=hq|(first|replace hq:=dSq hq|replace hq:=dDq hq|replace hq:=yt hq);obtain ⟨_,rfl,hq⟩:=hq|(first|replace hq:=zx hq|replace hq:=dEq hq);obtain ⟨rfl,hq⟩:=hq
 cases hq
 obtain ⟨hc0,rfl,rfl⟩:=zd h2
 exact ⟨41,(zu (by kernel_rfl)).trans ((ev45 _ _ _).trans (zh (zc hc0)))⟩
noncomputable def o15:OrcT:=(45,sv45)::o14
noncomputable def t15:TellT:=t14
abbrev tn15:=ze base o15 t15
theorem ok15:OKT tn15:=zm ok14 ok14 (p:=(45,sv45)) wv45
noncomputable def tv44 {β:Type} (x0:LL) (x1:LI) (x2:L3) (K:Bool→Option β):Option β:=(cond (ok (v39 (x0.length:Int) (1:Int) (4:Int))) (cond (val (v39 (x0.length:Int) (1:Int) (4:Int))) (cond (ok (v45 x0 x1 x2)) (K (val (v45 x0 x1 x2))) none) (K (false))) none)
noncomputable def v44 (x0:LL) (x1:LI) (x2:L3):Option Bool:=tv44 x0 x1 x2 some
theorem ev44 (x0:LL) (x1:LI) (x2:L3):zn zP (tn15 44) (TM.evF zP (tn15) dOk 40) dOk 40 44 [.sc (.d 22 lT x0),.sc (.ptr 0 0)] [.box 38 [.d 3 iT (x1),.d 23 mT (x2)]]=(v44 x0 x1 x2).bind fun r=>some ([.sc (.bool (r))],[.box 38 [.d 3 iT (x1),.d 23 mT (x2)]]):=by
 refine Eq.trans (b:=tv44 x0 x1 x2 fun r=>some ([.sc (.bool (r))],[.box 38 [.d 3 iT (x1),.d 23 mT (x2)]])) (by kernel_rfl) ?_
 unfold v44 tv44
 with_reducible repeat' refine zj ?_ ?_
 all_goals rfl
noncomputable def sv44:OrcS:=fun al H=>dC al fun y1 l2=>dS y1 fun y3=>dD 22 lT y3 fun x0=>dC l2 fun y4 l5=>dS y4 fun y6=>zp 0 0 y6<|dE l5<|dHB 38 H fun y8 l7=>dC y8 fun y9 l10=>dD 3 iT y9 fun x1=>dC l10 fun y11 l12=>dD 23 mT y11 fun x2=>dE l12<|dE l7 <|  some [(ok (v44 x0 x1 x2),[.sc (.bool ((val (v44 x0 x1 x2))))],[.box 38 [.d 3 iT (x1),.d 23 mT (x2)]])]
theorem wv44:zl zP dOk base o15 t15 (44,sv44):=by
 intro al H q hq rs H2 h2
 change sv44 al H=_ at hq
 unfold sv44 at hq
 repeat with_reducible first|(first|replace hq:=dCq hq|replace hq:=zM hq);obtain ⟨_,_,rfl,hq⟩:=hq|(first|replace hq:=dSq hq|replace hq:=dDq hq);obtain ⟨_,rfl,hq⟩:=hq|(first|replace hq:=zx hq|replace hq:=dEq hq);obtain ⟨rfl,hq⟩:=hq
 cases hq
 obtain ⟨hc0,rfl,rfl⟩:=zd h2
 exact ⟨41,(zu (by kernel_rfl)).trans ((ev44 _ _ _).trans (zh (zc hc0)))⟩
noncomputable def o16:OrcT:=(44,sv44)::o15
noncomputable def t16:TellT:=t15
abbrev tn16:=ze base o16 t16
theorem ok16:OKT tn16:=zm ok15 ok15 (p:=(44,sv44)) wv44
noncomputable def v65 (x0:LL) (x1:LI) (x2:L3):Option Bool:=(cond (ok (v44 x0 x1 x2)) (some (!val (v44 x0 x1 x2))) none)
theorem ev65 (x0:LL) (x1:LI) (x2:L3):zn zP (tn16 65) (TM.evF zP (tn16) dOk 40) dOk 40 65 [.sc (.d 22 lT x0),.sc (.ptr 0 0)] [.box 71 [.fn 44 0 [none] [.ptr 1 0]],.box 38 [.d 3 iT (x1),.d 23 mT (x2)]]=(v65 x0 x1 x2).bind fun r=>some ([.sc (.bool (r))],[.box 71 [.fn 44 0 [none] [.ptr 1 0]],.box 38 [.d 3 iT (x1),.d 23 mT (x2)]]):=by
 refine Eq.trans (b:=(cond (ok (v44 x0 x1 x2)) (some ([.sc (.bool (!val (v44 x0 x1 x2)))],[.box 71 [.fn 44 0 [none] [.ptr 1 0]],.box 38 [.d 3 iT (x1),.d 23 mT (x2)]])) none)) (by kernel_rfl) ?_
 unfold v65
 with_reducible repeat' refine zj ?_ ?_
 all_goals rfl
noncomputable def sv65:OrcS:=fun al H=>dC al fun y1 l2=>dS y1 fun y3=>dD 22 lT y3 fun x0=>dC l2 fun y4 l5=>dS y4 fun y6=>zp 0 0 y6<|dE l5<|dHB 71 H fun y8 l7=>dC y8 fun y9 l10=>dFn 44 0 [none] y9 fun y11=>dC y11 fun y12 l13=>zp 1 0 y12<|dE l13<|dE l10<|dHB 38 l7 fun y15 l14=>dC y15 fun y16 l17=>dD 3 iT y16 fun x1=>dC l17 fun y18 l19=>dD 23 mT y18 fun x2=>dE l19<|dE l14 <|  some [(ok (v65 x0 x1 x2),[.sc (.bool ((val (v65 x0 x1 x2))))],[.box 71 [.fn 44 0 [none] [.ptr 1 0]],.box 38 [.d 3 iT (x1),.d 23 mT (x2)]])]
theorem wv65:zl zP dOk base o16 t16 (65,sv65):=by
 intro al H q hq rs H2 h2
 change sv65 al H=_ at hq
 unfold sv65 at hq
 repeat with_reducible first|(first|replace hq:=dCq hq|replace hq:=zM hq);obtain ⟨_,_,rfl,hq⟩:=hq|(first|replace hq:=dSq hq|replace hq:=dDq hq|replace hq:=yt hq);obtain ⟨_,rfl,hq⟩:=hq|(first|replace hq:=zx hq|replace hq:=dEq hq);obtain ⟨rfl,hq⟩:=hq
 cases hq
 obtain ⟨hc0,rfl,rfl⟩:=zd h2
 exact ⟨41,(zu (by kernel_rfl)).trans ((ev65 _ _ _).trans (zh (zc hc0)))⟩
noncomputable def o17:OrcT:=(65,sv65)::o16
noncomputable def t17:TellT:=t16
abbrev tn17:=ze base o17 t17
theorem ok17:OKT tn17:=zm ok16 ok16 (p:=(65,sv65)) wv65
noncomputable def Lbj:Nat→L3→Int→Int→LI→L3→Option (Int ⊕ Unit)
 | 0,_,_,_,_,_=>none
 | n+1,x0,x1,x2,x3,x4=>(cond (decide (x2 < x1)) (cond (decide (0≤x2)) (cond (decide (x2 < (x0.length:Int))) (cond (ok (v65 (List.getD x0 x2.toNat []) x3 x4)) (cond (val (v65 (List.getD x0 x2.toNat []) x3 x4)) (some (.inl x2)) (Lbj n x0 x1 (IntKind.wrap IntKind.i64 (x2+(1:Int))) x3 x4)) none) none) none) (some (.inr ())))
theorem qLbj:type_of% @Lbj.eq_2:=@Lbj.eq_2
noncomputable def xLbj (x0:L3) (x1 x2:Int) (x3:LI) (x4:L3):(Int ⊕ Unit)→Ex×CS:=fun r=>match r with | .inl a0=>(.ret,{ sl:=[(4,.v (.sc (I4 (a0))))],lo:=[],h:=[.box 71 [.fn 44 0 [none] [.ptr 1 0]],.box 38 [.d 3 iT (x3),.d 23 mT (x4)]],n0:=2,w:=true }) | .inr b0=>((.exit 0),{ sl:=[],lo:=[],h:=[.box 71 [.fn 44 0 [none] [.ptr 1 0]],.box 38 [.d 3 iT (x3),.d 23 mT (x4)]],n0:=2,w:=false })
abbrev cLbj (x0:L3) (x1 x2:Int) (x3:LI) (x4:L3):CS:={ sl:=[(0,.v (.sc (.d 23 mT x0))),(1,.v (.sc (.fn 65 0 [none] [.ptr 0 0]))),(7,.v (.sc (I4 x1))),(8,.v (.sc (I4 x2)))],lo:=[],h:=[.box 71 [.fn 44 0 [none] [.ptr 1 0]],.box 38 [.d 3 iT (x3),.d 23 mT (x4)]],n0:=2,w:=false }
theorem bLbj (k:Nat) (cN:KN) (cX:KX) (x0:L3) (x1 x2:Int) (x3:LI) (x4:L3):zi zP (tn17 77) (TM.evF zP (tn17) dOk (k+40)) dOk (k+40) (za zP (tn0 77) 77 0) 0 0 (cLbj x0 x1 x2 x3 x4) cN cX=(cond (decide (x2 < x1)) (cond (decide (0≤x2)) (cond (decide (x2 < (x0.length:Int))) (cond (ok (v65 (List.getD x0 x2.toNat []) x3 x4)) (cond (val (v65 (List.getD x0 x2.toNat []) x3 x4)) (cX .ret { sl:=[(4,.v (.sc (I4 x2)))],lo:=[],h:=[.box 71 [.fn 44 0 [none] [.ptr 1 0]],.box 38 [.d 3 iT (x3),.d 23 mT (x4)]],n0:=2,w:=true }) (cN (cLbj x0 x1 (IntKind.wrap IntKind.i64 (x2+(1:Int))) x3 x4))) none) none) none) (cX (.exit 0) { sl:=[],lo:=[],h:=[.box 71 [.fn 44 0 [none] [.ptr 1 0]],.box 38 [.d 3 iT (x3),.d 23 mT (x4)]],n0:=2,w:=false })):=by kernel_rfl
theorem lLbj (k m:Nat):∀ (n:Nat) (x0:L3) (x1 x2:Int) (x3:LI) (x4:L3) (r:(Int ⊕ Unit)),Lbj n x0 x1 x2 x3 x4=some r→zw zP (tn17 77) (TM.evF zP (tn17) dOk (k+40)) dOk (k+40) (za zP (tn0 77) 77 0) 0 0 (n+m) (cLbj x0 x1 x2 x3 x4)=some (xLbj x0 x1 x2 x3 x4 r):=by
 intro n
 induction n with
 | zero=>intro _ _ _ _ _ r h;cases h
 | succ n ih=>
  intro x0 x1 x2 x3 x4 r
  rw [show n+1+m=n+m+1 by omega,zf,bLbj,qLbj]
  with_reducible repeat' refine zS ?_ ?_
  all_goals first | exact ih _ _ _ _ _ r | (intro h;cases h;done) | (intro h;cases h;rfl)
noncomputable def sLbj:TellS:=fun S=>dCS 2 S fun y1 y2 y3=>dSs 0 y1 fun y5 l4=>dD 23 mT y5 fun x0=>dSs 1 l4 fun y7 l6=>dFn 65 0 [none] y7 fun y8=>dC y8 fun y9 l10=>zp 0 0 y9<|dE l10<|dSI 7 .i64 l6 fun x1 l11=>dSI 8 .i64 l11 fun x2 l12=>dE l12<|dE y2<|dHB 71 y3 fun y14 l13=>dC y14 fun y15 l16=>dFn 44 0 [none] y15 fun y17=>dC y17 fun y18 l19=>zp 1 0 y18<|dE l19<|dE l16<|dHB 38 l13 fun y21 l20=>dC y21 fun y22 l23=>dD 3 iT y22 fun x3=>dC l23 fun y24 l25=>dD 23 mT y24 fun x4=>dE l25<|dE l20 <|  some [(isL (Lbj FU x0 x1 x2 x3 x4),.ret,{ sl:=[(4,.v (.sc (I4 ((zH (Lbj FU x0 x1 x2 x3 x4))))))],lo:=[],h:=[.box 71 [.fn 44 0 [none] [.ptr 1 0]],.box 38 [.d 3 iT (x3),.d 23 mT (x4)]],n0:=2,w:=true }),(ok (zA (Lbj FU x0 x1 x2 x3 x4)),(.exit 0),{ sl:=[],lo:=[],h:=[.box 71 [.fn 44 0 [none] [.ptr 1 0]],.box 38 [.d 3 iT (x3),.d 23 mT (x4)]],n0:=2,w:=false })]
theorem wLbj:zo zP dOk base o17 t17 ((77,0),sLbj):=by
 refine ⟨.loop (za zP (tn0 77) 77 0),0,by kernel_rfl,?_⟩
 intro S alts e S' h1 h2
 change sLbj S=_ at h1
 unfold sLbj at h1
 repeat with_reducible first|replace h1:=zE h1;obtain ⟨_,_,_,rfl,h1⟩:=h1|(first|replace h1:=zJ h1|replace h1:=dCq h1|replace h1:=zF h1|replace h1:=zM h1);obtain ⟨_,_,rfl,h1⟩:=h1|(first|replace h1:=dDq h1|replace h1:=yt h1);obtain ⟨_,rfl,h1⟩:=h1|(first|replace h1:=zx h1|replace h1:=dEq h1);obtain ⟨rfl,h1⟩:=h1
 cases h1
 rcases zK h2 with ⟨hc0,rfl,rfl⟩ | h2
 · exact ⟨FU+40,(zb rfl).trans (lLbj FU 40 FU _ _ _ _ _ _ (zT hc0))⟩
 obtain ⟨hc1,rfl,rfl⟩:=zk h2
 exact ⟨FU+40,(zb rfl).trans (lLbj FU 40 FU _ _ _ _ _ _ (zN (zc hc1)))⟩
noncomputable def o18:OrcT:=o17
noncomputable def t18:TellT:=((77,0),sLbj)::t17
abbrev tn18:=ze base o18 t18
theorem ok18:OKT tn18:=zq ok17 ok17 (p:=((77,0),sLbj)) wLbj
noncomputable def tv77 {β:Type} (x0:L3) (x1:LI) (x2:L3) (K:Int→Option β):Option β:=(cond (isL (Lbj FU x0 (x0.length:Int) 0 x1 x2)) (K (zH (Lbj FU x0 (x0.length:Int) 0 x1 x2))) (cond (ok (zA (Lbj FU x0 (x0.length:Int) 0 x1 x2))) (K ((-1:Int))) none))
noncomputable def v77 (x0:L3) (x1:LI) (x2:L3):Option Int:=tv77 x0 x1 x2 some
theorem ev77 (x0:L3) (x1:LI) (x2:L3):zn zP (tn18 77) (TM.evF zP (tn18) dOk 40) dOk 40 77 [.sc (.d 23 mT x0),.sc (.fn 65 0 [none] [.ptr 0 0])] [.box 71 [.fn 44 0 [none] [.ptr 1 0]],.box 38 [.d 3 iT (x1),.d 23 mT (x2)]]=(v77 x0 x1 x2).bind fun r=>some ([.sc (I4 (r))],[.box 71 [.fn 44 0 [none] [.ptr 1 0]],.box 38 [.d 3 iT (x1),.d 23 mT (x2)]]):=by
 refine Eq.trans (b:=tv77 x0 x1 x2 fun r=>some ([.sc (I4 (r))],[.box 71 [.fn 44 0 [none] [.ptr 1 0]],.box 38 [.d 3 iT (x1),.d 23 mT (x2)]])) (by kernel_rfl) ?_
 unfold v77 tv77
 with_reducible repeat' refine zj ?_ ?_
 all_goals rfl
noncomputable def sv77:OrcS:=fun al H=>dC al fun y1 l2=>dS y1 fun y3=>dD 23 mT y3 fun x0=>dC l2 fun y4 l5=>dS y4 fun y6=>dFn 65 0 [none] y6 fun y7=>dC y7 fun y8 l9=>zp 0 0 y8<|dE l9<|dE l5<|dHB 71 H fun y11 l10=>dC y11 fun y12 l13=>dFn 44 0 [none] y12 fun y14=>dC y14 fun y15 l16=>zp 1 0 y15<|dE l16<|dE l13<|dHB 38 l10 fun y18 l17=>dC y18 fun y19 l20=>dD 3 iT y19 fun x1=>dC l20 fun y21 l22=>dD 23 mT y21 fun x2=>dE l22<|dE l17 <|  some [(ok (v77 x0 x1 x2),[.sc (I4 ((val (v77 x0 x1 x2))))],[.box 71 [.fn 44 0 [none] [.ptr 1 0]],.box 38 [.d 3 iT (x1),.d 23 mT (x2)]])]
theorem wv77:zl zP dOk base o18 t18 (77,sv77):=by
 intro al H q hq rs H2 h2
 change sv77 al H=_ at hq
 unfold sv77 at hq
 repeat with_reducible first|(first|replace hq:=dCq hq|replace hq:=zM hq);obtain ⟨_,_,rfl,hq⟩:=hq|(first|replace hq:=dSq hq|replace hq:=dDq hq|replace hq:=yt hq);obtain ⟨_,rfl,hq⟩:=hq|(first|replace hq:=zx hq|replace hq:=dEq hq);obtain ⟨rfl,hq⟩:=hq
 cases hq
 obtain ⟨hc0,rfl,rfl⟩:=zd h2
 exact ⟨41,(zu (by kernel_rfl)).trans ((ev77 _ _ _).trans (zh (zc hc0)))⟩
noncomputable def o19:OrcT:=(77,sv77)::o18
noncomputable def t19:TellT:=t18
abbrev tn19:=ze base o19 t19
theorem ok19:OKT tn19:=zm ok18 ok18 (p:=(77,sv77)) wv77
noncomputable def v64 (x0:L3) (x1:LI) (x2:L3):Option Bool:=(cond (ok (v77 x0 x1 x2)) (some (decide (val (v77 x0 x1 x2)≥0))) none)
theorem ev64 (x0:L3) (x1:LI) (x2:L3):zn zP (tn19 64) (TM.evF zP (tn19) dOk 40) dOk 40 64 [.sc (.d 23 mT x0),.sc (.fn 65 0 [none] [.ptr 0 0])] [.box 71 [.fn 44 0 [none] [.ptr 1 0]],.box 38 [.d 3 iT (x1),.d 23 mT (x2)]]=(v64 x0 x1 x2).bind fun r=>some ([.sc (.bool (r))],[.box 71 [.fn 44 0 [none] [.ptr 1 0]],.box 38 [.d 3 iT (x1),.d 23 mT (x2)]]):=by
 refine Eq.trans (b:=(cond (ok (v77 x0 x1 x2)) (some ([.sc (.bool (decide (val (v77 x0 x1 x2)≥0)))],[.box 71 [.fn 44 0 [none] [.ptr 1 0]],.box 38 [.d 3 iT (x1),.d 23 mT (x2)]])) none)) (by kernel_rfl) ?_
 unfold v64
 with_reducible repeat' refine zj ?_ ?_
 all_goals rfl
noncomputable def sv64:OrcS:=fun al H=>dC al fun y1 l2=>dS y1 fun y3=>dD 23 mT y3 fun x0=>dC l2 fun y4 l5=>dS y4 fun y6=>dFn 65 0 [none] y6 fun y7=>dC y7 fun y8 l9=>zp 0 0 y8<|dE l9<|dE l5<|dHB 71 H fun y11 l10=>dC y11 fun y12 l13=>dFn 44 0 [none] y12 fun y14=>dC y14 fun y15 l16=>zp 1 0 y15<|dE l16<|dE l13<|dHB 38 l10 fun y18 l17=>dC y18 fun y19 l20=>dD 3 iT y19 fun x1=>dC l20 fun y21 l22=>dD 23 mT y21 fun x2=>dE l22<|dE l17 <|  some [(ok (v64 x0 x1 x2),[.sc (.bool ((val (v64 x0 x1 x2))))],[.box 71 [.fn 44 0 [none] [.ptr 1 0]],.box 38 [.d 3 iT (x1),.d 23 mT (x2)]])]
theorem wv64:zl zP dOk base o19 t19 (64,sv64):=by
 intro al H q hq rs H2 h2
 change sv64 al H=_ at hq
 unfold sv64 at hq
 repeat with_reducible first|(first|replace hq:=dCq hq|replace hq:=zM hq);obtain ⟨_,_,rfl,hq⟩:=hq|(first|replace hq:=dSq hq|replace hq:=dDq hq|replace hq:=yt hq);obtain ⟨_,rfl,hq⟩:=hq|(first|replace hq:=zx hq|replace hq:=dEq hq);obtain ⟨rfl,hq⟩:=hq
 cases hq
 obtain ⟨hc0,rfl,rfl⟩:=zd h2
 exact ⟨41,(zu (by kernel_rfl)).trans ((ev64 _ _ _).trans (zh (zc hc0)))⟩
noncomputable def o20:OrcT:=(64,sv64)::o19
noncomputable def t20:TellT:=t19
abbrev tn20:=ze base o20 t20
theorem ok20:OKT tn20:=zm ok19 ok19 (p:=(64,sv64)) wv64
noncomputable def v43 (x0:L3) (x1:LI) (x2:L3):Option Bool:=(cond (ok (v64 x0 x1 x2)) (some (!val (v64 x0 x1 x2))) none)
theorem ev43 (x0:L3) (x1:LI) (x2:L3):zn zP (tn20 43) (TM.evF zP (tn20) dOk 40) dOk 40 43 [.sc (.d 23 mT x0),.sc (.fn 44 0 [none] [.ptr 0 0])] [.box 38 [.d 3 iT (x1),.d 23 mT (x2)]]=(v43 x0 x1 x2).bind fun r=>some ([.sc (.bool (r))],[.box 38 [.d 3 iT (x1),.d 23 mT (x2)]]):=by
 refine Eq.trans (b:=(cond (ok (v64 x0 x1 x2)) (some ([.sc (.bool (!val (v64 x0 x1 x2)))],[.box 38 [.d 3 iT (x1),.d 23 mT (x2)]])) none)) (by kernel_rfl) ?_
 unfold v43
 with_reducible repeat' refine zj ?_ ?_
 all_goals rfl
noncomputable def sv43:OrcS:=fun al H=>dC al fun y1 l2=>dS y1 fun y3=>dD 23 mT y3 fun x0=>dC l2 fun y4 l5=>dS y4 fun y6=>dFn 44 0 [none] y6 fun y7=>dC y7 fun y8 l9=>zp 0 0 y8<|dE l9<|dE l5<|dHB 38 H fun y11 l10=>dC y11 fun y12 l13=>dD 3 iT y12 fun x1=>dC l13 fun y14 l15=>dD 23 mT y14 fun x2=>dE l15<|dE l10 <|  some [(ok (v43 x0 x1 x2),[.sc (.bool ((val (v43 x0 x1 x2))))],[.box 38 [.d 3 iT (x1),.d 23 mT (x2)]])]
theorem wv43:zl zP dOk base o20 t20 (43,sv43):=by
 intro al H q hq rs H2 h2
 change sv43 al H=_ at hq
 unfold sv43 at hq
 repeat with_reducible first|(first|replace hq:=dCq hq|replace hq:=zM hq);obtain ⟨_,_,rfl,hq⟩:=hq|(first|replace hq:=dSq hq|replace hq:=dDq hq|replace hq:=yt hq);obtain ⟨_,rfl,hq⟩:=hq|(first|replace hq:=zx hq|replace hq:=dEq hq);obtain ⟨rfl,hq⟩:=hq
 cases hq
 obtain ⟨hc0,rfl,rfl⟩:=zd h2
 exact ⟨41,(zu (by kernel_rfl)).trans ((ev43 _ _ _).trans (zh (zc hc0)))⟩
noncomputable def o21:OrcT:=(43,sv43)::o20
noncomputable def t21:TellT:=t20
abbrev tn21:=ze base o21 t21
theorem ok21:OKT tn21:=zm ok20 ok20 (p:=(43,sv43)) wv43
noncomputable def tv25 {β:Type} (x0:LI) (x1:L3) (K:Bool→Option β):Option β:=(cond (ok (v39 (x0.length:Int) (1:Int) (8:Int))) (cond (!val (v39 (x0.length:Int) (1:Int) (8:Int))) (K (false)) (cond (ok (v39 (x1.length:Int) (1:Int) (8:Int))) (cond (!val (v39 (x1.length:Int) (1:Int) (8:Int))) (K (false)) (cond (ok (v41 x0)) (cond (val (v41 x0)) (cond (ok (v43 x1 x0 x1)) (K (val (v43 x1 x0 x1))) none) (K (false))) none)) none)) none)
noncomputable def v25 (x0:LI) (x1:L3):Option Bool:=tv25 x0 x1 some
theorem ev25 (x0:LI) (x1:L3):zn zP (tn21 25) (TM.evF zP (tn21) dOk 40) dOk 40 25 [.agg [.d 3 iT (x0),.d 23 mT (x1)]] []=(v25 x0 x1).bind fun r=>some ([.sc (.bool (r))],[]):=by
 refine Eq.trans (b:=tv25 x0 x1 fun r=>some ([.sc (.bool (r))],[])) (by kernel_rfl) ?_
 unfold v25 tv25
 with_reducible repeat' refine zj ?_ ?_
 all_goals rfl
noncomputable def sv25:OrcS:=fun al H=>dC al fun y1 l2=>dA y1 fun y3=>dC y3 fun y4 l5=>dD 3 iT y4 fun x0=>dC l5 fun y6 l7=>dD 23 mT y6 fun x1=>dE l7<|dE l2<|dE H <|  some [(ok (v25 x0 x1),[.sc (.bool ((val (v25 x0 x1))))],[])]
theorem wv25:zl zP dOk base o21 t21 (25,sv25):=by
 intro al H q hq rs H2 h2
 change sv25 al H=_ at hq
 unfold sv25 at hq
 repeat with_reducible first|replace hq:=dCq hq;obtain ⟨_,_,rfl,hq⟩:=hq|(first|replace hq:=dAq hq|replace hq:=dDq hq);obtain ⟨_,rfl,hq⟩:=hq|replace hq:=dEq hq;obtain ⟨rfl,hq⟩:=hq
 cases hq
 obtain ⟨hc0,rfl,rfl⟩:=zd h2
 exact ⟨41,(zu (by kernel_rfl)).trans ((ev25 _ _).trans (zh (zc hc0)))⟩
noncomputable def o22:OrcT:=(25,sv25)::o21
noncomputable def t22:TellT:=t21
abbrev tn22:=ze base o22 t22
theorem ok22:OKT tn22:=zm ok21 ok21 (p:=(25,sv25)) wv25
noncomputable def v60 (x0:Int):Option Bool:=(cond (ok (v39 x0 0 (1000000000:Int))) (some (val (v39 x0 0 (1000000000:Int)))) none)
theorem ev60 (x0:Int):zn zP (tn22 60) (TM.evF zP (tn22) dOk 40) dOk 40 60 [.sc (I4 x0)] []=(v60 x0).bind fun r=>some ([.sc (.bool (r))],[]):=by
 refine Eq.trans (b:=(cond (ok (v39 x0 0 (1000000000:Int))) (some ([.sc (.bool (val (v39 x0 0 (1000000000:Int))))],[])) none)) (by kernel_rfl) ?_
 unfold v60
 with_reducible repeat' refine zj ?_ ?_
 all_goals rfl
noncomputable def sv60:OrcS:=fun al H=>dC al fun y1 l2=>dS y1 fun y3=>yO .i64 y3 fun x0=>dE l2<|dE H <|  some [(ok (v60 x0),[.sc (.bool ((val (v60 x0))))],[])]
theorem wv60:zl zP dOk base o22 t22 (60,sv60):=by
 intro al H q hq rs H2 h2
 change sv60 al H=_ at hq
 unfold sv60 at hq
 obtain ⟨_,_,rfl,g1⟩:=dCq hq
 obtain ⟨_,rfl,g2⟩:=dSq g1
 obtain ⟨_,rfl,g3⟩:=yV g2
 obtain ⟨rfl,g4⟩:=dEq g3
 obtain ⟨rfl,g5⟩:=dEq g4
 cases g5
 obtain ⟨hc0,rfl,rfl⟩:=zd h2
 exact ⟨41,(zu (by kernel_rfl)).trans ((ev60 _).trans (zh (zc hc0)))⟩
noncomputable def o23:OrcT:=(60,sv60)::o22
noncomputable def t23:TellT:=t22
abbrev tn23:=ze base o23 t23
theorem ok23:OKT tn23:=zm ok22 ok22 (p:=(60,sv60)) wv60
noncomputable def v63_1 (x0:Int):Option Bool:=(cond (ok (v60 x0)) (some (!val (v60 x0))) none)
theorem ev63_1 (x0:Int):zn zP (tn23 63) (TM.evF zP (tn23) dOk 40) dOk 40 63 [.sc (I4 x0),.sc (.ptr 0 0)] [.box 52 [.fn 60 0 [] []]]=(v63_1 x0).bind fun r=>some ([.sc (.bool (r))],[.box 52 [.fn 60 0 [] []]]):=by
 refine Eq.trans (b:=(cond (ok (v60 x0)) (some ([.sc (.bool (!val (v60 x0)))],[.box 52 [.fn 60 0 [] []]])) none)) (by kernel_rfl) ?_
 unfold v63_1
 with_reducible repeat' refine zj ?_ ?_
 all_goals rfl
noncomputable def sv63_1:OrcS:=fun al H=>dC al fun y1 l2=>dS y1 fun y3=>yO .i64 y3 fun x0=>dC l2 fun y4 l5=>dS y4 fun y6=>zp 0 0 y6<|dE l5<|dHB 52 H fun y8 l7=>dC y8 fun y9 l10=>dFn 60 0 [] y9 fun y11=>dE y11<|dE l10<|dE l7 <|  some [(ok (v63_1 x0),[.sc (.bool ((val (v63_1 x0))))],[.box 52 [.fn 60 0 [] []]])]
theorem wv63_1:zl zP dOk base o23 t23 (63,sv63_1):=by
 intro al H q hq rs H2 h2
 change sv63_1 al H=_ at hq
 unfold sv63_1 at hq
 repeat with_reducible first|(first|replace hq:=dCq hq|replace hq:=zM hq);obtain ⟨_,_,rfl,hq⟩:=hq|(first|replace hq:=dSq hq|replace hq:=yV hq|replace hq:=yt hq);obtain ⟨_,rfl,hq⟩:=hq|(first|replace hq:=zx hq|replace hq:=dEq hq);obtain ⟨rfl,hq⟩:=hq
 cases hq
 obtain ⟨hc0,rfl,rfl⟩:=zd h2
 exact ⟨41,(zu (by kernel_rfl)).trans ((ev63_1 _).trans (zh (zc hc0)))⟩
noncomputable def o24:OrcT:=(63,sv63_1)::o23
noncomputable def t24:TellT:=t23
abbrev tn24:=ze base o24 t24
theorem ok24:OKT tn24:=zm ok23 ok23 (p:=(63,sv63_1)) wv63_1
noncomputable def Lbf:Nat→LI→Int→Int→Option (Int ⊕ Unit)
 | 0,_,_,_=>none
 | n+1,x0,x1,x2=>(cond (decide (x2 < x1)) (cond (decide (0≤x2)) (cond (decide (x2 < (x0.length:Int))) (cond (ok (v63_1 (List.getD x0 x2.toNat 0))) (cond (val (v63_1 (List.getD x0 x2.toNat 0))) (some (.inl x2)) (Lbf n x0 x1 (IntKind.wrap IntKind.i64 (x2+(1:Int))))) none) none) none) (some (.inr ())))
theorem qLbf:type_of% @Lbf.eq_2:=@Lbf.eq_2
noncomputable def xLbf (x0:LI) (x1 x2:Int):(Int ⊕ Unit)→Ex×CS:=fun r=>match r with | .inl a0=>(.ret,{ sl:=[(4,.v (.sc (I4 (a0))))],lo:=[],h:=[.box 52 [.fn 60 0 [] []]],n0:=1,w:=true }) | .inr b0=>((.exit 0),{ sl:=[],lo:=[],h:=[.box 52 [.fn 60 0 [] []]],n0:=1,w:=false })
abbrev cLbf (x0:LI) (x1 x2:Int):CS:={ sl:=[(0,.v (.sc (.d 3 iT x0))),(1,.v (.sc (.fn 63 0 [none] [.ptr 0 0]))),(7,.v (.sc (I4 x1))),(8,.v (.sc (I4 x2)))],lo:=[],h:=[.box 52 [.fn 60 0 [] []]],n0:=1,w:=false }
theorem bLbf (k:Nat) (cN:KN) (cX:KX) (x0:LI) (x1 x2:Int):zi zP (tn24 40) (TM.evF zP (tn24) dOk (k+40)) dOk (k+40) (za zP (tn0 40) 40 0) 0 0 (cLbf x0 x1 x2) cN cX=(cond (decide (x2 < x1)) (cond (decide (0≤x2)) (cond (decide (x2 < (x0.length:Int))) (cond (ok (v63_1 (List.getD x0 x2.toNat 0))) (cond (val (v63_1 (List.getD x0 x2.toNat 0))) (cX .ret { sl:=[(4,.v (.sc (I4 x2)))],lo:=[],h:=[.box 52 [.fn 60 0 [] []]],n0:=1,w:=true }) (cN (cLbf x0 x1 (IntKind.wrap IntKind.i64 (x2+(1:Int)))))) none) none) none) (cX (.exit 0) { sl:=[],lo:=[],h:=[.box 52 [.fn 60 0 [] []]],n0:=1,w:=false })):=by kernel_rfl
theorem lLbf (k m:Nat):∀ (n:Nat) (x0:LI) (x1 x2:Int) (r:(Int ⊕ Unit)),Lbf n x0 x1 x2=some r→zw zP (tn24 40) (TM.evF zP (tn24) dOk (k+40)) dOk (k+40) (za zP (tn0 40) 40 0) 0 0 (n+m) (cLbf x0 x1 x2)=some (xLbf x0 x1 x2 r):=by
 intro n
 induction n with
 | zero=>intro _ _ _ r h;cases h
 | succ n ih=>
  intro x0 x1 x2 r
  rw [show n+1+m=n+m+1 by omega,zf,bLbf,qLbf]
  with_reducible repeat' refine zS ?_ ?_
  all_goals first | exact ih _ _ _ r | (intro h;cases h;done) | (intro h;cases h;rfl)
noncomputable def sLbf:TellS:=fun S=>dCS 1 S fun y1 y2 y3=>dSs 0 y1 fun y5 l4=>dD 3 iT y5 fun x0=>dSs 1 l4 fun y7 l6=>dFn 63 0 [none] y7 fun y8=>dC y8 fun y9 l10=>zp 0 0 y9<|dE l10<|dSI 7 .i64 l6 fun x1 l11=>dSI 8 .i64 l11 fun x2 l12=>dE l12<|dE y2<|dHB 52 y3 fun y14 l13=>dC y14 fun y15 l16=>dFn 60 0 [] y15 fun y17=>dE y17<|dE l16<|dE l13 <|  some [(isL (Lbf FU x0 x1 x2),.ret,{ sl:=[(4,.v (.sc (I4 ((zH (Lbf FU x0 x1 x2))))))],lo:=[],h:=[.box 52 [.fn 60 0 [] []]],n0:=1,w:=true }),(ok (zA (Lbf FU x0 x1 x2)),(.exit 0),{ sl:=[],lo:=[],h:=[.box 52 [.fn 60 0 [] []]],n0:=1,w:=false })]
theorem wLbf:zo zP dOk base o24 t24 ((40,0),sLbf):=by
 refine ⟨.loop (za zP (tn0 40) 40 0),0,by kernel_rfl,?_⟩
 intro S alts e S' h1 h2
 change sLbf S=_ at h1
 unfold sLbf at h1
 repeat with_reducible first|replace h1:=zE h1;obtain ⟨_,_,_,rfl,h1⟩:=h1|(first|replace h1:=zJ h1|replace h1:=dCq h1|replace h1:=zF h1|replace h1:=zM h1);obtain ⟨_,_,rfl,h1⟩:=h1|(first|replace h1:=dDq h1|replace h1:=yt h1);obtain ⟨_,rfl,h1⟩:=h1|(first|replace h1:=zx h1|replace h1:=dEq h1);obtain ⟨rfl,h1⟩:=h1
 cases h1
 rcases zK h2 with ⟨hc0,rfl,rfl⟩ | h2
 · exact ⟨FU+40,(zb rfl).trans (lLbf FU 40 FU _ _ _ _ (zT hc0))⟩
 obtain ⟨hc1,rfl,rfl⟩:=zk h2
 exact ⟨FU+40,(zb rfl).trans (lLbf FU 40 FU _ _ _ _ (zN (zc hc1)))⟩
noncomputable def o25:OrcT:=o24
noncomputable def t25:TellT:=((40,0),sLbf)::t24
abbrev tn25:=ze base o25 t25
theorem ok25:OKT tn25:=zq ok24 ok24 (p:=((40,0),sLbf)) wLbf
noncomputable def tv40_1 {β:Type} (x0:LI) (K:Int→Option β):Option β:=(cond (isL (Lbf FU x0 (x0.length:Int) 0)) (K (zH (Lbf FU x0 (x0.length:Int) 0))) (cond (ok (zA (Lbf FU x0 (x0.length:Int) 0))) (K ((-1:Int))) none))
noncomputable def v40_1 (x0:LI):Option Int:=tv40_1 x0 some
theorem ev40_1 (x0:LI):zn zP (tn25 40) (TM.evF zP (tn25) dOk 40) dOk 40 40 [.sc (.d 3 iT x0),.sc (.fn 63 0 [none] [.ptr 0 0])] [.box 52 [.fn 60 0 [] []]]=(v40_1 x0).bind fun r=>some ([.sc (I4 (r))],[.box 52 [.fn 60 0 [] []]]):=by
 refine Eq.trans (b:=tv40_1 x0 fun r=>some ([.sc (I4 (r))],[.box 52 [.fn 60 0 [] []]])) (by kernel_rfl) ?_
 unfold v40_1 tv40_1
 with_reducible repeat' refine zj ?_ ?_
 all_goals rfl
noncomputable def sv40_1:OrcS:=fun al H=>dC al fun y1 l2=>dS y1 fun y3=>dD 3 iT y3 fun x0=>dC l2 fun y4 l5=>dS y4 fun y6=>dFn 63 0 [none] y6 fun y7=>dC y7 fun y8 l9=>zp 0 0 y8<|dE l9<|dE l5<|dHB 52 H fun y11 l10=>dC y11 fun y12 l13=>dFn 60 0 [] y12 fun y14=>dE y14<|dE l13<|dE l10 <|  some [(ok (v40_1 x0),[.sc (I4 ((val (v40_1 x0))))],[.box 52 [.fn 60 0 [] []]])]
theorem wv40_1:zl zP dOk base o25 t25 (40,sv40_1):=by
 intro al H q hq rs H2 h2
 change sv40_1 al H=_ at hq
 unfold sv40_1 at hq
 repeat with_reducible first|(first|replace hq:=dCq hq|replace hq:=zM hq);obtain ⟨_,_,rfl,hq⟩:=hq|(first|replace hq:=dSq hq|replace hq:=dDq hq|replace hq:=yt hq);obtain ⟨_,rfl,hq⟩:=hq|(first|replace hq:=zx hq|replace hq:=dEq hq);obtain ⟨rfl,hq⟩:=hq
 cases hq
 obtain ⟨hc0,rfl,rfl⟩:=zd h2
 exact ⟨41,(zu (by kernel_rfl)).trans ((ev40_1 _).trans (zh (zc hc0)))⟩
noncomputable def o26:OrcT:=(40,sv40_1)::o25
noncomputable def t26:TellT:=t25
abbrev tn26:=ze base o26 t26
theorem ok26:OKT tn26:=zm ok25 ok25 (p:=(40,sv40_1)) wv40_1
noncomputable def v23_1 (x0:LI):Option Bool:=(cond (ok (v40_1 x0)) (some (decide (val (v40_1 x0)≥0))) none)
theorem ev23_1 (x0:LI):zn zP (tn26 23) (TM.evF zP (tn26) dOk 40) dOk 40 23 [.sc (.d 3 iT x0),.sc (.fn 63 0 [none] [.ptr 0 0])] [.box 52 [.fn 60 0 [] []]]=(v23_1 x0).bind fun r=>some ([.sc (.bool (r))],[.box 52 [.fn 60 0 [] []]]):=by
 refine Eq.trans (b:=(cond (ok (v40_1 x0)) (some ([.sc (.bool (decide (val (v40_1 x0)≥0)))],[.box 52 [.fn 60 0 [] []]])) none)) (by kernel_rfl) ?_
 unfold v23_1
 with_reducible repeat' refine zj ?_ ?_
 all_goals rfl
noncomputable def sv23_1:OrcS:=fun al H=>dC al fun y1 l2=>dS y1 fun y3=>dD 3 iT y3 fun x0=>dC l2 fun y4 l5=>dS y4 fun y6=>dFn 63 0 [none] y6 fun y7=>dC y7 fun y8 l9=>zp 0 0 y8<|dE l9<|dE l5<|dHB 52 H fun y11 l10=>dC y11 fun y12 l13=>dFn 60 0 [] y12 fun y14=>dE y14<|dE l13<|dE l10 <|  some [(ok (v23_1 x0),[.sc (.bool ((val (v23_1 x0))))],[.box 52 [.fn 60 0 [] []]])]
theorem wv23_1:zl zP dOk base o26 t26 (23,sv23_1):=by
 intro al H q hq rs H2 h2
 change sv23_1 al H=_ at hq
 unfold sv23_1 at hq
 repeat with_reducible first|(first|replace hq:=dCq hq|replace hq:=zM hq);obtain ⟨_,_,rfl,hq⟩:=hq|(first|replace hq:=dSq hq|replace hq:=dDq hq|replace hq:=yt hq);obtain ⟨_,rfl,hq⟩:=hq|(first|replace hq:=zx hq|replace hq:=dEq hq);obtain ⟨rfl,hq⟩:=hq
 cases hq
 obtain ⟨hc0,rfl,rfl⟩:=zd h2
 exact ⟨41,(zu (by kernel_rfl)).trans ((ev23_1 _).trans (zh (zc hc0)))⟩
noncomputable def o27:OrcT:=(23,sv23_1)::o26
noncomputable def t27:TellT:=t26
abbrev tn27:=ze base o27 t27
theorem ok27:OKT tn27:=zm ok26 ok26 (p:=(23,sv23_1)) wv23_1
noncomputable def v41_1 (x0:LI):Option Bool:=(cond (ok (v23_1 x0)) (some (!val (v23_1 x0))) none)
theorem ev41_1 (x0:LI):zn zP (tn27 41) (TM.evF zP (tn27) dOk 40) dOk 40 41 [.sc (.d 3 iT x0),.sc (.fn 60 0 [] [])] []=(v41_1 x0).bind fun r=>some ([.sc (.bool (r))],[]):=by
 refine Eq.trans (b:=(cond (ok (v23_1 x0)) (some ([.sc (.bool (!val (v23_1 x0)))],[])) none)) (by kernel_rfl) ?_
 unfold v41_1
 with_reducible repeat' refine zj ?_ ?_
 all_goals rfl
noncomputable def sv41_1:OrcS:=fun al H=>dC al fun y1 l2=>dS y1 fun y3=>dD 3 iT y3 fun x0=>dC l2 fun y4 l5=>dS y4 fun y6=>dFn 60 0 [] y6 fun y7=>dE y7<|dE l5<|dE H <|  some [(ok (v41_1 x0),[.sc (.bool ((val (v41_1 x0))))],[])]
theorem wv41_1:zl zP dOk base o27 t27 (41,sv41_1):=by
 intro al H q hq rs H2 h2
 change sv41_1 al H=_ at hq
 unfold sv41_1 at hq
 repeat with_reducible first|replace hq:=dCq hq;obtain ⟨_,_,rfl,hq⟩:=hq|(first|replace hq:=dSq hq|replace hq:=dDq hq|replace hq:=yt hq);obtain ⟨_,rfl,hq⟩:=hq|replace hq:=dEq hq;obtain ⟨rfl,hq⟩:=hq
 cases hq
 obtain ⟨hc0,rfl,rfl⟩:=zd h2
 exact ⟨41,(zu (by kernel_rfl)).trans ((ev41_1 _).trans (zh (zc hc0)))⟩
noncomputable def o28:OrcT:=(41,sv41_1)::o27
noncomputable def t28:TellT:=t27
abbrev tn28:=ze base o28 t28
theorem ok28:OKT tn28:=zm ok27 ok27 (p:=(41,sv41_1)) wv41_1
noncomputable def Lba:Nat→LI→LL→Int→Int→LI→L3→Option (Bool ⊕ Unit)
 | 0,_,_,_,_,_,_=>none
 | n+1,x0,x1,x2,x3,x4,x5=>(cond (decide (x3 < x2)) (cond (decide (0≤x3)) (cond (decide (x3 < (x1.length:Int))) (cond (decide (x3 < (x5.length:Int))) (cond ((↑(List.length (List.getD x1 x3.toNat [])):Int) != (↑(List.length (List.getD x5 x3.toNat [])):Int)) (some (.inl (false))) (cond (ok (v41_1 (List.getD x1 x3.toNat []))) (cond (!val (v41_1 (List.getD x1 x3.toNat []))) (some (.inl (false))) (Lba n x0 x1 x2 (IntKind.wrap IntKind.i64 (x3+(1:Int))) x4 x5)) none)) none) none) none) (some (.inr ())))
theorem qLba:type_of% @Lba.eq_2:=@Lba.eq_2
noncomputable def xLba (x0:LI) (x1:LL) (x2 x3:Int) (x4:LI) (x5:L3):(Bool ⊕ Unit)→Ex×CS:=fun r=>match r with | .inl a0=>(.ret,{ sl:=[(6,.v (.sc (.bool (a0))))],lo:=[],h:=[],n0:=0,w:=true }) | .inr b0=>((.exit 0),{ sl:=[(2,.v (.sc (.d 3 iT x0))),(3,.l 3 0)],lo:=[],h:=[],n0:=0,w:=false })
abbrev cLba (x0:LI) (x1:LL) (x2 x3:Int) (x4:LI) (x5:L3):CS:={ sl:=[(2,.v (.sc (.d 3 iT x0))),(3,.l 3 0),(23,.v (.sc (.d 22 lT x1))),(24,.v (.sc (I4 x2))),(25,.v (.sc (I4 x3)))],lo:=[(3,[.d 3 iT (x4),.d 23 mT (x5)])],h:=[],n0:=0,w:=false }
theorem bLba (k:Nat) (cN:KN) (cX:KX) (x0:LI) (x1:LL) (x2 x3:Int) (x4:LI) (x5:L3):zi zP (tn28 36) (TM.evF zP (tn28) dOk (k+40)) dOk (k+40) (za zP (tn0 36) 36 0) 0 0 (cLba x0 x1 x2 x3 x4 x5) cN cX=(cond (decide (x3 < x2)) (cond (decide (0≤x3)) (cond (decide (x3 < (x1.length:Int))) (cond (decide (0≤x3)) (cond (decide (x3 < (x5.length:Int))) (cond ((↑(List.length (List.getD x1 x3.toNat [])):Int) != (↑(List.length (List.getD x5 x3.toNat [])):Int)) (cX .ret { sl:=[(6,.v (.sc (.bool (false))))],lo:=[],h:=[],n0:=0,w:=true }) (cond (ok (v41_1 (List.getD x1 x3.toNat []))) (cond (!val (v41_1 (List.getD x1 x3.toNat []))) (cX .ret { sl:=[(6,.v (.sc (.bool (false))))],lo:=[],h:=[],n0:=0,w:=true }) (cN (cLba x0 x1 x2 (IntKind.wrap IntKind.i64 (x3+(1:Int))) x4 x5))) none)) none) none) none) none) (cX (.exit 0) { sl:=[(2,.v (.sc (.d 3 iT x0))),(3,.l 3 0)],lo:=[],h:=[],n0:=0,w:=false })):=by kernel_rfl
theorem lLba (k m:Nat):∀ (n:Nat) (x0:LI) (x1:LL) (x2 x3:Int) (x4:LI) (x5:L3) (r:(Bool ⊕ Unit)),Lba n x0 x1 x2 x3 x4 x5=some r→zw zP (tn28 36) (TM.evF zP (tn28) dOk (k+40)) dOk (k+40) (za zP (tn0 36) 36 0) 0 0 (n+m) (cLba x0 x1 x2 x3 x4 x5)=some (xLba x0 x1 x2 x3 x4 x5 r):=by
 intro n
 induction n with
 | zero=>intro _ _ _ _ _ _ r h;cases h
 | succ n ih=>
  intro x0 x1 x2 x3 x4 x5 r
  rw [show n+1+m=n+m+1 by omega,zf,bLba,qLba]
  cases (decide (x3 < x2)) with
  | true=>
   cases (decide (0≤x3)) with
   | true=>
    cases (decide (x3 < (x1.length:Int))) with
    | true=>
     cases (decide (x3 < (x5.length:Int))) with
     | true=>
      cases ((↑(List.length (List.getD x1 x3.toNat [])):Int) != (↑(List.length (List.getD x5 x3.toNat [])):Int)) with
      | true=>
       intro h;cases h;rfl
      | false=>
       cases (ok (v41_1 (List.getD x1 x3.toNat []))) with
       | true=>
        cases (!val (v41_1 (List.getD x1 x3.toNat []))) with
        | true=>
         intro h;cases h;rfl
        | false=>
         exact ih _ _ _ _ _ _ r
       | false=>
        intro h;cases h
     | false=>
      intro h;cases h
    | false=>
     intro h;cases h
   | false=>
    intro h;cases h
  | false=>
   intro h;cases h;rfl
noncomputable def sLba:TellS:=fun S=>dCS 0 S fun y1 y2 y3=>dSs 2 y1 fun y5 l4=>dD 3 iT y5 fun x0=>dSt 3 l4 fun y7 l6=>dL 3 0 y7<|dSs 23 l6 fun y9 l8=>dD 22 lT y9 fun x1=>dSI 24 .i64 l8 fun x2 l10=>dSI 25 .i64 l10 fun x3 l11=>dE l11<|dLo 3 y2 fun y12 l13=>dC y12 fun y14 l15=>dD 3 iT y14 fun x4=>dC l15 fun y16 l17=>dD 23 mT y16 fun x5=>dE l17<|dE l13<|dE y3 <|  some [(isL (Lba FU x0 x1 x2 x3 x4 x5),.ret,{ sl:=[(6,.v (.sc (.bool ((zH (Lba FU x0 x1 x2 x3 x4 x5))))))],lo:=[],h:=[],n0:=0,w:=true }),(ok (zA (Lba FU x0 x1 x2 x3 x4 x5)),(.exit 0),{ sl:=[(2,.v (.sc (.d 3 iT x0))),(3,.l 3 0)],lo:=[],h:=[],n0:=0,w:=false })]
theorem wLba:zo zP dOk base o28 t28 ((36,0),sLba):=by
 refine ⟨.loop (za zP (tn0 36) 36 0),0,by kernel_rfl,?_⟩
 intro S alts e S' h1 h2
 change sLba S=_ at h1
 unfold sLba at h1
 repeat with_reducible first|replace h1:=zE h1;obtain ⟨_,_,_,rfl,h1⟩:=h1|(first|replace h1:=zJ h1|replace h1:=ye h1|replace h1:=zF h1|replace h1:=yg h1|replace h1:=dCq h1);obtain ⟨_,_,rfl,h1⟩:=h1|replace h1:=dDq h1;obtain ⟨_,rfl,h1⟩:=h1|(first|replace h1:=dLq h1|replace h1:=dEq h1);obtain ⟨rfl,h1⟩:=h1
 cases h1
 rcases zK h2 with ⟨hc0,rfl,rfl⟩ | h2
 · exact ⟨FU+40,(zb rfl).trans (lLba FU 40 FU _ _ _ _ _ _ _ (zT hc0))⟩
 obtain ⟨hc1,rfl,rfl⟩:=zk h2
 exact ⟨FU+40,(zb rfl).trans (lLba FU 40 FU _ _ _ _ _ _ _ (zN (zc hc1)))⟩
noncomputable def o29:OrcT:=o28
noncomputable def t29:TellT:=((36,0),sLba)::t28
abbrev tn29:=ze base o29 t29
theorem ok29:OKT tn29:=zq ok28 ok28 (p:=((36,0),sLba)) wLba
noncomputable def v61 (x0:Int):Option Bool:=(cond (ok (v39 x0 0 (1000000000000:Int))) (some (val (v39 x0 0 (1000000000000:Int)))) none)
theorem ev61 (x0:Int):zn zP (tn29 61) (TM.evF zP (tn29) dOk 40) dOk 40 61 [.sc (I4 x0)] []=(v61 x0).bind fun r=>some ([.sc (.bool (r))],[]):=by
 refine Eq.trans (b:=(cond (ok (v39 x0 0 (1000000000000:Int))) (some ([.sc (.bool (val (v39 x0 0 (1000000000000:Int))))],[])) none)) (by kernel_rfl) ?_
 unfold v61
 with_reducible repeat' refine zj ?_ ?_
 all_goals rfl
noncomputable def sv61:OrcS:=fun al H=>dC al fun y1 l2=>dS y1 fun y3=>yO .i64 y3 fun x0=>dE l2<|dE H <|  some [(ok (v61 x0),[.sc (.bool ((val (v61 x0))))],[])]
theorem wv61:zl zP dOk base o29 t29 (61,sv61):=by
 intro al H q hq rs H2 h2
 change sv61 al H=_ at hq
 unfold sv61 at hq
 obtain ⟨_,_,rfl,g1⟩:=dCq hq
 obtain ⟨_,rfl,g2⟩:=dSq g1
 obtain ⟨_,rfl,g3⟩:=yV g2
 obtain ⟨rfl,g4⟩:=dEq g3
 obtain ⟨rfl,g5⟩:=dEq g4
 cases g5
 obtain ⟨hc0,rfl,rfl⟩:=zd h2
 exact ⟨41,(zu (by kernel_rfl)).trans ((ev61 _).trans (zh (zc hc0)))⟩
noncomputable def o30:OrcT:=(61,sv61)::o29
noncomputable def t30:TellT:=t29
abbrev tn30:=ze base o30 t30
theorem ok30:OKT tn30:=zm ok29 ok29 (p:=(61,sv61)) wv61
noncomputable def v63_2 (x0:Int):Option Bool:=(cond (ok (v61 x0)) (some (!val (v61 x0))) none)
theorem ev63_2 (x0:Int):zn zP (tn30 63) (TM.evF zP (tn30) dOk 40) dOk 40 63 [.sc (I4 x0),.sc (.ptr 0 0)] [.box 52 [.fn 61 0 [] []]]=(v63_2 x0).bind fun r=>some ([.sc (.bool (r))],[.box 52 [.fn 61 0 [] []]]):=by
 refine Eq.trans (b:=(cond (ok (v61 x0)) (some ([.sc (.bool (!val (v61 x0)))],[.box 52 [.fn 61 0 [] []]])) none)) (by kernel_rfl) ?_
 unfold v63_2
 with_reducible repeat' refine zj ?_ ?_
 all_goals rfl
noncomputable def sv63_2:OrcS:=fun al H=>dC al fun y1 l2=>dS y1 fun y3=>yO .i64 y3 fun x0=>dC l2 fun y4 l5=>dS y4 fun y6=>zp 0 0 y6<|dE l5<|dHB 52 H fun y8 l7=>dC y8 fun y9 l10=>dFn 61 0 [] y9 fun y11=>dE y11<|dE l10<|dE l7 <|  some [(ok (v63_2 x0),[.sc (.bool ((val (v63_2 x0))))],[.box 52 [.fn 61 0 [] []]])]
theorem wv63_2:zl zP dOk base o30 t30 (63,sv63_2):=by
 intro al H q hq rs H2 h2
 change sv63_2 al H=_ at hq
 unfold sv63_2 at hq
 repeat with_reducible first|(first|replace hq:=dCq hq|replace hq:=zM hq);obtain ⟨_,_,rfl,hq⟩:=hq|(first|replace hq:=dSq hq|replace hq:=yV hq|replace hq:=yt hq);obtain ⟨_,rfl,hq⟩:=hq|(first|replace hq:=zx hq|replace hq:=dEq hq);obtain ⟨rfl,hq⟩:=hq
 cases hq
 obtain ⟨hc0,rfl,rfl⟩:=zd h2
 exact ⟨41,(zu (by kernel_rfl)).trans ((ev63_2 _).trans (zh (zc hc0)))⟩
noncomputable def o31:OrcT:=(63,sv63_2)::o30
noncomputable def t31:TellT:=t30
abbrev tn31:=ze base o31 t31
theorem ok31:OKT tn31:=zm ok30 ok30 (p:=(63,sv63_2)) wv63_2
noncomputable def Lbe:Nat→LI→Int→Int→Option (Int ⊕ Unit)
 | 0,_,_,_=>none
 | n+1,x0,x1,x2=>(cond (decide (x2 < x1)) (cond (decide (0≤x2)) (cond (decide (x2 < (x0.length:Int))) (cond (ok (v63_2 (List.getD x0 x2.toNat 0))) (cond (val (v63_2 (List.getD x0 x2.toNat 0))) (some (.inl x2)) (Lbe n x0 x1 (IntKind.wrap IntKind.i64 (x2+(1:Int))))) none) none) none) (some (.inr ())))
theorem qLbe:type_of% @Lbe.eq_2:=@Lbe.eq_2
noncomputable def xLbe (x0:LI) (x1 x2:Int):(Int ⊕ Unit)→Ex×CS:=fun r=>match r with | .inl a0=>(.ret,{ sl:=[(4,.v (.sc (I4 (a0))))],lo:=[],h:=[.box 52 [.fn 61 0 [] []]],n0:=1,w:=true }) | .inr b0=>((.exit 0),{ sl:=[],lo:=[],h:=[.box 52 [.fn 61 0 [] []]],n0:=1,w:=false })
abbrev cLbe (x0:LI) (x1 x2:Int):CS:={ sl:=[(0,.v (.sc (.d 3 iT x0))),(1,.v (.sc (.fn 63 0 [none] [.ptr 0 0]))),(7,.v (.sc (I4 x1))),(8,.v (.sc (I4 x2)))],lo:=[],h:=[.box 52 [.fn 61 0 [] []]],n0:=1,w:=false }
theorem bLbe (k:Nat) (cN:KN) (cX:KX) (x0:LI) (x1 x2:Int):zi zP (tn31 40) (TM.evF zP (tn31) dOk (k+40)) dOk (k+40) (za zP (tn0 40) 40 0) 0 0 (cLbe x0 x1 x2) cN cX=(cond (decide (x2 < x1)) (cond (decide (0≤x2)) (cond (decide (x2 < (x0.length:Int))) (cond (ok (v63_2 (List.getD x0 x2.toNat 0))) (cond (val (v63_2 (List.getD x0 x2.toNat 0))) (cX .ret { sl:=[(4,.v (.sc (I4 x2)))],lo:=[],h:=[.box 52 [.fn 61 0 [] []]],n0:=1,w:=true }) (cN (cLbe x0 x1 (IntKind.wrap IntKind.i64 (x2+(1:Int)))))) none) none) none) (cX (.exit 0) { sl:=[],lo:=[],h:=[.box 52 [.fn 61 0 [] []]],n0:=1,w:=false })):=by kernel_rfl
theorem lLbe (k m:Nat):∀ (n:Nat) (x0:LI) (x1 x2:Int) (r:(Int ⊕ Unit)),Lbe n x0 x1 x2=some r→zw zP (tn31 40) (TM.evF zP (tn31) dOk (k+40)) dOk (k+40) (za zP (tn0 40) 40 0) 0 0 (n+m) (cLbe x0 x1 x2)=some (xLbe x0 x1 x2 r):=by
 intro n
 induction n with
 | zero=>intro _ _ _ r h;cases h
 | succ n ih=>
  intro x0 x1 x2 r
  rw [show n+1+m=n+m+1 by omega,zf,bLbe,qLbe]
  with_reducible repeat' refine zS ?_ ?_
  all_goals first | exact ih _ _ _ r | (intro h;cases h;done) | (intro h;cases h;rfl)
noncomputable def sLbe:TellS:=fun S=>dCS 1 S fun y1 y2 y3=>dSs 0 y1 fun y5 l4=>dD 3 iT y5 fun x0=>dSs 1 l4 fun y7 l6=>dFn 63 0 [none] y7 fun y8=>dC y8 fun y9 l10=>zp 0 0 y9<|dE l10<|dSI 7 .i64 l6 fun x1 l11=>dSI 8 .i64 l11 fun x2 l12=>dE l12<|dE y2<|dHB 52 y3 fun y14 l13=>dC y14 fun y15 l16=>dFn 61 0 [] y15 fun y17=>dE y17<|dE l16<|dE l13 <|  some [(isL (Lbe FU x0 x1 x2),.ret,{ sl:=[(4,.v (.sc (I4 ((zH (Lbe FU x0 x1 x2))))))],lo:=[],h:=[.box 52 [.fn 61 0 [] []]],n0:=1,w:=true }),(ok (zA (Lbe FU x0 x1 x2)),(.exit 0),{ sl:=[],lo:=[],h:=[.box 52 [.fn 61 0 [] []]],n0:=1,w:=false })]
theorem wLbe:zo zP dOk base o31 t31 ((40,0),sLbe):=by
 refine ⟨.loop (za zP (tn0 40) 40 0),0,by kernel_rfl,?_⟩
 intro S alts e S' h1 h2
 change sLbe S=_ at h1
 unfold sLbe at h1
 repeat with_reducible first|replace h1:=zE h1;obtain ⟨_,_,_,rfl,h1⟩:=h1|(first|replace h1:=zJ h1|replace h1:=dCq h1|replace h1:=zF h1|replace h1:=zM h1);obtain ⟨_,_,rfl,h1⟩:=h1|(first|replace h1:=dDq h1|replace h1:=yt h1);obtain ⟨_,rfl,h1⟩:=h1|(first|replace h1:=zx h1|replace h1:=dEq h1);obtain ⟨rfl,h1⟩:=h1
 cases h1
 rcases zK h2 with ⟨hc0,rfl,rfl⟩ | h2
 · exact ⟨FU+40,(zb rfl).trans (lLbe FU 40 FU _ _ _ _ (zT hc0))⟩
 obtain ⟨hc1,rfl,rfl⟩:=zk h2
 exact ⟨FU+40,(zb rfl).trans (lLbe FU 40 FU _ _ _ _ (zN (zc hc1)))⟩
noncomputable def o32:OrcT:=o31
noncomputable def t32:TellT:=((40,0),sLbe)::t31
abbrev tn32:=ze base o32 t32
theorem ok32:OKT tn32:=zq ok31 ok31 (p:=((40,0),sLbe)) wLbe
noncomputable def tv40_2 {β:Type} (x0:LI) (K:Int→Option β):Option β:=(cond (isL (Lbe FU x0 (x0.length:Int) 0)) (K (zH (Lbe FU x0 (x0.length:Int) 0))) (cond (ok (zA (Lbe FU x0 (x0.length:Int) 0))) (K ((-1:Int))) none))
noncomputable def v40_2 (x0:LI):Option Int:=tv40_2 x0 some
theorem ev40_2 (x0:LI):zn zP (tn32 40) (TM.evF zP (tn32) dOk 40) dOk 40 40 [.sc (.d 3 iT x0),.sc (.fn 63 0 [none] [.ptr 0 0])] [.box 52 [.fn 61 0 [] []]]=(v40_2 x0).bind fun r=>some ([.sc (I4 (r))],[.box 52 [.fn 61 0 [] []]]):=by
 refine Eq.trans (b:=tv40_2 x0 fun r=>some ([.sc (I4 (r))],[.box 52 [.fn 61 0 [] []]])) (by kernel_rfl) ?_
 unfold v40_2 tv40_2
 with_reducible repeat' refine zj ?_ ?_
 all_goals rfl
noncomputable def sv40_2:OrcS:=fun al H=>dC al fun y1 l2=>dS y1 fun y3=>dD 3 iT y3 fun x0=>dC l2 fun y4 l5=>dS y4 fun y6=>dFn 63 0 [none] y6 fun y7=>dC y7 fun y8 l9=>zp 0 0 y8<|dE l9<|dE l5<|dHB 52 H fun y11 l10=>dC y11 fun y12 l13=>dFn 61 0 [] y12 fun y14=>dE y14<|dE l13<|dE l10 <|  some [(ok (v40_2 x0),[.sc (I4 ((val (v40_2 x0))))],[.box 52 [.fn 61 0 [] []]])]
theorem wv40_2:zl zP dOk base o32 t32 (40,sv40_2):=by
 intro al H q hq rs H2 h2
 change sv40_2 al H=_ at hq
 unfold sv40_2 at hq
 repeat with_reducible first|(first|replace hq:=dCq hq|replace hq:=zM hq);obtain ⟨_,_,rfl,hq⟩:=hq|(first|replace hq:=dSq hq|replace hq:=dDq hq|replace hq:=yt hq);obtain ⟨_,rfl,hq⟩:=hq|(first|replace hq:=zx hq|replace hq:=dEq hq);obtain ⟨rfl,hq⟩:=hq
 cases hq
 obtain ⟨hc0,rfl,rfl⟩:=zd h2
 exact ⟨41,(zu (by kernel_rfl)).trans ((ev40_2 _).trans (zh (zc hc0)))⟩
noncomputable def o33:OrcT:=(40,sv40_2)::o32
noncomputable def t33:TellT:=t32
abbrev tn33:=ze base o33 t33
theorem ok33:OKT tn33:=zm ok32 ok32 (p:=(40,sv40_2)) wv40_2
noncomputable def v23_2 (x0:LI):Option Bool:=(cond (ok (v40_2 x0)) (some (decide (val (v40_2 x0)≥0))) none)
theorem ev23_2 (x0:LI):zn zP (tn33 23) (TM.evF zP (tn33) dOk 40) dOk 40 23 [.sc (.d 3 iT x0),.sc (.fn 63 0 [none] [.ptr 0 0])] [.box 52 [.fn 61 0 [] []]]=(v23_2 x0).bind fun r=>some ([.sc (.bool (r))],[.box 52 [.fn 61 0 [] []]]):=by
 refine Eq.trans (b:=(cond (ok (v40_2 x0)) (some ([.sc (.bool (decide (val (v40_2 x0)≥0)))],[.box 52 [.fn 61 0 [] []]])) none)) (by kernel_rfl) ?_
 unfold v23_2
 with_reducible repeat' refine zj ?_ ?_
 all_goals rfl
noncomputable def sv23_2:OrcS:=fun al H=>dC al fun y1 l2=>dS y1 fun y3=>dD 3 iT y3 fun x0=>dC l2 fun y4 l5=>dS y4 fun y6=>dFn 63 0 [none] y6 fun y7=>dC y7 fun y8 l9=>zp 0 0 y8<|dE l9<|dE l5<|dHB 52 H fun y11 l10=>dC y11 fun y12 l13=>dFn 61 0 [] y12 fun y14=>dE y14<|dE l13<|dE l10 <|  some [(ok (v23_2 x0),[.sc (.bool ((val (v23_2 x0))))],[.box 52 [.fn 61 0 [] []]])]
theorem wv23_2:zl zP dOk base o33 t33 (23,sv23_2):=by
 intro al H q hq rs H2 h2
 change sv23_2 al H=_ at hq
 unfold sv23_2 at hq
 repeat with_reducible first|(first|replace hq:=dCq hq|replace hq:=zM hq);obtain ⟨_,_,rfl,hq⟩:=hq|(first|replace hq:=dSq hq|replace hq:=dDq hq|replace hq:=yt hq);obtain ⟨_,rfl,hq⟩:=hq|(first|replace hq:=zx hq|replace hq:=dEq hq);obtain ⟨rfl,hq⟩:=hq
 cases hq
 obtain ⟨hc0,rfl,rfl⟩:=zd h2
 exact ⟨41,(zu (by kernel_rfl)).trans ((ev23_2 _).trans (zh (zc hc0)))⟩
noncomputable def o34:OrcT:=(23,sv23_2)::o33
noncomputable def t34:TellT:=t33
abbrev tn34:=ze base o34 t34
theorem ok34:OKT tn34:=zm ok33 ok33 (p:=(23,sv23_2)) wv23_2
noncomputable def v41_2 (x0:LI):Option Bool:=(cond (ok (v23_2 x0)) (some (!val (v23_2 x0))) none)
theorem ev41_2 (x0:LI):zn zP (tn34 41) (TM.evF zP (tn34) dOk 40) dOk 40 41 [.sc (.d 3 iT x0),.sc (.fn 61 0 [] [])] []=(v41_2 x0).bind fun r=>some ([.sc (.bool (r))],[]):=by
 refine Eq.trans (b:=(cond (ok (v23_2 x0)) (some ([.sc (.bool (!val (v23_2 x0)))],[])) none)) (by kernel_rfl) ?_
 unfold v41_2
 with_reducible repeat' refine zj ?_ ?_
 all_goals rfl
noncomputable def sv41_2:OrcS:=fun al H=>dC al fun y1 l2=>dS y1 fun y3=>dD 3 iT y3 fun x0=>dC l2 fun y4 l5=>dS y4 fun y6=>dFn 61 0 [] y6 fun y7=>dE y7<|dE l5<|dE H <|  some [(ok (v41_2 x0),[.sc (.bool ((val (v41_2 x0))))],[])]
theorem wv41_2:zl zP dOk base o34 t34 (41,sv41_2):=by
 intro al H q hq rs H2 h2
 change sv41_2 al H=_ at hq
 unfold sv41_2 at hq
 repeat with_reducible first|replace hq:=dCq hq;obtain ⟨_,_,rfl,hq⟩:=hq|(first|replace hq:=dSq hq|replace hq:=dDq hq|replace hq:=yt hq);obtain ⟨_,rfl,hq⟩:=hq|replace hq:=dEq hq;obtain ⟨rfl,hq⟩:=hq
 cases hq
 obtain ⟨hc0,rfl,rfl⟩:=zd h2
 exact ⟨41,(zu (by kernel_rfl)).trans ((ev41_2 _).trans (zh (zc hc0)))⟩
noncomputable def o35:OrcT:=(41,sv41_2)::o34
noncomputable def t35:TellT:=t34
abbrev tn35:=ze base o35 t35
theorem ok35:OKT tn35:=zm ok34 ok34 (p:=(41,sv41_2)) wv41_2
noncomputable def tv36 {β:Type} (x0:LI) (x1:L3) (x2:LL) (x3:LI) (K:Bool→Option β):Option β:=(cond ((x2.length:Int) != (x1.length:Int)) (K (false)) (cond ((x3.length:Int) != (x0.length:Int)) (K (false)) (cond (isL (Lba FU x3 x2 (x2.length:Int) 0 x0 x1)) (K (zH (Lba FU x3 x2 (x2.length:Int) 0 x0 x1))) (cond (ok (zA (Lba FU x3 x2 (x2.length:Int) 0 x0 x1))) (cond (ok (v41_2 x3)) (K (val (v41_2 x3))) none) none))))
noncomputable def v36 (x0:LI) (x1:L3) (x2:LL) (x3:LI):Option Bool:=tv36 x0 x1 x2 x3 some
theorem ev36 (x0:LI) (x1:L3) (x2:LL) (x3:LI):zn zP (tn35 36) (TM.evF zP (tn35) dOk 40) dOk 40 36 [.agg [.d 3 iT (x0),.d 23 mT (x1)],.sc (.d 22 lT x2),.sc (.d 3 iT x3)] []=(v36 x0 x1 x2 x3).bind fun r=>some ([.sc (.bool (r))],[]):=by
 refine Eq.trans (b:=tv36 x0 x1 x2 x3 fun r=>some ([.sc (.bool (r))],[])) (by kernel_rfl) ?_
 unfold v36 tv36
 with_reducible repeat' refine zj ?_ ?_
 all_goals rfl
noncomputable def sv36:OrcS:=fun al H=>dC al fun y1 l2=>dA y1 fun y3=>dC y3 fun y4 l5=>dD 3 iT y4 fun x0=>dC l5 fun y6 l7=>dD 23 mT y6 fun x1=>dE l7<|dC l2 fun y8 l9=>dS y8 fun y10=>dD 22 lT y10 fun x2=>dC l9 fun y11 l12=>dS y11 fun y13=>dD 3 iT y13 fun x3=>dE l12<|dE H <|  some [(ok (v36 x0 x1 x2 x3),[.sc (.bool ((val (v36 x0 x1 x2 x3))))],[])]
theorem wv36:zl zP dOk base o35 t35 (36,sv36):=by
 intro al H q hq rs H2 h2
 change sv36 al H=_ at hq
 unfold sv36 at hq
 repeat with_reducible first|replace hq:=dCq hq;obtain ⟨_,_,rfl,hq⟩:=hq|(first|replace hq:=dAq hq|replace hq:=dDq hq|replace hq:=dSq hq);obtain ⟨_,rfl,hq⟩:=hq|replace hq:=dEq hq;obtain ⟨rfl,hq⟩:=hq
 cases hq
 obtain ⟨hc0,rfl,rfl⟩:=zd h2
 exact ⟨41,(zu (by kernel_rfl)).trans ((ev36 _ _ _ _).trans (zh (zc hc0)))⟩
noncomputable def o36:OrcT:=(36,sv36)::o35
noncomputable def t36:TellT:=t35
abbrev tn36:=ze base o36 t36
theorem ok36:OKT tn36:=zm ok35 ok35 (p:=(36,sv36)) wv36
noncomputable def v62 (x0:LI) (x1:L3) (x2:LL):Option Unit:=(some ())
theorem ev62 (x0:LI) (x1:L3) (x2:LL):zn zP (tn36 62) (TM.evF zP (tn36) dOk 40) dOk 40 62 [.agg [.d 3 iT (x0),.d 23 mT (x1)],.sc (.d 22 lT x2)] []=(v62 x0 x1 x2).bind fun r=>some ([.sc (.fn 76 0 [none,none] [.ptr 0 0,.ptr 1 0])],[.box 38 [.d 3 iT (x0),.d 23 mT (x1)],.box 23 [.d 22 lT (x2)]]):=by
 refine Eq.trans (b:=(some ([.sc (.fn 76 0 [none,none] [.ptr 0 0,.ptr 1 0])],[.box 38 [.d 3 iT (x0),.d 23 mT (x1)],.box 23 [.d 22 lT (x2)]]))) (by kernel_rfl) ?_
 unfold v62
 with_reducible repeat' refine zj ?_ ?_
 all_goals rfl
noncomputable def sv62:OrcS:=fun al H=>dC al fun y1 l2=>dA y1 fun y3=>dC y3 fun y4 l5=>dD 3 iT y4 fun x0=>dC l5 fun y6 l7=>dD 23 mT y6 fun x1=>dE l7<|dC l2 fun y8 l9=>dS y8 fun y10=>dD 22 lT y10 fun x2=>dE l9<|dE H <|  some [(ok (v62 x0 x1 x2),[.sc (.fn 76 0 [none,none] [.ptr 0 0,.ptr 1 0])],[.box 38 [.d 3 iT (x0),.d 23 mT (x1)],.box 23 [.d 22 lT (x2)]])]
theorem wv62:zl zP dOk base o36 t36 (62,sv62):=by
 intro al H q hq rs H2 h2
 change sv62 al H=_ at hq
 unfold sv62 at hq
 repeat with_reducible first|replace hq:=dCq hq;obtain ⟨_,_,rfl,hq⟩:=hq|(first|replace hq:=dAq hq|replace hq:=dDq hq|replace hq:=dSq hq);obtain ⟨_,rfl,hq⟩:=hq|replace hq:=dEq hq;obtain ⟨rfl,hq⟩:=hq
 cases hq
 obtain ⟨hc0,rfl,rfl⟩:=zd h2
 exact ⟨41,(zu (by kernel_rfl)).trans ((ev62 _ _ _).trans (zh (zc hc0)))⟩
noncomputable def o37:OrcT:=(62,sv62)::o36
noncomputable def t37:TellT:=t36
abbrev tn37:=ze base o37 t37
theorem ok37:OKT tn37:=zm ok36 ok36 (p:=(62,sv62)) wv62
noncomputable def LaD:Nat→LI→Int→Int→LI→Int→LI→LI→Option LI
 | 0,_,_,_,_,_,_,_=>none
 | n+1,x0,x1,x2,x3,x4,x5,x6=>(cond (decide (x2 < x1)) (cond (decide (0≤x2)) (cond (decide (x2 < (x0.length:Int))) (cond (decide (0≤List.getD x0 x2.toNat 0)) (cond (decide (List.getD x0 x2.toNat 0 < (x5.length:Int))) (cond (decide ((List.getD x0 x2.toNat 0).toNat < List.length x5)) (LaD n x0 x1 (IntKind.wrap IntKind.i64 (x2+(1:Int))) x3 x4 (List.set x5 (List.getD x0 x2.toNat 0).toNat (IntKind.wrap IntKind.i64 (List.getD x5 (List.getD x0 x2.toNat 0).toNat 0+x4))) x6) none) none) none) none) none) (some x5))
theorem qLaD:type_of% @LaD.eq_2:=@LaD.eq_2
noncomputable def xLaD (x0:LI) (x1 x2:Int) (x3:LI) (x4:Int) (x5:LI) (x6:LI):LI→Ex×CS:=fun r=>((.exit 2),{ sl:=[(10,.l 10 0)],lo:=[],h:=[.loop 1 none 37 41 106 [(7,.v (.sc (.ptr 1 0))),(8,.v (.sc (.ptr 3 0)))],.box 22 [.g 2],.row 3 iT (r:LI),.box 22 [.g 4],.row 3 iT (x6)],n0:=5,w:=false })
abbrev cLaD (x0:LI) (x1 x2:Int) (x3:LI) (x4:Int) (x5:LI) (x6:LI):CS:={ sl:=[(7,.v (.sc (.ptr 1 0))),(10,.l 10 0),(42,.v (.sc (.d 3 iT x0))),(43,.v (.sc (I4 x1))),(44,.v (.sc (I4 x2)))],lo:=[(10,[.d 3 iT (x3),I4 (x4)])],h:=[.loop 1 none 37 41 106 [(7,.v (.sc (.ptr 1 0))),(8,.v (.sc (.ptr 3 0)))],.box 22 [.g 2],.row 3 iT (x5),.box 22 [.g 4],.row 3 iT (x6)],n0:=5,w:=false }
theorem bLaD (k:Nat) (cN:KN) (cX:KX) (x0:LI) (x1 x2:Int) (x3:LI) (x4:Int) (x5:LI) (x6:LI):zi zP (tn37 37) (TM.evF zP (tn37) dOk (k+40)) dOk (k+40) (za zP (tn0 37) 37 16) 2 16 (cLaD x0 x1 x2 x3 x4 x5 x6) cN cX=(cond (decide (x2 < x1)) (cond (decide (0≤x2)) (cond (decide (x2 < (x0.length:Int))) (cond (decide (0≤List.getD x0 x2.toNat 0)) (cond (decide (List.getD x0 x2.toNat 0 < (x5.length:Int))) (cond (decide ((List.getD x0 x2.toNat 0).toNat < List.length x5)) (cond (decide (0≤List.getD x0 x2.toNat 0)) (cond (decide (List.getD x0 x2.toNat 0 < (x5.length:Int))) (cond (decide ((List.getD x0 x2.toNat 0).toNat < List.length x5)) (cN (cLaD x0 x1 (IntKind.wrap IntKind.i64 (x2+(1:Int))) x3 x4 (List.set x5 (List.getD x0 x2.toNat 0).toNat (IntKind.wrap IntKind.i64 (List.getD x5 (List.getD x0 x2.toNat 0).toNat 0+x4)):LI) x6)) none) none) none) none) none) none) none) none) (cP cX (xLaD x0 x1 x2 x3 x4 x5 x6 x5))):=by kernel_rfl
theorem lLaD (k m:Nat):∀ (n:Nat) (x0:LI) (x1 x2:Int) (x3:LI) (x4:Int) (x5:LI) (x6:LI) (r:LI),LaD n x0 x1 x2 x3 x4 x5 x6=some r→zw zP (tn37 37) (TM.evF zP (tn37) dOk (k+40)) dOk (k+40) (za zP (tn0 37) 37 16) 2 16 (n+m) (cLaD x0 x1 x2 x3 x4 x5 x6)=some (xLaD x0 x1 x2 x3 x4 x5 x6 r):=by
 intro n
 induction n with
 | zero=>intro _ _ _ _ _ _ _ r h;cases h
 | succ n ih=>
  intro x0 x1 x2 x3 x4 x5 x6 r
  rw [show n+1+m=n+m+1 by omega,zf,bLaD,qLaD]
  cases (decide (x2 < x1)) with
  | true=>
   cases (decide (0≤x2)) with
   | true=>
    cases (decide (x2 < (x0.length:Int))) with
    | true=>
     cases (decide (0≤List.getD x0 x2.toNat 0)) with
     | true=>
      cases (decide (List.getD x0 x2.toNat 0 < (x5.length:Int))) with
      | true=>
       cases (decide ((List.getD x0 x2.toNat 0).toNat < List.length x5)) with
       | true=>
        exact ih _ _ _ _ _ _ _ r
       | false=>
        intro h;cases h
      | false=>
       intro h;cases h
     | false=>
      intro h;cases h
    | false=>
     intro h;cases h
   | false=>
    intro h;cases h
  | false=>
   intro h;cases h;rfl
noncomputable def sLaD:TellS:=fun S=>dCS 5 S fun y1 y2 y3=>dSs 7 y1 fun y5 l4=>zp 1 0 y5<|dSt 10 l4 fun y7 l6=>dL 10 0 y7<|dSs 42 l6 fun y9 l8=>dD 3 iT y9 fun x0=>dSI 43 .i64 l8 fun x1 l10=>dSI 44 .i64 l10 fun x2 l11=>dE l11<|dLo 10 y2 fun y12 l13=>dC y12 fun y14 l15=>dD 3 iT y14 fun x3=>dK l15 fun x4 l16=>dE l16<|dE l13<|dC y3 fun y18 l17=>wE 1 none 37 41 106 y18 fun y19=>dSs 7 y19 fun y21 l20=>zp 1 0 y21<|dSs 8 l20 fun y23 l22=>zp 3 0 y23<|dE l22<|dHB 22 l17 fun y25 l24=>dC y25 fun y26 l27=>dG 2 y26<|dE l27<|dHR 3 iT l24 fun x5 l28=>dHB 22 l28 fun y30 l29=>dC y30 fun y31 l32=>dG 4 y31<|dE l32<|dHR 3 iT l29 fun x6 l33=>dE l33 <|  some [te (LaD FU x0 x1 x2 x3 x4 x5 x6) (xLaD x0 x1 x2 x3 x4 x5 x6)]
theorem wLaD:zo zP dOk base o37 t37 ((37,16),sLaD):=by
 refine ⟨.loop (za zP (tn0 37) 37 16),2,by kernel_rfl,?_⟩
 intro S alts e S' h1 h2
 change sLaD S=_ at h1
 unfold sLaD at h1
 repeat with_reducible first|replace h1:=zE h1;obtain ⟨_,_,_,rfl,h1⟩:=h1|(first|replace h1:=zJ h1|replace h1:=ye h1|replace h1:=zF h1|replace h1:=yg h1|replace h1:=dCq h1|replace h1:=zQ h1|replace h1:=zM h1|replace h1:=zV h1);obtain ⟨_,_,rfl,h1⟩:=h1|(first|replace h1:=zx h1|replace h1:=dLq h1|replace h1:=dEq h1|replace h1:=dGq h1);obtain ⟨rfl,h1⟩:=h1|(first|replace h1:=dDq h1|replace h1:=wi h1);obtain ⟨_,rfl,h1⟩:=h1
 cases h1
 obtain ⟨hc0,rfl,rfl⟩:=zk h2
 exact ⟨FU+40,(zb rfl).trans (lLaD FU 40 FU _ _ _ _ _ _ _ _ (zc hc0))⟩
noncomputable def o38:OrcT:=o37
noncomputable def t38:TellT:=((37,16),sLaD)::t37
abbrev tn38:=ze base o38 t38
theorem ok38:OKT tn38:=zq ok37 ok37 (p:=((37,16),sLaD)) wLaD
noncomputable def vR (x0:Int) (x1:LI) (x2:Int) (x3:LI) (x4:LI):Option ((LI)×(LI)):=(cond (decide (0≤x0)) (cond (decide (x0 < (x4.length:Int))) (cond (decide (x0.toNat < List.length x4)) (cond (ok (LaD FU x1 (x1.length:Int) 0 x1 x2 x3 (List.set x4 x0.toNat (IntKind.wrap IntKind.i64 (List.getD x4 x0.toNat 0+x2))))) (some (val (LaD FU x1 (x1.length:Int) 0 x1 x2 x3 (List.set x4 x0.toNat (IntKind.wrap IntKind.i64 (List.getD x4 x0.toNat 0+x2)))),List.set x4 x0.toNat (IntKind.wrap IntKind.i64 (List.getD x4 x0.toNat 0+x2)))) none) none) none) none)
theorem evR (x0:Int) (x1:LI) (x2:Int) (x3:LI) (x4:LI):evY zP (tn38) (TM.evF zP (tn38) dOk 40) dOk 40 [.sc (.yl 0),.sc (I4 x0),.agg [.d 3 iT (x1),I4 (x2)]] [.loop 0 none 37 41 106 [(7,.v (.sc (.ptr 1 0))),(8,.v (.sc (.ptr 3 0)))],.box 22 [.g 2],.row 3 iT (x3),.box 22 [.g 4],.row 3 iT (x4)]=(vR x0 x1 x2 x3 x4).bind fun r=>some ([.sc (.bool (true))],[.loop 0 none 37 41 106 [(7,.v (.sc (.ptr 1 0))),(8,.v (.sc (.ptr 3 0)))],.box 22 [.g 2],.row 3 iT (r.1:LI),.box 22 [.g 4],.row 3 iT (r.2:LI)]):=by
 refine Eq.trans (b:=(cond (decide (0≤x0)) (cond (decide (x0 < (x4.length:Int))) (cond (decide (x0.toNat < List.length x4)) (cond (decide (0≤x0)) (cond (decide (x0 < (x4.length:Int))) (cond (decide (x0.toNat < List.length x4)) (cond (ok (LaD FU x1 (x1.length:Int) 0 x1 x2 x3 (List.set x4 x0.toNat (IntKind.wrap IntKind.i64 (List.getD x4 x0.toNat 0+x2))))) (some ([.sc (.bool (true))],[.loop 0 none 37 41 106 [(7,.v (.sc (.ptr 1 0))),(8,.v (.sc (.ptr 3 0)))],.box 22 [.g 2],.row 3 iT (val (LaD FU x1 (x1.length:Int) 0 x1 x2 x3 (List.set x4 x0.toNat (IntKind.wrap IntKind.i64 (List.getD x4 x0.toNat 0+x2)))):LI),.box 22 [.g 4],.row 3 iT (List.set x4 x0.toNat (IntKind.wrap IntKind.i64 (List.getD x4 x0.toNat 0+x2)):LI)])) none) none) none) none) none) none) none)) (by kernel_rfl) ?_
 unfold vR
 cases (decide (0≤x0)) with
 | true=>
  cases (decide (x0 < (x4.length:Int))) with
  | true=>
   cases (decide (x0.toNat < List.length x4)) with
   | true=>
    cases (ok (LaD FU x1 (x1.length:Int) 0 x1 x2 x3 (List.set x4 x0.toNat (IntKind.wrap IntKind.i64 (List.getD x4 x0.toNat 0+x2))))) with
    | true=>
     rfl
    | false=>
     rfl
   | false=>
    rfl
  | false=>
   rfl
 | false=>
  rfl
noncomputable def svR:OrcS:=fun al H=>dC al fun y1 l2=>dS y1 fun y3=>dYl 0 y3<|dC l2 fun y4 l5=>dS y4 fun y6=>yO .i64 y6 fun x0=>dC l5 fun y7 l8=>dA y7 fun y9=>dC y9 fun y10 l11=>dD 3 iT y10 fun x1=>dK l11 fun x2 l12=>dE l12<|dE l8<|dC H fun y14 l13=>wE 0 none 37 41 106 y14 fun y15=>dSs 7 y15 fun y17 l16=>zp 1 0 y17<|dSs 8 l16 fun y19 l18=>zp 3 0 y19<|dE l18<|dHB 22 l13 fun y21 l20=>dC y21 fun y22 l23=>dG 2 y22<|dE l23<|dHR 3 iT l20 fun x3 l24=>dHB 22 l24 fun y26 l25=>dC y26 fun y27 l28=>dG 4 y27<|dE l28<|dHR 3 iT l25 fun x4 l29=>dE l29 <|  some [(ok (vR x0 x1 x2 x3 x4),[.sc (.bool (true))],[.loop 0 none 37 41 106 [(7,.v (.sc (.ptr 1 0))),(8,.v (.sc (.ptr 3 0)))],.box 22 [.g 2],.row 3 iT ((val (vR x0 x1 x2 x3 x4)).1:LI),.box 22 [.g 4],.row 3 iT ((val (vR x0 x1 x2 x3 x4)).2:LI)])]
theorem wvR:zl zP dOk base o38 t38 (4294967295,svR):=by
 intro al H q hq rs H2 h2
 change svR al H=_ at hq
 unfold svR at hq
 repeat with_reducible first|(first|replace hq:=dCq hq|replace hq:=zQ hq|replace hq:=zJ hq|replace hq:=zM hq|replace hq:=zV hq);obtain ⟨_,_,rfl,hq⟩:=hq|(first|replace hq:=dSq hq|replace hq:=yV hq|replace hq:=dAq hq|replace hq:=dDq hq|replace hq:=wi hq);obtain ⟨_,rfl,hq⟩:=hq|(first|replace hq:=WX hq|replace hq:=dEq hq|replace hq:=zx hq|replace hq:=dGq hq);obtain ⟨rfl,hq⟩:=hq
 cases hq
 obtain ⟨hc0,rfl,rfl⟩:=zd h2
 exact ⟨41,fnY_eq.trans ((evR _ _ _ _ _).trans (zh (zc hc0)))⟩
noncomputable def o39:OrcT:=(4294967295,svR)::o38
noncomputable def t39:TellT:=t38
abbrev tn39:=ze base o39 t39
theorem ok39:OKT tn39:=zm ok38 ok38 (p:=(4294967295,svR)) wvR
end
end Go.Proofs.Ytgmebdomopdgmaa
