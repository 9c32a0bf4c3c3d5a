/- What the machines are told of each function. Written by a program of ours. -/
import Derived.Test.YtpfphfobneehmaaB8
import Derived.Test.YtpfphfobneehmaaProg
import Derived.KernelRfl
set_option linter.all false
set_option maxRecDepth 1000000
set_option maxHeartbeats 4000000
namespace Go.Proofs.Ytpfphfobneehmaa
open Go Go.AM Go.TM Go.Proofs
noncomputable section
abbrev ob {α β:Type} [Inhabited α] (o:Option α) (f:α→Option β):Option β:=cond (ok o) (f (val o)) none
abbrev _root_.Go.TM.wI (x:Int):Int:=IntKind.wrap IntKind.i64 x
abbrev _root_.Go.TM.wU (x:Int):Int:=IntKind.wrap IntKind.u64 x
abbrev iT:Ty:=.int .i64
abbrev lT:Ty:=.list 3 iT
abbrev mT:Ty:=.list 22 lT
abbrev LI:=List Int
abbrev LL:=List LI
abbrev L3:=List LL
abbrev cP (cX:Ex→CS→Option (Ex×CS)) (p:Ex×CS):Option (Ex×CS):=cX p.1 p.2
abbrev te {ρ:Type} [Inhabited ρ] (o:Option ρ) (f:ρ→Ex×CS):Bool×Ex×CS:=(ok o,(f (val o)).1,(f (val o)).2)
abbrev zP:=Try.prog
abbrev KN:=CS→Option (Ex×CS)
abbrev KX:=Ex→CS→Option (Ex×CS)
theorem dT {p:Prop} [inst:Decidable p] (h:p):decide p=true:=decide_eq_true h
theorem dF {p:Prop} [inst:Decidable p] (h:¬ p):decide p=false:=decide_eq_false h
theorem tN (n:Nat):(n:Int).toNat=n:=Int.toNat_natCast n
abbrev I4 (x:Int):TC:=.int .i64 x
abbrev vI (n:Int):TV:=.v (.sc (.int .i64 n))
abbrev vD (l:LI):TV:=.v (.sc (.d 3 iT l))
abbrev vL (l:LL):TV:=.v (.sc (.d 22 lT l))
abbrev vG (n:Nat):TV:=.v (.sc (.g n))
abbrev vP (n:Nat):TV:=.v (.sc (.ptr n 0))
abbrev rD (l:LI):TO:=.row 3 iT l
abbrev rL (l:LL):TO:=.row 22 lT l
abbrev kD (l:LI):TC:=.d 3 iT l
abbrev kL (l:LL):TC:=.d 22 lT l
abbrev bx0 (y0:LI) (y1:L3) (y2:Nat) (y3:LL) (y4:Nat) (y5:LL) (y6:LI) (y7:Int):TO:=.box 55 [.d 3 iT (y0),.d 31 mT (y1),.g y2,.d 22 lT (y3),.g y4,.d 22 lT (y5),.d 3 iT (y6),.int .i64 (y7)]
abbrev bx1 (y0:LI) (y1:L3):TO:=.box 25 [.d 3 iT (y0),.d 31 mT (y1)]
abbrev bx2 (y0:LI) (y1:L3) (y2:Nat) (y3:Nat) (y4:LL) (y5:LI) (y6:Int):TO:=.box 55 [.d 3 iT (y0),.d 31 mT (y1),.g y2,.nil,.g y3,.d 22 lT (y4),.d 3 iT (y5),.int .i64 (y6)]
abbrev dK {R:Type} (l:List TC) (K:Int→List TC→Option R):Option R:=dCI .i64 l K
def base:List (FuncId×TAn):=[
 (2,{ a:={ loc:=[],keep:=[] },own:=false,crow:=[],cuts:=[],live:=[],coe:=[],nt:=1 }),
 (7,{ a:={ loc:=[3,4,17,19,36,44,59,69,77,83,92,100,119],keep:=[(0,[2,3,4,7,9,10,12],[3,4])],keepR:=[(0,[2,3,4]),(1,[2,3,4,7]),(2,[2,3,4,7,8]),(3,[2,3,4,7,40]),(4,[6]),(5,[2,3,4,7,9,10,11]),(6,[2,3,4,7,9,10,81]),(7,[6]),(8,[2,3,4,7,9,10,12]),(9,[2,3,4,7,9,10,12,89]),(10,[2,3,4,7,9,10,12]),(11,[2,3,4,7,9,10,12,13]),(12,[2,3,4,7,9,10,12]),(13,[7,10,14]),(14,[6])],hst:=[62,72,75,95,98],ro:=[23] },own:=false,crow:=[],cuts:=[5,12],live:=[(0,[2,3,4,7,9,10,12],[3,4]),(2,[2,4,7,10],[4]),(3,[6],[]),(44,[2,3,4,7],[3,4]),(45,[6],[]),(46,[6],[]),(47,[6],[]),(100,[2,3,4,7,9,10,12,13],[3,4]),(101,[2,3,4,7,9,10,12],[3,4]),(102,[2,3,4,7,9,10,12],[3,4]),(103,[6],[])],coe:=[(0,[((1,3,0),3,true),((1,3,1),31,true),((1,4,0),22,true),((1,4,1),3,true)]),(44,[((1,3,0),3,true),((1,3,1),31,true),((1,4,0),22,true),((1,4,1),3,true)]),(100,[((1,3,0),3,true),((1,3,1),31,true),((1,4,0),22,true),((1,4,1),3,true)])],nt:=139 }),
 (10,{ a:={ loc:=[1,2,3,8,10,12,108],keep:=[],keepR:=[(0,[]),(1,[1]),(2,[1,2]),(3,[1,2,3]),(4,[1,3,4]),(5,[1,4,5,6,7]),(6,[1,4,5,6,7,9]),(7,[1,4,5,6,7,9,11]),(8,[4,5,6,7,9,11,12,13]),(9,[0])] },own:=false,crow:=[],cuts:=[4,5,6,7,8,9],live:=[(36,[1,2,3],[1,2,3]),(37,[0],[]),(38,[0],[]),(39,[0],[]),(44,[1,3,4],[1,3]),(45,[0],[]),(46,[0],[]),(47,[0],[]),(52,[1,4,5,6,7],[1]),(53,[0],[]),(54,[0],[]),(55,[0],[]),(60,[1,4,5,6,7,9],[1]),(61,[0],[]),(62,[0],[]),(63,[0],[]),(68,[1,4,5,6,7,9,11],[1]),(69,[0],[]),(70,[0],[]),(71,[0],[]),(76,[4,5,6,7,9,11,12,13],[12]),(77,[0],[]),(78,[0],[]),(79,[0],[])],coe:=[(36,[((1,1,0),3,false),((1,1,1),31,false),((1,2,0),3,false),((1,2,1),31,false),((1,3,0),3,false),((1,3,1),31,false)]),(44,[((1,1,0),3,true),((1,1,1),31,true),((1,3,0),3,true),((1,3,1),31,true)]),(52,[((1,1,0),3,true),((1,1,1),31,true)]),(60,[((1,1,0),3,true),((1,1,1),31,true)]),(68,[((1,1,0),3,true),((1,1,1),31,true)]),(76,[((1,12,0),22,true),((1,12,1),3,true)])],nt:=112 }),
 (11,{ a:={ loc:=[3,10,15,31,37,45,54],keep:=[(0,[1,3,7],[3]),(2,[1,3,7,8],[3]),(4,[1,9],[])] },own:=false,crow:=[],cuts:=[],live:=[(0,[1,3,7],[3]),(2,[1],[]),(3,[6],[]),(16,[1,3,7,8],[3]),(18,[1,3,7],[3]),(19,[6],[]),(32,[1,9],[]),(34,[],[]),(35,[6],[])],coe:=[(0,[((0,1,0),22,true),((1,3,0),3,true),((1,3,1),31,true)]),(16,[((0,1,0),22,true),((1,3,0),3,true),((1,3,1),31,true)]),(32,[((0,1,0),22,true)])],nt:=76 }),
 (12,{ a:={ loc:=[3,22,33,51],keep:=[(0,[1,2,3,38,39,40],[3]),(2,[1,11,12,55,56,57],[])] },own:=false,crow:=[],cuts:=[],live:=[(0,[1,2,3,38,39,40],[3]),(2,[1,2,3],[3]),(3,[6,7,8],[]),(16,[1,11,12,55,56,57],[]),(18,[11,12],[]),(19,[6,7,8],[])],coe:=[(0,[((0,1,0),3,true),((0,38,0),3,true),((1,3,0),3,true),((1,3,1),31,true)]),(16,[((0,1,0),3,true),((0,55,0),22,true)])],nt:=77 }),
 (14,{ a:={ loc:=[2,4,24,28,54],keep:=[(0,[1,2,4,6,38,39],[2,4]),(2,[1,4,6,56,57],[4]),(4,[4,6,75,76],[4])],hst:=[47],gr:=[31,33] },own:=false,crow:=[],cuts:=[4,10,17],live:=[(0,[1,2,4,6,38,39],[2,4]),(2,[1,2,4,6],[2,4]),(3,[4,5],[4]),(16,[1,4,6,56,57],[4]),(18,[1,4,6],[4]),(19,[4,5],[4]),(32,[4,6,75,76],[4]),(34,[4,6],[4]),(35,[4,5],[4]),(36,[1,2,4,6],[2,4]),(37,[4,5],[4]),(38,[4,5],[4]),(39,[4,5],[4]),(84,[1,2,4,6],[2,4]),(85,[4,5],[4]),(86,[4,5],[4]),(87,[4,5],[4]),(140,[1,4,6],[4]),(141,[4,5],[4]),(142,[4,5],[4]),(143,[4,5],[4])],coe:=[(0,[((1,2,0),3,true),((1,2,1),31,true),((1,4,0),22,true),((1,4,1),3,true)]),(16,[((1,4,0),22,true),((1,4,1),3,true)]),(32,[((1,4,0),22,true),((1,4,1),3,true),((2,0,5),22,false),((2,0,6),3,false)]),(36,[((1,2,0),3,true),((1,2,1),31,true),((1,4,0),22,true),((1,4,1),3,true),((2,2,5),22,false),((2,2,6),3,false)]),(84,[((1,2,0),3,true),((1,2,1),31,true),((1,4,0),22,true),((1,4,1),3,true)]),(140,[((1,4,0),22,true),((1,4,1),3,true)])],nt:=85 }),
 (16,{ a:={ loc:=[2,3,8,10,16,18,23,26,32,38,43],keep:=[(0,[2,3,6],[2,3])],hst:=[41,46],ro:=[36] },own:=false,crow:=[],cuts:=[],live:=[(0,[2,3,6],[2,3]),(2,[],[]),(3,[4],[])],coe:=[(0,[((1,2,0),22,true),((1,2,1),3,true),((1,3,0),22,true),((1,3,1),3,true)])],nt:=51 }),
 (19,{ a:={ loc:=[2,9,24],keep:=[(0,[1,2,5],[2]),(2,[1,2,5,6],[2])],hst:=[21,27] },own:=false,crow:=[],cuts:=[],live:=[(0,[1,2,5],[2]),(2,[],[]),(3,[4],[]),(16,[1,2,5,6],[2]),(18,[1,2,5],[2]),(19,[4],[])],coe:=[(0,[((0,1,0),22,true),((1,2,0),3,true),((1,2,1),31,true)]),(16,[((0,1,0),22,true),((1,2,0),3,true),((1,2,1),31,true)])],nt:=58 }),
 (20,{ a:={ loc:=[2,7,17],keep:=[(0,[1,2,5],[2])],hst:=[20],ro:=[39] },own:=false,crow:=[],cuts:=[],live:=[(0,[1,2,5],[2]),(2,[],[]),(3,[4],[])],coe:=[(0,[((0,1,0),22,true),((1,2,0),3,true),((1,2,1),31,true)])],nt:=24 }),
 (21,{ a:={ loc:=[],keep:=[(0,[0,3,4],[])] },own:=false,crow:=[],cuts:=[],live:=[(0,[0,3,4],[]),(2,[3],[]),(3,[2],[])],coe:=[(0,[((0,0,0),3,true)])],nt:=18 }),
 (22,{ a:={ loc:=[2,3,10,17,23,28,33,35,40,43,47],keep:=[],ro:=[40,41] },own:=false,crow:=[],cuts:=[],live:=[],coe:=[],nt:=52 }),
 (23,{ a:={ loc:=[],keep:=[(0,[0,1,5,6],[])] },own:=false,crow:=[],cuts:=[],live:=[(0,[0,1,5,6],[]),(2,[5],[]),(3,[4],[])],coe:=[(0,[((0,0,0),3,true),((0,1,0),3,true)])],nt:=23 }),
 (24,{ a:={ loc:=[1,7,12,18,24,30,36,43,51,57,80],keep:=[(0,[1,3],[1]),(2,[1,4],[1]),(4,[1,4,5,6],[1])],hst:=[78],ro:=[42] },own:=false,crow:=[],cuts:=[],live:=[(0,[1,3],[1]),(2,[1],[1]),(3,[2],[]),(16,[1,4],[1]),(18,[],[]),(19,[2],[]),(32,[1,4,5,6],[1]),(34,[1,4],[1]),(35,[2],[])],coe:=[(0,[((1,1,0),3,true),((1,1,1),31,true)]),(16,[((1,1,0),3,true),((1,1,1),31,true)]),(32,[((0,5,0),22,true),((1,1,0),3,true),((1,1,1),31,true)])],nt:=85 }),
 (26,{ a:={ loc:=[3,29],keep:=[],ro:=[46] },own:=false,crow:=[],cuts:=[],live:=[],coe:=[],nt:=38 }),
 (27,{ a:={ loc:=[2,3,5],keep:=[] },own:=false,crow:=[],cuts:=[],live:=[],coe:=[],nt:=19 }),
 (28,{ a:={ loc:=[],keep:=[] },own:=false,crow:=[],cuts:=[],live:=[],coe:=[],nt:=24 }),
 (29,{ a:={ loc:=[],keep:=[(0,[1,5,8,9,10],[])] },own:=false,crow:=[],cuts:=[],live:=[(0,[1,5,8,9,10],[]),(2,[5],[]),(3,[4],[])],coe:=[(0,[((0,1,0),3,true),((0,8,0),3,true)])],nt:=22 }),
 (30,{ a:={ loc:=[2,26],keep:=[(0,[1,2,5],[2])] },own:=false,crow:=[],cuts:=[],live:=[(0,[1,2,5],[2]),(2,[1,2],[2]),(3,[4],[])],coe:=[(0,[((0,1,0),3,true),((1,2,0),3,true),((1,2,1),31,true)])],nt:=30 }),
 (31,{ a:={ loc:=[39],keep:=[(0,[1,5,14,15,16],[]),(2,[1,5,6,8,14,15,16,25,26],[])],hst:=[35],ro:=[32,57,81,83],grv:=true,fsh:=[5,8,23,29,35,37,40],gr:=[55] },own:=false,crow:=[],cuts:=[],live:=[(0,[1,5,14,15,16],[]),(2,[5],[]),(3,[4],[]),(16,[1,5,6,8,14,15,16,25,26],[]),(18,[1,5,8,14,15,16],[]),(19,[4],[])],coe:=[(0,[((0,5,0),22,true),((0,14,0),31,true)]),(16,[((0,5,0),22,true),((0,8,0),3,true),((0,14,0),31,true)])],nt:=43 }),
 (32,{ a:={ loc:=[],keep:=[] },own:=false,crow:=[],cuts:=[],live:=[],coe:=[],nt:=5 }),
 (33,{ a:={ loc:=[],keep:=[(0,[0,2,8,9,20,21,22],[])],ro:=[29],gr:=[54] },own:=false,crow:=[],cuts:=[],live:=[(0,[0,2,8,9,20,21,22],[]),(2,[8,9],[]),(3,[6,7],[])],coe:=[(0,[((0,2,0),3,true),((0,20,0),22,true)])],nt:=47 }),
 (34,{ a:={ loc:=[],keep:=[(0,[1,2,25,26,27],[]),(2,[1,2,5,59,60,61],[]),(4,[1,8,9,96,97,98],[])],hst:=[1,2,21,41,47,78,83,153],gr:=[31,60] },own:=false,crow:=[],cuts:=[2,8,9,15,16,18],live:=[(0,[1,2,25,26,27],[]),(2,[1,2],[]),(3,[],[]),(16,[1,2,5,59,60,61],[]),(18,[1,2,5],[]),(19,[],[]),(32,[1,8,9,96,97,98],[]),(34,[],[]),(35,[],[]),(20,[1,2],[]),(21,[],[]),(22,[],[]),(23,[],[]),(68,[1,2],[]),(69,[],[]),(70,[],[]),(71,[],[]),(76,[1,2],[]),(77,[],[]),(78,[],[]),(79,[],[]),(124,[1,2,5],[]),(125,[],[]),(126,[],[]),(127,[],[]),(132,[1,2],[]),(133,[],[]),(134,[],[]),(135,[],[]),(148,[1,8,9],[]),(149,[],[]),(150,[],[]),(151,[],[])],coe:=[(0,[((0,25,0),3,true)]),(16,[((0,5,0),3,true),((0,59,0),3,true)]),(32,[((0,8,0),3,true),((0,96,0),3,true)]),(124,[((0,5,0),3,true)]),(148,[((0,8,0),3,true)])],nt:=155 }),
 (36,{ a:={ loc:=[],keep:=[(0,[0,1,5],[])] },own:=false,crow:=[],cuts:=[],live:=[(0,[0,1,5],[]),(2,[],[]),(3,[4],[])],coe:=[(0,[((0,0,0),3,true),((0,1,0),3,true)])],nt:=26 }),
 (37,{ a:={ loc:=[],keep:=[(0,[0,1,5],[])] },own:=false,crow:=[],cuts:=[],live:=[(0,[0,1,5],[]),(2,[],[]),(3,[4],[])],coe:=[(0,[((0,0,0),3,true)])],nt:=18 }),
 (39,{ a:={ loc:=[3,11,18,27],keep:=[(0,[1,2,3,7,8],[3]),(2,[1,2,3,7,8,9],[3])],ro:=[37] },own:=false,crow:=[],cuts:=[],live:=[(0,[1,2,3,7,8],[3]),(2,[7],[]),(3,[6],[]),(16,[1,2,3,7,8,9],[3]),(18,[1,2,3,7,8],[3]),(19,[6],[])],coe:=[(0,[((0,1,0),22,true),((1,3,0),3,true),((1,3,1),31,true)]),(16,[((0,1,0),22,true),((1,3,0),3,true),((1,3,1),31,true)])],nt:=47 }),
 (40,{ a:={ loc:=[3,16,35,44],keep:=[(0,[1,2,3,7],[3]),(2,[1,2,3,7,9,10],[3])],ro:=[20,21,23] },own:=false,crow:=[],cuts:=[],live:=[(0,[1,2,3,7],[3]),(2,[],[]),(3,[6],[]),(16,[1,2,3,7,9,10],[3]),(18,[1,2,3,7],[3]),(19,[6],[])],coe:=[(0,[((0,1,0),22,true),((0,2,0),3,true),((1,3,0),3,true),((1,3,1),31,true)]),(16,[((0,1,0),22,true),((0,2,0),3,true),((1,3,0),3,true),((1,3,1),31,true)])],nt:=56 }),
 (41,{ a:={ loc:=[2,18],keep:=[(0,[1,2,5,6],[2])] },own:=false,crow:=[],cuts:=[],live:=[(0,[1,2,5,6],[2]),(2,[5],[]),(3,[4],[])],coe:=[(0,[((0,1,0),3,true),((1,2,0),3,true),((1,2,1),31,true)])],nt:=26 }),
 (42,{ a:={ loc:=[],keep:=[(0,[0,1,5],[])] },own:=false,crow:=[],cuts:=[],live:=[(0,[0,1,5],[]),(2,[0],[]),(3,[4],[])],coe:=[(0,[((0,0,0),3,true)])],nt:=49 }),
 (43,{ a:={ loc:=[],keep:=[] },own:=false,crow:=[],cuts:=[],live:=[],coe:=[],nt:=15 }),
 (44,{ a:={ loc:=[3,11,18,32],keep:=[(0,[2,3,23,24,25],[3])] },own:=false,crow:=[],cuts:=[],live:=[(0,[2,3,23,24,25],[3]),(2,[2],[]),(3,[6],[])],coe:=[(0,[((0,2,0),3,true),((0,23,0),22,true),((1,3,0),3,true),((1,3,1),31,true)])],nt:=47 }),
 (45,{ a:={ loc:=[3,10,16,20,24,37,41,52,65,78],keep:=[(2,[7,10,42,43,44],[10]),(4,[1,3,5,6,8,57,58,59],[3]),(8,[5,6,8,15,17,79,80,81],[])],hst:=[7,8,35,40,50,55],rt:=[(20,3),(24,3),(37,10),(52,10)] },own:=false,crow:=[],cuts:=[],live:=[(16,[7,10,42,43,44],[10]),(18,[],[]),(19,[6],[]),(32,[1,3,5,6,8,57,58,59],[3]),(34,[1,3,5,6,8],[3]),(35,[6],[]),(64,[5,6,8,15,17,79,80,81],[]),(66,[6,8,15,17],[]),(67,[6],[]),(41,[7,8],[]),(161,[5,6,8],[])],coe:=[(16,[((0,42,0),3,true),((1,10,0),3,true)]),(32,[((0,1,0),22,true),((0,57,0),3,true),((1,3,0),3,true),((1,3,1),31,true)]),(64,[((0,79,0),3,true)])],nt:=106 }),
 (46,{ a:={ loc:=[2,17],keep:=[(0,[2,5,8,9,10],[2])] },own:=false,crow:=[],cuts:=[],live:=[(0,[2,5,8,9,10],[2]),(2,[5],[]),(3,[4],[])],coe:=[(0,[((0,8,0),3,true),((1,2,0),3,true),((1,2,1),31,true)])],nt:=26 }),
 (47,{ a:={ loc:=[],keep:=[] },own:=false,crow:=[],cuts:=[],live:=[],coe:=[],nt:=9 }),
 (48,{ a:={ loc:=[],keep:=[],ro:=[43] },own:=false,crow:=[],cuts:=[],live:=[],coe:=[],nt:=5 }),
 (49,{ a:={ loc:=[],keep:=[] },own:=false,crow:=[],cuts:=[],live:=[],coe:=[],nt:=9 }),
 (50,{ a:={ loc:=[],keep:=[] },own:=false,crow:=[],cuts:=[],live:=[],coe:=[],nt:=12 }),
 (51,{ a:={ loc:=[],keep:=[] },own:=false,crow:=[],cuts:=[],live:=[],coe:=[],nt:=9 }),
 (52,{ a:={ loc:=[],keep:=[] },own:=false,crow:=[],cuts:=[],live:=[],coe:=[],nt:=9 }),
 (53,{ a:={ loc:=[],keep:=[(0,[0,1,5,8,9,10],[])] },own:=false,crow:=[],cuts:=[],live:=[(0,[0,1,5,8,9,10],[]),(2,[0],[]),(3,[4],[])],coe:=[(0,[((0,0,0),3,true),((0,8,0),3,true)])],nt:=27 }),
 (54,{ a:={ loc:=[],keep:=[],ro:=[66] },own:=false,crow:=[],cuts:=[],live:=[],coe:=[],nt:=9 }),
 (55,{ a:={ loc:=[],keep:=[],hst:=[2,13],ro:=[56],gr:=[33] },own:=false,crow:=[],cuts:=[],live:=[],coe:=[],nt:=23 }),
 (56,{ a:={ loc:=[],keep:=[],ro:=[73,74] },own:=false,crow:=[],cuts:=[],live:=[],coe:=[],nt:=29 }),
 (57,{ a:={ loc:=[],keep:=[] },own:=false,crow:=[],cuts:=[],live:=[],coe:=[],nt:=25 }),
 (58,{ a:={ loc:=[6,25],keep:=[],hst:=[20,30] },own:=false,crow:=[],cuts:=[],live:=[],coe:=[],nt:=39 }),
 (59,{ a:={ loc:=[],keep:=[(0,[0,3,4],[])] },own:=false,crow:=[],cuts:=[],live:=[(0,[0,3,4],[]),(2,[3],[]),(3,[2],[])],coe:=[(0,[((0,0,0),3,true)])],nt:=25 }),
 (60,{ a:={ loc:=[],keep:=[(0,[1,5,23,24,25],[]),(2,[1,5,6,23,24,25,30,31,32],[]),(4,[1,5,6,8,23,24,25,30,31,32,37,38,39],[])],hst:=[45,49,52,55],fsh:=[5,18,43,55] },own:=false,crow:=[],cuts:=[],live:=[(0,[1,5,23,24,25],[]),(2,[5],[]),(3,[4],[]),(16,[1,5,6,23,24,25,30,31,32],[]),(18,[1,5,23,24,25],[]),(19,[4],[]),(32,[1,5,6,8,23,24,25,30,31,32,37,38,39],[]),(34,[1,5,6,23,24,25,30,31,32],[]),(35,[4],[])],coe:=[(0,[((0,1,0),22,true),((0,5,0),3,true),((0,23,0),31,true)]),(16,[((0,1,0),22,true),((0,5,0),3,true),((0,23,0),31,true),((0,30,0),22,true)]),(32,[((0,1,0),22,true),((0,5,0),3,true),((0,23,0),31,true),((0,30,0),22,true),((0,37,0),3,true)])],nt:=60 }),
 (61,{ a:={ loc:=[],keep:=[(0,[0,1,5,8,9,10],[])] },own:=false,crow:=[],cuts:=[],live:=[(0,[0,1,5,8,9,10],[]),(2,[5],[]),(3,[4],[])],coe:=[(0,[((0,1,0),3,true),((0,8,0),3,true)])],nt:=50 }),
 (63,{ a:={ loc:=[],keep:=[],ro:=[43] },own:=false,crow:=[],cuts:=[],live:=[],coe:=[],nt:=5 }),
 (64,{ a:={ loc:=[],keep:=[],ro:=[43] },own:=false,crow:=[],cuts:=[],live:=[],coe:=[],nt:=5 }),
 (65,{ a:={ loc:=[],keep:=[] },own:=false,crow:=[],cuts:=[],live:=[],coe:=[],nt:=6 }),
 (66,{ a:={ loc:=[],keep:=[],ro:=[77] },own:=false,crow:=[],cuts:=[],live:=[],coe:=[],nt:=9 }),
 (67,{ a:={ loc:=[],keep:=[],ro:=[48,63,64],rov:=true },own:=false,crow:=[],cuts:=[],live:=[],coe:=[],nt:=8 }),
 (68,{ a:={ loc:=[],keep:=[] },own:=false,crow:=[],cuts:=[],live:=[],coe:=[],nt:=9 }),
 (69,{ a:={ loc:=[],keep:=[] },own:=false,crow:=[],cuts:=[],live:=[],coe:=[],nt:=8 }),
 (70,{ a:={ loc:=[],keep:=[] },own:=false,crow:=[],cuts:=[],live:=[],coe:=[],nt:=9 }),
 (71,{ a:={ loc:=[],keep:=[] },own:=false,crow:=[],cuts:=[],live:=[],coe:=[],nt:=8 }),
 (72,{ a:={ loc:=[],keep:=[] },own:=false,crow:=[],cuts:=[],live:=[],coe:=[],nt:=13 }),
 (73,{ a:={ loc:=[],keep:=[] },own:=false,crow:=[],cuts:=[],live:=[],coe:=[],nt:=51 }),
 (74,{ a:={ loc:=[],keep:=[(0,[2,8,9,10,11,13,14,15,16],[]),(2,[2,8,9,10,14,15,16,17,18],[])],ro:=[80] },own:=false,crow:=[],cuts:=[9,12,15,16,21,22,23,28],live:=[(0,[2,8,9,10,11,13,14,15,16],[]),(2,[2,8,9,10,11,13,14,15],[]),(3,[6,7],[]),(16,[2,8,9,10,14,15,16,17,18],[]),(18,[2,8,14,15,17,18],[]),(19,[6,7],[]),(76,[0,1,2,8],[]),(77,[6,7],[]),(78,[6,7],[]),(79,[6,7],[]),(100,[1,2,8,9,10,11],[]),(101,[6,7],[]),(102,[6,7],[]),(103,[6,7],[]),(124,[2,8,9,10,11,13,14],[]),(125,[6,7],[]),(126,[6,7],[]),(127,[6,7],[]),(132,[2,8,9,10,11,13,14,15],[]),(133,[6,7],[]),(134,[6,7],[]),(135,[6,7],[]),(172,[2,8,9,10,11,13,14,15],[]),(173,[6,7],[]),(174,[6,7],[]),(175,[6,7],[]),(180,[2,8,9,10,14,15,17],[]),(181,[6,7],[]),(182,[6,7],[]),(183,[6,7],[]),(188,[2,8,9,10,14,15,17,18],[]),(189,[6,7],[]),(190,[6,7],[]),(191,[6,7],[]),(228,[2,8,14,15,17,18],[]),(229,[6,7],[]),(230,[6,7],[]),(231,[6,7],[])],coe:=[],nt:=135 }),
 (75,{ a:={ loc:=[6,10,41,42,95,105,126,128,134],keep:=[(0,[2,3,6,10,11,12,43,44,45],[6,10]),(2,[2,3,6,10,11,12,19,85,86,87],[6,10])],hst:=[3,98,111,119,124],rt:=[(105,10)],gr:=[31,33,60] },own:=false,crow:=[],cuts:=[4,5,18,26],live:=[(0,[2,3,6,10,11,12,43,44,45],[6,10]),(2,[2,3,6,10,11,12],[6,10]),(3,[6,7],[6]),(16,[2,3,6,10,11,12,19,85,86,87],[6,10]),(18,[3,6,10],[6,10]),(19,[6,7],[6]),(36,[2,3,4,6,8,9,10],[6,10]),(37,[6,7],[6]),(38,[6,7],[6]),(39,[6,7],[6]),(44,[2,3,6,10],[6,10]),(45,[6,7],[6]),(46,[6,7],[6]),(47,[6,7],[6]),(148,[2,3,6,10,11,12,19],[6,10]),(149,[6,7],[6]),(150,[6,7],[6]),(151,[6,7],[6]),(212,[3,6,10],[6,10]),(213,[6,7],[6]),(214,[6,7],[6]),(215,[6,7],[6])],coe:=[(0,[((0,2,0),3,true),((0,43,0),22,true),((1,6,0),22,true),((1,6,1),3,true),((1,10,0),22,true),((1,10,1),3,true)]),(16,[((0,2,0),3,true),((0,19,0),3,true),((0,85,0),3,true),((1,6,0),22,true),((1,6,1),3,true),((1,10,0),22,true),((1,10,1),3,true)]),(36,[((0,2,0),3,true),((1,6,0),22,true),((1,6,1),3,true),((1,10,0),22,true),((1,10,1),3,true)]),(44,[((0,2,0),3,true),((1,6,0),22,true),((1,6,1),3,true),((1,10,0),22,true),((1,10,1),3,true)]),(148,[((0,2,0),3,true),((0,19,0),3,true),((1,6,0),22,true),((1,6,1),3,true),((1,10,0),22,true),((1,10,1),3,true)]),(212,[((1,6,0),22,true),((1,6,1),3,true),((1,10,0),22,true),((1,10,1),3,true)])],nt:=138 }),
 (76,{ a:={ loc:=[],keep:=[(0,[0,2,9,10,11],[]),(2,[0,2,4,9,10,11,16,17,18],[])] },own:=false,crow:=[],cuts:=[],live:=[(0,[0,2,9,10,11],[]),(2,[],[]),(3,[],[]),(16,[0,2,4,9,10,11,16,17,18],[]),(18,[0,2,9,10,11],[]),(19,[],[])],coe:=[(0,[((0,9,0),31,true)]),(16,[((0,9,0),31,true),((0,16,0),22,true)])],nt:=38 }),
 (77,{ a:={ loc:=[],keep:=[(0,[0,1,7,8],[])],ro:=[67,72],rov:=true },own:=false,crow:=[],cuts:=[],live:=[(0,[0,1,7,8],[]),(2,[],[]),(3,[4],[])],coe:=[(0,[((0,0,0),3,true)])],nt:=19 }),
 (78,{ a:={ loc:=[],keep:=[(0,[0,1,7,8],[])] },own:=false,crow:=[],cuts:=[],live:=[(0,[0,1,7,8],[]),(2,[],[]),(3,[4],[])],coe:=[(0,[((0,0,0),31,true)])],nt:=19 }),
 (79,{ a:={ loc:=[],keep:=[(0,[0,1,7,8],[])] },own:=false,crow:=[],cuts:=[],live:=[(0,[0,1,7,8],[]),(2,[],[]),(3,[4],[])],coe:=[(0,[((0,0,0),22,true)])],nt:=19 }),
 (80,{ a:={ loc:=[],keep:=[],ro:=[84] },own:=false,crow:=[],cuts:=[],live:=[],coe:=[],nt:=6 }),
 (81,{ a:={ loc:=[],keep:=[],hst:=[2,3,4,5,11,14,19,22,27],ro:=[56] },own:=false,crow:=[],cuts:=[],live:=[],coe:=[],nt:=30 }),
 (82,{ a:={ loc:=[],keep:=[(0,[3,6,7,8],[])] },own:=false,crow:=[],cuts:=[],live:=[(0,[3,6,7,8],[]),(2,[3],[]),(3,[2],[])],coe:=[(0,[((0,6,0),3,true)])],nt:=17 }),
 (83,{ a:={ loc:=[],keep:=[] },own:=false,crow:=[],cuts:=[],live:=[],coe:=[],nt:=5 }),
 (84,{ a:={ loc:=[],keep:=[] },own:=false,crow:=[],cuts:=[4,7,10],live:=[(36,[0,2],[]),(37,[2],[]),(38,[2],[]),(39,[2],[]),(60,[0,2],[]),(61,[2],[]),(62,[2],[]),(63,[2],[]),(84,[0,2],[]),(85,[2],[]),(86,[2],[]),(87,[2],[])],coe:=[],nt:=25 })]
def o0:OrcT:=[]
def t0:TellT:=[]
abbrev tn0:FuncId→TAn:=zd base o0 t0
theorem names:yB Try.prog=true:=by kernel_rfl
theorem mixed:Try.prog.follows .mixedOrders=true:=by kernel_rfl
theorem ok0:TnOk Try.prog tn0 (mkA base) dOk:=tn_nil (by kernel_rfl)
abbrev OKT (T:FuncId→TAn):=TnOk Try.prog T (mkA base) dOk
noncomputable def LaJ:Nat→LI→Int→LI→Int→Int→Option Int
 | 0,_,_,_,_,_=>none
 | n+1,x0,x1,x2,x3,x4=>(cond (decide (x4 < x3)) (cond (decide (0≤x4)) (cond (decide (x4 < (x2.length:Int))) (cond (decide (0≤List.getD x2 x4.toNat 0)) (cond (decide (List.getD x2 x4.toNat 0 < (x0.length:Int))) (LaJ n x0 (wI (x1+List.getD x0 (List.getD x2 x4.toNat 0).toNat 0)) x2 x3 (wI (x4+(1:Int)))) none) none) none) none) (some x1))
theorem qLaJ:type_of% @LaJ.eq_2:=@LaJ.eq_2
noncomputable def xLaJ (x0:LI) (x1:Int) (x2:LI) (x3 x4:Int):Int→Ex×CS:=fun r=>((.exit 0),⟨[(5,vI (r))],[],[],0,false⟩)
abbrev cLaJ (x0:LI) (x1:Int) (x2:LI) (x3 x4:Int):CS:=⟨[(1,vD x0),(5,vI x1),(8,vD x2),(9,vI x3),(10,vI x4)],[],[],0,false⟩
theorem bLaJ (k:Nat) (cN:KN) (cX:KX) (x0:LI) (x1:Int) (x2:LI) (x3 x4:Int):zo zP (tn0 29) (TM.evF zP (tn0) dOk (k+40)) dOk (k+40) (za zP (tn0 29) 29 0) 0 0 (cLaJ x0 x1 x2 x3 x4) cN cX=(cond (decide (x4 < x3)) (cond (decide (0≤x4)) (cond (decide (x4 < (x2.length:Int))) (cond (decide (0≤List.getD x2 x4.toNat 0)) (cond (decide (List.getD x2 x4.toNat 0 < (x0.length:Int))) (cN (cLaJ x0 (wI (x1+List.getD x0 (List.getD x2 x4.toNat 0).toNat 0)) x2 x3 (wI (x4+(1:Int))))) none) none) none) none) (cP cX (xLaJ x0 x1 x2 x3 x4 x1))):=by kernel_rfl
theorem lLaJ (k m:Nat):∀ (n:Nat) (x0:LI) (x1:Int) (x2:LI) (x3 x4:Int) (r:Int),LaJ n x0 x1 x2 x3 x4=some r→zA zP (tn0 29) (TM.evF zP (tn0) dOk (k+40)) dOk (k+40) (za zP (tn0 29) 29 0) 0 0 (n+m) (cLaJ x0 x1 x2 x3 x4)=some (xLaJ x0 x1 x2 x3 x4 r):=by
 intro n
 induction n with
 | zero=>intro _ _ _ _ _ r h;cases h
 | succ n ih=>
  intro x0 x1 x2 x3 x4 r
  rw [show n+1+m=n+m+1 by omega,zk,bLaJ,qLaJ]
  with_reducible repeat' refine ze ?_ ?_
  all_goals first | exact ih _ _ _ _ _ r | (intro h;cases h;done) | (intro h;cases h;rfl)
noncomputable def sLaJ:TellS:=fun S=>tq (mS (cLaJ [] 0 [] 0 0)) S fun x0 x1 x2 x3 x4=>some [te (LaJ FU x0 x1 x2 x3 x4) (xLaJ x0 x1 x2 x3 x4)]
theorem wLaJ:zh zP dOk base o0 t0 ((29,0),sLaJ):=by
 refine ⟨.loop (za zP (tn0 29) 29 0),0,by kernel_rfl,?_⟩
 intro S alts e S' h1 h2
 obtain ⟨_,rfl,g⟩:=tq_some h1
 clear h1
 change some _=_ at g
 cases g
 obtain ⟨hc0,rfl,rfl⟩:=zf h2
 exact ⟨FU+40,(zb rfl).trans (lLaJ FU 40 FU _ _ _ _ _ _ (zc hc0))⟩
noncomputable def t1:TellT:=((29,0),sLaJ)::t0
abbrev tn1:=zd base o0 t1
theorem ok1:OKT tn1:=zi ok0 ok0 (p:=((29,0),sLaJ)) wLaJ
noncomputable def tv29 {β:Type} (x0:LI) (x1:LI) (K:Int→Option β):Option β:=(cond (ok (LaJ FU x1 0 x0 (x0.length:Int) 0)) (K (val (LaJ FU x1 0 x0 (x0.length:Int) 0))) none)
noncomputable def v29 (x0:LI) (x1:LI):Option Int:=tv29 x0 x1 some
abbrev aF29 (x0:LI) (x1:LI):List TA:=[.sc (kD x0),.sc (kD x1)]
theorem ev29 (x0:LI) (x1:LI):zt zP (tn1 29) (TM.evF zP (tn1) dOk 40) dOk 40 29 (aF29 x0 x1) []=(v29 x0 x1).bind fun r=>some ([.sc (I4 (r))],[]):=by
 refine Eq.trans (b:=tv29 x0 x1 fun r=>some ([.sc (I4 (r))],[])) (by kernel_rfl) ?_
 unfold v29 tv29
 with_reducible repeat' refine zp ?_ ?_
 all_goals rfl
noncomputable def sv29:OrcS:=fun al H=>tqa (aF29 [] []) [] al H fun x0 x1=>some [(ok (v29 x0 x1),[.sc (I4 ((val (v29 x0 x1))))],[])]
theorem wv29:zq zP dOk base o0 t1 (29,sv29):=by
 intro al H q hq rs H2 h2
 obtain ⟨_,_,rfl,rfl,g⟩:=tqa_some hq
 clear hq
 change some _=_ at g
 cases g
 obtain ⟨hc0,rfl,rfl⟩:=zg h2
 exact ⟨41,(zy (by kernel_rfl)).trans ((ev29 _ _).trans (zm (zc hc0)))⟩
noncomputable def o2:OrcT:=(29,sv29)::o0
abbrev tn2:=zd base o2 t1
theorem ok2:OKT tn2:=zr ok1 ok1 (p:=(29,sv29)) wv29
noncomputable def v43 (x0 x1 x2:Int):Option Bool:=(cond (decide (x1≤x0)) (some (decide (x0≤x2))) (some (false)))
abbrev aF43 (x0 x1 x2:Int):List TA:=[.sc (I4 x0),.sc (I4 x1),.sc (I4 x2)]
theorem ev43 (x0 x1 x2:Int):zt zP (tn2 43) (TM.evF zP (tn2) dOk 40) dOk 40 43 (aF43 x0 x1 x2) []=(v43 x0 x1 x2).bind fun r=>some ([.sc (.bool (r))],[]):=by
 refine Eq.trans (b:=(cond (decide (x1≤x0)) (some ([.sc (.bool (decide (x0≤x2)))],[])) (some ([.sc (.bool (false))],[])))) (by kernel_rfl) ?_
 unfold v43
 with_reducible repeat' refine zp ?_ ?_
 all_goals rfl
noncomputable def sv43:OrcS:=fun al H=>tqa (aF43 0 0 0) [] al H fun x0 x1 x2=>some [(ok (v43 x0 x1 x2),[.sc (.bool ((val (v43 x0 x1 x2))))],[])]
theorem wv43:zq zP dOk base o2 t1 (43,sv43):=by
 intro al H q hq rs H2 h2
 obtain ⟨_,_,rfl,rfl,g⟩:=tqa_some hq
 clear hq
 change some _=_ at g
 cases g
 obtain ⟨hc0,rfl,rfl⟩:=zg h2
 exact ⟨41,(zy (by kernel_rfl)).trans ((ev43 _ _ _).trans (zm (zc hc0)))⟩
noncomputable def o3:OrcT:=(43,sv43)::o2
abbrev tn3:=zd base o3 t1
theorem ok3:OKT tn3:=zr ok2 ok2 (p:=(43,sv43)) wv43
noncomputable def v48 (x0:Int):Option Bool:=(cond (ok (v43 x0 0 (1000:Int))) (some (val (v43 x0 0 (1000:Int)))) none)
abbrev aF48 (x0:Int):List TA:=[.sc (I4 x0)]
theorem ev48 (x0:Int):zt zP (tn3 48) (TM.evF zP (tn3) dOk 40) dOk 40 48 (aF48 x0) []=(v48 x0).bind fun r=>some ([.sc (.bool (r))],[]):=by
 refine Eq.trans (b:=(cond (ok (v43 x0 0 (1000:Int))) (some ([.sc (.bool (val (v43 x0 0 (1000:Int))))],[])) none)) (by kernel_rfl) ?_
 unfold v48
 with_reducible repeat' refine zp ?_ ?_
 all_goals rfl
noncomputable def sv48:OrcS:=fun al H=>tqa (aF48 0) [] al H fun x0=>some [(ok (v48 x0),[.sc (.bool ((val (v48 x0))))],[])]
theorem wv48:zq zP dOk base o3 t1 (48,sv48):=by
 intro al H q hq rs H2 h2
 obtain ⟨_,_,rfl,rfl,g⟩:=tqa_some hq
 clear hq
 change some _=_ at g
 cases g
 obtain ⟨hc0,rfl,rfl⟩:=zg h2
 exact ⟨41,(zy (by kernel_rfl)).trans ((ev48 _).trans (zm (zc hc0)))⟩
noncomputable def o4:OrcT:=(48,sv48)::o3
abbrev tn4:=zd base o4 t1
theorem ok4:OKT tn4:=zr ok3 ok3 (p:=(48,sv48)) wv48
noncomputable def v67 (x0:Int):Option Bool:=(cond (ok (v48 x0)) (some (!val (v48 x0))) none)
abbrev aF67 (x0:Int):List TA:=[.sc (I4 x0),.sc (.ptr 0 0)]
abbrev hF67:List TO:=[.box 67 [.fn 48 0 [] []]]
theorem ev67 (x0:Int):zt zP (tn4 67) (TM.evF zP (tn4) dOk 40) dOk 40 67 (aF67 x0) hF67=(v67 x0).bind fun r=>some ([.sc (.bool (r))],[.box 67 [.fn 48 0 [] []]]):=by
 refine Eq.trans (b:=(cond (ok (v48 x0)) (some ([.sc (.bool (!val (v48 x0)))],[.box 67 [.fn 48 0 [] []]])) none)) (by kernel_rfl) ?_
 unfold v67
 with_reducible repeat' refine zp ?_ ?_
 all_goals rfl
noncomputable def sv67:OrcS:=fun al H=>tqa (aF67 0) hF67 al H fun x0=>some [(ok (v67 x0),[.sc (.bool ((val (v67 x0))))],[.box 67 [.fn 48 0 [] []]])]
theorem wv67:zq zP dOk base o4 t1 (67,sv67):=by
 intro al H q hq rs H2 h2
 obtain ⟨_,_,rfl,rfl,g⟩:=tqa_some hq
 clear hq
 change some _=_ at g
 cases g
 obtain ⟨hc0,rfl,rfl⟩:=zg h2
 exact ⟨41,(zy (by kernel_rfl)).trans ((ev67 _).trans (zm (zc hc0)))⟩
noncomputable def o5:OrcT:=(67,sv67)::o4
abbrev tn5:=zd base o5 t1
theorem ok5:OKT tn5:=zr ok4 ok4 (p:=(67,sv67)) wv67
noncomputable def LaO:Nat→LI→Int→Int→Option (Int ⊕ Unit)
 | 0,_,_,_=>none
 | n+1,x0,x1,x2=>(cond (decide (x2 < x1)) (cond (decide (0≤x2)) (cond (decide (x2 < (x0.length:Int))) (cond (ok (v67 (List.getD x0 x2.toNat 0))) (cond (val (v67 (List.getD x0 x2.toNat 0))) (some (.inl x2)) (LaO n x0 x1 (wI (x2+(1:Int))))) none) none) none) (some (.inr ())))
theorem qLaO:type_of% @LaO.eq_2:=@LaO.eq_2
noncomputable def xLaO (x0:LI) (x1 x2:Int):(Int ⊕ Unit)→Ex×CS:=fun r=>match r with | .inl a0=>(.ret,⟨[(4,vI (a0))],[],[.box 67 [.fn 48 0 [] []]],1,true⟩) | .inr b0=>((.exit 0),⟨[],[],[.box 67 [.fn 48 0 [] []]],1,false⟩)
abbrev cLaO (x0:LI) (x1 x2:Int):CS:=⟨[(0,vD x0),(1,.v (.sc (.fn 67 0 [none] [.ptr 0 0]))),(7,vI x1),(8,vI x2)],[],[.box 67 [.fn 48 0 [] []]],1,false⟩
theorem bLaO (k:Nat) (cN:KN) (cX:KX) (x0:LI) (x1 x2:Int):zo zP (tn5 77) (TM.evF zP (tn5) dOk (k+40)) dOk (k+40) (za zP (tn0 77) 77 0) 0 0 (cLaO x0 x1 x2) cN cX=(cond (decide (x2 < x1)) (cond (decide (0≤x2)) (cond (decide (x2 < (x0.length:Int))) (cond (ok (v67 (List.getD x0 x2.toNat 0))) (cond (val (v67 (List.getD x0 x2.toNat 0))) (cX .ret ⟨[(4,vI x2)],[],[.box 67 [.fn 48 0 [] []]],1,true⟩) (cN (cLaO x0 x1 (wI (x2+(1:Int)))))) none) none) none) (cX (.exit 0) ⟨[],[],[.box 67 [.fn 48 0 [] []]],1,false⟩)):=by kernel_rfl
theorem lLaO (k m:Nat):∀ (n:Nat) (x0:LI) (x1 x2:Int) (r:(Int ⊕ Unit)),LaO n x0 x1 x2=some r→zA zP (tn5 77) (TM.evF zP (tn5) dOk (k+40)) dOk (k+40) (za zP (tn0 77) 77 0) 0 0 (n+m) (cLaO x0 x1 x2)=some (xLaO x0 x1 x2 r):=by
 intro n
 induction n with
 | zero=>intro _ _ _ r h;cases h
 | succ n ih=>
  intro x0 x1 x2 r
  rw [show n+1+m=n+m+1 by omega,zk,bLaO,qLaO]
  with_reducible repeat' refine ze ?_ ?_
  all_goals first | exact ih _ _ _ r | (intro h;cases h;done) | (intro h;cases h;rfl)
noncomputable def sLaO:TellS:=fun S=>tq (mS (cLaO [] 0 0)) S fun x0 x1 x2=>some [(isL (LaO FU x0 x1 x2),.ret,⟨[(4,vI ((zz (LaO FU x0 x1 x2))))],[],[.box 67 [.fn 48 0 [] []]],1,true⟩),(ok (zn (LaO FU x0 x1 x2)),(.exit 0),⟨[],[],[.box 67 [.fn 48 0 [] []]],1,false⟩)]
theorem wLaO:zh zP dOk base o5 t1 ((77,0),sLaO):=by
 refine ⟨.loop (za zP (tn0 77) 77 0),0,by kernel_rfl,?_⟩
 intro S alts e S' h1 h2
 obtain ⟨_,rfl,g⟩:=tq_some h1
 clear h1
 change some _=_ at g
 cases g
 rcases zD h2 with ⟨hc0,rfl,rfl⟩ | h2
 · exact ⟨FU+40,(zb rfl).trans (lLaO FU 40 FU _ _ _ _ (zM hc0))⟩
 obtain ⟨hc1,rfl,rfl⟩:=zf h2
 exact ⟨FU+40,(zb rfl).trans (lLaO FU 40 FU _ _ _ _ (zG (zc hc1)))⟩
noncomputable def t6:TellT:=((77,0),sLaO)::t1
abbrev tn6:=zd base o5 t6
theorem ok6:OKT tn6:=zi ok5 ok5 (p:=((77,0),sLaO)) wLaO
noncomputable def tv77 {β:Type} (x0:LI) (K:Int→Option β):Option β:=(cond (isL (LaO FU x0 (x0.length:Int) 0)) (K (zz (LaO FU x0 (x0.length:Int) 0))) (cond (ok (zn (LaO FU x0 (x0.length:Int) 0))) (K ((-1:Int))) none))
noncomputable def v77 (x0:LI):Option Int:=tv77 x0 some
abbrev aF77 (x0:LI):List TA:=[.sc (kD x0),.sc (.fn 67 0 [none] [.ptr 0 0])]
abbrev hF77:List TO:=[.box 67 [.fn 48 0 [] []]]
theorem ev77 (x0:LI):zt zP (tn6 77) (TM.evF zP (tn6) dOk 40) dOk 40 77 (aF77 x0) hF77=(v77 x0).bind fun r=>some ([.sc (I4 (r))],[.box 67 [.fn 48 0 [] []]]):=by
 refine Eq.trans (b:=tv77 x0 fun r=>some ([.sc (I4 (r))],[.box 67 [.fn 48 0 [] []]])) (by kernel_rfl) ?_
 unfold v77 tv77
 with_reducible repeat' refine zp ?_ ?_
 all_goals rfl
noncomputable def sv77:OrcS:=fun al H=>tqa (aF77 []) hF77 al H fun x0=>some [(ok (v77 x0),[.sc (I4 ((val (v77 x0))))],[.box 67 [.fn 48 0 [] []]])]
theorem wv77:zq zP dOk base o5 t6 (77,sv77):=by
 intro al H q hq rs H2 h2
 obtain ⟨_,_,rfl,rfl,g⟩:=tqa_some hq
 clear hq
 change some _=_ at g
 cases g
 obtain ⟨hc0,rfl,rfl⟩:=zg h2
 exact ⟨41,(zy (by kernel_rfl)).trans ((ev77 _).trans (zm (zc hc0)))⟩
noncomputable def o7:OrcT:=(77,sv77)::o5
abbrev tn7:=zd base o7 t6
theorem ok7:OKT tn7:=zr ok6 ok6 (p:=(77,sv77)) wv77
noncomputable def v66 (x0:LI):Option Bool:=(cond (ok (v77 x0)) (some (decide (val (v77 x0)≥0))) none)
abbrev aF66 (x0:LI):List TA:=[.sc (kD x0),.sc (.fn 67 0 [none] [.ptr 0 0])]
abbrev hF66:List TO:=[.box 67 [.fn 48 0 [] []]]
theorem ev66 (x0:LI):zt zP (tn7 66) (TM.evF zP (tn7) dOk 40) dOk 40 66 (aF66 x0) hF66=(v66 x0).bind fun r=>some ([.sc (.bool (r))],[.box 67 [.fn 48 0 [] []]]):=by
 refine Eq.trans (b:=(cond (ok (v77 x0)) (some ([.sc (.bool (decide (val (v77 x0)≥0)))],[.box 67 [.fn 48 0 [] []]])) none)) (by kernel_rfl) ?_
 unfold v66
 with_reducible repeat' refine zp ?_ ?_
 all_goals rfl
noncomputable def sv66:OrcS:=fun al H=>tqa (aF66 []) hF66 al H fun x0=>some [(ok (v66 x0),[.sc (.bool ((val (v66 x0))))],[.box 67 [.fn 48 0 [] []]])]
theorem wv66:zq zP dOk base o7 t6 (66,sv66):=by
 intro al H q hq rs H2 h2
 obtain ⟨_,_,rfl,rfl,g⟩:=tqa_some hq
 clear hq
 change some _=_ at g
 cases g
 obtain ⟨hc0,rfl,rfl⟩:=zg h2
 exact ⟨41,(zy (by kernel_rfl)).trans ((ev66 _).trans (zm (zc hc0)))⟩
noncomputable def o8:OrcT:=(66,sv66)::o7
abbrev tn8:=zd base o8 t6
theorem ok8:OKT tn8:=zr ok7 ok7 (p:=(66,sv66)) wv66
noncomputable def v47 (x0:LI):Option Bool:=(cond (ok (v66 x0)) (some (!val (v66 x0))) none)
abbrev aF47 (x0:LI):List TA:=[.sc (kD x0),.sc (.fn 48 0 [] [])]
theorem ev47 (x0:LI):zt zP (tn8 47) (TM.evF zP (tn8) dOk 40) dOk 40 47 (aF47 x0) []=(v47 x0).bind fun r=>some ([.sc (.bool (r))],[]):=by
 refine Eq.trans (b:=(cond (ok (v66 x0)) (some ([.sc (.bool (!val (v66 x0)))],[])) none)) (by kernel_rfl) ?_
 unfold v47
 with_reducible repeat' refine zp ?_ ?_
 all_goals rfl
noncomputable def sv47:OrcS:=fun al H=>tqa (aF47 []) [] al H fun x0=>some [(ok (v47 x0),[.sc (.bool ((val (v47 x0))))],[])]
theorem wv47:zq zP dOk base o8 t6 (47,sv47):=by
 intro al H q hq rs H2 h2
 obtain ⟨_,_,rfl,rfl,g⟩:=tqa_some hq
 clear hq
 change some _=_ at g
 cases g
 obtain ⟨hc0,rfl,rfl⟩:=zg h2
 exact ⟨41,(zy (by kernel_rfl)).trans ((ev47 _).trans (zm (zc hc0)))⟩
noncomputable def o9:OrcT:=(47,sv47)::o8
abbrev tn9:=zd base o9 t6
theorem ok9:OKT tn9:=zr ok8 ok8 (p:=(47,sv47)) wv47
noncomputable def LaV:Nat→LI→Int→Int→LI→Int→Int→Option (Bool ⊕ Unit)
 | 0,_,_,_,_,_,_=>none
 | n+1,x0,x1,x2,x3,x4,x5=>(cond (decide (x5 < x4)) (cond (decide (0≤x5)) (cond (decide (x5 < (x3.length:Int))) (cond (decide (List.getD x3 x5.toNat 0≤x2)) (some (.inl (false))) (cond (decide (List.getD x3 x5.toNat 0≥x1)) (some (.inl (false))) (LaV n x0 x1 (List.getD x3 x5.toNat 0) x3 x4 (wI (x5+(1:Int)))))) none) none) (some (.inr ())))
theorem qLaV:type_of% @LaV.eq_2:=@LaV.eq_2
noncomputable def xLaV (x0:LI) (x1 x2:Int) (x3:LI) (x4 x5:Int):(Bool ⊕ Unit)→Ex×CS:=fun r=>match r with | .inl a0=>(.ret,⟨[(4,.v (.sc (.bool (a0))))],[],[],0,true⟩) | .inr b0=>((.exit 0),⟨[(0,vD x0)],[],[],0,false⟩)
abbrev cLaV (x0:LI) (x1 x2:Int) (x3:LI) (x4 x5:Int):CS:=⟨[(0,vD x0),(1,vI x1),(5,vI x2),(8,vD x3),(9,vI x4),(10,vI x5)],[],[],0,false⟩
theorem bLaV (k:Nat) (cN:KN) (cX:KX) (x0:LI) (x1 x2:Int) (x3:LI) (x4 x5:Int):zo zP (tn9 53) (TM.evF zP (tn9) dOk (k+40)) dOk (k+40) (za zP (tn0 53) 53 0) 0 0 (cLaV x0 x1 x2 x3 x4 x5) cN cX=(cond (decide (x5 < x4)) (cond (decide (0≤x5)) (cond (decide (x5 < (x3.length:Int))) (cond (decide (List.getD x3 x5.toNat 0≤x2)) (cX .ret ⟨[(4,.v (.sc (.bool (false))))],[],[],0,true⟩) (cond (decide (List.getD x3 x5.toNat 0≥x1)) (cX .ret ⟨[(4,.v (.sc (.bool (false))))],[],[],0,true⟩) (cN (cLaV x0 x1 (List.getD x3 x5.toNat 0) x3 x4 (wI (x5+(1:Int))))))) none) none) (cX (.exit 0) ⟨[(0,vD x0)],[],[],0,false⟩)):=by kernel_rfl
theorem lLaV (k m:Nat):∀ (n:Nat) (x0:LI) (x1 x2:Int) (x3:LI) (x4 x5:Int) (r:(Bool ⊕ Unit)),LaV n x0 x1 x2 x3 x4 x5=some r→zA zP (tn9 53) (TM.evF zP (tn9) dOk (k+40)) dOk (k+40) (za zP (tn0 53) 53 0) 0 0 (n+m) (cLaV x0 x1 x2 x3 x4 x5)=some (xLaV x0 x1 x2 x3 x4 x5 r):=by
 intro n
 induction n with
 | zero=>intro _ _ _ _ _ _ r h;cases h
 | succ n ih=>
  intro x0 x1 x2 x3 x4 x5 r
  rw [show n+1+m=n+m+1 by omega,zk,bLaV,qLaV]
  with_reducible repeat' refine ze ?_ ?_
  all_goals first | exact ih _ _ _ _ _ _ r | (intro h;cases h;done) | (intro h;cases h;rfl)
noncomputable def sLaV:TellS:=fun S=>tq (mS (cLaV [] 0 0 [] 0 0)) S fun x0 x1 x2 x3 x4 x5=>some [(isL (LaV FU x0 x1 x2 x3 x4 x5),.ret,⟨[(4,.v (.sc (.bool ((zz (LaV FU x0 x1 x2 x3 x4 x5))))))],[],[],0,true⟩),(ok (zn (LaV FU x0 x1 x2 x3 x4 x5)),(.exit 0),⟨[(0,vD x0)],[],[],0,false⟩)]
theorem wLaV:zh zP dOk base o9 t6 ((53,0),sLaV):=by
 refine ⟨.loop (za zP (tn0 53) 53 0),0,by kernel_rfl,?_⟩
 intro S alts e S' h1 h2
 obtain ⟨_,rfl,g⟩:=tq_some h1
 clear h1
 change some _=_ at g
 cases g
 rcases zD h2 with ⟨hc0,rfl,rfl⟩ | h2
 · exact ⟨FU+40,(zb rfl).trans (lLaV FU 40 FU _ _ _ _ _ _ _ (zM hc0))⟩
 obtain ⟨hc1,rfl,rfl⟩:=zf h2
 exact ⟨FU+40,(zb rfl).trans (lLaV FU 40 FU _ _ _ _ _ _ _ (zG (zc hc1)))⟩
noncomputable def t10:TellT:=((53,0),sLaV)::t6
abbrev tn10:=zd base o9 t10
theorem ok10:OKT tn10:=zi ok9 ok9 (p:=((53,0),sLaV)) wLaV
noncomputable def tv53 {β:Type} (x0:LI) (x1:Int) (K:Bool→Option β):Option β:=(cond (isL (LaV FU x0 x1 (-1:Int) x0 (x0.length:Int) 0)) (K (zz (LaV FU x0 x1 (-1:Int) x0 (x0.length:Int) 0))) (cond (ok (zn (LaV FU x0 x1 (-1:Int) x0 (x0.length:Int) 0))) (cond (ok (v43 (x0.length:Int) (1:Int) (6:Int))) (K (val (v43 (x0.length:Int) (1:Int) (6:Int)))) none) none))
noncomputable def v53 (x0:LI) (x1:Int):Option Bool:=tv53 x0 x1 some
abbrev aF53 (x0:LI) (x1:Int):List TA:=[.sc (kD x0),.sc (I4 x1)]
theorem ev53 (x0:LI) (x1:Int):zt zP (tn10 53) (TM.evF zP (tn10) dOk 40) dOk 40 53 (aF53 x0 x1) []=(v53 x0 x1).bind fun r=>some ([.sc (.bool (r))],[]):=by
 refine Eq.trans (b:=tv53 x0 x1 fun r=>some ([.sc (.bool (r))],[])) (by kernel_rfl) ?_
 unfold v53 tv53
 with_reducible repeat' refine zp ?_ ?_
 all_goals rfl
noncomputable def sv53:OrcS:=fun al H=>tqa (aF53 [] 0) [] al H fun x0 x1=>some [(ok (v53 x0 x1),[.sc (.bool ((val (v53 x0 x1))))],[])]
theorem wv53:zq zP dOk base o9 t10 (53,sv53):=by
 intro al H q hq rs H2 h2
 obtain ⟨_,_,rfl,rfl,g⟩:=tqa_some hq
 clear hq
 change some _=_ at g
 cases g
 obtain ⟨hc0,rfl,rfl⟩:=zg h2
 exact ⟨41,(zy (by kernel_rfl)).trans ((ev53 _ _).trans (zm (zc hc0)))⟩
noncomputable def o11:OrcT:=(53,sv53)::o9
abbrev tn11:=zd base o11 t10
theorem ok11:OKT tn11:=zr ok10 ok10 (p:=(53,sv53)) wv53
noncomputable def v52 (x0:LI) (x1:LI) (x2:L3):Option Bool:=(cond (ok (v53 x0 (x1.length:Int))) (some (val (v53 x0 (x1.length:Int)))) none)
abbrev aF52 (x0:LI):List TA:=[.sc (kD x0),.sc (.ptr 0 0)]
abbrev hF52 (x1:LI) (x2:L3):List TO:=[(bx1 x1 x2)]
theorem ev52 (x0:LI) (x1:LI) (x2:L3):zt zP (tn11 52) (TM.evF zP (tn11) dOk 40) dOk 40 52 (aF52 x0) (hF52 x1 x2)=(v52 x0 x1 x2).bind fun r=>some ([.sc (.bool (r))],[(bx1 x1 x2)]):=by
 refine Eq.trans (b:=(cond (ok (v53 x0 (x1.length:Int))) (some ([.sc (.bool (val (v53 x0 (x1.length:Int))))],[(bx1 x1 x2)])) none)) (by kernel_rfl) ?_
 unfold v52
 with_reducible repeat' refine zp ?_ ?_
 all_goals rfl
noncomputable def sv52:OrcS:=fun al H=>tqa (aF52 []) (hF52 [] []) al H fun x0 x1 x2=>some [(ok (v52 x0 x1 x2),[.sc (.bool ((val (v52 x0 x1 x2))))],[(bx1 x1 x2)])]
theorem wv52:zq zP dOk base o11 t10 (52,sv52):=by
 intro al H q hq rs H2 h2
 obtain ⟨_,_,rfl,rfl,g⟩:=tqa_some hq
 clear hq
 change some _=_ at g
 cases g
 obtain ⟨hc0,rfl,rfl⟩:=zg h2
 exact ⟨41,(zy (by kernel_rfl)).trans ((ev52 _ _ _).trans (zm (zc hc0)))⟩
noncomputable def o12:OrcT:=(52,sv52)::o11
abbrev tn12:=zd base o12 t10
theorem ok12:OKT tn12:=zr ok11 ok11 (p:=(52,sv52)) wv52
noncomputable def v71 (x0:LI) (x1:LI) (x2:L3):Option Bool:=(cond (ok (v52 x0 x1 x2)) (some (!val (v52 x0 x1 x2))) none)
abbrev aF71 (x0:LI):List TA:=[.sc (kD x0),.sc (.ptr 0 0)]
abbrev hF71 (x1:LI) (x2:L3):List TO:=[.box 70 [.fn 52 0 [none] [.ptr 1 0]],(bx1 x1 x2)]
theorem ev71 (x0:LI) (x1:LI) (x2:L3):zt zP (tn12 71) (TM.evF zP (tn12) dOk 40) dOk 40 71 (aF71 x0) (hF71 x1 x2)=(v71 x0 x1 x2).bind fun r=>some ([.sc (.bool (r))],[.box 70 [.fn 52 0 [none] [.ptr 1 0]],(bx1 x1 x2)]):=by
 refine Eq.trans (b:=(cond (ok (v52 x0 x1 x2)) (some ([.sc (.bool (!val (v52 x0 x1 x2)))],[.box 70 [.fn 52 0 [none] [.ptr 1 0]],(bx1 x1 x2)])) none)) (by kernel_rfl) ?_
 unfold v71
 with_reducible repeat' refine zp ?_ ?_
 all_goals rfl
noncomputable def sv71:OrcS:=fun al H=>tqa (aF71 []) (hF71 [] []) al H fun x0 x1 x2=>some [(ok (v71 x0 x1 x2),[.sc (.bool ((val (v71 x0 x1 x2))))],[.box 70 [.fn 52 0 [none] [.ptr 1 0]],(bx1 x1 x2)])]
theorem wv71:zq zP dOk base o12 t10 (71,sv71):=by
 intro al H q hq rs H2 h2
 obtain ⟨_,_,rfl,rfl,g⟩:=tqa_some hq
 clear hq
 change some _=_ at g
 cases g
 obtain ⟨hc0,rfl,rfl⟩:=zg h2
 exact ⟨41,(zy (by kernel_rfl)).trans ((ev71 _ _ _).trans (zm (zc hc0)))⟩
noncomputable def o13:OrcT:=(71,sv71)::o12
abbrev tn13:=zd base o13 t10
theorem ok13:OKT tn13:=zr ok12 ok12 (p:=(71,sv71)) wv71
noncomputable def LaK:Nat→LL→Int→Int→LI→L3→Option (Int ⊕ Unit)
 | 0,_,_,_,_,_=>none
 | n+1,x0,x1,x2,x3,x4=>(cond (decide (x2 < x1)) (cond (decide (0≤x2)) (cond (decide (x2 < (x0.length:Int))) (cond (ok (v71 (List.getD x0 x2.toNat []) x3 x4)) (cond (val (v71 (List.getD x0 x2.toNat []) x3 x4)) (some (.inl x2)) (LaK n x0 x1 (wI (x2+(1:Int))) x3 x4)) none) none) none) (some (.inr ())))
theorem qLaK:type_of% @LaK.eq_2:=@LaK.eq_2
noncomputable def xLaK (x0:LL) (x1 x2:Int) (x3:LI) (x4:L3):(Int ⊕ Unit)→Ex×CS:=fun r=>match r with | .inl a0=>(.ret,⟨[(4,vI (a0))],[],[.box 70 [.fn 52 0 [none] [.ptr 1 0]],(bx1 x3 x4)],2,true⟩) | .inr b0=>((.exit 0),⟨[],[],[.box 70 [.fn 52 0 [none] [.ptr 1 0]],(bx1 x3 x4)],2,false⟩)
abbrev cLaK (x0:LL) (x1 x2:Int) (x3:LI) (x4:L3):CS:=⟨[(0,vL x0),(1,.v (.sc (.fn 71 0 [none] [.ptr 0 0]))),(7,vI x1),(8,vI x2)],[],[.box 70 [.fn 52 0 [none] [.ptr 1 0]],(bx1 x3 x4)],2,false⟩
theorem bLaK (k:Nat) (cN:KN) (cX:KX) (x0:LL) (x1 x2:Int) (x3:LI) (x4:L3):zo zP (tn13 79) (TM.evF zP (tn13) dOk (k+40)) dOk (k+40) (za zP (tn0 79) 79 0) 0 0 (cLaK x0 x1 x2 x3 x4) cN cX=(cond (decide (x2 < x1)) (cond (decide (0≤x2)) (cond (decide (x2 < (x0.length:Int))) (cond (ok (v71 (List.getD x0 x2.toNat []) x3 x4)) (cond (val (v71 (List.getD x0 x2.toNat []) x3 x4)) (cX .ret ⟨[(4,vI x2)],[],[.box 70 [.fn 52 0 [none] [.ptr 1 0]],(bx1 x3 x4)],2,true⟩) (cN (cLaK x0 x1 (wI (x2+(1:Int))) x3 x4))) none) none) none) (cX (.exit 0) ⟨[],[],[.box 70 [.fn 52 0 [none] [.ptr 1 0]],(bx1 x3 x4)],2,false⟩)):=by kernel_rfl
theorem lLaK (k m:Nat):∀ (n:Nat) (x0:LL) (x1 x2:Int) (x3:LI) (x4:L3) (r:(Int ⊕ Unit)),LaK n x0 x1 x2 x3 x4=some r→zA zP (tn13 79) (TM.evF zP (tn13) dOk (k+40)) dOk (k+40) (za zP (tn0 79) 79 0) 0 0 (n+m) (cLaK x0 x1 x2 x3 x4)=some (xLaK x0 x1 x2 x3 x4 r):=by
 intro n
 induction n with
 | zero=>intro _ _ _ _ _ r h;cases h
 | succ n ih=>
  intro x0 x1 x2 x3 x4 r
  rw [show n+1+m=n+m+1 by omega,zk,bLaK,qLaK]
  with_reducible repeat' refine ze ?_ ?_
  all_goals first | exact ih _ _ _ _ _ r | (intro h;cases h;done) | (intro h;cases h;rfl)
noncomputable def sLaK:TellS:=fun S=>tq (mS (cLaK [] 0 0 [] [])) S fun x0 x1 x2 x3 x4=>some [(isL (LaK FU x0 x1 x2 x3 x4),.ret,⟨[(4,vI ((zz (LaK FU x0 x1 x2 x3 x4))))],[],[.box 70 [.fn 52 0 [none] [.ptr 1 0]],(bx1 x3 x4)],2,true⟩),(ok (zn (LaK FU x0 x1 x2 x3 x4)),(.exit 0),⟨[],[],[.box 70 [.fn 52 0 [none] [.ptr 1 0]],(bx1 x3 x4)],2,false⟩)]
theorem wLaK:zh zP dOk base o13 t10 ((79,0),sLaK):=by
 refine ⟨.loop (za zP (tn0 79) 79 0),0,by kernel_rfl,?_⟩
 intro S alts e S' h1 h2
 obtain ⟨_,rfl,g⟩:=tq_some h1
 clear h1
 change some _=_ at g
 cases g
 rcases zD h2 with ⟨hc0,rfl,rfl⟩ | h2
 · exact ⟨FU+40,(zb rfl).trans (lLaK FU 40 FU _ _ _ _ _ _ (zM hc0))⟩
 obtain ⟨hc1,rfl,rfl⟩:=zf h2
 exact ⟨FU+40,(zb rfl).trans (lLaK FU 40 FU _ _ _ _ _ _ (zG (zc hc1)))⟩
noncomputable def t14:TellT:=((79,0),sLaK)::t10
abbrev tn14:=zd base o13 t14
theorem ok14:OKT tn14:=zi ok13 ok13 (p:=((79,0),sLaK)) wLaK
noncomputable def tv79 {β:Type} (x0:LL) (x1:LI) (x2:L3) (K:Int→Option β):Option β:=(cond (isL (LaK FU x0 (x0.length:Int) 0 x1 x2)) (K (zz (LaK FU x0 (x0.length:Int) 0 x1 x2))) (cond (ok (zn (LaK FU x0 (x0.length:Int) 0 x1 x2))) (K ((-1:Int))) none))
noncomputable def v79 (x0:LL) (x1:LI) (x2:L3):Option Int:=tv79 x0 x1 x2 some
abbrev aF79 (x0:LL):List TA:=[.sc (kL x0),.sc (.fn 71 0 [none] [.ptr 0 0])]
abbrev hF79 (x1:LI) (x2:L3):List TO:=[.box 70 [.fn 52 0 [none] [.ptr 1 0]],(bx1 x1 x2)]
theorem ev79 (x0:LL) (x1:LI) (x2:L3):zt zP (tn14 79) (TM.evF zP (tn14) dOk 40) dOk 40 79 (aF79 x0) (hF79 x1 x2)=(v79 x0 x1 x2).bind fun r=>some ([.sc (I4 (r))],[.box 70 [.fn 52 0 [none] [.ptr 1 0]],(bx1 x1 x2)]):=by
 refine Eq.trans (b:=tv79 x0 x1 x2 fun r=>some ([.sc (I4 (r))],[.box 70 [.fn 52 0 [none] [.ptr 1 0]],(bx1 x1 x2)])) (by kernel_rfl) ?_
 unfold v79 tv79
 with_reducible repeat' refine zp ?_ ?_
 all_goals rfl
noncomputable def sv79:OrcS:=fun al H=>tqa (aF79 []) (hF79 [] []) al H fun x0 x1 x2=>some [(ok (v79 x0 x1 x2),[.sc (I4 ((val (v79 x0 x1 x2))))],[.box 70 [.fn 52 0 [none] [.ptr 1 0]],(bx1 x1 x2)])]
theorem wv79:zq zP dOk base o13 t14 (79,sv79):=by
 intro al H q hq rs H2 h2
 obtain ⟨_,_,rfl,rfl,g⟩:=tqa_some hq
 clear hq
 change some _=_ at g
 cases g
 obtain ⟨hc0,rfl,rfl⟩:=zg h2
 exact ⟨41,(zy (by kernel_rfl)).trans ((ev79 _ _ _).trans (zm (zc hc0)))⟩
noncomputable def o15:OrcT:=(79,sv79)::o13
abbrev tn15:=zd base o15 t14
theorem ok15:OKT tn15:=zr ok14 ok14 (p:=(79,sv79)) wv79
noncomputable def v70 (x0:LL) (x1:LI) (x2:L3):Option Bool:=(cond (ok (v79 x0 x1 x2)) (some (decide (val (v79 x0 x1 x2)≥0))) none)
abbrev aF70 (x0:LL):List TA:=[.sc (kL x0),.sc (.fn 71 0 [none] [.ptr 0 0])]
abbrev hF70 (x1:LI) (x2:L3):List TO:=[.box 70 [.fn 52 0 [none] [.ptr 1 0]],(bx1 x1 x2)]
theorem ev70 (x0:LL) (x1:LI) (x2:L3):zt zP (tn15 70) (TM.evF zP (tn15) dOk 40) dOk 40 70 (aF70 x0) (hF70 x1 x2)=(v70 x0 x1 x2).bind fun r=>some ([.sc (.bool (r))],[.box 70 [.fn 52 0 [none] [.ptr 1 0]],(bx1 x1 x2)]):=by
 refine Eq.trans (b:=(cond (ok (v79 x0 x1 x2)) (some ([.sc (.bool (decide (val (v79 x0 x1 x2)≥0)))],[.box 70 [.fn 52 0 [none] [.ptr 1 0]],(bx1 x1 x2)])) none)) (by kernel_rfl) ?_
 unfold v70
 with_reducible repeat' refine zp ?_ ?_
 all_goals rfl
noncomputable def sv70:OrcS:=fun al H=>tqa (aF70 []) (hF70 [] []) al H fun x0 x1 x2=>some [(ok (v70 x0 x1 x2),[.sc (.bool ((val (v70 x0 x1 x2))))],[.box 70 [.fn 52 0 [none] [.ptr 1 0]],(bx1 x1 x2)])]
theorem wv70:zq zP dOk base o15 t14 (70,sv70):=by
 intro al H q hq rs H2 h2
 obtain ⟨_,_,rfl,rfl,g⟩:=tqa_some hq
 clear hq
 change some _=_ at g
 cases g
 obtain ⟨hc0,rfl,rfl⟩:=zg h2
 exact ⟨41,(zy (by kernel_rfl)).trans ((ev70 _ _ _).trans (zm (zc hc0)))⟩
noncomputable def o16:OrcT:=(70,sv70)::o15
abbrev tn16:=zd base o16 t14
theorem ok16:OKT tn16:=zr ok15 ok15 (p:=(70,sv70)) wv70
noncomputable def v51 (x0:LL) (x1:LI) (x2:L3):Option Bool:=(cond (ok (v70 x0 x1 x2)) (some (!val (v70 x0 x1 x2))) none)
abbrev aF51 (x0:LL):List TA:=[.sc (kL x0),.sc (.fn 52 0 [none] [.ptr 0 0])]
abbrev hF51 (x1:LI) (x2:L3):List TO:=[(bx1 x1 x2)]
theorem ev51 (x0:LL) (x1:LI) (x2:L3):zt zP (tn16 51) (TM.evF zP (tn16) dOk 40) dOk 40 51 (aF51 x0) (hF51 x1 x2)=(v51 x0 x1 x2).bind fun r=>some ([.sc (.bool (r))],[(bx1 x1 x2)]):=by
 refine Eq.trans (b:=(cond (ok (v70 x0 x1 x2)) (some ([.sc (.bool (!val (v70 x0 x1 x2)))],[(bx1 x1 x2)])) none)) (by kernel_rfl) ?_
 unfold v51
 with_reducible repeat' refine zp ?_ ?_
 all_goals rfl
noncomputable def sv51:OrcS:=fun al H=>tqa (aF51 []) (hF51 [] []) al H fun x0 x1 x2=>some [(ok (v51 x0 x1 x2),[.sc (.bool ((val (v51 x0 x1 x2))))],[(bx1 x1 x2)])]
theorem wv51:zq zP dOk base o16 t14 (51,sv51):=by
 intro al H q hq rs H2 h2
 obtain ⟨_,_,rfl,rfl,g⟩:=tqa_some hq
 clear hq
 change some _=_ at g
 cases g
 obtain ⟨hc0,rfl,rfl⟩:=zg h2
 exact ⟨41,(zy (by kernel_rfl)).trans ((ev51 _ _ _).trans (zm (zc hc0)))⟩
noncomputable def o17:OrcT:=(51,sv51)::o16
abbrev tn17:=zd base o17 t14
theorem ok17:OKT tn17:=zr ok16 ok16 (p:=(51,sv51)) wv51
noncomputable def tv50 {β:Type} (x0:LL) (x1:LI) (x2:L3) (K:Bool→Option β):Option β:=(cond (ok (v43 (x0.length:Int) (1:Int) (4:Int))) (cond (val (v43 (x0.length:Int) (1:Int) (4:Int))) (cond (ok (v51 x0 x1 x2)) (K (val (v51 x0 x1 x2))) none) (K (false))) none)
noncomputable def v50 (x0:LL) (x1:LI) (x2:L3):Option Bool:=tv50 x0 x1 x2 some
abbrev aF50 (x0:LL):List TA:=[.sc (kL x0),.sc (.ptr 0 0)]
abbrev hF50 (x1:LI) (x2:L3):List TO:=[(bx1 x1 x2)]
theorem ev50 (x0:LL) (x1:LI) (x2:L3):zt zP (tn17 50) (TM.evF zP (tn17) dOk 40) dOk 40 50 (aF50 x0) (hF50 x1 x2)=(v50 x0 x1 x2).bind fun r=>some ([.sc (.bool (r))],[(bx1 x1 x2)]):=by
 refine Eq.trans (b:=tv50 x0 x1 x2 fun r=>some ([.sc (.bool (r))],[(bx1 x1 x2)])) (by kernel_rfl) ?_
 unfold v50 tv50
 with_reducible repeat' refine zp ?_ ?_
 all_goals rfl
noncomputable def sv50:OrcS:=fun al H=>tqa (aF50 []) (hF50 [] []) al H fun x0 x1 x2=>some [(ok (v50 x0 x1 x2),[.sc (.bool ((val (v50 x0 x1 x2))))],[(bx1 x1 x2)])]
theorem wv50:zq zP dOk base o17 t14 (50,sv50):=by
 intro al H q hq rs H2 h2
 obtain ⟨_,_,rfl,rfl,g⟩:=tqa_some hq
 clear hq
 change some _=_ at g
 cases g
 obtain ⟨hc0,rfl,rfl⟩:=zg h2
 exact ⟨41,(zy (by kernel_rfl)).trans ((ev50 _ _ _).trans (zm (zc hc0)))⟩
noncomputable def o18:OrcT:=(50,sv50)::o17
abbrev tn18:=zd base o18 t14
theorem ok18:OKT tn18:=zr ok17 ok17 (p:=(50,sv50)) wv50
noncomputable def v69 (x0:LL) (x1:LI) (x2:L3):Option Bool:=(cond (ok (v50 x0 x1 x2)) (some (!val (v50 x0 x1 x2))) none)
abbrev aF69 (x0:LL):List TA:=[.sc (kL x0),.sc (.ptr 0 0)]
abbrev hF69 (x1:LI) (x2:L3):List TO:=[.box 71 [.fn 50 0 [none] [.ptr 1 0]],(bx1 x1 x2)]
theorem ev69 (x0:LL) (x1:LI) (x2:L3):zt zP (tn18 69) (TM.evF zP (tn18) dOk 40) dOk 40 69 (aF69 x0) (hF69 x1 x2)=(v69 x0 x1 x2).bind fun r=>some ([.sc (.bool (r))],[.box 71 [.fn 50 0 [none] [.ptr 1 0]],(bx1 x1 x2)]):=by
 refine Eq.trans (b:=(cond (ok (v50 x0 x1 x2)) (some ([.sc (.bool (!val (v50 x0 x1 x2)))],[.box 71 [.fn 50 0 [none] [.ptr 1 0]],(bx1 x1 x2)])) none)) (by kernel_rfl) ?_
 unfold v69
 with_reducible repeat' refine zp ?_ ?_
 all_goals rfl
noncomputable def sv69:OrcS:=fun al H=>tqa (aF69 []) (hF69 [] []) al H fun x0 x1 x2=>some [(ok (v69 x0 x1 x2),[.sc (.bool ((val (v69 x0 x1 x2))))],[.box 71 [.fn 50 0 [none] [.ptr 1 0]],(bx1 x1 x2)])]
theorem wv69:zq zP dOk base o18 t14 (69,sv69):=by
 intro al H q hq rs H2 h2
 obtain ⟨_,_,rfl,rfl,g⟩:=tqa_some hq
 clear hq
 change some _=_ at g
 cases g
 obtain ⟨hc0,rfl,rfl⟩:=zg h2
 exact ⟨41,(zy (by kernel_rfl)).trans ((ev69 _ _ _).trans (zm (zc hc0)))⟩
noncomputable def o19:OrcT:=(69,sv69)::o18
abbrev tn19:=zd base o19 t14
theorem ok19:OKT tn19:=zr ok18 ok18 (p:=(69,sv69)) wv69
noncomputable def LaM:Nat→L3→Int→Int→LI→L3→Option (Int ⊕ Unit)
 | 0,_,_,_,_,_=>none
 | n+1,x0,x1,x2,x3,x4=>(cond (decide (x2 < x1)) (cond (decide (0≤x2)) (cond (decide (x2 < (x0.length:Int))) (cond (ok (v69 (List.getD x0 x2.toNat []) x3 x4)) (cond (val (v69 (List.getD x0 x2.toNat []) x3 x4)) (some (.inl x2)) (LaM n x0 x1 (wI (x2+(1:Int))) x3 x4)) none) none) none) (some (.inr ())))
theorem qLaM:type_of% @LaM.eq_2:=@LaM.eq_2
noncomputable def xLaM (x0:L3) (x1 x2:Int) (x3:LI) (x4:L3):(Int ⊕ Unit)→Ex×CS:=fun r=>match r with | .inl a0=>(.ret,⟨[(4,vI (a0))],[],[.box 71 [.fn 50 0 [none] [.ptr 1 0]],(bx1 x3 x4)],2,true⟩) | .inr b0=>((.exit 0),⟨[],[],[.box 71 [.fn 50 0 [none] [.ptr 1 0]],(bx1 x3 x4)],2,false⟩)
abbrev cLaM (x0:L3) (x1 x2:Int) (x3:LI) (x4:L3):CS:=⟨[(0,.v (.sc (.d 31 mT x0))),(1,.v (.sc (.fn 69 0 [none] [.ptr 0 0]))),(7,vI x1),(8,vI x2)],[],[.box 71 [.fn 50 0 [none] [.ptr 1 0]],(bx1 x3 x4)],2,false⟩
theorem bLaM (k:Nat) (cN:KN) (cX:KX) (x0:L3) (x1 x2:Int) (x3:LI) (x4:L3):zo zP (tn19 78) (TM.evF zP (tn19) dOk (k+40)) dOk (k+40) (za zP (tn0 78) 78 0) 0 0 (cLaM x0 x1 x2 x3 x4) cN cX=(cond (decide (x2 < x1)) (cond (decide (0≤x2)) (cond (decide (x2 < (x0.length:Int))) (cond (ok (v69 (List.getD x0 x2.toNat []) x3 x4)) (cond (val (v69 (List.getD x0 x2.toNat []) x3 x4)) (cX .ret ⟨[(4,vI x2)],[],[.box 71 [.fn 50 0 [none] [.ptr 1 0]],(bx1 x3 x4)],2,true⟩) (cN (cLaM x0 x1 (wI (x2+(1:Int))) x3 x4))) none) none) none) (cX (.exit 0) ⟨[],[],[.box 71 [.fn 50 0 [none] [.ptr 1 0]],(bx1 x3 x4)],2,false⟩)):=by kernel_rfl
theorem lLaM (k m:Nat):∀ (n:Nat) (x0:L3) (x1 x2:Int) (x3:LI) (x4:L3) (r:(Int ⊕ Unit)),LaM n x0 x1 x2 x3 x4=some r→zA zP (tn19 78) (TM.evF zP (tn19) dOk (k+40)) dOk (k+40) (za zP (tn0 78) 78 0) 0 0 (n+m) (cLaM x0 x1 x2 x3 x4)=some (xLaM x0 x1 x2 x3 x4 r):=by
 intro n
 induction n with
 | zero=>intro _ _ _ _ _ r h;cases h
 | succ n ih=>
  intro x0 x1 x2 x3 x4 r
  rw [show n+1+m=n+m+1 by omega,zk,bLaM,qLaM]
  with_reducible repeat' refine ze ?_ ?_
  all_goals first | exact ih _ _ _ _ _ r | (intro h;cases h;done) | (intro h;cases h;rfl)
noncomputable def sLaM:TellS:=fun S=>tq (mS (cLaM [] 0 0 [] [])) S fun x0 x1 x2 x3 x4=>some [(isL (LaM FU x0 x1 x2 x3 x4),.ret,⟨[(4,vI ((zz (LaM FU x0 x1 x2 x3 x4))))],[],[.box 71 [.fn 50 0 [none] [.ptr 1 0]],(bx1 x3 x4)],2,true⟩),(ok (zn (LaM FU x0 x1 x2 x3 x4)),(.exit 0),⟨[],[],[.box 71 [.fn 50 0 [none] [.ptr 1 0]],(bx1 x3 x4)],2,false⟩)]
theorem wLaM:zh zP dOk base o19 t14 ((78,0),sLaM):=by
 refine ⟨.loop (za zP (tn0 78) 78 0),0,by kernel_rfl,?_⟩
 intro S alts e S' h1 h2
 obtain ⟨_,rfl,g⟩:=tq_some h1
 clear h1
 change some _=_ at g
 cases g
 rcases zD h2 with ⟨hc0,rfl,rfl⟩ | h2
 · exact ⟨FU+40,(zb rfl).trans (lLaM FU 40 FU _ _ _ _ _ _ (zM hc0))⟩
 obtain ⟨hc1,rfl,rfl⟩:=zf h2
 exact ⟨FU+40,(zb rfl).trans (lLaM FU 40 FU _ _ _ _ _ _ (zG (zc hc1)))⟩
noncomputable def t20:TellT:=((78,0),sLaM)::t14
abbrev tn20:=zd base o19 t20
theorem ok20:OKT tn20:=zi ok19 ok19 (p:=((78,0),sLaM)) wLaM
noncomputable def tv78 {β:Type} (x0:L3) (x1:LI) (x2:L3) (K:Int→Option β):Option β:=(cond (isL (LaM FU x0 (x0.length:Int) 0 x1 x2)) (K (zz (LaM FU x0 (x0.length:Int) 0 x1 x2))) (cond (ok (zn (LaM FU x0 (x0.length:Int) 0 x1 x2))) (K ((-1:Int))) none))
noncomputable def v78 (x0:L3) (x1:LI) (x2:L3):Option Int:=tv78 x0 x1 x2 some
abbrev aF78 (x0:L3):List TA:=[.sc (.d 31 mT x0),.sc (.fn 69 0 [none] [.ptr 0 0])]
abbrev hF78 (x1:LI) (x2:L3):List TO:=[.box 71 [.fn 50 0 [none] [.ptr 1 0]],(bx1 x1 x2)]
theorem ev78 (x0:L3) (x1:LI) (x2:L3):zt zP (tn20 78) (TM.evF zP (tn20) dOk 40) dOk 40 78 (aF78 x0) (hF78 x1 x2)=(v78 x0 x1 x2).bind fun r=>some ([.sc (I4 (r))],[.box 71 [.fn 50 0 [none] [.ptr 1 0]],(bx1 x1 x2)]):=by
 refine Eq.trans (b:=tv78 x0 x1 x2 fun r=>some ([.sc (I4 (r))],[.box 71 [.fn 50 0 [none] [.ptr 1 0]],(bx1 x1 x2)])) (by kernel_rfl) ?_
 unfold v78 tv78
 with_reducible repeat' refine zp ?_ ?_
 all_goals rfl
noncomputable def sv78:OrcS:=fun al H=>tqa (aF78 []) (hF78 [] []) al H fun x0 x1 x2=>some [(ok (v78 x0 x1 x2),[.sc (I4 ((val (v78 x0 x1 x2))))],[.box 71 [.fn 50 0 [none] [.ptr 1 0]],(bx1 x1 x2)])]
theorem wv78:zq zP dOk base o19 t20 (78,sv78):=by
 intro al H q hq rs H2 h2
 obtain ⟨_,_,rfl,rfl,g⟩:=tqa_some hq
 clear hq
 change some _=_ at g
 cases g
 obtain ⟨hc0,rfl,rfl⟩:=zg h2
 exact ⟨41,(zy (by kernel_rfl)).trans ((ev78 _ _ _).trans (zm (zc hc0)))⟩
noncomputable def o21:OrcT:=(78,sv78)::o19
abbrev tn21:=zd base o21 t20
theorem ok21:OKT tn21:=zr ok20 ok20 (p:=(78,sv78)) wv78
noncomputable def v68 (x0:L3) (x1:LI) (x2:L3):Option Bool:=(cond (ok (v78 x0 x1 x2)) (some (decide (val (v78 x0 x1 x2)≥0))) none)
abbrev aF68 (x0:L3):List TA:=[.sc (.d 31 mT x0),.sc (.fn 69 0 [none] [.ptr 0 0])]
abbrev hF68 (x1:LI) (x2:L3):List TO:=[.box 71 [.fn 50 0 [none] [.ptr 1 0]],(bx1 x1 x2)]
theorem ev68 (x0:L3) (x1:LI) (x2:L3):zt zP (tn21 68) (TM.evF zP (tn21) dOk 40) dOk 40 68 (aF68 x0) (hF68 x1 x2)=(v68 x0 x1 x2).bind fun r=>some ([.sc (.bool (r))],[.box 71 [.fn 50 0 [none] [.ptr 1 0]],(bx1 x1 x2)]):=by
 refine Eq.trans (b:=(cond (ok (v78 x0 x1 x2)) (some ([.sc (.bool (decide (val (v78 x0 x1 x2)≥0)))],[.box 71 [.fn 50 0 [none] [.ptr 1 0]],(bx1 x1 x2)])) none)) (by kernel_rfl) ?_
 unfold v68
 with_reducible repeat' refine zp ?_ ?_
 all_goals rfl
noncomputable def sv68:OrcS:=fun al H=>tqa (aF68 []) (hF68 [] []) al H fun x0 x1 x2=>some [(ok (v68 x0 x1 x2),[.sc (.bool ((val (v68 x0 x1 x2))))],[.box 71 [.fn 50 0 [none] [.ptr 1 0]],(bx1 x1 x2)])]
theorem wv68:zq zP dOk base o21 t20 (68,sv68):=by
 intro al H q hq rs H2 h2
 obtain ⟨_,_,rfl,rfl,g⟩:=tqa_some hq
 clear hq
 change some _=_ at g
 cases g
 obtain ⟨hc0,rfl,rfl⟩:=zg h2
 exact ⟨41,(zy (by kernel_rfl)).trans ((ev68 _ _ _).trans (zm (zc hc0)))⟩
noncomputable def o22:OrcT:=(68,sv68)::o21
abbrev tn22:=zd base o22 t20
theorem ok22:OKT tn22:=zr ok21 ok21 (p:=(68,sv68)) wv68
noncomputable def v49 (x0:L3) (x1:LI) (x2:L3):Option Bool:=(cond (ok (v68 x0 x1 x2)) (some (!val (v68 x0 x1 x2))) none)
abbrev aF49 (x0:L3):List TA:=[.sc (.d 31 mT x0),.sc (.fn 50 0 [none] [.ptr 0 0])]
abbrev hF49 (x1:LI) (x2:L3):List TO:=[(bx1 x1 x2)]
theorem ev49 (x0:L3) (x1:LI) (x2:L3):zt zP (tn22 49) (TM.evF zP (tn22) dOk 40) dOk 40 49 (aF49 x0) (hF49 x1 x2)=(v49 x0 x1 x2).bind fun r=>some ([.sc (.bool (r))],[(bx1 x1 x2)]):=by
 refine Eq.trans (b:=(cond (ok (v68 x0 x1 x2)) (some ([.sc (.bool (!val (v68 x0 x1 x2)))],[(bx1 x1 x2)])) none)) (by kernel_rfl) ?_
 unfold v49
 with_reducible repeat' refine zp ?_ ?_
 all_goals rfl
noncomputable def sv49:OrcS:=fun al H=>tqa (aF49 []) (hF49 [] []) al H fun x0 x1 x2=>some [(ok (v49 x0 x1 x2),[.sc (.bool ((val (v49 x0 x1 x2))))],[(bx1 x1 x2)])]
theorem wv49:zq zP dOk base o22 t20 (49,sv49):=by
 intro al H q hq rs H2 h2
 obtain ⟨_,_,rfl,rfl,g⟩:=tqa_some hq
 clear hq
 change some _=_ at g
 cases g
 obtain ⟨hc0,rfl,rfl⟩:=zg h2
 exact ⟨41,(zy (by kernel_rfl)).trans ((ev49 _ _ _).trans (zm (zc hc0)))⟩
noncomputable def o23:OrcT:=(49,sv49)::o22
abbrev tn23:=zd base o23 t20
theorem ok23:OKT tn23:=zr ok22 ok22 (p:=(49,sv49)) wv49
noncomputable def tv28 {β:Type} (x0:LI) (x1:L3) (K:Bool→Option β):Option β:=(cond (ok (v43 (x0.length:Int) (1:Int) (8:Int))) (cond (!val (v43 (x0.length:Int) (1:Int) (8:Int))) (K (false)) (cond (ok (v43 (x1.length:Int) (1:Int) (8:Int))) (cond (!val (v43 (x1.length:Int) (1:Int) (8:Int))) (K (false)) (cond (ok (v47 x0)) (cond (val (v47 x0)) (cond (ok (v49 x1 x0 x1)) (K (val (v49 x1 x0 x1))) none) (K (false))) none)) none)) none)
noncomputable def v28 (x0:LI) (x1:L3):Option Bool:=tv28 x0 x1 some
abbrev aF28 (x0:LI) (x1:L3):List TA:=[.agg [kD (x0),.d 31 mT (x1)]]
theorem ev28 (x0:LI) (x1:L3):zt zP (tn23 28) (TM.evF zP (tn23) dOk 40) dOk 40 28 (aF28 x0 x1) []=(v28 x0 x1).bind fun r=>some ([.sc (.bool (r))],[]):=by
 refine Eq.trans (b:=tv28 x0 x1 fun r=>some ([.sc (.bool (r))],[])) (by kernel_rfl) ?_
 unfold v28 tv28
 with_reducible repeat' refine zp ?_ ?_
 all_goals rfl
noncomputable def sv28:OrcS:=fun al H=>tqa (aF28 [] []) [] al H fun x0 x1=>some [(ok (v28 x0 x1),[.sc (.bool ((val (v28 x0 x1))))],[])]
theorem wv28:zq zP dOk base o23 t20 (28,sv28):=by
 intro al H q hq rs H2 h2
 obtain ⟨_,_,rfl,rfl,g⟩:=tqa_some hq
 clear hq
 change some _=_ at g
 cases g
 obtain ⟨hc0,rfl,rfl⟩:=zg h2
 exact ⟨41,(zy (by kernel_rfl)).trans ((ev28 _ _).trans (zm (zc hc0)))⟩
noncomputable def o24:OrcT:=(28,sv28)::o23
abbrev tn24:=zd base o24 t20
theorem ok24:OKT tn24:=zr ok23 ok23 (p:=(28,sv28)) wv28
noncomputable def Lam:Nat→LI→Int→LI→Int→Int→LI→L3→Option ((Int×Int×Int) ⊕ Unit)
 | 0,_,_,_,_,_,_,_=>none
 | n+1,x0,x1,x2,x3,x4,x5,x6=>(cond (decide (x4 < x3)) (cond (decide (0≤x4)) (cond (decide (x4 < (x2.length:Int))) (cond (decide (List.getD x2 x4.toNat 0 < 0)) (some (.inl (0,0,(1:Int)))) (cond (decide (List.getD x2 x4.toNat 0 > (1000000000000:Int))) (some (.inl (0,0,(1:Int)))) (Lam n x0 x1 x2 x3 (wI (x4+(1:Int))) x5 x6))) none) none) (some (.inr ())))
theorem qLam:type_of% @Lam.eq_2:=@Lam.eq_2
noncomputable def xLam (x0:LI) (x1:Int) (x2:LI) (x3 x4:Int) (x5:LI) (x6:L3):((Int×Int×Int) ⊕ Unit)→Ex×CS:=fun r=>match r with | .inl a0=>(.ret,⟨[(6,vI (a0.1)),(7,vI (a0.2.1)),(8,vI (a0.2.2))],[],[],0,true⟩) | .inr b0=>((.exit 0),⟨[(1,vD x0),(2,vI x1),(3,.l 3 0)],[(3,[kD (x5),.d 31 mT (x6)])],[],0,false⟩)
abbrev cLam (x0:LI) (x1:Int) (x2:LI) (x3 x4:Int) (x5:LI) (x6:L3):CS:=⟨[(1,vD x0),(2,vI x1),(3,.l 3 0),(38,vD x2),(39,vI x3),(40,vI x4)],[(3,[kD (x5),.d 31 mT (x6)])],[],0,false⟩
theorem bLam (k:Nat) (cN:KN) (cX:KX) (x0:LI) (x1:Int) (x2:LI) (x3 x4:Int) (x5:LI) (x6:L3):zo zP (tn24 12) (TM.evF zP (tn24) dOk (k+40)) dOk (k+40) (za zP (tn0 12) 12 0) 0 0 (cLam x0 x1 x2 x3 x4 x5 x6) cN cX=(cond (decide (x4 < x3)) (cond (decide (0≤x4)) (cond (decide (x4 < (x2.length:Int))) (cond (decide (List.getD x2 x4.toNat 0 < 0)) (cX .ret ⟨[(6,vI (0)),(7,vI (0)),(8,vI ((1:Int)))],[],[],0,true⟩) (cond (decide (List.getD x2 x4.toNat 0 > (1000000000000:Int))) (cX .ret ⟨[(6,vI (0)),(7,vI (0)),(8,vI ((1:Int)))],[],[],0,true⟩) (cN (cLam x0 x1 x2 x3 (wI (x4+(1:Int))) x5 x6)))) none) none) (cX (.exit 0) ⟨[(1,vD x0),(2,vI x1),(3,.l 3 0)],[(3,[kD (x5),.d 31 mT (x6)])],[],0,false⟩)):=by kernel_rfl
theorem lLam (k m:Nat):∀ (n:Nat) (x0:LI) (x1:Int) (x2:LI) (x3 x4:Int) (x5:LI) (x6:L3) (r:((Int×Int×Int) ⊕ Unit)),Lam n x0 x1 x2 x3 x4 x5 x6=some r→zA zP (tn24 12) (TM.evF zP (tn24) dOk (k+40)) dOk (k+40) (za zP (tn0 12) 12 0) 0 0 (n+m) (cLam x0 x1 x2 x3 x4 x5 x6)=some (xLam x0 x1 x2 x3 x4 x5 x6 r):=by
 intro n
 induction n with
 | zero=>intro _ _ _ _ _ _ _ r h;cases h
 | succ n ih=>
  intro x0 x1 x2 x3 x4 x5 x6 r
  rw [show n+1+m=n+m+1 by omega,zk,bLam,qLam]
  with_reducible repeat' refine ze ?_ ?_
  all_goals first | exact ih _ _ _ _ _ _ _ r | (intro h;cases h;done) | (intro h;cases h;rfl)
noncomputable def sLam:TellS:=fun S=>tq (mS (cLam [] 0 [] 0 0 [] [])) S fun x0 x1 x2 x3 x4 x5 x6=>some [(isL (Lam FU x0 x1 x2 x3 x4 x5 x6),.ret,⟨[(6,vI ((zz (Lam FU x0 x1 x2 x3 x4 x5 x6)).1)),(7,vI ((zz (Lam FU x0 x1 x2 x3 x4 x5 x6)).2.1)),(8,vI ((zz (Lam FU x0 x1 x2 x3 x4 x5 x6)).2.2))],[],[],0,true⟩),(ok (zn (Lam FU x0 x1 x2 x3 x4 x5 x6)),(.exit 0),⟨[(1,vD x0),(2,vI x1),(3,.l 3 0)],[(3,[kD (x5),.d 31 mT (x6)])],[],0,false⟩)]
theorem wLam:zh zP dOk base o24 t20 ((12,0),sLam):=by
 refine ⟨.loop (za zP (tn0 12) 12 0),0,by kernel_rfl,?_⟩
 intro S alts e S' h1 h2
 obtain ⟨_,rfl,g⟩:=tq_some h1
 clear h1
 change some _=_ at g
 cases g
 rcases zD h2 with ⟨hc0,rfl,rfl⟩ | h2
 · exact ⟨FU+40,(zb rfl).trans (lLam FU 40 FU _ _ _ _ _ _ _ _ (zM hc0))⟩
 obtain ⟨hc1,rfl,rfl⟩:=zf h2
 exact ⟨FU+40,(zb rfl).trans (lLam FU 40 FU _ _ _ _ _ _ _ _ (zG (zc hc1)))⟩
noncomputable def t25:TellT:=((12,0),sLam)::t20
abbrev tn25:=zd base o24 t25
theorem ok25:OKT tn25:=zi ok24 ok24 (p:=((12,0),sLam)) wLam
noncomputable def Laf:Nat→LI→Int→Int→LL→Int→Int→Option (Int×Int)
 | 0,_,_,_,_,_,_=>none
 | n+1,x0,x1,x2,x3,x4,x5=>(cond (decide (x5 < x4)) (cond (decide (0≤x5)) (cond (decide (x5 < (x3.length:Int))) (cond (ok (v29 (List.getD x3 x5.toNat []) x0)) (cond (decide (x2 < 0)) (Laf n x0 x5 (val (v29 (List.getD x3 x5.toNat []) x0)) x3 x4 (wI (x5+(1:Int)))) (cond (decide (val (v29 (List.getD x3 x5.toNat []) x0) < x2)) (Laf n x0 x5 (val (v29 (List.getD x3 x5.toNat []) x0)) x3 x4 (wI (x5+(1:Int)))) (Laf n x0 x1 x2 x3 x4 (wI (x5+(1:Int)))))) none) none) none) (some (x1,x2)))
theorem qLaf:type_of% @Laf.eq_2:=@Laf.eq_2
noncomputable def xLaf (x0:LI) (x1 x2:Int) (x3:LL) (x4 x5:Int):(Int×Int)→Ex×CS:=fun r=>((.exit 2),⟨[(11,vI (r.1)),(12,vI (r.2))],[],[],0,false⟩)
abbrev cLaf (x0:LI) (x1 x2:Int) (x3:LL) (x4 x5:Int):CS:=⟨[(1,vD x0),(11,vI x1),(12,vI x2),(55,vL x3),(56,vI x4),(57,vI x5)],[],[],0,false⟩
theorem bLaf (k:Nat) (cN:KN) (cX:KX) (x0:LI) (x1 x2:Int) (x3:LL) (x4 x5:Int):zo zP (tn25 12) (TM.evF zP (tn25) dOk (k+40)) dOk (k+40) (za zP (tn0 12) 12 16) 2 16 (cLaf x0 x1 x2 x3 x4 x5) cN cX=(cond (decide (x5 < x4)) (cond (decide (0≤x5)) (cond (decide (x5 < (x3.length:Int))) (ob (v29 (List.getD x3 x5.toNat []) x0) fun r1=>(cond (decide (x2 < 0)) (cN (cLaf x0 x5 r1 x3 x4 (wI (x5+(1:Int))))) (cond (decide (r1 < x2)) (cN (cLaf x0 x5 r1 x3 x4 (wI (x5+(1:Int))))) (cN (cLaf x0 x1 x2 x3 x4 (wI (x5+(1:Int)))))))) none) none) (cP cX (xLaf x0 x1 x2 x3 x4 x5 ((x1),x2)))):=by kernel_rfl
theorem lLaf (k m:Nat):∀ (n:Nat) (x0:LI) (x1 x2:Int) (x3:LL) (x4 x5:Int) (r:(Int×Int)),Laf n x0 x1 x2 x3 x4 x5=some r→zA zP (tn25 12) (TM.evF zP (tn25) dOk (k+40)) dOk (k+40) (za zP (tn0 12) 12 16) 2 16 (n+m) (cLaf x0 x1 x2 x3 x4 x5)=some (xLaf x0 x1 x2 x3 x4 x5 r):=by
 intro n
 induction n with
 | zero=>intro _ _ _ _ _ _ r h;cases h
 | succ n ih=>
  intro x0 x1 x2 x3 x4 x5 r
  rw [show n+1+m=n+m+1 by omega,zk,bLaf,qLaf]
  with_reducible repeat' refine ze ?_ ?_
  all_goals first | exact ih _ _ _ _ _ _ r | (intro h;cases h;done) | (intro h;cases h;rfl)
noncomputable def sLaf:TellS:=fun S=>tq (mS (cLaf [] 0 0 [] 0 0)) S fun x0 x1 x2 x3 x4 x5=>some [(ok (Laf FU x0 x1 x2 x3 x4 x5),(.exit 2),⟨[(11,vI ((val (Laf FU x0 x1 x2 x3 x4 x5)).1)),(12,vI ((val (Laf FU x0 x1 x2 x3 x4 x5)).2))],[],[],0,false⟩)]
theorem wLaf:zh zP dOk base o24 t25 ((12,16),sLaf):=by
 refine ⟨.loop (za zP (tn0 12) 12 16),2,by kernel_rfl,?_⟩
 intro S alts e S' h1 h2
 obtain ⟨_,rfl,g⟩:=tq_some h1
 clear h1
 change some _=_ at g
 cases g
 obtain ⟨hc0,rfl,rfl⟩:=zf h2
 exact ⟨FU+40,(zb rfl).trans (lLaf FU 40 FU _ _ _ _ _ _ _ (zc hc0))⟩
noncomputable def t26:TellT:=((12,16),sLaf)::t25
abbrev tn26:=zd base o24 t26
theorem ok26:OKT tn26:=zi ok25 ok25 (p:=((12,16),sLaf)) wLaf
noncomputable def tv12 {β:Type} (x0:LI) (x1:L3) (x2:LI) (x3:Int) (K:(Int×Int×Int)→Option β):Option β:=(cond (ok (v28 x0 x1)) (cond (!val (v28 x0 x1)) (K (0,0,(1:Int))) (cond ((x2.length:Int) != (x0.length:Int)) (K (0,0,(1:Int))) (cond (decide (x3 < 0)) (K (0,0,(1:Int))) (cond (decide (x3≥(x1.length:Int))) (K (0,0,(1:Int))) (cond (isL (Lam FU x2 x3 x2 (x2.length:Int) 0 x0 x1)) (K ((zz (Lam FU x2 x3 x2 (x2.length:Int) 0 x0 x1)).1,(zz (Lam FU x2 x3 x2 (x2.length:Int) 0 x0 x1)).2.1,(zz (Lam FU x2 x3 x2 (x2.length:Int) 0 x0 x1)).2.2)) (cond (ok (zn (Lam FU x2 x3 x2 (x2.length:Int) 0 x0 x1))) (cond (decide (0≤x3)) (cond (decide (x3 < (x1.length:Int))) (cond (ok (Laf FU x2 0 (-1:Int) (List.getD x1 x3.toNat []) (↑(List.length (List.getD x1 x3.toNat [])):Int) 0)) (K ((val (Laf FU x2 0 (-1:Int) (List.getD x1 x3.toNat []) (↑(List.length (List.getD x1 x3.toNat [])):Int) 0)).1,(val (Laf FU x2 0 (-1:Int) (List.getD x1 x3.toNat []) (↑(List.length (List.getD x1 x3.toNat [])):Int) 0)).2,0)) none) none) none) none)))))) none)
noncomputable def v12 (x0:LI) (x1:L3) (x2:LI) (x3:Int):Option (Int×Int×Int):=tv12 x0 x1 x2 x3 some
abbrev aF12 (x0:LI) (x1:L3) (x2:LI) (x3:Int):List TA:=[.agg [kD (x0),.d 31 mT (x1)],.sc (kD x2),.sc (I4 x3)]
theorem ev12 (x0:LI) (x1:L3) (x2:LI) (x3:Int):zt zP (tn26 12) (TM.evF zP (tn26) dOk 40) dOk 40 12 (aF12 x0 x1 x2 x3) []=(v12 x0 x1 x2 x3).bind fun r=>some ([.sc (I4 (r.1)),.sc (I4 (r.2.1)),.sc (I4 (r.2.2))],[]):=by
 refine Eq.trans (b:=tv12 x0 x1 x2 x3 fun r=>some ([.sc (I4 (r.1)),.sc (I4 (r.2.1)),.sc (I4 (r.2.2))],[])) (by kernel_rfl) ?_
 unfold v12 tv12
 with_reducible repeat' refine zp ?_ ?_
 all_goals rfl
noncomputable def sv12:OrcS:=fun al H=>tqa (aF12 [] [] [] 0) [] al H fun x0 x1 x2 x3=>some [(ok (v12 x0 x1 x2 x3),[.sc (I4 ((val (v12 x0 x1 x2 x3)).1)),.sc (I4 ((val (v12 x0 x1 x2 x3)).2.1)),.sc (I4 ((val (v12 x0 x1 x2 x3)).2.2))],[])]
theorem wv12:zq zP dOk base o24 t26 (12,sv12):=by
 intro al H q hq rs H2 h2
 obtain ⟨_,_,rfl,rfl,g⟩:=tqa_some hq
 clear hq
 change some _=_ at g
 cases g
 obtain ⟨hc0,rfl,rfl⟩:=zg h2
 exact ⟨41,(zy (by kernel_rfl)).trans ((ev12 _ _ _ _).trans (zm (zc hc0)))⟩
noncomputable def o27:OrcT:=(12,sv12)::o24
abbrev tn27:=zd base o27 t26
theorem ok27:OKT tn27:=zr ok26 ok26 (p:=(12,sv12)) wv12
noncomputable def v63 (x0:Int):Option Bool:=(cond (ok (v43 x0 0 (1000000000:Int))) (some (val (v43 x0 0 (1000000000:Int)))) none)
abbrev aF63 (x0:Int):List TA:=[.sc (I4 x0)]
theorem ev63 (x0:Int):zt zP (tn27 63) (TM.evF zP (tn27) dOk 40) dOk 40 63 (aF63 x0) []=(v63 x0).bind fun r=>some ([.sc (.bool (r))],[]):=by
 refine Eq.trans (b:=(cond (ok (v43 x0 0 (1000000000:Int))) (some ([.sc (.bool (val (v43 x0 0 (1000000000:Int))))],[])) none)) (by kernel_rfl) ?_
 unfold v63
 with_reducible repeat' refine zp ?_ ?_
 all_goals rfl
noncomputable def sv63:OrcS:=fun al H=>tqa (aF63 0) [] al H fun x0=>some [(ok (v63 x0),[.sc (.bool ((val (v63 x0))))],[])]
theorem wv63:zq zP dOk base o27 t26 (63,sv63):=by
 intro al H q hq rs H2 h2
 obtain ⟨_,_,rfl,rfl,g⟩:=tqa_some hq
 clear hq
 change some _=_ at g
 cases g
 obtain ⟨hc0,rfl,rfl⟩:=zg h2
 exact ⟨41,(zy (by kernel_rfl)).trans ((ev63 _).trans (zm (zc hc0)))⟩
noncomputable def o28:OrcT:=(63,sv63)::o27
abbrev tn28:=zd base o28 t26
theorem ok28:OKT tn28:=zr ok27 ok27 (p:=(63,sv63)) wv63
noncomputable def v67_1 (x0:Int):Option Bool:=(cond (ok (v63 x0)) (some (!val (v63 x0))) none)
abbrev aF67_1 (x0:Int):List TA:=[.sc (I4 x0),.sc (.ptr 0 0)]
abbrev hF67_1:List TO:=[.box 67 [.fn 63 0 [] []]]
theorem ev67_1 (x0:Int):zt zP (tn28 67) (TM.evF zP (tn28) dOk 40) dOk 40 67 (aF67_1 x0) hF67_1=(v67_1 x0).bind fun r=>some ([.sc (.bool (r))],[.box 67 [.fn 63 0 [] []]]):=by
 refine Eq.trans (b:=(cond (ok (v63 x0)) (some ([.sc (.bool (!val (v63 x0)))],[.box 67 [.fn 63 0 [] []]])) none)) (by kernel_rfl) ?_
 unfold v67_1
 with_reducible repeat' refine zp ?_ ?_
 all_goals rfl
noncomputable def sv67_1:OrcS:=fun al H=>tqa (aF67_1 0) hF67_1 al H fun x0=>some [(ok (v67_1 x0),[.sc (.bool ((val (v67_1 x0))))],[.box 67 [.fn 63 0 [] []]])]
theorem wv67_1:zq zP dOk base o28 t26 (67,sv67_1):=by
 intro al H q hq rs H2 h2
 obtain ⟨_,_,rfl,rfl,g⟩:=tqa_some hq
 clear hq
 change some _=_ at g
 cases g
 obtain ⟨hc0,rfl,rfl⟩:=zg h2
 exact ⟨41,(zy (by kernel_rfl)).trans ((ev67_1 _).trans (zm (zc hc0)))⟩
noncomputable def o29:OrcT:=(67,sv67_1)::o28
abbrev tn29:=zd base o29 t26
theorem ok29:OKT tn29:=zr ok28 ok28 (p:=(67,sv67_1)) wv67_1
noncomputable def Lbe:Nat→LI→Int→Int→Option (Int ⊕ Unit)
 | 0,_,_,_=>none
 | n+1,x0,x1,x2=>(cond (decide (x2 < x1)) (cond (decide (0≤x2)) (cond (decide (x2 < (x0.length:Int))) (cond (ok (v67_1 (List.getD x0 x2.toNat 0))) (cond (val (v67_1 (List.getD x0 x2.toNat 0))) (some (.inl x2)) (Lbe n x0 x1 (wI (x2+(1:Int))))) none) none) none) (some (.inr ())))
theorem qLbe:type_of% @Lbe.eq_2:=@Lbe.eq_2
noncomputable def xLbe (x0:LI) (x1 x2:Int):(Int ⊕ Unit)→Ex×CS:=fun r=>match r with | .inl a0=>(.ret,⟨[(4,vI (a0))],[],[.box 67 [.fn 63 0 [] []]],1,true⟩) | .inr b0=>((.exit 0),⟨[],[],[.box 67 [.fn 63 0 [] []]],1,false⟩)
abbrev cLbe (x0:LI) (x1 x2:Int):CS:=⟨[(0,vD x0),(1,.v (.sc (.fn 67 0 [none] [.ptr 0 0]))),(7,vI x1),(8,vI x2)],[],[.box 67 [.fn 63 0 [] []]],1,false⟩
theorem bLbe (k:Nat) (cN:KN) (cX:KX) (x0:LI) (x1 x2:Int):zo zP (tn29 77) (TM.evF zP (tn29) dOk (k+40)) dOk (k+40) (za zP (tn0 77) 77 0) 0 0 (cLbe x0 x1 x2) cN cX=(cond (decide (x2 < x1)) (cond (decide (0≤x2)) (cond (decide (x2 < (x0.length:Int))) (cond (ok (v67_1 (List.getD x0 x2.toNat 0))) (cond (val (v67_1 (List.getD x0 x2.toNat 0))) (cX .ret ⟨[(4,vI x2)],[],[.box 67 [.fn 63 0 [] []]],1,true⟩) (cN (cLbe x0 x1 (wI (x2+(1:Int)))))) none) none) none) (cX (.exit 0) ⟨[],[],[.box 67 [.fn 63 0 [] []]],1,false⟩)):=by kernel_rfl
theorem lLbe (k m:Nat):∀ (n:Nat) (x0:LI) (x1 x2:Int) (r:(Int ⊕ Unit)),Lbe n x0 x1 x2=some r→zA zP (tn29 77) (TM.evF zP (tn29) dOk (k+40)) dOk (k+40) (za zP (tn0 77) 77 0) 0 0 (n+m) (cLbe x0 x1 x2)=some (xLbe x0 x1 x2 r):=by
 intro n
 induction n with
 | zero=>intro _ _ _ r h;cases h
 | succ n ih=>
  intro x0 x1 x2 r
  rw [show n+1+m=n+m+1 by omega,zk,bLbe,qLbe]
  with_reducible repeat' refine ze ?_ ?_
  all_goals first | exact ih _ _ _ r | (intro h;cases h;done) | (intro h;cases h;rfl)
noncomputable def sLbe:TellS:=fun S=>tq (mS (cLbe [] 0 0)) S fun x0 x1 x2=>some [(isL (Lbe FU x0 x1 x2),.ret,⟨[(4,vI ((zz (Lbe FU x0 x1 x2))))],[],[.box 67 [.fn 63 0 [] []]],1,true⟩),(ok (zn (Lbe FU x0 x1 x2)),(.exit 0),⟨[],[],[.box 67 [.fn 63 0 [] []]],1,false⟩)]
theorem wLbe:zh zP dOk base o29 t26 ((77,0),sLbe):=by
 refine ⟨.loop (za zP (tn0 77) 77 0),0,by kernel_rfl,?_⟩
 intro S alts e S' h1 h2
 obtain ⟨_,rfl,g⟩:=tq_some h1
 clear h1
 change some _=_ at g
 cases g
 rcases zD h2 with ⟨hc0,rfl,rfl⟩ | h2
 · exact ⟨FU+40,(zb rfl).trans (lLbe FU 40 FU _ _ _ _ (zM hc0))⟩
 obtain ⟨hc1,rfl,rfl⟩:=zf h2
 exact ⟨FU+40,(zb rfl).trans (lLbe FU 40 FU _ _ _ _ (zG (zc hc1)))⟩
noncomputable def t30:TellT:=((77,0),sLbe)::t26
abbrev tn30:=zd base o29 t30
theorem ok30:OKT tn30:=zi ok29 ok29 (p:=((77,0),sLbe)) wLbe
noncomputable def tv77_1 {β:Type} (x0:LI) (K:Int→Option β):Option β:=(cond (isL (Lbe FU x0 (x0.length:Int) 0)) (K (zz (Lbe FU x0 (x0.length:Int) 0))) (cond (ok (zn (Lbe FU x0 (x0.length:Int) 0))) (K ((-1:Int))) none))
noncomputable def v77_1 (x0:LI):Option Int:=tv77_1 x0 some
abbrev aF77_1 (x0:LI):List TA:=[.sc (kD x0),.sc (.fn 67 0 [none] [.ptr 0 0])]
abbrev hF77_1:List TO:=[.box 67 [.fn 63 0 [] []]]
theorem ev77_1 (x0:LI):zt zP (tn30 77) (TM.evF zP (tn30) dOk 40) dOk 40 77 (aF77_1 x0) hF77_1=(v77_1 x0).bind fun r=>some ([.sc (I4 (r))],[.box 67 [.fn 63 0 [] []]]):=by
 refine Eq.trans (b:=tv77_1 x0 fun r=>some ([.sc (I4 (r))],[.box 67 [.fn 63 0 [] []]])) (by kernel_rfl) ?_
 unfold v77_1 tv77_1
 with_reducible repeat' refine zp ?_ ?_
 all_goals rfl
noncomputable def sv77_1:OrcS:=fun al H=>tqa (aF77_1 []) hF77_1 al H fun x0=>some [(ok (v77_1 x0),[.sc (I4 ((val (v77_1 x0))))],[.box 67 [.fn 63 0 [] []]])]
theorem wv77_1:zq zP dOk base o29 t30 (77,sv77_1):=by
 intro al H q hq rs H2 h2
 obtain ⟨_,_,rfl,rfl,g⟩:=tqa_some hq
 clear hq
 change some _=_ at g
 cases g
 obtain ⟨hc0,rfl,rfl⟩:=zg h2
 exact ⟨41,(zy (by kernel_rfl)).trans ((ev77_1 _).trans (zm (zc hc0)))⟩
noncomputable def o31:OrcT:=(77,sv77_1)::o29
abbrev tn31:=zd base o31 t30
theorem ok31:OKT tn31:=zr ok30 ok30 (p:=(77,sv77_1)) wv77_1
noncomputable def v66_1 (x0:LI):Option Bool:=(cond (ok (v77_1 x0)) (some (decide (val (v77_1 x0)≥0))) none)
abbrev aF66_1 (x0:LI):List TA:=[.sc (kD x0),.sc (.fn 67 0 [none] [.ptr 0 0])]
abbrev hF66_1:List TO:=[.box 67 [.fn 63 0 [] []]]
theorem ev66_1 (x0:LI):zt zP (tn31 66) (TM.evF zP (tn31) dOk 40) dOk 40 66 (aF66_1 x0) hF66_1=(v66_1 x0).bind fun r=>some ([.sc (.bool (r))],[.box 67 [.fn 63 0 [] []]]):=by
 refine Eq.trans (b:=(cond (ok (v77_1 x0)) (some ([.sc (.bool (decide (val (v77_1 x0)≥0)))],[.box 67 [.fn 63 0 [] []]])) none)) (by kernel_rfl) ?_
 unfold v66_1
 with_reducible repeat' refine zp ?_ ?_
 all_goals rfl
noncomputable def sv66_1:OrcS:=fun al H=>tqa (aF66_1 []) hF66_1 al H fun x0=>some [(ok (v66_1 x0),[.sc (.bool ((val (v66_1 x0))))],[.box 67 [.fn 63 0 [] []]])]
theorem wv66_1:zq zP dOk base o31 t30 (66,sv66_1):=by
 intro al H q hq rs H2 h2
 obtain ⟨_,_,rfl,rfl,g⟩:=tqa_some hq
 clear hq
 change some _=_ at g
 cases g
 obtain ⟨hc0,rfl,rfl⟩:=zg h2
 exact ⟨41,(zy (by kernel_rfl)).trans ((ev66_1 _).trans (zm (zc hc0)))⟩
noncomputable def o32:OrcT:=(66,sv66_1)::o31
abbrev tn32:=zd base o32 t30
theorem ok32:OKT tn32:=zr ok31 ok31 (p:=(66,sv66_1)) wv66_1
noncomputable def v47_1 (x0:LI):Option Bool:=(cond (ok (v66_1 x0)) (some (!val (v66_1 x0))) none)
abbrev aF47_1 (x0:LI):List TA:=[.sc (kD x0),.sc (.fn 63 0 [] [])]
theorem ev47_1 (x0:LI):zt zP (tn32 47) (TM.evF zP (tn32) dOk 40) dOk 40 47 (aF47_1 x0) []=(v47_1 x0).bind fun r=>some ([.sc (.bool (r))],[]):=by
 refine Eq.trans (b:=(cond (ok (v66_1 x0)) (some ([.sc (.bool (!val (v66_1 x0)))],[])) none)) (by kernel_rfl) ?_
 unfold v47_1
 with_reducible repeat' refine zp ?_ ?_
 all_goals rfl
noncomputable def sv47_1:OrcS:=fun al H=>tqa (aF47_1 []) [] al H fun x0=>some [(ok (v47_1 x0),[.sc (.bool ((val (v47_1 x0))))],[])]
theorem wv47_1:zq zP dOk base o32 t30 (47,sv47_1):=by
 intro al H q hq rs H2 h2
 obtain ⟨_,_,rfl,rfl,g⟩:=tqa_some hq
 clear hq
 change some _=_ at g
 cases g
 obtain ⟨hc0,rfl,rfl⟩:=zg h2
 exact ⟨41,(zy (by kernel_rfl)).trans ((ev47_1 _).trans (zm (zc hc0)))⟩
noncomputable def o33:OrcT:=(47,sv47_1)::o32
abbrev tn33:=zd base o33 t30
theorem ok33:OKT tn33:=zr ok32 ok32 (p:=(47,sv47_1)) wv47_1
noncomputable def Lbr:Nat→LI→LL→Int→Int→LI→L3→Option (Bool ⊕ Unit)
 | 0,_,_,_,_,_,_=>none
 | n+1,x0,x1,x2,x3,x4,x5=>(cond (decide (x3 < x2)) (cond (decide (0≤x3)) (cond (decide (x3 < (x1.length:Int))) (cond (decide (x3 < (x5.length:Int))) (cond ((↑(List.length (List.getD x1 x3.toNat [])):Int) != (↑(List.length (List.getD x5 x3.toNat [])):Int)) (some (.inl (false))) (cond (ok (v47_1 (List.getD x1 x3.toNat []))) (cond (!val (v47_1 (List.getD x1 x3.toNat []))) (some (.inl (false))) (Lbr n x0 x1 x2 (wI (x3+(1:Int))) x4 x5)) none)) none) none) none) (some (.inr ())))
theorem qLbr:type_of% @Lbr.eq_2:=@Lbr.eq_2
noncomputable def xLbr (x0:LI) (x1:LL) (x2 x3:Int) (x4:LI) (x5:L3):(Bool ⊕ Unit)→Ex×CS:=fun r=>match r with | .inl a0=>(.ret,⟨[(6,.v (.sc (.bool (a0))))],[],[],0,true⟩) | .inr b0=>((.exit 0),⟨[(2,vD x0),(3,.l 3 0)],[],[],0,false⟩)
abbrev cLbr (x0:LI) (x1:LL) (x2 x3:Int) (x4:LI) (x5:L3):CS:=⟨[(2,vD x0),(3,.l 3 0),(23,vL x1),(24,vI x2),(25,vI x3)],[(3,[kD (x4),.d 31 mT (x5)])],[],0,false⟩
theorem bLbr (k:Nat) (cN:KN) (cX:KX) (x0:LI) (x1:LL) (x2 x3:Int) (x4:LI) (x5:L3):zo zP (tn33 44) (TM.evF zP (tn33) dOk (k+40)) dOk (k+40) (za zP (tn0 44) 44 0) 0 0 (cLbr x0 x1 x2 x3 x4 x5) cN cX=(cond (decide (x3 < x2)) (cond (decide (0≤x3)) (cond (decide (x3 < (x1.length:Int))) (cond (decide (0≤x3)) (cond (decide (x3 < (x5.length:Int))) (cond ((↑(List.length (List.getD x1 x3.toNat [])):Int) != (↑(List.length (List.getD x5 x3.toNat [])):Int)) (cX .ret ⟨[(6,.v (.sc (.bool (false))))],[],[],0,true⟩) (cond (ok (v47_1 (List.getD x1 x3.toNat []))) (cond (!val (v47_1 (List.getD x1 x3.toNat []))) (cX .ret ⟨[(6,.v (.sc (.bool (false))))],[],[],0,true⟩) (cN (cLbr x0 x1 x2 (wI (x3+(1:Int))) x4 x5))) none)) none) none) none) none) (cX (.exit 0) ⟨[(2,vD x0),(3,.l 3 0)],[],[],0,false⟩)):=by kernel_rfl
theorem lLbr (k m:Nat):∀ (n:Nat) (x0:LI) (x1:LL) (x2 x3:Int) (x4:LI) (x5:L3) (r:(Bool ⊕ Unit)),Lbr n x0 x1 x2 x3 x4 x5=some r→zA zP (tn33 44) (TM.evF zP (tn33) dOk (k+40)) dOk (k+40) (za zP (tn0 44) 44 0) 0 0 (n+m) (cLbr x0 x1 x2 x3 x4 x5)=some (xLbr x0 x1 x2 x3 x4 x5 r):=by
 intro n
 induction n with
 | zero=>intro _ _ _ _ _ _ r h;cases h
 | succ n ih=>
  intro x0 x1 x2 x3 x4 x5 r
  rw [show n+1+m=n+m+1 by omega,zk,bLbr,qLbr]
  cases (decide (x3 < x2)) with
  | true=>
   cases (decide (0≤x3)) with
   | true=>
    cases (decide (x3 < (x1.length:Int))) with
    | true=>
     cases (decide (x3 < (x5.length:Int))) with
     | true=>
      cases ((↑(List.length (List.getD x1 x3.toNat [])):Int) != (↑(List.length (List.getD x5 x3.toNat [])):Int)) with
      | true=>
       intro h;cases h;rfl
      | false=>
       cases (ok (v47_1 (List.getD x1 x3.toNat []))) with
       | true=>
        cases (!val (v47_1 (List.getD x1 x3.toNat []))) with
        | true=>
         intro h;cases h;rfl
        | false=>
         exact ih _ _ _ _ _ _ r
       | false=>
        intro h;cases h
     | false=>
      intro h;cases h
    | false=>
     intro h;cases h
   | false=>
    intro h;cases h
  | false=>
   intro h;cases h;rfl
noncomputable def sLbr:TellS:=fun S=>tq (mS (cLbr [] [] 0 0 [] [])) S fun x0 x1 x2 x3 x4 x5=>some [(isL (Lbr FU x0 x1 x2 x3 x4 x5),.ret,⟨[(6,.v (.sc (.bool ((zz (Lbr FU x0 x1 x2 x3 x4 x5))))))],[],[],0,true⟩),(ok (zn (Lbr FU x0 x1 x2 x3 x4 x5)),(.exit 0),⟨[(2,vD x0),(3,.l 3 0)],[],[],0,false⟩)]
theorem wLbr:zh zP dOk base o33 t30 ((44,0),sLbr):=by
 refine ⟨.loop (za zP (tn0 44) 44 0),0,by kernel_rfl,?_⟩
 intro S alts e S' h1 h2
 obtain ⟨_,rfl,g⟩:=tq_some h1
 clear h1
 change some _=_ at g
 cases g
 rcases zD h2 with ⟨hc0,rfl,rfl⟩ | h2
 · exact ⟨FU+40,(zb rfl).trans (lLbr FU 40 FU _ _ _ _ _ _ _ (zM hc0))⟩
 obtain ⟨hc1,rfl,rfl⟩:=zf h2
 exact ⟨FU+40,(zb rfl).trans (lLbr FU 40 FU _ _ _ _ _ _ _ (zG (zc hc1)))⟩
noncomputable def t34:TellT:=((44,0),sLbr)::t30
abbrev tn34:=zd base o33 t34
theorem ok34:OKT tn34:=zi ok33 ok33 (p:=((44,0),sLbr)) wLbr
noncomputable def v64 (x0:Int):Option Bool:=(cond (ok (v43 x0 0 (1000000000000:Int))) (some (val (v43 x0 0 (1000000000000:Int)))) none)
abbrev aF64 (x0:Int):List TA:=[.sc (I4 x0)]
theorem ev64 (x0:Int):zt zP (tn34 64) (TM.evF zP (tn34) dOk 40) dOk 40 64 (aF64 x0) []=(v64 x0).bind fun r=>some ([.sc (.bool (r))],[]):=by
 refine Eq.trans (b:=(cond (ok (v43 x0 0 (1000000000000:Int))) (some ([.sc (.bool (val (v43 x0 0 (1000000000000:Int))))],[])) none)) (by kernel_rfl) ?_
 unfold v64
 with_reducible repeat' refine zp ?_ ?_
 all_goals rfl
noncomputable def sv64:OrcS:=fun al H=>tqa (aF64 0) [] al H fun x0=>some [(ok (v64 x0),[.sc (.bool ((val (v64 x0))))],[])]
theorem wv64:zq zP dOk base o33 t34 (64,sv64):=by
 intro al H q hq rs H2 h2
 obtain ⟨_,_,rfl,rfl,g⟩:=tqa_some hq
 clear hq
 change some _=_ at g
 cases g
 obtain ⟨hc0,rfl,rfl⟩:=zg h2
 exact ⟨41,(zy (by kernel_rfl)).trans ((ev64 _).trans (zm (zc hc0)))⟩
noncomputable def o35:OrcT:=(64,sv64)::o33
abbrev tn35:=zd base o35 t34
theorem ok35:OKT tn35:=zr ok34 ok34 (p:=(64,sv64)) wv64
noncomputable def v67_2 (x0:Int):Option Bool:=(cond (ok (v64 x0)) (some (!val (v64 x0))) none)
abbrev aF67_2 (x0:Int):List TA:=[.sc (I4 x0),.sc (.ptr 0 0)]
abbrev hF67_2:List TO:=[.box 67 [.fn 64 0 [] []]]
theorem ev67_2 (x0:Int):zt zP (tn35 67) (TM.evF zP (tn35) dOk 40) dOk 40 67 (aF67_2 x0) hF67_2=(v67_2 x0).bind fun r=>some ([.sc (.bool (r))],[.box 67 [.fn 64 0 [] []]]):=by
 refine Eq.trans (b:=(cond (ok (v64 x0)) (some ([.sc (.bool (!val (v64 x0)))],[.box 67 [.fn 64 0 [] []]])) none)) (by kernel_rfl) ?_
 unfold v67_2
 with_reducible repeat' refine zp ?_ ?_
 all_goals rfl
noncomputable def sv67_2:OrcS:=fun al H=>tqa (aF67_2 0) hF67_2 al H fun x0=>some [(ok (v67_2 x0),[.sc (.bool ((val (v67_2 x0))))],[.box 67 [.fn 64 0 [] []]])]
theorem wv67_2:zq zP dOk base o35 t34 (67,sv67_2):=by
 intro al H q hq rs H2 h2
 obtain ⟨_,_,rfl,rfl,g⟩:=tqa_some hq
 clear hq
 change some _=_ at g
 cases g
 obtain ⟨hc0,rfl,rfl⟩:=zg h2
 exact ⟨41,(zy (by kernel_rfl)).trans ((ev67_2 _).trans (zm (zc hc0)))⟩
noncomputable def o36:OrcT:=(67,sv67_2)::o35
abbrev tn36:=zd base o36 t34
theorem ok36:OKT tn36:=zr ok35 ok35 (p:=(67,sv67_2)) wv67_2
noncomputable def Lbu:Nat→LI→Int→Int→Option (Int ⊕ Unit)
 | 0,_,_,_=>none
 | n+1,x0,x1,x2=>(cond (decide (x2 < x1)) (cond (decide (0≤x2)) (cond (decide (x2 < (x0.length:Int))) (cond (ok (v67_2 (List.getD x0 x2.toNat 0))) (cond (val (v67_2 (List.getD x0 x2.toNat 0))) (some (.inl x2)) (Lbu n x0 x1 (wI (x2+(1:Int))))) none) none) none) (some (.inr ())))
theorem qLbu:type_of% @Lbu.eq_2:=@Lbu.eq_2
noncomputable def xLbu (x0:LI) (x1 x2:Int):(Int ⊕ Unit)→Ex×CS:=fun r=>match r with | .inl a0=>(.ret,⟨[(4,vI (a0))],[],[.box 67 [.fn 64 0 [] []]],1,true⟩) | .inr b0=>((.exit 0),⟨[],[],[.box 67 [.fn 64 0 [] []]],1,false⟩)
abbrev cLbu (x0:LI) (x1 x2:Int):CS:=⟨[(0,vD x0),(1,.v (.sc (.fn 67 0 [none] [.ptr 0 0]))),(7,vI x1),(8,vI x2)],[],[.box 67 [.fn 64 0 [] []]],1,false⟩
theorem bLbu (k:Nat) (cN:KN) (cX:KX) (x0:LI) (x1 x2:Int):zo zP (tn36 77) (TM.evF zP (tn36) dOk (k+40)) dOk (k+40) (za zP (tn0 77) 77 0) 0 0 (cLbu x0 x1 x2) cN cX=(cond (decide (x2 < x1)) (cond (decide (0≤x2)) (cond (decide (x2 < (x0.length:Int))) (cond (ok (v67_2 (List.getD x0 x2.toNat 0))) (cond (val (v67_2 (List.getD x0 x2.toNat 0))) (cX .ret ⟨[(4,vI x2)],[],[.box 67 [.fn 64 0 [] []]],1,true⟩) (cN (cLbu x0 x1 (wI (x2+(1:Int)))))) none) none) none) (cX (.exit 0) ⟨[],[],[.box 67 [.fn 64 0 [] []]],1,false⟩)):=by kernel_rfl
theorem lLbu (k m:Nat):∀ (n:Nat) (x0:LI) (x1 x2:Int) (r:(Int ⊕ Unit)),Lbu n x0 x1 x2=some r→zA zP (tn36 77) (TM.evF zP (tn36) dOk (k+40)) dOk (k+40) (za zP (tn0 77) 77 0) 0 0 (n+m) (cLbu x0 x1 x2)=some (xLbu x0 x1 x2 r):=by
 intro n
 induction n with
 | zero=>intro _ _ _ r h;cases h
 | succ n ih=>
  intro x0 x1 x2 r
  rw [show n+1+m=n+m+1 by omega,zk,bLbu,qLbu]
  with_reducible repeat' refine ze ?_ ?_
  all_goals first | exact ih _ _ _ r | (intro h;cases h;done) | (intro h;cases h;rfl)
noncomputable def sLbu:TellS:=fun S=>tq (mS (cLbu [] 0 0)) S fun x0 x1 x2=>some [(isL (Lbu FU x0 x1 x2),.ret,⟨[(4,vI ((zz (Lbu FU x0 x1 x2))))],[],[.box 67 [.fn 64 0 [] []]],1,true⟩),(ok (zn (Lbu FU x0 x1 x2)),(.exit 0),⟨[],[],[.box 67 [.fn 64 0 [] []]],1,false⟩)]
theorem wLbu:zh zP dOk base o36 t34 ((77,0),sLbu):=by
 refine ⟨.loop (za zP (tn0 77) 77 0),0,by kernel_rfl,?_⟩
 intro S alts e S' h1 h2
 obtain ⟨_,rfl,g⟩:=tq_some h1
 clear h1
 change some _=_ at g
 cases g
 rcases zD h2 with ⟨hc0,rfl,rfl⟩ | h2
 · exact ⟨FU+40,(zb rfl).trans (lLbu FU 40 FU _ _ _ _ (zM hc0))⟩
 obtain ⟨hc1,rfl,rfl⟩:=zf h2
 exact ⟨FU+40,(zb rfl).trans (lLbu FU 40 FU _ _ _ _ (zG (zc hc1)))⟩
noncomputable def t37:TellT:=((77,0),sLbu)::t34
abbrev tn37:=zd base o36 t37
theorem ok37:OKT tn37:=zi ok36 ok36 (p:=((77,0),sLbu)) wLbu
noncomputable def tv77_2 {β:Type} (x0:LI) (K:Int→Option β):Option β:=(cond (isL (Lbu FU x0 (x0.length:Int) 0)) (K (zz (Lbu FU x0 (x0.length:Int) 0))) (cond (ok (zn (Lbu FU x0 (x0.length:Int) 0))) (K ((-1:Int))) none))
noncomputable def v77_2 (x0:LI):Option Int:=tv77_2 x0 some
abbrev aF77_2 (x0:LI):List TA:=[.sc (kD x0),.sc (.fn 67 0 [none] [.ptr 0 0])]
abbrev hF77_2:List TO:=[.box 67 [.fn 64 0 [] []]]
theorem ev77_2 (x0:LI):zt zP (tn37 77) (TM.evF zP (tn37) dOk 40) dOk 40 77 (aF77_2 x0) hF77_2=(v77_2 x0).bind fun r=>some ([.sc (I4 (r))],[.box 67 [.fn 64 0 [] []]]):=by
 refine Eq.trans (b:=tv77_2 x0 fun r=>some ([.sc (I4 (r))],[.box 67 [.fn 64 0 [] []]])) (by kernel_rfl) ?_
 unfold v77_2 tv77_2
 with_reducible repeat' refine zp ?_ ?_
 all_goals rfl
noncomputable def sv77_2:OrcS:=fun al H=>tqa (aF77_2 []) hF77_2 al H fun x0=>some [(ok (v77_2 x0),[.sc (I4 ((val (v77_2 x0))))],[.box 67 [.fn 64 0 [] []]])]
theorem wv77_2:zq zP dOk base o36 t37 (77,sv77_2):=by
 intro al H q hq rs H2 h2
 obtain ⟨_,_,rfl,rfl,g⟩:=tqa_some hq
 clear hq
 change some _=_ at g
 cases g
 obtain ⟨hc0,rfl,rfl⟩:=zg h2
 exact ⟨41,(zy (by kernel_rfl)).trans ((ev77_2 _).trans (zm (zc hc0)))⟩
noncomputable def o38:OrcT:=(77,sv77_2)::o36
abbrev tn38:=zd base o38 t37
theorem ok38:OKT tn38:=zr ok37 ok37 (p:=(77,sv77_2)) wv77_2
noncomputable def v66_2 (x0:LI):Option Bool:=(cond (ok (v77_2 x0)) (some (decide (val (v77_2 x0)≥0))) none)
abbrev aF66_2 (x0:LI):List TA:=[.sc (kD x0),.sc (.fn 67 0 [none] [.ptr 0 0])]
abbrev hF66_2:List TO:=[.box 67 [.fn 64 0 [] []]]
theorem ev66_2 (x0:LI):zt zP (tn38 66) (TM.evF zP (tn38) dOk 40) dOk 40 66 (aF66_2 x0) hF66_2=(v66_2 x0).bind fun r=>some ([.sc (.bool (r))],[.box 67 [.fn 64 0 [] []]]):=by
 refine Eq.trans (b:=(cond (ok (v77_2 x0)) (some ([.sc (.bool (decide (val (v77_2 x0)≥0)))],[.box 67 [.fn 64 0 [] []]])) none)) (by kernel_rfl) ?_
 unfold v66_2
 with_reducible repeat' refine zp ?_ ?_
 all_goals rfl
noncomputable def sv66_2:OrcS:=fun al H=>tqa (aF66_2 []) hF66_2 al H fun x0=>some [(ok (v66_2 x0),[.sc (.bool ((val (v66_2 x0))))],[.box 67 [.fn 64 0 [] []]])]
theorem wv66_2:zq zP dOk base o38 t37 (66,sv66_2):=by
 intro al H q hq rs H2 h2
 obtain ⟨_,_,rfl,rfl,g⟩:=tqa_some hq
 clear hq
 change some _=_ at g
 cases g
 obtain ⟨hc0,rfl,rfl⟩:=zg h2
 exact ⟨41,(zy (by kernel_rfl)).trans ((ev66_2 _).trans (zm (zc hc0)))⟩
noncomputable def o39:OrcT:=(66,sv66_2)::o38
abbrev tn39:=zd base o39 t37
theorem ok39:OKT tn39:=zr ok38 ok38 (p:=(66,sv66_2)) wv66_2
end
end Go.Proofs.Ytpfphfobneehmaa
