/- What the machines are told of each function. Written by a program of ours. -/
import Derived.Test.YtgmebdomopdgmaaB8
import Derived.Test.YtgmebdomopdgmaaProg
import Derived.KernelRfl
set_option linter.all false
set_option maxRecDepth 1000000
set_option maxHeartbeats 4000000
namespace Go.Proofs.Ytgmebdomopdgmaa
open Go Go.AM Go.TM Go.Proofs
abbrev PKt:=(Int×(Int×(Int×(Int×(Int×(Int×(Bool×Bool)))))))
abbrev PKy:Ty:=(.pair (.int .i64) (.pair (.int .i64) (.pair (.int .i64) (.pair (.int .i64) (.pair (.int .i64) (.pair (.int .i64) (.pair .bool .bool)))))))
abbrev QDy:Ty:=.pair PKy (.int .i64)
abbrev PKz:PKt:=((0:Int),(0:Int),(0:Int),(0:Int),(0:Int),(0:Int),false,false)
noncomputable abbrev I4 (x:Int):TC:=.int .i64 x
theorem dJ2 {R:Type} {r:R} {k0 k1:IntKind} {l:List TC} {K:Int→Int→List TC→Option R} (h:dCI k0 l (fun a0 m0=>dCI k1 m0 (K a0))=some r):∃ a0 a1 m,l=.int k0 a0::.int k1 a1::m∧K a0 a1 m=some r:=by
 replace h:=zJ h;obtain ⟨a0,m,rfl,h⟩:=h
 replace h:=zJ h;obtain ⟨a1,m,rfl,h⟩:=h
 exact ⟨a0,a1,m,rfl,h⟩
theorem dJ3 {R:Type} {r:R} {k0 k1 k2:IntKind} {l:List TC} {K:Int→Int→Int→List TC→Option R} (h:dCI k0 l (fun a0 m0=>dCI k1 m0 (fun a1 m1=>dCI k2 m1 (K a0 a1)))=some r):∃ a0 a1 a2 m,l=.int k0 a0::.int k1 a1::.int k2 a2::m∧K a0 a1 a2 m=some r:=by
 replace h:=zJ h;obtain ⟨a0,m,rfl,h⟩:=h
 replace h:=zJ h;obtain ⟨a1,m,rfl,h⟩:=h
 replace h:=zJ h;obtain ⟨a2,m,rfl,h⟩:=h
 exact ⟨a0,a1,a2,m,rfl,h⟩
theorem dJ4 {R:Type} {r:R} {k0 k1 k2 k3:IntKind} {l:List TC} {K:Int→Int→Int→Int→List TC→Option R} (h:dCI k0 l (fun a0 m0=>dCI k1 m0 (fun a1 m1=>dCI k2 m1 (fun a2 m2=>dCI k3 m2 (K a0 a1 a2))))=some r):∃ a0 a1 a2 a3 m,l=.int k0 a0::.int k1 a1::.int k2 a2::.int k3 a3::m∧K a0 a1 a2 a3 m=some r:=by
 replace h:=zJ h;obtain ⟨a0,m,rfl,h⟩:=h
 replace h:=zJ h;obtain ⟨a1,m,rfl,h⟩:=h
 replace h:=zJ h;obtain ⟨a2,m,rfl,h⟩:=h
 replace h:=zJ h;obtain ⟨a3,m,rfl,h⟩:=h
 exact ⟨a0,a1,a2,a3,m,rfl,h⟩
theorem dJ5 {R:Type} {r:R} {k0 k1 k2 k3 k4:IntKind} {l:List TC} {K:Int→Int→Int→Int→Int→List TC→Option R} (h:dCI k0 l (fun a0 m0=>dCI k1 m0 (fun a1 m1=>dCI k2 m1 (fun a2 m2=>dCI k3 m2 (fun a3 m3=>dCI k4 m3 (K a0 a1 a2 a3)))))=some r):∃ a0 a1 a2 a3 a4 m,l=.int k0 a0::.int k1 a1::.int k2 a2::.int k3 a3::.int k4 a4::m∧K a0 a1 a2 a3 a4 m=some r:=by
 replace h:=zJ h;obtain ⟨a0,m,rfl,h⟩:=h
 replace h:=zJ h;obtain ⟨a1,m,rfl,h⟩:=h
 replace h:=zJ h;obtain ⟨a2,m,rfl,h⟩:=h
 replace h:=zJ h;obtain ⟨a3,m,rfl,h⟩:=h
 replace h:=zJ h;obtain ⟨a4,m,rfl,h⟩:=h
 exact ⟨a0,a1,a2,a3,a4,m,rfl,h⟩
theorem dJ6 {R:Type} {r:R} {k0 k1 k2 k3 k4 k5:IntKind} {l:List TC} {K:Int→Int→Int→Int→Int→Int→List TC→Option R} (h:dCI k0 l (fun a0 m0=>dCI k1 m0 (fun a1 m1=>dCI k2 m1 (fun a2 m2=>dCI k3 m2 (fun a3 m3=>dCI k4 m3 (fun a4 m4=>dCI k5 m4 (K a0 a1 a2 a3 a4))))))=some r):∃ a0 a1 a2 a3 a4 a5 m,l=.int k0 a0::.int k1 a1::.int k2 a2::.int k3 a3::.int k4 a4::.int k5 a5::m∧K a0 a1 a2 a3 a4 a5 m=some r:=by
 replace h:=zJ h;obtain ⟨a0,m,rfl,h⟩:=h
 replace h:=zJ h;obtain ⟨a1,m,rfl,h⟩:=h
 replace h:=zJ h;obtain ⟨a2,m,rfl,h⟩:=h
 replace h:=zJ h;obtain ⟨a3,m,rfl,h⟩:=h
 replace h:=zJ h;obtain ⟨a4,m,rfl,h⟩:=h
 replace h:=zJ h;obtain ⟨a5,m,rfl,h⟩:=h
 exact ⟨a0,a1,a2,a3,a4,a5,m,rfl,h⟩
theorem dJ7 {R:Type} {r:R} {k0 k1 k2 k3 k4 k5 k6:IntKind} {l:List TC} {K:Int→Int→Int→Int→Int→Int→Int→List TC→Option R} (h:dCI k0 l (fun a0 m0=>dCI k1 m0 (fun a1 m1=>dCI k2 m1 (fun a2 m2=>dCI k3 m2 (fun a3 m3=>dCI k4 m3 (fun a4 m4=>dCI k5 m4 (fun a5 m5=>dCI k6 m5 (K a0 a1 a2 a3 a4 a5)))))))=some r):∃ a0 a1 a2 a3 a4 a5 a6 m,l=.int k0 a0::.int k1 a1::.int k2 a2::.int k3 a3::.int k4 a4::.int k5 a5::.int k6 a6::m∧K a0 a1 a2 a3 a4 a5 a6 m=some r:=by
 replace h:=zJ h;obtain ⟨a0,m,rfl,h⟩:=h
 replace h:=zJ h;obtain ⟨a1,m,rfl,h⟩:=h
 replace h:=zJ h;obtain ⟨a2,m,rfl,h⟩:=h
 replace h:=zJ h;obtain ⟨a3,m,rfl,h⟩:=h
 replace h:=zJ h;obtain ⟨a4,m,rfl,h⟩:=h
 replace h:=zJ h;obtain ⟨a5,m,rfl,h⟩:=h
 replace h:=zJ h;obtain ⟨a6,m,rfl,h⟩:=h
 exact ⟨a0,a1,a2,a3,a4,a5,a6,m,rfl,h⟩
theorem dJ8 {R:Type} {r:R} {k0 k1 k2 k3 k4 k5 k6 k7:IntKind} {l:List TC} {K:Int→Int→Int→Int→Int→Int→Int→Int→List TC→Option R} (h:dCI k0 l (fun a0 m0=>dCI k1 m0 (fun a1 m1=>dCI k2 m1 (fun a2 m2=>dCI k3 m2 (fun a3 m3=>dCI k4 m3 (fun a4 m4=>dCI k5 m4 (fun a5 m5=>dCI k6 m5 (fun a6 m6=>dCI k7 m6 (K a0 a1 a2 a3 a4 a5 a6))))))))=some r):∃ a0 a1 a2 a3 a4 a5 a6 a7 m,l=.int k0 a0::.int k1 a1::.int k2 a2::.int k3 a3::.int k4 a4::.int k5 a5::.int k6 a6::.int k7 a7::m∧K a0 a1 a2 a3 a4 a5 a6 a7 m=some r:=by
 replace h:=zJ h;obtain ⟨a0,m,rfl,h⟩:=h
 replace h:=zJ h;obtain ⟨a1,m,rfl,h⟩:=h
 replace h:=zJ h;obtain ⟨a2,m,rfl,h⟩:=h
 replace h:=zJ h;obtain ⟨a3,m,rfl,h⟩:=h
 replace h:=zJ h;obtain ⟨a4,m,rfl,h⟩:=h
 replace h:=zJ h;obtain ⟨a5,m,rfl,h⟩:=h
 replace h:=zJ h;obtain ⟨a6,m,rfl,h⟩:=h
 replace h:=zJ h;obtain ⟨a7,m,rfl,h⟩:=h
 exact ⟨a0,a1,a2,a3,a4,a5,a6,a7,m,rfl,h⟩
theorem dJ9 {R:Type} {r:R} {k0 k1 k2 k3 k4 k5 k6 k7 k8:IntKind} {l:List TC} {K:Int→Int→Int→Int→Int→Int→Int→Int→Int→List TC→Option R} (h:dCI k0 l (fun a0 m0=>dCI k1 m0 (fun a1 m1=>dCI k2 m1 (fun a2 m2=>dCI k3 m2 (fun a3 m3=>dCI k4 m3 (fun a4 m4=>dCI k5 m4 (fun a5 m5=>dCI k6 m5 (fun a6 m6=>dCI k7 m6 (fun a7 m7=>dCI k8 m7 (K a0 a1 a2 a3 a4 a5 a6 a7)))))))))=some r):∃ a0 a1 a2 a3 a4 a5 a6 a7 a8 m,l=.int k0 a0::.int k1 a1::.int k2 a2::.int k3 a3::.int k4 a4::.int k5 a5::.int k6 a6::.int k7 a7::.int k8 a8::m∧K a0 a1 a2 a3 a4 a5 a6 a7 a8 m=some r:=by
 replace h:=zJ h;obtain ⟨a0,m,rfl,h⟩:=h
 replace h:=zJ h;obtain ⟨a1,m,rfl,h⟩:=h
 replace h:=zJ h;obtain ⟨a2,m,rfl,h⟩:=h
 replace h:=zJ h;obtain ⟨a3,m,rfl,h⟩:=h
 replace h:=zJ h;obtain ⟨a4,m,rfl,h⟩:=h
 replace h:=zJ h;obtain ⟨a5,m,rfl,h⟩:=h
 replace h:=zJ h;obtain ⟨a6,m,rfl,h⟩:=h
 replace h:=zJ h;obtain ⟨a7,m,rfl,h⟩:=h
 replace h:=zJ h;obtain ⟨a8,m,rfl,h⟩:=h
 exact ⟨a0,a1,a2,a3,a4,a5,a6,a7,a8,m,rfl,h⟩
abbrev dK {R:Type} (l:List TC) (K:Int→List TC→Option R):Option R:=dCI .i64 l K
def base:List (FuncId×TAn):=[
 (2,{ a:={ loc:=[],keep:=[] },own:=false,crow:=[],cuts:=[],live:=[],coe:=[],nt:=1 }),
 (4,{ a:={ loc:=[3,8,42,53,69,86,102],keep:=[(0,[2,7,8,10,49,50],[8])],keepR:=[(0,[1,2,3]),(1,[1,2,3,7]),(2,[1,2,3,7,29]),(3,[6]),(4,[2,7,8,9]),(5,[2,7,8,40]),(6,[6]),(7,[2,7,8,47]),(8,[6]),(9,[2,7,8,10]),(10,[2,7,8,10,49,50]),(11,[2,7,8,10,49,50,51]),(12,[2,7,8,10,11,49,50]),(13,[2,7,8,10,11,49,50,77]),(14,[6]),(15,[2,7,8,10,49,50]),(16,[2,7,8,10,49,50]),(17,[6])] },own:=false,crow:=[],cuts:=[4,7,10,13],live:=[(0,[2,7,8,10,49,50],[8]),(2,[2,7,8,10],[8]),(3,[6],[]),(36,[1,2,3,7],[3]),(37,[6],[]),(38,[6],[]),(39,[6],[]),(60,[2,7,8],[8]),(61,[6],[]),(62,[6],[]),(63,[6],[]),(84,[2,7,8,10],[8]),(85,[6],[]),(86,[6],[]),(87,[6],[]),(108,[2,7,8,10,11,49,50],[8]),(109,[2,7,8,10,49,50],[8]),(110,[2,7,8,10,49,50],[8]),(111,[6],[])],coe:=[(0,[((0,2,0),22,true),((1,8,0),22,true),((1,8,1),3,true)]),(36,[((0,2,0),22,true),((1,3,0),3,true),((1,3,1),22,true),((1,3,2),3,true)]),(60,[((0,2,0),22,true),((1,8,0),22,true),((1,8,1),3,true)]),(84,[((0,2,0),22,true),((1,8,0),22,true),((1,8,1),3,true)]),(108,[((0,2,0),22,true),((1,8,0),22,true),((1,8,1),3,true)])],nt:=107 }),
 (11,{ a:={ loc:=[1,3,5,6,8,22],keep:=[] },own:=false,crow:=[],cuts:=[],live:=[],coe:=[],nt:=56 }),
 (12,{ a:={ loc:=[1,5,11,18,23,29],keep:=[(0,[1,3],[1])] },own:=false,crow:=[],cuts:=[],live:=[(0,[1,3],[1]),(2,[1],[1]),(3,[2],[])],coe:=[(0,[((1,1,0),3,true),((1,1,1),22,true),((1,1,2),3,true)])],nt:=34 }),
 (13,{ a:={ loc:=[2,4,9,11,13,21,24,66,68],keep:=[(0,[4,7,9,54,55],[4,9])] },own:=false,crow:=[],cuts:=[],live:=[(0,[4,7,9,54,55],[4,9]),(2,[4,9],[4,9]),(3,[4,5],[4])],coe:=[(0,[((1,4,0),22,true),((1,4,1),3,true),((1,9,0),22,true),((1,9,1),3,true)])],nt:=75 }),
 (15,{ a:={ loc:=[2,3,6,8,12,15,21,23,29,35,40],keep:=[(0,[2,3,5],[2,3])],hst:=[38,43],ro:=[20] },own:=false,crow:=[],cuts:=[],live:=[(0,[2,3,5],[2,3]),(2,[],[]),(3,[4],[])],coe:=[(0,[((1,2,0),22,true),((1,2,1),3,true),((1,3,0),22,true),((1,3,1),3,true)])],nt:=47 }),
 (16,{ a:={ loc:=[2,9,24],keep:=[(0,[1,2,5],[2]),(2,[1,2,5,6],[2])],hst:=[21,27] },own:=false,crow:=[],cuts:=[],live:=[(0,[1,2,5],[2]),(2,[],[]),(3,[4],[]),(16,[1,2,5,6],[2]),(18,[1,2,5],[2]),(19,[4],[])],coe:=[(0,[((0,1,0),22,true),((1,2,0),3,true),((1,2,1),23,true)]),(16,[((0,1,0),22,true),((1,2,0),3,true),((1,2,1),23,true)])],nt:=58 }),
 (17,{ a:={ loc:=[1,2,3,5,9,15,17,25,23],keep:=[(0,[1,2,3,4],[1,2,3])],hst:=[20],rt:=[(15,3),(17,1),(25,3)] },own:=false,crow:=[],cuts:=[],live:=[(0,[1,2,3,4],[1,2,3]),(2,[2,3],[2,3]),(3,[2],[2])],coe:=[(0,[((1,1,0),3,true),((1,1,1),22,true),((1,1,2),3,true),((1,2,0),3,true),((1,2,1),23,true),((1,3,0),3,true),((1,3,1),23,true)])],nt:=27 }),
 (18,{ a:={ loc:=[2,7,17],keep:=[(0,[1,2,5],[2])],hst:=[20],ro:=[35] },own:=false,crow:=[],cuts:=[],live:=[(0,[1,2,5],[2]),(2,[],[]),(3,[4],[])],coe:=[(0,[((0,1,0),22,true),((1,2,0),3,true),((1,2,1),23,true)])],nt:=24 }),
 (19,{ a:={ loc:=[4,5,12,17,21,22,15,19],keep:=[(0,[4,5,9,10],[4,5])],rt:=[(12,5),(17,5),(21,5),(22,5)] },own:=false,crow:=[],cuts:=[],live:=[(0,[4,5,9,10],[4,5]),(2,[4,5],[4,5]),(3,[4],[4])],coe:=[(0,[((1,4,0),3,true),((1,4,1),22,true),((1,4,2),3,true),((1,5,0),3,true),((1,5,1),22,true),((1,5,2),3,true)])],nt:=25 }),
 (20,{ a:={ loc:=[],keep:=[(0,[0,1,5],[])] },own:=false,crow:=[],cuts:=[],live:=[(0,[0,1,5],[]),(2,[],[]),(3,[4],[])],coe:=[(0,[((0,0,0),3,true),((0,1,0),3,true)])],nt:=26 }),
 (21,{ a:={ loc:=[3,29],keep:=[],ro:=[38] },own:=false,crow:=[],cuts:=[],live:=[],coe:=[],nt:=38 }),
 (23,{ a:={ loc:=[],keep:=[] },own:=false,crow:=[],cuts:=[],live:=[],coe:=[],nt:=9 }),
 (24,{ a:={ loc:=[],keep:=[] },own:=false,crow:=[],cuts:=[],live:=[],coe:=[],nt:=5 }),
 (25,{ a:={ loc:=[],keep:=[] },own:=false,crow:=[],cuts:=[],live:=[],coe:=[],nt:=24 }),
 (26,{ a:={ loc:=[1,2,3,6,9,16,22,20],keep:=[(0,[2,3,10,11,12],[2,3])] },own:=false,crow:=[],cuts:=[],live:=[(0,[2,3,10,11,12],[2,3]),(2,[2,3],[2,3]),(3,[2],[2])],coe:=[(0,[((0,10,0),22,true),((1,2,0),3,true),((1,2,1),23,true),((1,3,0),3,true),((1,3,1),23,true)])],nt:=25 }),
 (27,{ a:={ loc:=[1,11,17,38],keep:=[(0,[1,4,5,18,19,20],[1]),(2,[1,4,5,18,19,20,24,25,26],[1])],hst:=[35] },own:=false,crow:=[],cuts:=[],live:=[(0,[1,4,5,18,19,20],[1]),(2,[4,5],[]),(3,[2,3],[]),(16,[1,4,5,18,19,20,24,25,26],[1]),(18,[1,4,5,18,19,20],[1]),(19,[2,3],[])],coe:=[(0,[((0,18,0),22,true),((1,1,0),3,true),((1,1,1),22,true),((1,1,2),3,true)]),(16,[((0,18,0),22,true),((0,24,0),3,true),((1,1,0),3,true),((1,1,1),22,true),((1,1,2),3,true)])],nt:=51 }),
 (28,{ a:={ loc:=[2,4,25,33,54,65,73,75,81,31,63],keep:=[(0,[1,2,4,5,19,20,21],[2,4]),(2,[1,2,4,8,48,49,50],[2,4])],hst:=[1,5,70],rt:=[(25,4),(33,4),(54,4),(65,4)],ldb:=[5] },own:=false,crow:=[],cuts:=[],live:=[(0,[1,2,4,5,19,20,21],[2,4]),(2,[1,2,4,5],[2,4]),(3,[2,3],[2]),(16,[1,2,4,8,48,49,50],[2,4]),(18,[1,2,4],[2,4]),(19,[2,3],[2])],coe:=[(0,[((0,19,0),22,true),((1,2,0),22,true),((1,2,1),3,true),((1,4,0),22,true),((1,4,1),3,true)]),(16,[((0,48,0),3,true),((1,2,0),22,true),((1,2,1),3,true),((1,4,0),22,true),((1,4,1),3,true)])],nt:=85 }),
 (29,{ a:={ loc:=[],keep:=[(0,[0,2,15,16,17],[]),(2,[0,5,6,7,89,90,91],[]),(4,[0,7,135,136],[])],hst:=[129,144] },own:=false,crow:=[],cuts:=[],live:=[(0,[0,2,15,16,17],[]),(2,[0,2],[]),(3,[],[]),(16,[0,5,6,7,89,90,91],[]),(18,[0,7],[]),(19,[],[]),(32,[0,7,135,136],[]),(34,[0,7],[]),(35,[],[])],coe:=[(0,[((0,15,0),3,true)]),(16,[((0,7,0),3,true),((0,89,0),3,true)]),(32,[((0,7,0),3,true)])],nt:=152 }),
 (35,{ a:={ loc:=[3,11,18,27],keep:=[(0,[1,2,3,7,8],[3]),(2,[1,2,3,7,8,9],[3])],ro:=[55] },own:=false,crow:=[],cuts:=[],live:=[(0,[1,2,3,7,8],[3]),(2,[7],[]),(3,[6],[]),(16,[1,2,3,7,8,9],[3]),(18,[1,2,3,7,8],[3]),(19,[6],[])],coe:=[(0,[((0,1,0),22,true),((1,3,0),3,true),((1,3,1),23,true)]),(16,[((0,1,0),22,true),((1,3,0),3,true),((1,3,1),23,true)])],nt:=47 }),
 (36,{ a:={ loc:=[3,11,18,32],keep:=[(0,[2,3,23,24,25],[3])] },own:=false,crow:=[],cuts:=[],live:=[(0,[2,3,23,24,25],[3]),(2,[2],[]),(3,[6],[])],coe:=[(0,[((0,2,0),3,true),((0,23,0),22,true),((1,3,0),3,true),((1,3,1),23,true)])],nt:=47 }),
 (37,{ a:={ loc:=[3,10,16,20,24,37,41,52,65,78],keep:=[(2,[7,10,42,43,44],[10]),(4,[1,3,5,6,8,57,58,59],[3]),(8,[5,6,8,15,17,79,80,81],[])],hst:=[7,8,35,40,50,55],rt:=[(20,3),(24,3),(37,10),(52,10)] },own:=false,crow:=[],cuts:=[],live:=[(16,[7,10,42,43,44],[10]),(18,[],[]),(19,[6],[]),(32,[1,3,5,6,8,57,58,59],[3]),(34,[1,3,5,6,8],[3]),(35,[6],[]),(64,[5,6,8,15,17,79,80,81],[]),(66,[6,8,15,17],[]),(67,[6],[]),(41,[7,8],[]),(161,[5,6,8],[])],coe:=[(16,[((0,42,0),3,true),((1,10,0),3,true)]),(32,[((0,1,0),22,true),((0,57,0),3,true),((1,3,0),3,true),((1,3,1),23,true)]),(64,[((0,79,0),3,true)])],nt:=106 }),
 (38,{ a:={ loc:=[2,17],keep:=[(0,[2,5,8,9,10],[2])] },own:=false,crow:=[],cuts:=[],live:=[(0,[2,5,8,9,10],[2]),(2,[5],[]),(3,[4],[])],coe:=[(0,[((0,8,0),3,true),((1,2,0),3,true),((1,2,1),23,true)])],nt:=26 }),
 (39,{ a:={ loc:=[],keep:=[] },own:=false,crow:=[],cuts:=[],live:=[],coe:=[],nt:=15 }),
 (40,{ a:={ loc:=[],keep:=[(0,[0,1,7,8],[])] },own:=false,crow:=[],cuts:=[],live:=[(0,[0,1,7,8],[]),(2,[],[]),(3,[4],[])],coe:=[(0,[((0,0,0),3,true)])],nt:=19 }),
 (41,{ a:={ loc:=[],keep:=[] },own:=false,crow:=[],cuts:=[],live:=[],coe:=[],nt:=9 }),
 (42,{ a:={ loc:=[],keep:=[] },own:=false,crow:=[],cuts:=[],live:=[],coe:=[],nt:=5 }),
 (43,{ a:={ loc:=[],keep:=[] },own:=false,crow:=[],cuts:=[],live:=[],coe:=[],nt:=9 }),
 (44,{ a:={ loc:=[],keep:=[] },own:=false,crow:=[],cuts:=[],live:=[],coe:=[],nt:=12 }),
 (45,{ a:={ loc:=[],keep:=[] },own:=false,crow:=[],cuts:=[],live:=[],coe:=[],nt:=9 }),
 (46,{ a:={ loc:=[],keep:=[] },own:=false,crow:=[],cuts:=[],live:=[],coe:=[],nt:=9 }),
 (47,{ a:={ loc:=[],keep:=[(0,[0,1,5,8,9,10],[])] },own:=false,crow:=[],cuts:=[],live:=[(0,[0,1,5,8,9,10],[]),(2,[0],[]),(3,[4],[])],coe:=[(0,[((0,0,0),3,true),((0,8,0),3,true)])],nt:=27 }),
 (48,{ a:={ loc:=[],keep:=[(0,[0,20,21,22],[]),(2,[0,4,20,21,22,30,31,32],[])],hst:=[45],gr:=[52] },own:=false,crow:=[],cuts:=[],live:=[(0,[0,20,21,22],[]),(2,[],[]),(3,[],[]),(16,[0,4,20,21,22,30,31,32],[]),(18,[0,20,21,22],[]),(19,[],[])],coe:=[(0,[((0,20,0),22,true)]),(16,[((0,20,0),22,true),((0,30,0),3,true)])],nt:=48 }),
 (49,{ a:={ loc:=[],keep:=[],gr:=[52] },own:=false,crow:=[],cuts:=[],live:=[],coe:=[],nt:=13 }),
 (50,{ a:={ loc:=[],keep:=[(0,[1,5,14,15,16],[])] },own:=false,crow:=[],cuts:=[],live:=[(0,[1,5,14,15,16],[]),(2,[5],[]),(3,[4],[])],coe:=[(0,[((0,14,0),22,true)])],nt:=27 }),
 (51,{ a:={ loc:=[],keep:=[],hst:=[1,2],gr:=[52] },own:=false,crow:=[],cuts:=[],live:=[],coe:=[],nt:=12 }),
 (52,{ a:={ loc:=[],keep:=[],ro:=[70] },own:=false,crow:=[],cuts:=[],live:=[],coe:=[],nt:=8 }),
 (53,{ a:={ loc:=[],keep:=[(0,[0,3,4],[])] },own:=false,crow:=[],cuts:=[],live:=[(0,[0,3,4],[]),(2,[3],[]),(3,[2],[])],coe:=[(0,[((0,0,0),3,true)])],nt:=25 }),
 (55,{ a:={ loc:=[],keep:=[(0,[0,1,5],[])] },own:=false,crow:=[],cuts:=[],live:=[(0,[0,1,5],[]),(2,[],[]),(3,[4],[])],coe:=[(0,[((0,0,0),3,true)])],nt:=18 }),
 (60,{ a:={ loc:=[],keep:=[] },own:=false,crow:=[],cuts:=[],live:=[],coe:=[],nt:=5 }),
 (61,{ a:={ loc:=[],keep:=[] },own:=false,crow:=[],cuts:=[],live:=[],coe:=[],nt:=5 }),
 (62,{ a:={ loc:=[],keep:=[] },own:=false,crow:=[],cuts:=[],live:=[],coe:=[],nt:=6 }),
 (63,{ a:={ loc:=[],keep:=[] },own:=false,crow:=[],cuts:=[],live:=[],coe:=[],nt:=8 }),
 (64,{ a:={ loc:=[],keep:=[] },own:=false,crow:=[],cuts:=[],live:=[],coe:=[],nt:=9 }),
 (65,{ a:={ loc:=[],keep:=[] },own:=false,crow:=[],cuts:=[],live:=[],coe:=[],nt:=8 }),
 (66,{ a:={ loc:=[],keep:=[] },own:=false,crow:=[],cuts:=[],live:=[],coe:=[],nt:=9 }),
 (67,{ a:={ loc:=[],keep:=[] },own:=false,crow:=[],cuts:=[],live:=[],coe:=[],nt:=8 }),
 (68,{ a:={ loc:=[],keep:=[(0,[1,5,14,15,16],[])] },own:=false,crow:=[],cuts:=[],live:=[(0,[1,5,14,15,16],[]),(2,[5],[]),(3,[4],[])],coe:=[(0,[((0,14,0),3,true)])],nt:=27 }),
 (69,{ a:={ loc:=[],keep:=[] },own:=false,crow:=[],cuts:=[],live:=[],coe:=[],nt:=24 }),
 (70,{ a:={ loc:=[],keep:=[(0,[1,5,8,9,10],[])],ro:=[71],rov:=true },own:=false,crow:=[],cuts:=[],live:=[(0,[1,5,8,9,10],[]),(2,[5],[]),(3,[4],[])],coe:=[(0,[((0,8,0),3,true)])],nt:=21 }),
 (71,{ a:={ loc:=[],keep:=[] },own:=false,crow:=[],cuts:=[],live:=[],coe:=[],nt:=11 }),
 (76,{ a:={ loc:=[],keep:=[(0,[0,2,9,10,11],[]),(2,[0,2,4,9,10,11,16,17,18],[])] },own:=false,crow:=[],cuts:=[],live:=[(0,[0,2,9,10,11],[]),(2,[],[]),(3,[],[]),(16,[0,2,4,9,10,11,16,17,18],[]),(18,[0,2,9,10,11],[]),(19,[],[])],coe:=[(0,[((0,9,0),23,true)]),(16,[((0,9,0),23,true),((0,16,0),22,true)])],nt:=38 }),
 (77,{ a:={ loc:=[],keep:=[(0,[0,1,7,8],[])] },own:=false,crow:=[],cuts:=[],live:=[(0,[0,1,7,8],[]),(2,[],[]),(3,[4],[])],coe:=[(0,[((0,0,0),23,true)])],nt:=19 }),
 (78,{ a:={ loc:=[],keep:=[(0,[0,1,7,8],[])] },own:=false,crow:=[],cuts:=[],live:=[(0,[0,1,7,8],[]),(2,[],[]),(3,[4],[])],coe:=[(0,[((0,0,0),22,true)])],nt:=19 }),
 (80,{ a:={ loc:=[],keep:=[(0,[0,1,5,6],[])] },own:=false,crow:=[],cuts:=[],live:=[(0,[0,1,5,6],[]),(2,[5],[]),(3,[4],[])],coe:=[(0,[((0,0,0),3,true),((0,1,0),3,true)])],nt:=23 })]
def o0:OrcT:=[]
def t0:TellT:=[]
noncomputable abbrev tn0:FuncId→TAn:=zh base o0 t0
theorem names:yt Try.prog=true:=by kernel_rfl
theorem mixed:Try.prog.follows .mixedOrders=true:=by kernel_rfl
theorem ok0:TnOk Try.prog tn0 (mkA base) dOk:=tn_nil (by kernel_rfl)
noncomputable def v39 (x0 x1 x2:Int):Option Bool:=(cond (decide (x1≤x0)) (some (decide (x0≤x2))) (some (false)))
theorem ev39 (x0 x1 x2:Int):zo Try.prog (tn0 39) (TM.evF Try.prog (tn0) dOk 40) dOk 40 39 [.sc (I4 x0),.sc (I4 x1),.sc (I4 x2)] []=(v39 x0 x1 x2).bind fun r=>some ([.sc (.bool (r))],[]):=by
 refine Eq.trans (b:=(cond (decide (x1≤x0)) (some ([.sc (.bool (decide (x0≤x2)))],[])) (some ([.sc (.bool (false))],[])))) (by kernel_rfl) ?_
 unfold v39
 refine za ?_ ?_
 rfl
 rfl
noncomputable def sv39:OrcS:=fun al H=>dC al fun y1 l2=>dS y1 fun y3=>xd .i64 y3 fun x0=>dC l2 fun y4 l5=>dS y4 fun y6=>xd .i64 y6 fun x1=>dC l5 fun y7 l8=>dS y7 fun y9=>xd .i64 y9 fun x2=>dE l8<|dE H <|  some [(ok (v39 x0 x1 x2),[.sc (.bool ((val (v39 x0 x1 x2))))],[])]
theorem wv39:zm Try.prog dOk base o0 t0 (39,sv39):=by
 intro al H q hq0 rs H2 h2
 have hq:sv39 al H=some q:=hq0
 clear hq0
 unfold sv39 at hq
 repeat with_reducible first|replace hq:=dCq hq;obtain ⟨_,_,rfl,hq⟩:=hq|(first|replace hq:=dSq hq|replace hq:=xu hq);obtain ⟨_,rfl,hq⟩:=hq|replace hq:=dEq hq;obtain ⟨rfl,hq⟩:=hq
 cases hq
 obtain ⟨hc0,rfl,rfl⟩:=zg h2
 exact ⟨41,(zu (by kernel_rfl)).trans ((ev39 _ _ _).trans (zl (zf hc0)))⟩
noncomputable def o1:OrcT:=(39,sv39)::o0
noncomputable def t1:TellT:=t0
noncomputable abbrev tn1:FuncId→TAn:=zh base o1 t1
theorem ok1:TnOk Try.prog tn1 (mkA base) dOk:=by
 have h0:TnOk Try.prog (tn0) (mkA base) dOk:=ok0
 have h1:=zn h0 h0 (p:=(39,sv39)) wv39
 exact h1
noncomputable def v42 (x0:Int):Option Bool:=(cond (ok (v39 x0 0 (1000:Int))) (some (val (v39 x0 0 (1000:Int)))) none)
theorem ev42 (x0:Int):zo Try.prog (tn1 42) (TM.evF Try.prog (tn1) dOk 40) dOk 40 42 [.sc (I4 x0)] []=(v42 x0).bind fun r=>some ([.sc (.bool (r))],[]):=by
 refine Eq.trans (b:=(cond (ok (v39 x0 0 (1000:Int))) (some ([.sc (.bool (val (v39 x0 0 (1000:Int))))],[])) none)) (by kernel_rfl) ?_
 unfold v42
 refine za ?_ ?_
 rfl
 rfl
noncomputable def sv42:OrcS:=fun al H=>dC al fun y1 l2=>dS y1 fun y3=>xd .i64 y3 fun x0=>dE l2<|dE H <|  some [(ok (v42 x0),[.sc (.bool ((val (v42 x0))))],[])]
theorem wv42:zm Try.prog dOk base o1 t1 (42,sv42):=by
 intro al H q hq0 rs H2 h2
 have hq:sv42 al H=some q:=hq0
 clear hq0
 unfold sv42 at hq
 obtain ⟨_,_,rfl,g1⟩:=dCq hq
 obtain ⟨_,rfl,g2⟩:=dSq g1
 obtain ⟨_,rfl,g3⟩:=xu g2
 obtain ⟨rfl,g4⟩:=dEq g3
 obtain ⟨rfl,g5⟩:=dEq g4
 cases g5
 obtain ⟨hc0,rfl,rfl⟩:=zg h2
 exact ⟨41,(zu (by kernel_rfl)).trans ((ev42 _).trans (zl (zf hc0)))⟩
noncomputable def o2:OrcT:=(42,sv42)::o1
noncomputable def t2:TellT:=t1
noncomputable abbrev tn2:FuncId→TAn:=zh base o2 t2
theorem ok2:TnOk Try.prog tn2 (mkA base) dOk:=by
 have h0:TnOk Try.prog (tn1) (mkA base) dOk:=ok1
 have h1:=zn h0 h0 (p:=(42,sv42)) wv42
 exact h1
noncomputable def v63 (x0:Int):Option Bool:=(cond (ok (v42 x0)) (some (!val (v42 x0))) none)
theorem ev63 (x0:Int):zo Try.prog (tn2 63) (TM.evF Try.prog (tn2) dOk 40) dOk 40 63 [.sc (I4 x0),.sc (.ptr 0 0)] [.box 52 [.fn 42 0 [] []]]=(v63 x0).bind fun r=>some ([.sc (.bool (r))],[.box 52 [.fn 42 0 [] []]]):=by
 refine Eq.trans (b:=(cond (ok (v42 x0)) (some ([.sc (.bool (!val (v42 x0)))],[.box 52 [.fn 42 0 [] []]])) none)) (by kernel_rfl) ?_
 unfold v63
 refine za ?_ ?_
 rfl
 rfl
noncomputable def sv63:OrcS:=fun al H=>dC al fun y1 l2=>dS y1 fun y3=>xd .i64 y3 fun x0=>dC l2 fun y4 l5=>dS y4 fun y6=>zi 0 0 y6<|dE l5<|dHB 52 H fun y8 l7=>dC y8 fun y9 l10=>dFn 42 0 [] y9 fun y11=>dE y11<|dE l10<|dE l7 <|  some [(ok (v63 x0),[.sc (.bool ((val (v63 x0))))],[.box 52 [.fn 42 0 [] []]])]
theorem wv63:zm Try.prog dOk base o2 t2 (63,sv63):=by
 intro al H q hq0 rs H2 h2
 have hq:sv63 al H=some q:=hq0
 clear hq0
 unfold sv63 at hq
 repeat with_reducible first|(first|replace hq:=dCq hq|replace hq:=zG hq);obtain ⟨_,_,rfl,hq⟩:=hq|(first|replace hq:=dSq hq|replace hq:=xu hq|replace hq:=yo hq);obtain ⟨_,rfl,hq⟩:=hq|(first|replace hq:=zr hq|replace hq:=dEq hq);obtain ⟨rfl,hq⟩:=hq
 cases hq
 obtain ⟨hc0,rfl,rfl⟩:=zg h2
 exact ⟨41,(zu (by kernel_rfl)).trans ((ev63 _).trans (zl (zf hc0)))⟩
noncomputable def o3:OrcT:=(63,sv63)::o2
noncomputable def t3:TellT:=t2
noncomputable abbrev tn3:FuncId→TAn:=zh base o3 t3
theorem ok3:TnOk Try.prog tn3 (mkA base) dOk:=by
 have h0:TnOk Try.prog (tn2) (mkA base) dOk:=ok2
 have h1:=zn h0 h0 (p:=(63,sv63)) wv63
 exact h1
noncomputable def LaC:Nat→(List Int)→Int→Int→Option (Int ⊕ Unit)
 | 0,_,_,_=>none
 | n+1,x0,x1,x2=>(cond (decide (x2 < x1)) (cond (decide (0≤x2)) (cond (decide (x2 < (x0.length:Int))) (cond (ok (v63 (List.getD x0 x2.toNat 0))) (cond (val (v63 (List.getD x0 x2.toNat 0))) (some (.inl x2)) (LaC n x0 x1 (IntKind.wrap IntKind.i64 (x2+(1:Int))))) none) none) none) (some (.inr ())))
theorem qLaC:type_of% @LaC.eq_2:=@LaC.eq_2
noncomputable def xLaC (x0:(List Int)) (x1 x2:Int):(Int ⊕ Unit)→Ex×CS:=fun r=>match r with | .inl a0=>(.ret,{ sl:=[(4,.v (.sc (I4 (a0))))],lo:=[],h:=[.box 52 [.fn 42 0 [] []]],n0:=1,w:=true }) | .inr b0=>((.exit 0),{ sl:=[],lo:=[],h:=[.box 52 [.fn 42 0 [] []]],n0:=1,w:=false })
theorem bLaC (k:Nat) (cN:CS→Option (Ex×CS)) (cX:Ex→CS→Option (Ex×CS)) (x0:(List Int)) (x1 x2:Int):zq Try.prog (tn3 40) (TM.evF Try.prog (tn3) dOk (k+40)) dOk (k+40) (zc Try.prog (tn0 40) 40 0) 0 0 { sl:=[(0,.v (.sc (.d 3 (.int .i64) x0))),(1,.v (.sc (.fn 63 0 [none] [.ptr 0 0]))),(7,.v (.sc (I4 x1))),(8,.v (.sc (I4 x2)))],lo:=[],h:=[.box 52 [.fn 42 0 [] []]],n0:=1,w:=false } cN cX=(cond (decide (x2 < x1)) (cond (decide (0≤x2)) (cond (decide (x2 < (x0.length:Int))) (cond (ok (v63 (List.getD x0 x2.toNat 0))) (cond (val (v63 (List.getD x0 x2.toNat 0))) (cX .ret { sl:=[(4,.v (.sc (I4 x2)))],lo:=[],h:=[.box 52 [.fn 42 0 [] []]],n0:=1,w:=true }) (cN { sl:=[(0,.v (.sc (.d 3 (.int .i64) x0))),(1,.v (.sc (.fn 63 0 [none] [.ptr 0 0]))),(7,.v (.sc (I4 x1))),(8,.v (.sc (I4 (IntKind.wrap IntKind.i64 (x2+(1:Int))))))],lo:=[],h:=[.box 52 [.fn 42 0 [] []]],n0:=1,w:=false })) none) none) none) (cX (.exit 0) { sl:=[],lo:=[],h:=[.box 52 [.fn 42 0 [] []]],n0:=1,w:=false })):=by kernel_rfl
theorem lLaC (k m:Nat):∀ (n:Nat) (x0:(List Int)) (x1 x2:Int) (r:(Int ⊕ Unit)),LaC n x0 x1 x2=some r→zM Try.prog (tn3 40) (TM.evF Try.prog (tn3) dOk (k+40)) dOk (k+40) (zc Try.prog (tn0 40) 40 0) 0 0 (n+m) { sl:=[(0,.v (.sc (.d 3 (.int .i64) x0))),(1,.v (.sc (.fn 63 0 [none] [.ptr 0 0]))),(7,.v (.sc (I4 x1))),(8,.v (.sc (I4 x2)))],lo:=[],h:=[.box 52 [.fn 42 0 [] []]],n0:=1,w:=false }=some (xLaC x0 x1 x2 r):=by
 intro n
 induction n with
 | zero=>intro _ _ _ r h;cases h
 | succ n ih=>
  intro x0 x1 x2 r
  rw [show n+1+m=n+m+1 by omega,zp,bLaC,qLaC]
  refine zb ?_ ?_
  refine zb ?_ ?_
  refine zb ?_ ?_
  refine zb ?_ ?_
  refine zb ?_ ?_
  intro h;cases h;rfl
  exact ih _ _ _ r
  intro h;cases h
  intro h;cases h
  intro h;cases h
  intro h;cases h;rfl
noncomputable def sLaC:TellS:=fun S=>dCS 1 S fun y1 y2 y3=>dSs 0 y1 fun y5 l4=>dD 3 (.int .i64) y5 fun x0=>dSs 1 l4 fun y7 l6=>dFn 63 0 [none] y7 fun y8=>dC y8 fun y9 l10=>zi 0 0 y9<|dE l10<|dSI 7 .i64 l6 fun x1 l11=>dSI 8 .i64 l11 fun x2 l12=>dE l12<|dE y2<|dHB 52 y3 fun y14 l13=>dC y14 fun y15 l16=>dFn 42 0 [] y15 fun y17=>dE y17<|dE l16<|dE l13 <|  some [(isL (LaC FU x0 x1 x2),.ret,{ sl:=[(4,.v (.sc (I4 ((zN (LaC FU x0 x1 x2))))))],lo:=[],h:=[.box 52 [.fn 42 0 [] []]],n0:=1,w:=true }),(ok (zL (LaC FU x0 x1 x2)),(.exit 0),{ sl:=[],lo:=[],h:=[.box 52 [.fn 42 0 [] []]],n0:=1,w:=false })]
theorem wLaC:zB Try.prog dOk base o3 t3 ((40,0),sLaC):=by
 refine ⟨.loop (zc Try.prog (tn0 40) 40 0),0,by kernel_rfl,?_⟩
 intro S alts e S' h10 h2
 have h1:sLaC S=some alts:=h10
 clear h10
 unfold sLaC at h1
 repeat with_reducible first|replace h1:=yc h1;obtain ⟨_,_,_,rfl,h1⟩:=h1|(first|replace h1:=zX h1|replace h1:=dCq h1|replace h1:=ye h1|replace h1:=zG h1);obtain ⟨_,_,rfl,h1⟩:=h1|(first|replace h1:=dDq h1|replace h1:=yo h1);obtain ⟨_,rfl,h1⟩:=h1|(first|replace h1:=zr h1|replace h1:=dEq h1);obtain ⟨rfl,h1⟩:=h1
 cases h1
 rcases yx h2 with ⟨hc0,rfl,rfl⟩ | h2
 · exact ⟨FU+40,(ze rfl).trans (lLaC FU 40 FU _ _ _ _ (yS hc0))⟩
 obtain ⟨hc1,rfl,rfl⟩:=zt h2
 exact ⟨FU+40,(ze rfl).trans (lLaC FU 40 FU _ _ _ _ (yw (zf hc1)))⟩
noncomputable def o4:OrcT:=o3
noncomputable def t4:TellT:=((40,0),sLaC)::t3
noncomputable abbrev tn4:FuncId→TAn:=zh base o4 t4
theorem ok4:TnOk Try.prog tn4 (mkA base) dOk:=by
 have h0:TnOk Try.prog (tn3) (mkA base) dOk:=ok3
 have h1:=zD h0 h0 (p:=((40,0),sLaC)) wLaC
 exact h1
noncomputable def v40 (x0:(List Int)):Option Int:=(cond (isL (LaC FU x0 (x0.length:Int) 0)) (some (zN (LaC FU x0 (x0.length:Int) 0))) (cond (ok (zL (LaC FU x0 (x0.length:Int) 0))) (some ((-1:Int))) none))
theorem ev40 (x0:(List Int)):zo Try.prog (tn4 40) (TM.evF Try.prog (tn4) dOk 40) dOk 40 40 [.sc (.d 3 (.int .i64) x0),.sc (.fn 63 0 [none] [.ptr 0 0])] [.box 52 [.fn 42 0 [] []]]=(v40 x0).bind fun r=>some ([.sc (I4 (r))],[.box 52 [.fn 42 0 [] []]]):=by
 refine Eq.trans (b:=(cond (isL (LaC FU x0 (x0.length:Int) 0)) (some ([.sc (I4 (zN (LaC FU x0 (x0.length:Int) 0)))],[.box 52 [.fn 42 0 [] []]])) (cond (ok (zL (LaC FU x0 (x0.length:Int) 0))) (some ([.sc (I4 ((-1:Int)))],[.box 52 [.fn 42 0 [] []]])) none))) (by kernel_rfl) ?_
 unfold v40
 refine za ?_ ?_
 rfl
 refine za ?_ ?_
 rfl
 rfl
noncomputable def sv40:OrcS:=fun al H=>dC al fun y1 l2=>dS y1 fun y3=>dD 3 (.int .i64) y3 fun x0=>dC l2 fun y4 l5=>dS y4 fun y6=>dFn 63 0 [none] y6 fun y7=>dC y7 fun y8 l9=>zi 0 0 y8<|dE l9<|dE l5<|dHB 52 H fun y11 l10=>dC y11 fun y12 l13=>dFn 42 0 [] y12 fun y14=>dE y14<|dE l13<|dE l10 <|  some [(ok (v40 x0),[.sc (I4 ((val (v40 x0))))],[.box 52 [.fn 42 0 [] []]])]
theorem wv40:zm Try.prog dOk base o4 t4 (40,sv40):=by
 intro al H q hq0 rs H2 h2
 have hq:sv40 al H=some q:=hq0
 clear hq0
 unfold sv40 at hq
 repeat with_reducible first|(first|replace hq:=dCq hq|replace hq:=zG hq);obtain ⟨_,_,rfl,hq⟩:=hq|(first|replace hq:=dSq hq|replace hq:=dDq hq|replace hq:=yo hq);obtain ⟨_,rfl,hq⟩:=hq|(first|replace hq:=zr hq|replace hq:=dEq hq);obtain ⟨rfl,hq⟩:=hq
 cases hq
 obtain ⟨hc0,rfl,rfl⟩:=zg h2
 exact ⟨41,(zu (by kernel_rfl)).trans ((ev40 _).trans (zl (zf hc0)))⟩
noncomputable def o5:OrcT:=(40,sv40)::o4
noncomputable def t5:TellT:=t4
noncomputable abbrev tn5:FuncId→TAn:=zh base o5 t5
theorem ok5:TnOk Try.prog tn5 (mkA base) dOk:=by
 have h0:TnOk Try.prog (tn4) (mkA base) dOk:=ok4
 have h1:=zn h0 h0 (p:=(40,sv40)) wv40
 exact h1
noncomputable def v23 (x0:(List Int)):Option Bool:=(cond (ok (v40 x0)) (some (decide (val (v40 x0)≥0))) none)
theorem ev23 (x0:(List Int)):zo Try.prog (tn5 23) (TM.evF Try.prog (tn5) dOk 40) dOk 40 23 [.sc (.d 3 (.int .i64) x0),.sc (.fn 63 0 [none] [.ptr 0 0])] [.box 52 [.fn 42 0 [] []]]=(v23 x0).bind fun r=>some ([.sc (.bool (r))],[.box 52 [.fn 42 0 [] []]]):=by
 refine Eq.trans (b:=(cond (ok (v40 x0)) (some ([.sc (.bool (decide (val (v40 x0)≥0)))],[.box 52 [.fn 42 0 [] []]])) none)) (by kernel_rfl) ?_
 unfold v23
 refine za ?_ ?_
 rfl
 rfl
noncomputable def sv23:OrcS:=fun al H=>dC al fun y1 l2=>dS y1 fun y3=>dD 3 (.int .i64) y3 fun x0=>dC l2 fun y4 l5=>dS y4 fun y6=>dFn 63 0 [none] y6 fun y7=>dC y7 fun y8 l9=>zi 0 0 y8<|dE l9<|dE l5<|dHB 52 H fun y11 l10=>dC y11 fun y12 l13=>dFn 42 0 [] y12 fun y14=>dE y14<|dE l13<|dE l10 <|  some [(ok (v23 x0),[.sc (.bool ((val (v23 x0))))],[.box 52 [.fn 42 0 [] []]])]
theorem wv23:zm Try.prog dOk base o5 t5 (23,sv23):=by
 intro al H q hq0 rs H2 h2
 have hq:sv23 al H=some q:=hq0
 clear hq0
 unfold sv23 at hq
 repeat with_reducible first|(first|replace hq:=dCq hq|replace hq:=zG hq);obtain ⟨_,_,rfl,hq⟩:=hq|(first|replace hq:=dSq hq|replace hq:=dDq hq|replace hq:=yo hq);obtain ⟨_,rfl,hq⟩:=hq|(first|replace hq:=zr hq|replace hq:=dEq hq);obtain ⟨rfl,hq⟩:=hq
 cases hq
 obtain ⟨hc0,rfl,rfl⟩:=zg h2
 exact ⟨41,(zu (by kernel_rfl)).trans ((ev23 _).trans (zl (zf hc0)))⟩
noncomputable def o6:OrcT:=(23,sv23)::o5
noncomputable def t6:TellT:=t5
noncomputable abbrev tn6:FuncId→TAn:=zh base o6 t6
theorem ok6:TnOk Try.prog tn6 (mkA base) dOk:=by
 have h0:TnOk Try.prog (tn5) (mkA base) dOk:=ok5
 have h1:=zn h0 h0 (p:=(23,sv23)) wv23
 exact h1
noncomputable def v41 (x0:(List Int)):Option Bool:=(cond (ok (v23 x0)) (some (!val (v23 x0))) none)
theorem ev41 (x0:(List Int)):zo Try.prog (tn6 41) (TM.evF Try.prog (tn6) dOk 40) dOk 40 41 [.sc (.d 3 (.int .i64) x0),.sc (.fn 42 0 [] [])] []=(v41 x0).bind fun r=>some ([.sc (.bool (r))],[]):=by
 refine Eq.trans (b:=(cond (ok (v23 x0)) (some ([.sc (.bool (!val (v23 x0)))],[])) none)) (by kernel_rfl) ?_
 unfold v41
 refine za ?_ ?_
 rfl
 rfl
noncomputable def sv41:OrcS:=fun al H=>dC al fun y1 l2=>dS y1 fun y3=>dD 3 (.int .i64) y3 fun x0=>dC l2 fun y4 l5=>dS y4 fun y6=>dFn 42 0 [] y6 fun y7=>dE y7<|dE l5<|dE H <|  some [(ok (v41 x0),[.sc (.bool ((val (v41 x0))))],[])]
theorem wv41:zm Try.prog dOk base o6 t6 (41,sv41):=by
 intro al H q hq0 rs H2 h2
 have hq:sv41 al H=some q:=hq0
 clear hq0
 unfold sv41 at hq
 repeat with_reducible first|replace hq:=dCq hq;obtain ⟨_,_,rfl,hq⟩:=hq|(first|replace hq:=dSq hq|replace hq:=dDq hq|replace hq:=yo hq);obtain ⟨_,rfl,hq⟩:=hq|replace hq:=dEq hq;obtain ⟨rfl,hq⟩:=hq
 cases hq
 obtain ⟨hc0,rfl,rfl⟩:=zg h2
 exact ⟨41,(zu (by kernel_rfl)).trans ((ev41 _).trans (zl (zf hc0)))⟩
noncomputable def o7:OrcT:=(41,sv41)::o6
noncomputable def t7:TellT:=t6
noncomputable abbrev tn7:FuncId→TAn:=zh base o7 t7
theorem ok7:TnOk Try.prog tn7 (mkA base) dOk:=by
 have h0:TnOk Try.prog (tn6) (mkA base) dOk:=ok6
 have h1:=zn h0 h0 (p:=(41,sv41)) wv41
 exact h1
noncomputable def LaL:Nat→(List Int)→Int→Int→(List Int)→Int→Int→Option (Bool ⊕ Unit)
 | 0,_,_,_,_,_,_=>none
 | n+1,x0,x1,x2,x3,x4,x5=>(cond (decide (x5 < x4)) (cond (decide (0≤x5)) (cond (decide (x5 < (x3.length:Int))) (cond (decide (List.getD x3 x5.toNat 0≤x2)) (some (.inl (false))) (cond (decide (List.getD x3 x5.toNat 0≥x1)) (some (.inl (false))) (LaL n x0 x1 (List.getD x3 x5.toNat 0) x3 x4 (IntKind.wrap IntKind.i64 (x5+(1:Int)))))) none) none) (some (.inr ())))
theorem qLaL:type_of% @LaL.eq_2:=@LaL.eq_2
noncomputable def xLaL (x0:(List Int)) (x1 x2:Int) (x3:(List Int)) (x4 x5:Int):(Bool ⊕ Unit)→Ex×CS:=fun r=>match r with | .inl a0=>(.ret,{ sl:=[(4,.v (.sc (.bool (a0))))],lo:=[],h:=[],n0:=0,w:=true }) | .inr b0=>((.exit 0),{ sl:=[(0,.v (.sc (.d 3 (.int .i64) x0)))],lo:=[],h:=[],n0:=0,w:=false })
theorem bLaL (k:Nat) (cN:CS→Option (Ex×CS)) (cX:Ex→CS→Option (Ex×CS)) (x0:(List Int)) (x1 x2:Int) (x3:(List Int)) (x4 x5:Int):zq Try.prog (tn7 47) (TM.evF Try.prog (tn7) dOk (k+40)) dOk (k+40) (zc Try.prog (tn0 47) 47 0) 0 0 { sl:=[(0,.v (.sc (.d 3 (.int .i64) x0))),(1,.v (.sc (I4 x1))),(5,.v (.sc (I4 x2))),(8,.v (.sc (.d 3 (.int .i64) x3))),(9,.v (.sc (I4 x4))),(10,.v (.sc (I4 x5)))],lo:=[],h:=[],n0:=0,w:=false } cN cX=(cond (decide (x5 < x4)) (cond (decide (0≤x5)) (cond (decide (x5 < (x3.length:Int))) (cond (decide (List.getD x3 x5.toNat 0≤x2)) (cX .ret { sl:=[(4,.v (.sc (.bool (false))))],lo:=[],h:=[],n0:=0,w:=true }) (cond (decide (List.getD x3 x5.toNat 0≥x1)) (cX .ret { sl:=[(4,.v (.sc (.bool (false))))],lo:=[],h:=[],n0:=0,w:=true }) (cN { sl:=[(0,.v (.sc (.d 3 (.int .i64) x0))),(1,.v (.sc (I4 x1))),(5,.v (.sc (I4 (List.getD x3 x5.toNat 0)))),(8,.v (.sc (.d 3 (.int .i64) x3))),(9,.v (.sc (I4 x4))),(10,.v (.sc (I4 (IntKind.wrap IntKind.i64 (x5+(1:Int))))))],lo:=[],h:=[],n0:=0,w:=false }))) none) none) (cX (.exit 0) { sl:=[(0,.v (.sc (.d 3 (.int .i64) x0)))],lo:=[],h:=[],n0:=0,w:=false })):=by kernel_rfl
theorem lLaL (k m:Nat):∀ (n:Nat) (x0:(List Int)) (x1 x2:Int) (x3:(List Int)) (x4 x5:Int) (r:(Bool ⊕ Unit)),LaL n x0 x1 x2 x3 x4 x5=some r→zM Try.prog (tn7 47) (TM.evF Try.prog (tn7) dOk (k+40)) dOk (k+40) (zc Try.prog (tn0 47) 47 0) 0 0 (n+m) { sl:=[(0,.v (.sc (.d 3 (.int .i64) x0))),(1,.v (.sc (I4 x1))),(5,.v (.sc (I4 x2))),(8,.v (.sc (.d 3 (.int .i64) x3))),(9,.v (.sc (I4 x4))),(10,.v (.sc (I4 x5)))],lo:=[],h:=[],n0:=0,w:=false }=some (xLaL x0 x1 x2 x3 x4 x5 r):=by
 intro n
 induction n with
 | zero=>intro _ _ _ _ _ _ r h;cases h
 | succ n ih=>
  intro x0 x1 x2 x3 x4 x5 r
  rw [show n+1+m=n+m+1 by omega,zp,bLaL,qLaL]
  refine zb ?_ ?_
  refine zb ?_ ?_
  refine zb ?_ ?_
  refine zb ?_ ?_
  intro h;cases h;rfl
  refine zb ?_ ?_
  intro h;cases h;rfl
  exact ih _ _ _ _ _ _ r
  intro h;cases h
  intro h;cases h
  intro h;cases h;rfl
noncomputable def sLaL:TellS:=fun S=>dCS 0 S fun y1 y2 y3=>dSs 0 y1 fun y5 l4=>dD 3 (.int .i64) y5 fun x0=>dSI 1 .i64 l4 fun x1 l6=>dSI 5 .i64 l6 fun x2 l7=>dSs 8 l7 fun y9 l8=>dD 3 (.int .i64) y9 fun x3=>dSI 9 .i64 l8 fun x4 l10=>dSI 10 .i64 l10 fun x5 l11=>dE l11<|dE y2<|dE y3 <|  some [(isL (LaL FU x0 x1 x2 x3 x4 x5),.ret,{ sl:=[(4,.v (.sc (.bool ((zN (LaL FU x0 x1 x2 x3 x4 x5))))))],lo:=[],h:=[],n0:=0,w:=true }),(ok (zL (LaL FU x0 x1 x2 x3 x4 x5)),(.exit 0),{ sl:=[(0,.v (.sc (.d 3 (.int .i64) x0)))],lo:=[],h:=[],n0:=0,w:=false })]
theorem wLaL:zB Try.prog dOk base o7 t7 ((47,0),sLaL):=by
 refine ⟨.loop (zc Try.prog (tn0 47) 47 0),0,by kernel_rfl,?_⟩
 intro S alts e S' h10 h2
 have h1:sLaL S=some alts:=h10
 clear h10
 unfold sLaL at h1
 repeat with_reducible first|replace h1:=yc h1;obtain ⟨_,_,_,rfl,h1⟩:=h1|(first|replace h1:=zX h1|replace h1:=ye h1);obtain ⟨_,_,rfl,h1⟩:=h1|replace h1:=dDq h1;obtain ⟨_,rfl,h1⟩:=h1|replace h1:=dEq h1;obtain ⟨rfl,h1⟩:=h1
 cases h1
 rcases yx h2 with ⟨hc0,rfl,rfl⟩ | h2
 · exact ⟨FU+40,(ze rfl).trans (lLaL FU 40 FU _ _ _ _ _ _ _ (yS hc0))⟩
 obtain ⟨hc1,rfl,rfl⟩:=zt h2
 exact ⟨FU+40,(ze rfl).trans (lLaL FU 40 FU _ _ _ _ _ _ _ (yw (zf hc1)))⟩
noncomputable def o8:OrcT:=o7
noncomputable def t8:TellT:=((47,0),sLaL)::t7
noncomputable abbrev tn8:FuncId→TAn:=zh base o8 t8
theorem ok8:TnOk Try.prog tn8 (mkA base) dOk:=by
 have h0:TnOk Try.prog (tn7) (mkA base) dOk:=ok7
 have h1:=zD h0 h0 (p:=((47,0),sLaL)) wLaL
 exact h1
noncomputable def v47 (x0:(List Int)) (x1:Int):Option Bool:=(cond (isL (LaL FU x0 x1 (-1:Int) x0 (x0.length:Int) 0)) (some (zN (LaL FU x0 x1 (-1:Int) x0 (x0.length:Int) 0))) (cond (ok (zL (LaL FU x0 x1 (-1:Int) x0 (x0.length:Int) 0))) (cond (ok (v39 (x0.length:Int) (1:Int) (6:Int))) (some (val (v39 (x0.length:Int) (1:Int) (6:Int)))) none) none))
theorem ev47 (x0:(List Int)) (x1:Int):zo Try.prog (tn8 47) (TM.evF Try.prog (tn8) dOk 40) dOk 40 47 [.sc (.d 3 (.int .i64) x0),.sc (I4 x1)] []=(v47 x0 x1).bind fun r=>some ([.sc (.bool (r))],[]):=by
 refine Eq.trans (b:=(cond (isL (LaL FU x0 x1 (-1:Int) x0 (x0.length:Int) 0)) (some ([.sc (.bool (zN (LaL FU x0 x1 (-1:Int) x0 (x0.length:Int) 0)))],[])) (cond (ok (zL (LaL FU x0 x1 (-1:Int) x0 (x0.length:Int) 0))) (cond (ok (v39 (x0.length:Int) (1:Int) (6:Int))) (some ([.sc (.bool (val (v39 (x0.length:Int) (1:Int) (6:Int))))],[])) none) none))) (by kernel_rfl) ?_
 unfold v47
 refine za ?_ ?_
 rfl
 refine za ?_ ?_
 refine za ?_ ?_
 rfl
 rfl
 rfl
noncomputable def sv47:OrcS:=fun al H=>dC al fun y1 l2=>dS y1 fun y3=>dD 3 (.int .i64) y3 fun x0=>dC l2 fun y4 l5=>dS y4 fun y6=>xd .i64 y6 fun x1=>dE l5<|dE H <|  some [(ok (v47 x0 x1),[.sc (.bool ((val (v47 x0 x1))))],[])]
theorem wv47:zm Try.prog dOk base o8 t8 (47,sv47):=by
 intro al H q hq0 rs H2 h2
 have hq:sv47 al H=some q:=hq0
 clear hq0
 unfold sv47 at hq
 repeat with_reducible first|replace hq:=dCq hq;obtain ⟨_,_,rfl,hq⟩:=hq|(first|replace hq:=dSq hq|replace hq:=dDq hq|replace hq:=xu hq);obtain ⟨_,rfl,hq⟩:=hq|replace hq:=dEq hq;obtain ⟨rfl,hq⟩:=hq
 cases hq
 obtain ⟨hc0,rfl,rfl⟩:=zg h2
 exact ⟨41,(zu (by kernel_rfl)).trans ((ev47 _ _).trans (zl (zf hc0)))⟩
noncomputable def o9:OrcT:=(47,sv47)::o8
noncomputable def t9:TellT:=t8
noncomputable abbrev tn9:FuncId→TAn:=zh base o9 t9
theorem ok9:TnOk Try.prog tn9 (mkA base) dOk:=by
 have h0:TnOk Try.prog (tn8) (mkA base) dOk:=ok8
 have h1:=zn h0 h0 (p:=(47,sv47)) wv47
 exact h1
noncomputable def v46 (x0:(List Int)) (x1:(List Int)) (x2:(List (List (List Int)))):Option Bool:=(cond (ok (v47 x0 (x1.length:Int))) (some (val (v47 x0 (x1.length:Int)))) none)
theorem ev46 (x0:(List Int)) (x1:(List Int)) (x2:(List (List (List Int)))):zo Try.prog (tn9 46) (TM.evF Try.prog (tn9) dOk 40) dOk 40 46 [.sc (.d 3 (.int .i64) x0),.sc (.ptr 0 0)] [.box 38 [.d 3 (.int .i64) (x1),.d 23 (.list 22 (.list 3 (.int .i64))) (x2)]]=(v46 x0 x1 x2).bind fun r=>some ([.sc (.bool (r))],[.box 38 [.d 3 (.int .i64) (x1),.d 23 (.list 22 (.list 3 (.int .i64))) (x2)]]):=by
 refine Eq.trans (b:=(cond (ok (v47 x0 (x1.length:Int))) (some ([.sc (.bool (val (v47 x0 (x1.length:Int))))],[.box 38 [.d 3 (.int .i64) (x1),.d 23 (.list 22 (.list 3 (.int .i64))) (x2)]])) none)) (by kernel_rfl) ?_
 unfold v46
 refine za ?_ ?_
 rfl
 rfl
noncomputable def sv46:OrcS:=fun al H=>dC al fun y1 l2=>dS y1 fun y3=>dD 3 (.int .i64) y3 fun x0=>dC l2 fun y4 l5=>dS y4 fun y6=>zi 0 0 y6<|dE l5<|dHB 38 H fun y8 l7=>dC y8 fun y9 l10=>dD 3 (.int .i64) y9 fun x1=>dC l10 fun y11 l12=>dD 23 (.list 22 (.list 3 (.int .i64))) y11 fun x2=>dE l12<|dE l7 <|  some [(ok (v46 x0 x1 x2),[.sc (.bool ((val (v46 x0 x1 x2))))],[.box 38 [.d 3 (.int .i64) (x1),.d 23 (.list 22 (.list 3 (.int .i64))) (x2)]])]
theorem wv46:zm Try.prog dOk base o9 t9 (46,sv46):=by
 intro al H q hq0 rs H2 h2
 have hq:sv46 al H=some q:=hq0
 clear hq0
 unfold sv46 at hq
 repeat with_reducible first|(first|replace hq:=dCq hq|replace hq:=zG hq);obtain ⟨_,_,rfl,hq⟩:=hq|(first|replace hq:=dSq hq|replace hq:=dDq hq);obtain ⟨_,rfl,hq⟩:=hq|(first|replace hq:=zr hq|replace hq:=dEq hq);obtain ⟨rfl,hq⟩:=hq
 cases hq
 obtain ⟨hc0,rfl,rfl⟩:=zg h2
 exact ⟨41,(zu (by kernel_rfl)).trans ((ev46 _ _ _).trans (zl (zf hc0)))⟩
noncomputable def o10:OrcT:=(46,sv46)::o9
noncomputable def t10:TellT:=t9
noncomputable abbrev tn10:FuncId→TAn:=zh base o10 t10
theorem ok10:TnOk Try.prog tn10 (mkA base) dOk:=by
 have h0:TnOk Try.prog (tn9) (mkA base) dOk:=ok9
 have h1:=zn h0 h0 (p:=(46,sv46)) wv46
 exact h1
noncomputable def v67 (x0:(List Int)) (x1:(List Int)) (x2:(List (List (List Int)))):Option Bool:=(cond (ok (v46 x0 x1 x2)) (some (!val (v46 x0 x1 x2))) none)
theorem ev67 (x0:(List Int)) (x1:(List Int)) (x2:(List (List (List Int)))):zo Try.prog (tn10 67) (TM.evF Try.prog (tn10) dOk 40) dOk 40 67 [.sc (.d 3 (.int .i64) x0),.sc (.ptr 0 0)] [.box 70 [.fn 46 0 [none] [.ptr 1 0]],.box 38 [.d 3 (.int .i64) (x1),.d 23 (.list 22 (.list 3 (.int .i64))) (x2)]]=(v67 x0 x1 x2).bind fun r=>some ([.sc (.bool (r))],[.box 70 [.fn 46 0 [none] [.ptr 1 0]],.box 38 [.d 3 (.int .i64) (x1),.d 23 (.list 22 (.list 3 (.int .i64))) (x2)]]):=by
 refine Eq.trans (b:=(cond (ok (v46 x0 x1 x2)) (some ([.sc (.bool (!val (v46 x0 x1 x2)))],[.box 70 [.fn 46 0 [none] [.ptr 1 0]],.box 38 [.d 3 (.int .i64) (x1),.d 23 (.list 22 (.list 3 (.int .i64))) (x2)]])) none)) (by kernel_rfl) ?_
 unfold v67
 refine za ?_ ?_
 rfl
 rfl
noncomputable def sv67:OrcS:=fun al H=>dC al fun y1 l2=>dS y1 fun y3=>dD 3 (.int .i64) y3 fun x0=>dC l2 fun y4 l5=>dS y4 fun y6=>zi 0 0 y6<|dE l5<|dHB 70 H fun y8 l7=>dC y8 fun y9 l10=>dFn 46 0 [none] y9 fun y11=>dC y11 fun y12 l13=>zi 1 0 y12<|dE l13<|dE l10<|dHB 38 l7 fun y15 l14=>dC y15 fun y16 l17=>dD 3 (.int .i64) y16 fun x1=>dC l17 fun y18 l19=>dD 23 (.list 22 (.list 3 (.int .i64))) y18 fun x2=>dE l19<|dE l14 <|  some [(ok (v67 x0 x1 x2),[.sc (.bool ((val (v67 x0 x1 x2))))],[.box 70 [.fn 46 0 [none] [.ptr 1 0]],.box 38 [.d 3 (.int .i64) (x1),.d 23 (.list 22 (.list 3 (.int .i64))) (x2)]])]
theorem wv67:zm Try.prog dOk base o10 t10 (67,sv67):=by
 intro al H q hq0 rs H2 h2
 have hq:sv67 al H=some q:=hq0
 clear hq0
 unfold sv67 at hq
 repeat with_reducible first|(first|replace hq:=dCq hq|replace hq:=zG hq);obtain ⟨_,_,rfl,hq⟩:=hq|(first|replace hq:=dSq hq|replace hq:=dDq hq|replace hq:=yo hq);obtain ⟨_,rfl,hq⟩:=hq|(first|replace hq:=zr hq|replace hq:=dEq hq);obtain ⟨rfl,hq⟩:=hq
 cases hq
 obtain ⟨hc0,rfl,rfl⟩:=zg h2
 exact ⟨41,(zu (by kernel_rfl)).trans ((ev67 _ _ _).trans (zl (zf hc0)))⟩
noncomputable def o11:OrcT:=(67,sv67)::o10
noncomputable def t11:TellT:=t10
noncomputable abbrev tn11:FuncId→TAn:=zh base o11 t11
theorem ok11:TnOk Try.prog tn11 (mkA base) dOk:=by
 have h0:TnOk Try.prog (tn10) (mkA base) dOk:=ok10
 have h1:=zn h0 h0 (p:=(67,sv67)) wv67
 exact h1
noncomputable def Lay:Nat→(List (List Int))→Int→Int→(List Int)→(List (List (List Int)))→Option (Int ⊕ Unit)
 | 0,_,_,_,_,_=>none
 | n+1,x0,x1,x2,x3,x4=>(cond (decide (x2 < x1)) (cond (decide (0≤x2)) (cond (decide (x2 < (x0.length:Int))) (cond (ok (v67 (List.getD x0 x2.toNat []) x3 x4)) (cond (val (v67 (List.getD x0 x2.toNat []) x3 x4)) (some (.inl x2)) (Lay n x0 x1 (IntKind.wrap IntKind.i64 (x2+(1:Int))) x3 x4)) none) none) none) (some (.inr ())))
theorem qLay:type_of% @Lay.eq_2:=@Lay.eq_2
noncomputable def xLay (x0:(List (List Int))) (x1 x2:Int) (x3:(List Int)) (x4:(List (List (List Int)))):(Int ⊕ Unit)→Ex×CS:=fun r=>match r with | .inl a0=>(.ret,{ sl:=[(4,.v (.sc (I4 (a0))))],lo:=[],h:=[.box 70 [.fn 46 0 [none] [.ptr 1 0]],.box 38 [.d 3 (.int .i64) (x3),.d 23 (.list 22 (.list 3 (.int .i64))) (x4)]],n0:=2,w:=true }) | .inr b0=>((.exit 0),{ sl:=[],lo:=[],h:=[.box 70 [.fn 46 0 [none] [.ptr 1 0]],.box 38 [.d 3 (.int .i64) (x3),.d 23 (.list 22 (.list 3 (.int .i64))) (x4)]],n0:=2,w:=false })
theorem bLay (k:Nat) (cN:CS→Option (Ex×CS)) (cX:Ex→CS→Option (Ex×CS)) (x0:(List (List Int))) (x1 x2:Int) (x3:(List Int)) (x4:(List (List (List Int)))):zq Try.prog (tn11 78) (TM.evF Try.prog (tn11) dOk (k+40)) dOk (k+40) (zc Try.prog (tn0 78) 78 0) 0 0 { sl:=[(0,.v (.sc (.d 22 (.list 3 (.int .i64)) x0))),(1,.v (.sc (.fn 67 0 [none] [.ptr 0 0]))),(7,.v (.sc (I4 x1))),(8,.v (.sc (I4 x2)))],lo:=[],h:=[.box 70 [.fn 46 0 [none] [.ptr 1 0]],.box 38 [.d 3 (.int .i64) (x3),.d 23 (.list 22 (.list 3 (.int .i64))) (x4)]],n0:=2,w:=false } cN cX=(cond (decide (x2 < x1)) (cond (decide (0≤x2)) (cond (decide (x2 < (x0.length:Int))) (cond (ok (v67 (List.getD x0 x2.toNat []) x3 x4)) (cond (val (v67 (List.getD x0 x2.toNat []) x3 x4)) (cX .ret { sl:=[(4,.v (.sc (I4 x2)))],lo:=[],h:=[.box 70 [.fn 46 0 [none] [.ptr 1 0]],.box 38 [.d 3 (.int .i64) (x3),.d 23 (.list 22 (.list 3 (.int .i64))) (x4)]],n0:=2,w:=true }) (cN { sl:=[(0,.v (.sc (.d 22 (.list 3 (.int .i64)) x0))),(1,.v (.sc (.fn 67 0 [none] [.ptr 0 0]))),(7,.v (.sc (I4 x1))),(8,.v (.sc (I4 (IntKind.wrap IntKind.i64 (x2+(1:Int))))))],lo:=[],h:=[.box 70 [.fn 46 0 [none] [.ptr 1 0]],.box 38 [.d 3 (.int .i64) (x3),.d 23 (.list 22 (.list 3 (.int .i64))) (x4)]],n0:=2,w:=false })) none) none) none) (cX (.exit 0) { sl:=[],lo:=[],h:=[.box 70 [.fn 46 0 [none] [.ptr 1 0]],.box 38 [.d 3 (.int .i64) (x3),.d 23 (.list 22 (.list 3 (.int .i64))) (x4)]],n0:=2,w:=false })):=by kernel_rfl
theorem lLay (k m:Nat):∀ (n:Nat) (x0:(List (List Int))) (x1 x2:Int) (x3:(List Int)) (x4:(List (List (List Int)))) (r:(Int ⊕ Unit)),Lay n x0 x1 x2 x3 x4=some r→zM Try.prog (tn11 78) (TM.evF Try.prog (tn11) dOk (k+40)) dOk (k+40) (zc Try.prog (tn0 78) 78 0) 0 0 (n+m) { sl:=[(0,.v (.sc (.d 22 (.list 3 (.int .i64)) x0))),(1,.v (.sc (.fn 67 0 [none] [.ptr 0 0]))),(7,.v (.sc (I4 x1))),(8,.v (.sc (I4 x2)))],lo:=[],h:=[.box 70 [.fn 46 0 [none] [.ptr 1 0]],.box 38 [.d 3 (.int .i64) (x3),.d 23 (.list 22 (.list 3 (.int .i64))) (x4)]],n0:=2,w:=false }=some (xLay x0 x1 x2 x3 x4 r):=by
 intro n
 induction n with
 | zero=>intro _ _ _ _ _ r h;cases h
 | succ n ih=>
  intro x0 x1 x2 x3 x4 r
  rw [show n+1+m=n+m+1 by omega,zp,bLay,qLay]
  refine zb ?_ ?_
  refine zb ?_ ?_
  refine zb ?_ ?_
  refine zb ?_ ?_
  refine zb ?_ ?_
  intro h;cases h;rfl
  exact ih _ _ _ _ _ r
  intro h;cases h
  intro h;cases h
  intro h;cases h
  intro h;cases h;rfl
noncomputable def sLay:TellS:=fun S=>dCS 2 S fun y1 y2 y3=>dSs 0 y1 fun y5 l4=>dD 22 (.list 3 (.int .i64)) y5 fun x0=>dSs 1 l4 fun y7 l6=>dFn 67 0 [none] y7 fun y8=>dC y8 fun y9 l10=>zi 0 0 y9<|dE l10<|dSI 7 .i64 l6 fun x1 l11=>dSI 8 .i64 l11 fun x2 l12=>dE l12<|dE y2<|dHB 70 y3 fun y14 l13=>dC y14 fun y15 l16=>dFn 46 0 [none] y15 fun y17=>dC y17 fun y18 l19=>zi 1 0 y18<|dE l19<|dE l16<|dHB 38 l13 fun y21 l20=>dC y21 fun y22 l23=>dD 3 (.int .i64) y22 fun x3=>dC l23 fun y24 l25=>dD 23 (.list 22 (.list 3 (.int .i64))) y24 fun x4=>dE l25<|dE l20 <|  some [(isL (Lay FU x0 x1 x2 x3 x4),.ret,{ sl:=[(4,.v (.sc (I4 ((zN (Lay FU x0 x1 x2 x3 x4))))))],lo:=[],h:=[.box 70 [.fn 46 0 [none] [.ptr 1 0]],.box 38 [.d 3 (.int .i64) (x3),.d 23 (.list 22 (.list 3 (.int .i64))) (x4)]],n0:=2,w:=true }),(ok (zL (Lay FU x0 x1 x2 x3 x4)),(.exit 0),{ sl:=[],lo:=[],h:=[.box 70 [.fn 46 0 [none] [.ptr 1 0]],.box 38 [.d 3 (.int .i64) (x3),.d 23 (.list 22 (.list 3 (.int .i64))) (x4)]],n0:=2,w:=false })]
theorem wLay:zB Try.prog dOk base o11 t11 ((78,0),sLay):=by
 refine ⟨.loop (zc Try.prog (tn0 78) 78 0),0,by kernel_rfl,?_⟩
 intro S alts e S' h10 h2
 have h1:sLay S=some alts:=h10
 clear h10
 unfold sLay at h1
 repeat with_reducible first|replace h1:=yc h1;obtain ⟨_,_,_,rfl,h1⟩:=h1|(first|replace h1:=zX h1|replace h1:=dCq h1|replace h1:=ye h1|replace h1:=zG h1);obtain ⟨_,_,rfl,h1⟩:=h1|(first|replace h1:=dDq h1|replace h1:=yo h1);obtain ⟨_,rfl,h1⟩:=h1|(first|replace h1:=zr h1|replace h1:=dEq h1);obtain ⟨rfl,h1⟩:=h1
 cases h1
 rcases yx h2 with ⟨hc0,rfl,rfl⟩ | h2
 · exact ⟨FU+40,(ze rfl).trans (lLay FU 40 FU _ _ _ _ _ _ (yS hc0))⟩
 obtain ⟨hc1,rfl,rfl⟩:=zt h2
 exact ⟨FU+40,(ze rfl).trans (lLay FU 40 FU _ _ _ _ _ _ (yw (zf hc1)))⟩
noncomputable def o12:OrcT:=o11
noncomputable def t12:TellT:=((78,0),sLay)::t11
noncomputable abbrev tn12:FuncId→TAn:=zh base o12 t12
theorem ok12:TnOk Try.prog tn12 (mkA base) dOk:=by
 have h0:TnOk Try.prog (tn11) (mkA base) dOk:=ok11
 have h1:=zD h0 h0 (p:=((78,0),sLay)) wLay
 exact h1
noncomputable def v78 (x0:(List (List Int))) (x1:(List Int)) (x2:(List (List (List Int)))):Option Int:=(cond (isL (Lay FU x0 (x0.length:Int) 0 x1 x2)) (some (zN (Lay FU x0 (x0.length:Int) 0 x1 x2))) (cond (ok (zL (Lay FU x0 (x0.length:Int) 0 x1 x2))) (some ((-1:Int))) none))
theorem ev78 (x0:(List (List Int))) (x1:(List Int)) (x2:(List (List (List Int)))):zo Try.prog (tn12 78) (TM.evF Try.prog (tn12) dOk 40) dOk 40 78 [.sc (.d 22 (.list 3 (.int .i64)) x0),.sc (.fn 67 0 [none] [.ptr 0 0])] [.box 70 [.fn 46 0 [none] [.ptr 1 0]],.box 38 [.d 3 (.int .i64) (x1),.d 23 (.list 22 (.list 3 (.int .i64))) (x2)]]=(v78 x0 x1 x2).bind fun r=>some ([.sc (I4 (r))],[.box 70 [.fn 46 0 [none] [.ptr 1 0]],.box 38 [.d 3 (.int .i64) (x1),.d 23 (.list 22 (.list 3 (.int .i64))) (x2)]]):=by
 refine Eq.trans (b:=(cond (isL (Lay FU x0 (x0.length:Int) 0 x1 x2)) (some ([.sc (I4 (zN (Lay FU x0 (x0.length:Int) 0 x1 x2)))],[.box 70 [.fn 46 0 [none] [.ptr 1 0]],.box 38 [.d 3 (.int .i64) (x1),.d 23 (.list 22 (.list 3 (.int .i64))) (x2)]])) (cond (ok (zL (Lay FU x0 (x0.length:Int) 0 x1 x2))) (some ([.sc (I4 ((-1:Int)))],[.box 70 [.fn 46 0 [none] [.ptr 1 0]],.box 38 [.d 3 (.int .i64) (x1),.d 23 (.list 22 (.list 3 (.int .i64))) (x2)]])) none))) (by kernel_rfl) ?_
 unfold v78
 refine za ?_ ?_
 rfl
 refine za ?_ ?_
 rfl
 rfl
noncomputable def sv78:OrcS:=fun al H=>dC al fun y1 l2=>dS y1 fun y3=>dD 22 (.list 3 (.int .i64)) y3 fun x0=>dC l2 fun y4 l5=>dS y4 fun y6=>dFn 67 0 [none] y6 fun y7=>dC y7 fun y8 l9=>zi 0 0 y8<|dE l9<|dE l5<|dHB 70 H fun y11 l10=>dC y11 fun y12 l13=>dFn 46 0 [none] y12 fun y14=>dC y14 fun y15 l16=>zi 1 0 y15<|dE l16<|dE l13<|dHB 38 l10 fun y18 l17=>dC y18 fun y19 l20=>dD 3 (.int .i64) y19 fun x1=>dC l20 fun y21 l22=>dD 23 (.list 22 (.list 3 (.int .i64))) y21 fun x2=>dE l22<|dE l17 <|  some [(ok (v78 x0 x1 x2),[.sc (I4 ((val (v78 x0 x1 x2))))],[.box 70 [.fn 46 0 [none] [.ptr 1 0]],.box 38 [.d 3 (.int .i64) (x1),.d 23 (.list 22 (.list 3 (.int .i64))) (x2)]])]
theorem wv78:zm Try.prog dOk base o12 t12 (78,sv78):=by
 intro al H q hq0 rs H2 h2
 have hq:sv78 al H=some q:=hq0
 clear hq0
 unfold sv78 at hq
 repeat with_reducible first|(first|replace hq:=dCq hq|replace hq:=zG hq);obtain ⟨_,_,rfl,hq⟩:=hq|(first|replace hq:=dSq hq|replace hq:=dDq hq|replace hq:=yo hq);obtain ⟨_,rfl,hq⟩:=hq|(first|replace hq:=zr hq|replace hq:=dEq hq);obtain ⟨rfl,hq⟩:=hq
 cases hq
 obtain ⟨hc0,rfl,rfl⟩:=zg h2
 exact ⟨41,(zu (by kernel_rfl)).trans ((ev78 _ _ _).trans (zl (zf hc0)))⟩
noncomputable def o13:OrcT:=(78,sv78)::o12
noncomputable def t13:TellT:=t12
noncomputable abbrev tn13:FuncId→TAn:=zh base o13 t13
theorem ok13:TnOk Try.prog tn13 (mkA base) dOk:=by
 have h0:TnOk Try.prog (tn12) (mkA base) dOk:=ok12
 have h1:=zn h0 h0 (p:=(78,sv78)) wv78
 exact h1
noncomputable def v66 (x0:(List (List Int))) (x1:(List Int)) (x2:(List (List (List Int)))):Option Bool:=(cond (ok (v78 x0 x1 x2)) (some (decide (val (v78 x0 x1 x2)≥0))) none)
theorem ev66 (x0:(List (List Int))) (x1:(List Int)) (x2:(List (List (List Int)))):zo Try.prog (tn13 66) (TM.evF Try.prog (tn13) dOk 40) dOk 40 66 [.sc (.d 22 (.list 3 (.int .i64)) x0),.sc (.fn 67 0 [none] [.ptr 0 0])] [.box 70 [.fn 46 0 [none] [.ptr 1 0]],.box 38 [.d 3 (.int .i64) (x1),.d 23 (.list 22 (.list 3 (.int .i64))) (x2)]]=(v66 x0 x1 x2).bind fun r=>some ([.sc (.bool (r))],[.box 70 [.fn 46 0 [none] [.ptr 1 0]],.box 38 [.d 3 (.int .i64) (x1),.d 23 (.list 22 (.list 3 (.int .i64))) (x2)]]):=by
 refine Eq.trans (b:=(cond (ok (v78 x0 x1 x2)) (some ([.sc (.bool (decide (val (v78 x0 x1 x2)≥0)))],[.box 70 [.fn 46 0 [none] [.ptr 1 0]],.box 38 [.d 3 (.int .i64) (x1),.d 23 (.list 22 (.list 3 (.int .i64))) (x2)]])) none)) (by kernel_rfl) ?_
 unfold v66
 refine za ?_ ?_
 rfl
 rfl
noncomputable def sv66:OrcS:=fun al H=>dC al fun y1 l2=>dS y1 fun y3=>dD 22 (.list 3 (.int .i64)) y3 fun x0=>dC l2 fun y4 l5=>dS y4 fun y6=>dFn 67 0 [none] y6 fun y7=>dC y7 fun y8 l9=>zi 0 0 y8<|dE l9<|dE l5<|dHB 70 H fun y11 l10=>dC y11 fun y12 l13=>dFn 46 0 [none] y12 fun y14=>dC y14 fun y15 l16=>zi 1 0 y15<|dE l16<|dE l13<|dHB 38 l10 fun y18 l17=>dC y18 fun y19 l20=>dD 3 (.int .i64) y19 fun x1=>dC l20 fun y21 l22=>dD 23 (.list 22 (.list 3 (.int .i64))) y21 fun x2=>dE l22<|dE l17 <|  some [(ok (v66 x0 x1 x2),[.sc (.bool ((val (v66 x0 x1 x2))))],[.box 70 [.fn 46 0 [none] [.ptr 1 0]],.box 38 [.d 3 (.int .i64) (x1),.d 23 (.list 22 (.list 3 (.int .i64))) (x2)]])]
theorem wv66:zm Try.prog dOk base o13 t13 (66,sv66):=by
 intro al H q hq0 rs H2 h2
 have hq:sv66 al H=some q:=hq0
 clear hq0
 unfold sv66 at hq
 repeat with_reducible first|(first|replace hq:=dCq hq|replace hq:=zG hq);obtain ⟨_,_,rfl,hq⟩:=hq|(first|replace hq:=dSq hq|replace hq:=dDq hq|replace hq:=yo hq);obtain ⟨_,rfl,hq⟩:=hq|(first|replace hq:=zr hq|replace hq:=dEq hq);obtain ⟨rfl,hq⟩:=hq
 cases hq
 obtain ⟨hc0,rfl,rfl⟩:=zg h2
 exact ⟨41,(zu (by kernel_rfl)).trans ((ev66 _ _ _).trans (zl (zf hc0)))⟩
noncomputable def o14:OrcT:=(66,sv66)::o13
noncomputable def t14:TellT:=t13
noncomputable abbrev tn14:FuncId→TAn:=zh base o14 t14
theorem ok14:TnOk Try.prog tn14 (mkA base) dOk:=by
 have h0:TnOk Try.prog (tn13) (mkA base) dOk:=ok13
 have h1:=zn h0 h0 (p:=(66,sv66)) wv66
 exact h1
noncomputable def v45 (x0:(List (List Int))) (x1:(List Int)) (x2:(List (List (List Int)))):Option Bool:=(cond (ok (v66 x0 x1 x2)) (some (!val (v66 x0 x1 x2))) none)
theorem ev45 (x0:(List (List Int))) (x1:(List Int)) (x2:(List (List (List Int)))):zo Try.prog (tn14 45) (TM.evF Try.prog (tn14) dOk 40) dOk 40 45 [.sc (.d 22 (.list 3 (.int .i64)) x0),.sc (.fn 46 0 [none] [.ptr 0 0])] [.box 38 [.d 3 (.int .i64) (x1),.d 23 (.list 22 (.list 3 (.int .i64))) (x2)]]=(v45 x0 x1 x2).bind fun r=>some ([.sc (.bool (r))],[.box 38 [.d 3 (.int .i64) (x1),.d 23 (.list 22 (.list 3 (.int .i64))) (x2)]]):=by
 refine Eq.trans (b:=(cond (ok (v66 x0 x1 x2)) (some ([.sc (.bool (!val (v66 x0 x1 x2)))],[.box 38 [.d 3 (.int .i64) (x1),.d 23 (.list 22 (.list 3 (.int .i64))) (x2)]])) none)) (by kernel_rfl) ?_
 unfold v45
 refine za ?_ ?_
 rfl
 rfl
noncomputable def sv45:OrcS:=fun al H=>dC al fun y1 l2=>dS y1 fun y3=>dD 22 (.list 3 (.int .i64)) y3 fun x0=>dC l2 fun y4 l5=>dS y4 fun y6=>dFn 46 0 [none] y6 fun y7=>dC y7 fun y8 l9=>zi 0 0 y8<|dE l9<|dE l5<|dHB 38 H fun y11 l10=>dC y11 fun y12 l13=>dD 3 (.int .i64) y12 fun x1=>dC l13 fun y14 l15=>dD 23 (.list 22 (.list 3 (.int .i64))) y14 fun x2=>dE l15<|dE l10 <|  some [(ok (v45 x0 x1 x2),[.sc (.bool ((val (v45 x0 x1 x2))))],[.box 38 [.d 3 (.int .i64) (x1),.d 23 (.list 22 (.list 3 (.int .i64))) (x2)]])]
theorem wv45:zm Try.prog dOk base o14 t14 (45,sv45):=by
 intro al H q hq0 rs H2 h2
 have hq:sv45 al H=some q:=hq0
 clear hq0
 unfold sv45 at hq
 repeat with_reducible first|(first|replace hq:=dCq hq|replace hq:=zG hq);obtain ⟨_,_,rfl,hq⟩:=hq|(first|replace hq:=dSq hq|replace hq:=dDq hq|replace hq:=yo hq);obtain ⟨_,rfl,hq⟩:=hq|(first|replace hq:=zr hq|replace hq:=dEq hq);obtain ⟨rfl,hq⟩:=hq
 cases hq
 obtain ⟨hc0,rfl,rfl⟩:=zg h2
 exact ⟨41,(zu (by kernel_rfl)).trans ((ev45 _ _ _).trans (zl (zf hc0)))⟩
noncomputable def o15:OrcT:=(45,sv45)::o14
noncomputable def t15:TellT:=t14
noncomputable abbrev tn15:FuncId→TAn:=zh base o15 t15
theorem ok15:TnOk Try.prog tn15 (mkA base) dOk:=by
 have h0:TnOk Try.prog (tn14) (mkA base) dOk:=ok14
 have h1:=zn h0 h0 (p:=(45,sv45)) wv45
 exact h1
noncomputable def v44 (x0:(List (List Int))) (x1:(List Int)) (x2:(List (List (List Int)))):Option Bool:=(cond (ok (v39 (x0.length:Int) (1:Int) (4:Int))) (cond (val (v39 (x0.length:Int) (1:Int) (4:Int))) (cond (ok (v45 x0 x1 x2)) (some (val (v45 x0 x1 x2))) none) (some (false))) none)
theorem ev44 (x0:(List (List Int))) (x1:(List Int)) (x2:(List (List (List Int)))):zo Try.prog (tn15 44) (TM.evF Try.prog (tn15) dOk 40) dOk 40 44 [.sc (.d 22 (.list 3 (.int .i64)) x0),.sc (.ptr 0 0)] [.box 38 [.d 3 (.int .i64) (x1),.d 23 (.list 22 (.list 3 (.int .i64))) (x2)]]=(v44 x0 x1 x2).bind fun r=>some ([.sc (.bool (r))],[.box 38 [.d 3 (.int .i64) (x1),.d 23 (.list 22 (.list 3 (.int .i64))) (x2)]]):=by
 refine Eq.trans (b:=(cond (ok (v39 (x0.length:Int) (1:Int) (4:Int))) (cond (val (v39 (x0.length:Int) (1:Int) (4:Int))) (cond (ok (v45 x0 x1 x2)) (some ([.sc (.bool (val (v45 x0 x1 x2)))],[.box 38 [.d 3 (.int .i64) (x1),.d 23 (.list 22 (.list 3 (.int .i64))) (x2)]])) none) (some ([.sc (.bool (false))],[.box 38 [.d 3 (.int .i64) (x1),.d 23 (.list 22 (.list 3 (.int .i64))) (x2)]]))) none)) (by kernel_rfl) ?_
 unfold v44
 refine za ?_ ?_
 refine za ?_ ?_
 refine za ?_ ?_
 rfl
 rfl
 rfl
 rfl
noncomputable def sv44:OrcS:=fun al H=>dC al fun y1 l2=>dS y1 fun y3=>dD 22 (.list 3 (.int .i64)) y3 fun x0=>dC l2 fun y4 l5=>dS y4 fun y6=>zi 0 0 y6<|dE l5<|dHB 38 H fun y8 l7=>dC y8 fun y9 l10=>dD 3 (.int .i64) y9 fun x1=>dC l10 fun y11 l12=>dD 23 (.list 22 (.list 3 (.int .i64))) y11 fun x2=>dE l12<|dE l7 <|  some [(ok (v44 x0 x1 x2),[.sc (.bool ((val (v44 x0 x1 x2))))],[.box 38 [.d 3 (.int .i64) (x1),.d 23 (.list 22 (.list 3 (.int .i64))) (x2)]])]
theorem wv44:zm Try.prog dOk base o15 t15 (44,sv44):=by
 intro al H q hq0 rs H2 h2
 have hq:sv44 al H=some q:=hq0
 clear hq0
 unfold sv44 at hq
 repeat with_reducible first|(first|replace hq:=dCq hq|replace hq:=zG hq);obtain ⟨_,_,rfl,hq⟩:=hq|(first|replace hq:=dSq hq|replace hq:=dDq hq);obtain ⟨_,rfl,hq⟩:=hq|(first|replace hq:=zr hq|replace hq:=dEq hq);obtain ⟨rfl,hq⟩:=hq
 cases hq
 obtain ⟨hc0,rfl,rfl⟩:=zg h2
 exact ⟨41,(zu (by kernel_rfl)).trans ((ev44 _ _ _).trans (zl (zf hc0)))⟩
noncomputable def o16:OrcT:=(44,sv44)::o15
noncomputable def t16:TellT:=t15
noncomputable abbrev tn16:FuncId→TAn:=zh base o16 t16
theorem ok16:TnOk Try.prog tn16 (mkA base) dOk:=by
 have h0:TnOk Try.prog (tn15) (mkA base) dOk:=ok15
 have h1:=zn h0 h0 (p:=(44,sv44)) wv44
 exact h1
noncomputable def v65 (x0:(List (List Int))) (x1:(List Int)) (x2:(List (List (List Int)))):Option Bool:=(cond (ok (v44 x0 x1 x2)) (some (!val (v44 x0 x1 x2))) none)
theorem ev65 (x0:(List (List Int))) (x1:(List Int)) (x2:(List (List (List Int)))):zo Try.prog (tn16 65) (TM.evF Try.prog (tn16) dOk 40) dOk 40 65 [.sc (.d 22 (.list 3 (.int .i64)) x0),.sc (.ptr 0 0)] [.box 71 [.fn 44 0 [none] [.ptr 1 0]],.box 38 [.d 3 (.int .i64) (x1),.d 23 (.list 22 (.list 3 (.int .i64))) (x2)]]=(v65 x0 x1 x2).bind fun r=>some ([.sc (.bool (r))],[.box 71 [.fn 44 0 [none] [.ptr 1 0]],.box 38 [.d 3 (.int .i64) (x1),.d 23 (.list 22 (.list 3 (.int .i64))) (x2)]]):=by
 refine Eq.trans (b:=(cond (ok (v44 x0 x1 x2)) (some ([.sc (.bool (!val (v44 x0 x1 x2)))],[.box 71 [.fn 44 0 [none] [.ptr 1 0]],.box 38 [.d 3 (.int .i64) (x1),.d 23 (.list 22 (.list 3 (.int .i64))) (x2)]])) none)) (by kernel_rfl) ?_
 unfold v65
 refine za ?_ ?_
 rfl
 rfl
noncomputable def sv65:OrcS:=fun al H=>dC al fun y1 l2=>dS y1 fun y3=>dD 22 (.list 3 (.int .i64)) y3 fun x0=>dC l2 fun y4 l5=>dS y4 fun y6=>zi 0 0 y6<|dE l5<|dHB 71 H fun y8 l7=>dC y8 fun y9 l10=>dFn 44 0 [none] y9 fun y11=>dC y11 fun y12 l13=>zi 1 0 y12<|dE l13<|dE l10<|dHB 38 l7 fun y15 l14=>dC y15 fun y16 l17=>dD 3 (.int .i64) y16 fun x1=>dC l17 fun y18 l19=>dD 23 (.list 22 (.list 3 (.int .i64))) y18 fun x2=>dE l19<|dE l14 <|  some [(ok (v65 x0 x1 x2),[.sc (.bool ((val (v65 x0 x1 x2))))],[.box 71 [.fn 44 0 [none] [.ptr 1 0]],.box 38 [.d 3 (.int .i64) (x1),.d 23 (.list 22 (.list 3 (.int .i64))) (x2)]])]
theorem wv65:zm Try.prog dOk base o16 t16 (65,sv65):=by
 intro al H q hq0 rs H2 h2
 have hq:sv65 al H=some q:=hq0
 clear hq0
 unfold sv65 at hq
 repeat with_reducible first|(first|replace hq:=dCq hq|replace hq:=zG hq);obtain ⟨_,_,rfl,hq⟩:=hq|(first|replace hq:=dSq hq|replace hq:=dDq hq|replace hq:=yo hq);obtain ⟨_,rfl,hq⟩:=hq|(first|replace hq:=zr hq|replace hq:=dEq hq);obtain ⟨rfl,hq⟩:=hq
 cases hq
 obtain ⟨hc0,rfl,rfl⟩:=zg h2
 exact ⟨41,(zu (by kernel_rfl)).trans ((ev65 _ _ _).trans (zl (zf hc0)))⟩
noncomputable def o17:OrcT:=(65,sv65)::o16
noncomputable def t17:TellT:=t16
noncomputable abbrev tn17:FuncId→TAn:=zh base o17 t17
theorem ok17:TnOk Try.prog tn17 (mkA base) dOk:=by
 have h0:TnOk Try.prog (tn16) (mkA base) dOk:=ok16
 have h1:=zn h0 h0 (p:=(65,sv65)) wv65
 exact h1
noncomputable def LaE:Nat→(List (List (List Int)))→Int→Int→(List Int)→(List (List (List Int)))→Option (Int ⊕ Unit)
 | 0,_,_,_,_,_=>none
 | n+1,x0,x1,x2,x3,x4=>(cond (decide (x2 < x1)) (cond (decide (0≤x2)) (cond (decide (x2 < (x0.length:Int))) (cond (ok (v65 (List.getD x0 x2.toNat []) x3 x4)) (cond (val (v65 (List.getD x0 x2.toNat []) x3 x4)) (some (.inl x2)) (LaE n x0 x1 (IntKind.wrap IntKind.i64 (x2+(1:Int))) x3 x4)) none) none) none) (some (.inr ())))
theorem qLaE:type_of% @LaE.eq_2:=@LaE.eq_2
noncomputable def xLaE (x0:(List (List (List Int)))) (x1 x2:Int) (x3:(List Int)) (x4:(List (List (List Int)))):(Int ⊕ Unit)→Ex×CS:=fun r=>match r with | .inl a0=>(.ret,{ sl:=[(4,.v (.sc (I4 (a0))))],lo:=[],h:=[.box 71 [.fn 44 0 [none] [.ptr 1 0]],.box 38 [.d 3 (.int .i64) (x3),.d 23 (.list 22 (.list 3 (.int .i64))) (x4)]],n0:=2,w:=true }) | .inr b0=>((.exit 0),{ sl:=[],lo:=[],h:=[.box 71 [.fn 44 0 [none] [.ptr 1 0]],.box 38 [.d 3 (.int .i64) (x3),.d 23 (.list 22 (.list 3 (.int .i64))) (x4)]],n0:=2,w:=false })
theorem bLaE (k:Nat) (cN:CS→Option (Ex×CS)) (cX:Ex→CS→Option (Ex×CS)) (x0:(List (List (List Int)))) (x1 x2:Int) (x3:(List Int)) (x4:(List (List (List Int)))):zq Try.prog (tn17 77) (TM.evF Try.prog (tn17) dOk (k+40)) dOk (k+40) (zc Try.prog (tn0 77) 77 0) 0 0 { sl:=[(0,.v (.sc (.d 23 (.list 22 (.list 3 (.int .i64))) x0))),(1,.v (.sc (.fn 65 0 [none] [.ptr 0 0]))),(7,.v (.sc (I4 x1))),(8,.v (.sc (I4 x2)))],lo:=[],h:=[.box 71 [.fn 44 0 [none] [.ptr 1 0]],.box 38 [.d 3 (.int .i64) (x3),.d 23 (.list 22 (.list 3 (.int .i64))) (x4)]],n0:=2,w:=false } cN cX=(cond (decide (x2 < x1)) (cond (decide (0≤x2)) (cond (decide (x2 < (x0.length:Int))) (cond (ok (v65 (List.getD x0 x2.toNat []) x3 x4)) (cond (val (v65 (List.getD x0 x2.toNat []) x3 x4)) (cX .ret { sl:=[(4,.v (.sc (I4 x2)))],lo:=[],h:=[.box 71 [.fn 44 0 [none] [.ptr 1 0]],.box 38 [.d 3 (.int .i64) (x3),.d 23 (.list 22 (.list 3 (.int .i64))) (x4)]],n0:=2,w:=true }) (cN { sl:=[(0,.v (.sc (.d 23 (.list 22 (.list 3 (.int .i64))) x0))),(1,.v (.sc (.fn 65 0 [none] [.ptr 0 0]))),(7,.v (.sc (I4 x1))),(8,.v (.sc (I4 (IntKind.wrap IntKind.i64 (x2+(1:Int))))))],lo:=[],h:=[.box 71 [.fn 44 0 [none] [.ptr 1 0]],.box 38 [.d 3 (.int .i64) (x3),.d 23 (.list 22 (.list 3 (.int .i64))) (x4)]],n0:=2,w:=false })) none) none) none) (cX (.exit 0) { sl:=[],lo:=[],h:=[.box 71 [.fn 44 0 [none] [.ptr 1 0]],.box 38 [.d 3 (.int .i64) (x3),.d 23 (.list 22 (.list 3 (.int .i64))) (x4)]],n0:=2,w:=false })):=by kernel_rfl
theorem lLaE (k m:Nat):∀ (n:Nat) (x0:(List (List (List Int)))) (x1 x2:Int) (x3:(List Int)) (x4:(List (List (List Int)))) (r:(Int ⊕ Unit)),LaE n x0 x1 x2 x3 x4=some r→zM Try.prog (tn17 77) (TM.evF Try.prog (tn17) dOk (k+40)) dOk (k+40) (zc Try.prog (tn0 77) 77 0) 0 0 (n+m) { sl:=[(0,.v (.sc (.d 23 (.list 22 (.list 3 (.int .i64))) x0))),(1,.v (.sc (.fn 65 0 [none] [.ptr 0 0]))),(7,.v (.sc (I4 x1))),(8,.v (.sc (I4 x2)))],lo:=[],h:=[.box 71 [.fn 44 0 [none] [.ptr 1 0]],.box 38 [.d 3 (.int .i64) (x3),.d 23 (.list 22 (.list 3 (.int .i64))) (x4)]],n0:=2,w:=false }=some (xLaE x0 x1 x2 x3 x4 r):=by
 intro n
 induction n with
 | zero=>intro _ _ _ _ _ r h;cases h
 | succ n ih=>
  intro x0 x1 x2 x3 x4 r
  rw [show n+1+m=n+m+1 by omega,zp,bLaE,qLaE]
  refine zb ?_ ?_
  refine zb ?_ ?_
  refine zb ?_ ?_
  refine zb ?_ ?_
  refine zb ?_ ?_
  intro h;cases h;rfl
  exact ih _ _ _ _ _ r
  intro h;cases h
  intro h;cases h
  intro h;cases h
  intro h;cases h;rfl
noncomputable def sLaE:TellS:=fun S=>dCS 2 S fun y1 y2 y3=>dSs 0 y1 fun y5 l4=>dD 23 (.list 22 (.list 3 (.int .i64))) y5 fun x0=>dSs 1 l4 fun y7 l6=>dFn 65 0 [none] y7 fun y8=>dC y8 fun y9 l10=>zi 0 0 y9<|dE l10<|dSI 7 .i64 l6 fun x1 l11=>dSI 8 .i64 l11 fun x2 l12=>dE l12<|dE y2<|dHB 71 y3 fun y14 l13=>dC y14 fun y15 l16=>dFn 44 0 [none] y15 fun y17=>dC y17 fun y18 l19=>zi 1 0 y18<|dE l19<|dE l16<|dHB 38 l13 fun y21 l20=>dC y21 fun y22 l23=>dD 3 (.int .i64) y22 fun x3=>dC l23 fun y24 l25=>dD 23 (.list 22 (.list 3 (.int .i64))) y24 fun x4=>dE l25<|dE l20 <|  some [(isL (LaE FU x0 x1 x2 x3 x4),.ret,{ sl:=[(4,.v (.sc (I4 ((zN (LaE FU x0 x1 x2 x3 x4))))))],lo:=[],h:=[.box 71 [.fn 44 0 [none] [.ptr 1 0]],.box 38 [.d 3 (.int .i64) (x3),.d 23 (.list 22 (.list 3 (.int .i64))) (x4)]],n0:=2,w:=true }),(ok (zL (LaE FU x0 x1 x2 x3 x4)),(.exit 0),{ sl:=[],lo:=[],h:=[.box 71 [.fn 44 0 [none] [.ptr 1 0]],.box 38 [.d 3 (.int .i64) (x3),.d 23 (.list 22 (.list 3 (.int .i64))) (x4)]],n0:=2,w:=false })]
theorem wLaE:zB Try.prog dOk base o17 t17 ((77,0),sLaE):=by
 refine ⟨.loop (zc Try.prog (tn0 77) 77 0),0,by kernel_rfl,?_⟩
 intro S alts e S' h10 h2
 have h1:sLaE S=some alts:=h10
 clear h10
 unfold sLaE at h1
 repeat with_reducible first|replace h1:=yc h1;obtain ⟨_,_,_,rfl,h1⟩:=h1|(first|replace h1:=zX h1|replace h1:=dCq h1|replace h1:=ye h1|replace h1:=zG h1);obtain ⟨_,_,rfl,h1⟩:=h1|(first|replace h1:=dDq h1|replace h1:=yo h1);obtain ⟨_,rfl,h1⟩:=h1|(first|replace h1:=zr h1|replace h1:=dEq h1);obtain ⟨rfl,h1⟩:=h1
 cases h1
 rcases yx h2 with ⟨hc0,rfl,rfl⟩ | h2
 · exact ⟨FU+40,(ze rfl).trans (lLaE FU 40 FU _ _ _ _ _ _ (yS hc0))⟩
 obtain ⟨hc1,rfl,rfl⟩:=zt h2
 exact ⟨FU+40,(ze rfl).trans (lLaE FU 40 FU _ _ _ _ _ _ (yw (zf hc1)))⟩
noncomputable def o18:OrcT:=o17
noncomputable def t18:TellT:=((77,0),sLaE)::t17
noncomputable abbrev tn18:FuncId→TAn:=zh base o18 t18
theorem ok18:TnOk Try.prog tn18 (mkA base) dOk:=by
 have h0:TnOk Try.prog (tn17) (mkA base) dOk:=ok17
 have h1:=zD h0 h0 (p:=((77,0),sLaE)) wLaE
 exact h1
noncomputable def v77 (x0:(List (List (List Int)))) (x1:(List Int)) (x2:(List (List (List Int)))):Option Int:=(cond (isL (LaE FU x0 (x0.length:Int) 0 x1 x2)) (some (zN (LaE FU x0 (x0.length:Int) 0 x1 x2))) (cond (ok (zL (LaE FU x0 (x0.length:Int) 0 x1 x2))) (some ((-1:Int))) none))
theorem ev77 (x0:(List (List (List Int)))) (x1:(List Int)) (x2:(List (List (List Int)))):zo Try.prog (tn18 77) (TM.evF Try.prog (tn18) dOk 40) dOk 40 77 [.sc (.d 23 (.list 22 (.list 3 (.int .i64))) x0),.sc (.fn 65 0 [none] [.ptr 0 0])] [.box 71 [.fn 44 0 [none] [.ptr 1 0]],.box 38 [.d 3 (.int .i64) (x1),.d 23 (.list 22 (.list 3 (.int .i64))) (x2)]]=(v77 x0 x1 x2).bind fun r=>some ([.sc (I4 (r))],[.box 71 [.fn 44 0 [none] [.ptr 1 0]],.box 38 [.d 3 (.int .i64) (x1),.d 23 (.list 22 (.list 3 (.int .i64))) (x2)]]):=by
 refine Eq.trans (b:=(cond (isL (LaE FU x0 (x0.length:Int) 0 x1 x2)) (some ([.sc (I4 (zN (LaE FU x0 (x0.length:Int) 0 x1 x2)))],[.box 71 [.fn 44 0 [none] [.ptr 1 0]],.box 38 [.d 3 (.int .i64) (x1),.d 23 (.list 22 (.list 3 (.int .i64))) (x2)]])) (cond (ok (zL (LaE FU x0 (x0.length:Int) 0 x1 x2))) (some ([.sc (I4 ((-1:Int)))],[.box 71 [.fn 44 0 [none] [.ptr 1 0]],.box 38 [.d 3 (.int .i64) (x1),.d 23 (.list 22 (.list 3 (.int .i64))) (x2)]])) none))) (by kernel_rfl) ?_
 unfold v77
 refine za ?_ ?_
 rfl
 refine za ?_ ?_
 rfl
 rfl
noncomputable def sv77:OrcS:=fun al H=>dC al fun y1 l2=>dS y1 fun y3=>dD 23 (.list 22 (.list 3 (.int .i64))) y3 fun x0=>dC l2 fun y4 l5=>dS y4 fun y6=>dFn 65 0 [none] y6 fun y7=>dC y7 fun y8 l9=>zi 0 0 y8<|dE l9<|dE l5<|dHB 71 H fun y11 l10=>dC y11 fun y12 l13=>dFn 44 0 [none] y12 fun y14=>dC y14 fun y15 l16=>zi 1 0 y15<|dE l16<|dE l13<|dHB 38 l10 fun y18 l17=>dC y18 fun y19 l20=>dD 3 (.int .i64) y19 fun x1=>dC l20 fun y21 l22=>dD 23 (.list 22 (.list 3 (.int .i64))) y21 fun x2=>dE l22<|dE l17 <|  some [(ok (v77 x0 x1 x2),[.sc (I4 ((val (v77 x0 x1 x2))))],[.box 71 [.fn 44 0 [none] [.ptr 1 0]],.box 38 [.d 3 (.int .i64) (x1),.d 23 (.list 22 (.list 3 (.int .i64))) (x2)]])]
theorem wv77:zm Try.prog dOk base o18 t18 (77,sv77):=by
 intro al H q hq0 rs H2 h2
 have hq:sv77 al H=some q:=hq0
 clear hq0
 unfold sv77 at hq
 repeat with_reducible first|(first|replace hq:=dCq hq|replace hq:=zG hq);obtain ⟨_,_,rfl,hq⟩:=hq|(first|replace hq:=dSq hq|replace hq:=dDq hq|replace hq:=yo hq);obtain ⟨_,rfl,hq⟩:=hq|(first|replace hq:=zr hq|replace hq:=dEq hq);obtain ⟨rfl,hq⟩:=hq
 cases hq
 obtain ⟨hc0,rfl,rfl⟩:=zg h2
 exact ⟨41,(zu (by kernel_rfl)).trans ((ev77 _ _ _).trans (zl (zf hc0)))⟩
noncomputable def o19:OrcT:=(77,sv77)::o18
noncomputable def t19:TellT:=t18
noncomputable abbrev tn19:FuncId→TAn:=zh base o19 t19
theorem ok19:TnOk Try.prog tn19 (mkA base) dOk:=by
 have h0:TnOk Try.prog (tn18) (mkA base) dOk:=ok18
 have h1:=zn h0 h0 (p:=(77,sv77)) wv77
 exact h1
noncomputable def v64 (x0:(List (List (List Int)))) (x1:(List Int)) (x2:(List (List (List Int)))):Option Bool:=(cond (ok (v77 x0 x1 x2)) (some (decide (val (v77 x0 x1 x2)≥0))) none)
theorem ev64 (x0:(List (List (List Int)))) (x1:(List Int)) (x2:(List (List (List Int)))):zo Try.prog (tn19 64) (TM.evF Try.prog (tn19) dOk 40) dOk 40 64 [.sc (.d 23 (.list 22 (.list 3 (.int .i64))) x0),.sc (.fn 65 0 [none] [.ptr 0 0])] [.box 71 [.fn 44 0 [none] [.ptr 1 0]],.box 38 [.d 3 (.int .i64) (x1),.d 23 (.list 22 (.list 3 (.int .i64))) (x2)]]=(v64 x0 x1 x2).bind fun r=>some ([.sc (.bool (r))],[.box 71 [.fn 44 0 [none] [.ptr 1 0]],.box 38 [.d 3 (.int .i64) (x1),.d 23 (.list 22 (.list 3 (.int .i64))) (x2)]]):=by
 refine Eq.trans (b:=(cond (ok (v77 x0 x1 x2)) (some ([.sc (.bool (decide (val (v77 x0 x1 x2)≥0)))],[.box 71 [.fn 44 0 [none] [.ptr 1 0]],.box 38 [.d 3 (.int .i64) (x1),.d 23 (.list 22 (.list 3 (.int .i64))) (x2)]])) none)) (by kernel_rfl) ?_
 unfold v64
 refine za ?_ ?_
 rfl
 rfl
noncomputable def sv64:OrcS:=fun al H=>dC al fun y1 l2=>dS y1 fun y3=>dD 23 (.list 22 (.list 3 (.int .i64))) y3 fun x0=>dC l2 fun y4 l5=>dS y4 fun y6=>dFn 65 0 [none] y6 fun y7=>dC y7 fun y8 l9=>zi 0 0 y8<|dE l9<|dE l5<|dHB 71 H fun y11 l10=>dC y11 fun y12 l13=>dFn 44 0 [none] y12 fun y14=>dC y14 fun y15 l16=>zi 1 0 y15<|dE l16<|dE l13<|dHB 38 l10 fun y18 l17=>dC y18 fun y19 l20=>dD 3 (.int .i64) y19 fun x1=>dC l20 fun y21 l22=>dD 23 (.list 22 (.list 3 (.int .i64))) y21 fun x2=>dE l22<|dE l17 <|  some [(ok (v64 x0 x1 x2),[.sc (.bool ((val (v64 x0 x1 x2))))],[.box 71 [.fn 44 0 [none] [.ptr 1 0]],.box 38 [.d 3 (.int .i64) (x1),.d 23 (.list 22 (.list 3 (.int .i64))) (x2)]])]
theorem wv64:zm Try.prog dOk base o19 t19 (64,sv64):=by
 intro al H q hq0 rs H2 h2
 have hq:sv64 al H=some q:=hq0
 clear hq0
 unfold sv64 at hq
 repeat with_reducible first|(first|replace hq:=dCq hq|replace hq:=zG hq);obtain ⟨_,_,rfl,hq⟩:=hq|(first|replace hq:=dSq hq|replace hq:=dDq hq|replace hq:=yo hq);obtain ⟨_,rfl,hq⟩:=hq|(first|replace hq:=zr hq|replace hq:=dEq hq);obtain ⟨rfl,hq⟩:=hq
 cases hq
 obtain ⟨hc0,rfl,rfl⟩:=zg h2
 exact ⟨41,(zu (by kernel_rfl)).trans ((ev64 _ _ _).trans (zl (zf hc0)))⟩
noncomputable def o20:OrcT:=(64,sv64)::o19
noncomputable def t20:TellT:=t19
noncomputable abbrev tn20:FuncId→TAn:=zh base o20 t20
theorem ok20:TnOk Try.prog tn20 (mkA base) dOk:=by
 have h0:TnOk Try.prog (tn19) (mkA base) dOk:=ok19
 have h1:=zn h0 h0 (p:=(64,sv64)) wv64
 exact h1
noncomputable def v43 (x0:(List (List (List Int)))) (x1:(List Int)) (x2:(List (List (List Int)))):Option Bool:=(cond (ok (v64 x0 x1 x2)) (some (!val (v64 x0 x1 x2))) none)
theorem ev43 (x0:(List (List (List Int)))) (x1:(List Int)) (x2:(List (List (List Int)))):zo Try.prog (tn20 43) (TM.evF Try.prog (tn20) dOk 40) dOk 40 43 [.sc (.d 23 (.list 22 (.list 3 (.int .i64))) x0),.sc (.fn 44 0 [none] [.ptr 0 0])] [.box 38 [.d 3 (.int .i64) (x1),.d 23 (.list 22 (.list 3 (.int .i64))) (x2)]]=(v43 x0 x1 x2).bind fun r=>some ([.sc (.bool (r))],[.box 38 [.d 3 (.int .i64) (x1),.d 23 (.list 22 (.list 3 (.int .i64))) (x2)]]):=by
 refine Eq.trans (b:=(cond (ok (v64 x0 x1 x2)) (some ([.sc (.bool (!val (v64 x0 x1 x2)))],[.box 38 [.d 3 (.int .i64) (x1),.d 23 (.list 22 (.list 3 (.int .i64))) (x2)]])) none)) (by kernel_rfl) ?_
 unfold v43
 refine za ?_ ?_
 rfl
 rfl
noncomputable def sv43:OrcS:=fun al H=>dC al fun y1 l2=>dS y1 fun y3=>dD 23 (.list 22 (.list 3 (.int .i64))) y3 fun x0=>dC l2 fun y4 l5=>dS y4 fun y6=>dFn 44 0 [none] y6 fun y7=>dC y7 fun y8 l9=>zi 0 0 y8<|dE l9<|dE l5<|dHB 38 H fun y11 l10=>dC y11 fun y12 l13=>dD 3 (.int .i64) y12 fun x1=>dC l13 fun y14 l15=>dD 23 (.list 22 (.list 3 (.int .i64))) y14 fun x2=>dE l15<|dE l10 <|  some [(ok (v43 x0 x1 x2),[.sc (.bool ((val (v43 x0 x1 x2))))],[.box 38 [.d 3 (.int .i64) (x1),.d 23 (.list 22 (.list 3 (.int .i64))) (x2)]])]
theorem wv43:zm Try.prog dOk base o20 t20 (43,sv43):=by
 intro al H q hq0 rs H2 h2
 have hq:sv43 al H=some q:=hq0
 clear hq0
 unfold sv43 at hq
 repeat with_reducible first|(first|replace hq:=dCq hq|replace hq:=zG hq);obtain ⟨_,_,rfl,hq⟩:=hq|(first|replace hq:=dSq hq|replace hq:=dDq hq|replace hq:=yo hq);obtain ⟨_,rfl,hq⟩:=hq|(first|replace hq:=zr hq|replace hq:=dEq hq);obtain ⟨rfl,hq⟩:=hq
 cases hq
 obtain ⟨hc0,rfl,rfl⟩:=zg h2
 exact ⟨41,(zu (by kernel_rfl)).trans ((ev43 _ _ _).trans (zl (zf hc0)))⟩
noncomputable def o21:OrcT:=(43,sv43)::o20
noncomputable def t21:TellT:=t20
noncomputable abbrev tn21:FuncId→TAn:=zh base o21 t21
theorem ok21:TnOk Try.prog tn21 (mkA base) dOk:=by
 have h0:TnOk Try.prog (tn20) (mkA base) dOk:=ok20
 have h1:=zn h0 h0 (p:=(43,sv43)) wv43
 exact h1
noncomputable def v25 (x0:(List Int)) (x1:(List (List (List Int)))):Option Bool:=(cond (ok (v39 (x0.length:Int) (1:Int) (8:Int))) (cond (!val (v39 (x0.length:Int) (1:Int) (8:Int))) (some (false)) (cond (ok (v39 (x1.length:Int) (1:Int) (8:Int))) (cond (!val (v39 (x1.length:Int) (1:Int) (8:Int))) (some (false)) (cond (ok (v41 x0)) (cond (val (v41 x0)) (cond (ok (v43 x1 x0 x1)) (some (val (v43 x1 x0 x1))) none) (some (false))) none)) none)) none)
theorem ev25 (x0:(List Int)) (x1:(List (List (List Int)))):zo Try.prog (tn21 25) (TM.evF Try.prog (tn21) dOk 40) dOk 40 25 [.agg [.d 3 (.int .i64) (x0),.d 23 (.list 22 (.list 3 (.int .i64))) (x1)]] []=(v25 x0 x1).bind fun r=>some ([.sc (.bool (r))],[]):=by
 refine Eq.trans (b:=(cond (ok (v39 (x0.length:Int) (1:Int) (8:Int))) (cond (!val (v39 (x0.length:Int) (1:Int) (8:Int))) (some ([.sc (.bool (false))],[])) (cond (ok (v39 (x1.length:Int) (1:Int) (8:Int))) (cond (!val (v39 (x1.length:Int) (1:Int) (8:Int))) (some ([.sc (.bool (false))],[])) (cond (ok (v41 x0)) (cond (val (v41 x0)) (cond (ok (v43 x1 x0 x1)) (some ([.sc (.bool (val (v43 x1 x0 x1)))],[])) none) (some ([.sc (.bool (false))],[]))) none)) none)) none)) (by kernel_rfl) ?_
 unfold v25
 refine za ?_ ?_
 refine za ?_ ?_
 rfl
 refine za ?_ ?_
 refine za ?_ ?_
 rfl
 refine za ?_ ?_
 refine za ?_ ?_
 refine za ?_ ?_
 rfl
 rfl
 rfl
 rfl
 rfl
 rfl
noncomputable def sv25:OrcS:=fun al H=>dC al fun y1 l2=>dA y1 fun y3=>dC y3 fun y4 l5=>dD 3 (.int .i64) y4 fun x0=>dC l5 fun y6 l7=>dD 23 (.list 22 (.list 3 (.int .i64))) y6 fun x1=>dE l7<|dE l2<|dE H <|  some [(ok (v25 x0 x1),[.sc (.bool ((val (v25 x0 x1))))],[])]
theorem wv25:zm Try.prog dOk base o21 t21 (25,sv25):=by
 intro al H q hq0 rs H2 h2
 have hq:sv25 al H=some q:=hq0
 clear hq0
 unfold sv25 at hq
 repeat with_reducible first|replace hq:=dCq hq;obtain ⟨_,_,rfl,hq⟩:=hq|(first|replace hq:=dAq hq|replace hq:=dDq hq);obtain ⟨_,rfl,hq⟩:=hq|replace hq:=dEq hq;obtain ⟨rfl,hq⟩:=hq
 cases hq
 obtain ⟨hc0,rfl,rfl⟩:=zg h2
 exact ⟨41,(zu (by kernel_rfl)).trans ((ev25 _ _).trans (zl (zf hc0)))⟩
noncomputable def o22:OrcT:=(25,sv25)::o21
noncomputable def t22:TellT:=t21
noncomputable abbrev tn22:FuncId→TAn:=zh base o22 t22
theorem ok22:TnOk Try.prog tn22 (mkA base) dOk:=by
 have h0:TnOk Try.prog (tn21) (mkA base) dOk:=ok21
 have h1:=zn h0 h0 (p:=(25,sv25)) wv25
 exact h1
noncomputable def v60 (x0:Int):Option Bool:=(cond (ok (v39 x0 0 (1000000000:Int))) (some (val (v39 x0 0 (1000000000:Int)))) none)
theorem ev60 (x0:Int):zo Try.prog (tn22 60) (TM.evF Try.prog (tn22) dOk 40) dOk 40 60 [.sc (I4 x0)] []=(v60 x0).bind fun r=>some ([.sc (.bool (r))],[]):=by
 refine Eq.trans (b:=(cond (ok (v39 x0 0 (1000000000:Int))) (some ([.sc (.bool (val (v39 x0 0 (1000000000:Int))))],[])) none)) (by kernel_rfl) ?_
 unfold v60
 refine za ?_ ?_
 rfl
 rfl
noncomputable def sv60:OrcS:=fun al H=>dC al fun y1 l2=>dS y1 fun y3=>xd .i64 y3 fun x0=>dE l2<|dE H <|  some [(ok (v60 x0),[.sc (.bool ((val (v60 x0))))],[])]
theorem wv60:zm Try.prog dOk base o22 t22 (60,sv60):=by
 intro al H q hq0 rs H2 h2
 have hq:sv60 al H=some q:=hq0
 clear hq0
 unfold sv60 at hq
 obtain ⟨_,_,rfl,g1⟩:=dCq hq
 obtain ⟨_,rfl,g2⟩:=dSq g1
 obtain ⟨_,rfl,g3⟩:=xu g2
 obtain ⟨rfl,g4⟩:=dEq g3
 obtain ⟨rfl,g5⟩:=dEq g4
 cases g5
 obtain ⟨hc0,rfl,rfl⟩:=zg h2
 exact ⟨41,(zu (by kernel_rfl)).trans ((ev60 _).trans (zl (zf hc0)))⟩
noncomputable def o23:OrcT:=(60,sv60)::o22
noncomputable def t23:TellT:=t22
noncomputable abbrev tn23:FuncId→TAn:=zh base o23 t23
theorem ok23:TnOk Try.prog tn23 (mkA base) dOk:=by
 have h0:TnOk Try.prog (tn22) (mkA base) dOk:=ok22
 have h1:=zn h0 h0 (p:=(60,sv60)) wv60
 exact h1
noncomputable def v63_1 (x0:Int):Option Bool:=(cond (ok (v60 x0)) (some (!val (v60 x0))) none)
theorem ev63_1 (x0:Int):zo Try.prog (tn23 63) (TM.evF Try.prog (tn23) dOk 40) dOk 40 63 [.sc (I4 x0),.sc (.ptr 0 0)] [.box 52 [.fn 60 0 [] []]]=(v63_1 x0).bind fun r=>some ([.sc (.bool (r))],[.box 52 [.fn 60 0 [] []]]):=by
 refine Eq.trans (b:=(cond (ok (v60 x0)) (some ([.sc (.bool (!val (v60 x0)))],[.box 52 [.fn 60 0 [] []]])) none)) (by kernel_rfl) ?_
 unfold v63_1
 refine za ?_ ?_
 rfl
 rfl
noncomputable def sv63_1:OrcS:=fun al H=>dC al fun y1 l2=>dS y1 fun y3=>xd .i64 y3 fun x0=>dC l2 fun y4 l5=>dS y4 fun y6=>zi 0 0 y6<|dE l5<|dHB 52 H fun y8 l7=>dC y8 fun y9 l10=>dFn 60 0 [] y9 fun y11=>dE y11<|dE l10<|dE l7 <|  some [(ok (v63_1 x0),[.sc (.bool ((val (v63_1 x0))))],[.box 52 [.fn 60 0 [] []]])]
theorem wv63_1:zm Try.prog dOk base o23 t23 (63,sv63_1):=by
 intro al H q hq0 rs H2 h2
 have hq:sv63_1 al H=some q:=hq0
 clear hq0
 unfold sv63_1 at hq
 repeat with_reducible first|(first|replace hq:=dCq hq|replace hq:=zG hq);obtain ⟨_,_,rfl,hq⟩:=hq|(first|replace hq:=dSq hq|replace hq:=xu hq|replace hq:=yo hq);obtain ⟨_,rfl,hq⟩:=hq|(first|replace hq:=zr hq|replace hq:=dEq hq);obtain ⟨rfl,hq⟩:=hq
 cases hq
 obtain ⟨hc0,rfl,rfl⟩:=zg h2
 exact ⟨41,(zu (by kernel_rfl)).trans ((ev63_1 _).trans (zl (zf hc0)))⟩
noncomputable def o24:OrcT:=(63,sv63_1)::o23
noncomputable def t24:TellT:=t23
noncomputable abbrev tn24:FuncId→TAn:=zh base o24 t24
theorem ok24:TnOk Try.prog tn24 (mkA base) dOk:=by
 have h0:TnOk Try.prog (tn23) (mkA base) dOk:=ok23
 have h1:=zn h0 h0 (p:=(63,sv63_1)) wv63_1
 exact h1
noncomputable def LaA:Nat→(List Int)→Int→Int→Option (Int ⊕ Unit)
 | 0,_,_,_=>none
 | n+1,x0,x1,x2=>(cond (decide (x2 < x1)) (cond (decide (0≤x2)) (cond (decide (x2 < (x0.length:Int))) (cond (ok (v63_1 (List.getD x0 x2.toNat 0))) (cond (val (v63_1 (List.getD x0 x2.toNat 0))) (some (.inl x2)) (LaA n x0 x1 (IntKind.wrap IntKind.i64 (x2+(1:Int))))) none) none) none) (some (.inr ())))
theorem qLaA:type_of% @LaA.eq_2:=@LaA.eq_2
noncomputable def xLaA (x0:(List Int)) (x1 x2:Int):(Int ⊕ Unit)→Ex×CS:=fun r=>match r with | .inl a0=>(.ret,{ sl:=[(4,.v (.sc (I4 (a0))))],lo:=[],h:=[.box 52 [.fn 60 0 [] []]],n0:=1,w:=true }) | .inr b0=>((.exit 0),{ sl:=[],lo:=[],h:=[.box 52 [.fn 60 0 [] []]],n0:=1,w:=false })
theorem bLaA (k:Nat) (cN:CS→Option (Ex×CS)) (cX:Ex→CS→Option (Ex×CS)) (x0:(List Int)) (x1 x2:Int):zq Try.prog (tn24 40) (TM.evF Try.prog (tn24) dOk (k+40)) dOk (k+40) (zc Try.prog (tn0 40) 40 0) 0 0 { sl:=[(0,.v (.sc (.d 3 (.int .i64) x0))),(1,.v (.sc (.fn 63 0 [none] [.ptr 0 0]))),(7,.v (.sc (I4 x1))),(8,.v (.sc (I4 x2)))],lo:=[],h:=[.box 52 [.fn 60 0 [] []]],n0:=1,w:=false } cN cX=(cond (decide (x2 < x1)) (cond (decide (0≤x2)) (cond (decide (x2 < (x0.length:Int))) (cond (ok (v63_1 (List.getD x0 x2.toNat 0))) (cond (val (v63_1 (List.getD x0 x2.toNat 0))) (cX .ret { sl:=[(4,.v (.sc (I4 x2)))],lo:=[],h:=[.box 52 [.fn 60 0 [] []]],n0:=1,w:=true }) (cN { sl:=[(0,.v (.sc (.d 3 (.int .i64) x0))),(1,.v (.sc (.fn 63 0 [none] [.ptr 0 0]))),(7,.v (.sc (I4 x1))),(8,.v (.sc (I4 (IntKind.wrap IntKind.i64 (x2+(1:Int))))))],lo:=[],h:=[.box 52 [.fn 60 0 [] []]],n0:=1,w:=false })) none) none) none) (cX (.exit 0) { sl:=[],lo:=[],h:=[.box 52 [.fn 60 0 [] []]],n0:=1,w:=false })):=by kernel_rfl
theorem lLaA (k m:Nat):∀ (n:Nat) (x0:(List Int)) (x1 x2:Int) (r:(Int ⊕ Unit)),LaA n x0 x1 x2=some r→zM Try.prog (tn24 40) (TM.evF Try.prog (tn24) dOk (k+40)) dOk (k+40) (zc Try.prog (tn0 40) 40 0) 0 0 (n+m) { sl:=[(0,.v (.sc (.d 3 (.int .i64) x0))),(1,.v (.sc (.fn 63 0 [none] [.ptr 0 0]))),(7,.v (.sc (I4 x1))),(8,.v (.sc (I4 x2)))],lo:=[],h:=[.box 52 [.fn 60 0 [] []]],n0:=1,w:=false }=some (xLaA x0 x1 x2 r):=by
 intro n
 induction n with
 | zero=>intro _ _ _ r h;cases h
 | succ n ih=>
  intro x0 x1 x2 r
  rw [show n+1+m=n+m+1 by omega,zp,bLaA,qLaA]
  refine zb ?_ ?_
  refine zb ?_ ?_
  refine zb ?_ ?_
  refine zb ?_ ?_
  refine zb ?_ ?_
  intro h;cases h;rfl
  exact ih _ _ _ r
  intro h;cases h
  intro h;cases h
  intro h;cases h
  intro h;cases h;rfl
noncomputable def sLaA:TellS:=fun S=>dCS 1 S fun y1 y2 y3=>dSs 0 y1 fun y5 l4=>dD 3 (.int .i64) y5 fun x0=>dSs 1 l4 fun y7 l6=>dFn 63 0 [none] y7 fun y8=>dC y8 fun y9 l10=>zi 0 0 y9<|dE l10<|dSI 7 .i64 l6 fun x1 l11=>dSI 8 .i64 l11 fun x2 l12=>dE l12<|dE y2<|dHB 52 y3 fun y14 l13=>dC y14 fun y15 l16=>dFn 60 0 [] y15 fun y17=>dE y17<|dE l16<|dE l13 <|  some [(isL (LaA FU x0 x1 x2),.ret,{ sl:=[(4,.v (.sc (I4 ((zN (LaA FU x0 x1 x2))))))],lo:=[],h:=[.box 52 [.fn 60 0 [] []]],n0:=1,w:=true }),(ok (zL (LaA FU x0 x1 x2)),(.exit 0),{ sl:=[],lo:=[],h:=[.box 52 [.fn 60 0 [] []]],n0:=1,w:=false })]
theorem wLaA:zB Try.prog dOk base o24 t24 ((40,0),sLaA):=by
 refine ⟨.loop (zc Try.prog (tn0 40) 40 0),0,by kernel_rfl,?_⟩
 intro S alts e S' h10 h2
 have h1:sLaA S=some alts:=h10
 clear h10
 unfold sLaA at h1
 repeat with_reducible first|replace h1:=yc h1;obtain ⟨_,_,_,rfl,h1⟩:=h1|(first|replace h1:=zX h1|replace h1:=dCq h1|replace h1:=ye h1|replace h1:=zG h1);obtain ⟨_,_,rfl,h1⟩:=h1|(first|replace h1:=dDq h1|replace h1:=yo h1);obtain ⟨_,rfl,h1⟩:=h1|(first|replace h1:=zr h1|replace h1:=dEq h1);obtain ⟨rfl,h1⟩:=h1
 cases h1
 rcases yx h2 with ⟨hc0,rfl,rfl⟩ | h2
 · exact ⟨FU+40,(ze rfl).trans (lLaA FU 40 FU _ _ _ _ (yS hc0))⟩
 obtain ⟨hc1,rfl,rfl⟩:=zt h2
 exact ⟨FU+40,(ze rfl).trans (lLaA FU 40 FU _ _ _ _ (yw (zf hc1)))⟩
noncomputable def o25:OrcT:=o24
noncomputable def t25:TellT:=((40,0),sLaA)::t24
noncomputable abbrev tn25:FuncId→TAn:=zh base o25 t25
theorem ok25:TnOk Try.prog tn25 (mkA base) dOk:=by
 have h0:TnOk Try.prog (tn24) (mkA base) dOk:=ok24
 have h1:=zD h0 h0 (p:=((40,0),sLaA)) wLaA
 exact h1
noncomputable def v40_1 (x0:(List Int)):Option Int:=(cond (isL (LaA FU x0 (x0.length:Int) 0)) (some (zN (LaA FU x0 (x0.length:Int) 0))) (cond (ok (zL (LaA FU x0 (x0.length:Int) 0))) (some ((-1:Int))) none))
theorem ev40_1 (x0:(List Int)):zo Try.prog (tn25 40) (TM.evF Try.prog (tn25) dOk 40) dOk 40 40 [.sc (.d 3 (.int .i64) x0),.sc (.fn 63 0 [none] [.ptr 0 0])] [.box 52 [.fn 60 0 [] []]]=(v40_1 x0).bind fun r=>some ([.sc (I4 (r))],[.box 52 [.fn 60 0 [] []]]):=by
 refine Eq.trans (b:=(cond (isL (LaA FU x0 (x0.length:Int) 0)) (some ([.sc (I4 (zN (LaA FU x0 (x0.length:Int) 0)))],[.box 52 [.fn 60 0 [] []]])) (cond (ok (zL (LaA FU x0 (x0.length:Int) 0))) (some ([.sc (I4 ((-1:Int)))],[.box 52 [.fn 60 0 [] []]])) none))) (by kernel_rfl) ?_
 unfold v40_1
 refine za ?_ ?_
 rfl
 refine za ?_ ?_
 rfl
 rfl
noncomputable def sv40_1:OrcS:=fun al H=>dC al fun y1 l2=>dS y1 fun y3=>dD 3 (.int .i64) y3 fun x0=>dC l2 fun y4 l5=>dS y4 fun y6=>dFn 63 0 [none] y6 fun y7=>dC y7 fun y8 l9=>zi 0 0 y8<|dE l9<|dE l5<|dHB 52 H fun y11 l10=>dC y11 fun y12 l13=>dFn 60 0 [] y12 fun y14=>dE y14<|dE l13<|dE l10 <|  some [(ok (v40_1 x0),[.sc (I4 ((val (v40_1 x0))))],[.box 52 [.fn 60 0 [] []]])]
theorem wv40_1:zm Try.prog dOk base o25 t25 (40,sv40_1):=by
 intro al H q hq0 rs H2 h2
 have hq:sv40_1 al H=some q:=hq0
 clear hq0
 unfold sv40_1 at hq
 repeat with_reducible first|(first|replace hq:=dCq hq|replace hq:=zG hq);obtain ⟨_,_,rfl,hq⟩:=hq|(first|replace hq:=dSq hq|replace hq:=dDq hq|replace hq:=yo hq);obtain ⟨_,rfl,hq⟩:=hq|(first|replace hq:=zr hq|replace hq:=dEq hq);obtain ⟨rfl,hq⟩:=hq
 cases hq
 obtain ⟨hc0,rfl,rfl⟩:=zg h2
 exact ⟨41,(zu (by kernel_rfl)).trans ((ev40_1 _).trans (zl (zf hc0)))⟩
noncomputable def o26:OrcT:=(40,sv40_1)::o25
noncomputable def t26:TellT:=t25
noncomputable abbrev tn26:FuncId→TAn:=zh base o26 t26
theorem ok26:TnOk Try.prog tn26 (mkA base) dOk:=by
 have h0:TnOk Try.prog (tn25) (mkA base) dOk:=ok25
 have h1:=zn h0 h0 (p:=(40,sv40_1)) wv40_1
 exact h1
noncomputable def v23_1 (x0:(List Int)):Option Bool:=(cond (ok (v40_1 x0)) (some (decide (val (v40_1 x0)≥0))) none)
theorem ev23_1 (x0:(List Int)):zo Try.prog (tn26 23) (TM.evF Try.prog (tn26) dOk 40) dOk 40 23 [.sc (.d 3 (.int .i64) x0),.sc (.fn 63 0 [none] [.ptr 0 0])] [.box 52 [.fn 60 0 [] []]]=(v23_1 x0).bind fun r=>some ([.sc (.bool (r))],[.box 52 [.fn 60 0 [] []]]):=by
 refine Eq.trans (b:=(cond (ok (v40_1 x0)) (some ([.sc (.bool (decide (val (v40_1 x0)≥0)))],[.box 52 [.fn 60 0 [] []]])) none)) (by kernel_rfl) ?_
 unfold v23_1
 refine za ?_ ?_
 rfl
 rfl
noncomputable def sv23_1:OrcS:=fun al H=>dC al fun y1 l2=>dS y1 fun y3=>dD 3 (.int .i64) y3 fun x0=>dC l2 fun y4 l5=>dS y4 fun y6=>dFn 63 0 [none] y6 fun y7=>dC y7 fun y8 l9=>zi 0 0 y8<|dE l9<|dE l5<|dHB 52 H fun y11 l10=>dC y11 fun y12 l13=>dFn 60 0 [] y12 fun y14=>dE y14<|dE l13<|dE l10 <|  some [(ok (v23_1 x0),[.sc (.bool ((val (v23_1 x0))))],[.box 52 [.fn 60 0 [] []]])]
theorem wv23_1:zm Try.prog dOk base o26 t26 (23,sv23_1):=by
 intro al H q hq0 rs H2 h2
 have hq:sv23_1 al H=some q:=hq0
 clear hq0
 unfold sv23_1 at hq
 repeat with_reducible first|(first|replace hq:=dCq hq|replace hq:=zG hq);obtain ⟨_,_,rfl,hq⟩:=hq|(first|replace hq:=dSq hq|replace hq:=dDq hq|replace hq:=yo hq);obtain ⟨_,rfl,hq⟩:=hq|(first|replace hq:=zr hq|replace hq:=dEq hq);obtain ⟨rfl,hq⟩:=hq
 cases hq
 obtain ⟨hc0,rfl,rfl⟩:=zg h2
 exact ⟨41,(zu (by kernel_rfl)).trans ((ev23_1 _).trans (zl (zf hc0)))⟩
noncomputable def o27:OrcT:=(23,sv23_1)::o26
noncomputable def t27:TellT:=t26
noncomputable abbrev tn27:FuncId→TAn:=zh base o27 t27
theorem ok27:TnOk Try.prog tn27 (mkA base) dOk:=by
 have h0:TnOk Try.prog (tn26) (mkA base) dOk:=ok26
 have h1:=zn h0 h0 (p:=(23,sv23_1)) wv23_1
 exact h1
noncomputable def v41_1 (x0:(List Int)):Option Bool:=(cond (ok (v23_1 x0)) (some (!val (v23_1 x0))) none)
theorem ev41_1 (x0:(List Int)):zo Try.prog (tn27 41) (TM.evF Try.prog (tn27) dOk 40) dOk 40 41 [.sc (.d 3 (.int .i64) x0),.sc (.fn 60 0 [] [])] []=(v41_1 x0).bind fun r=>some ([.sc (.bool (r))],[]):=by
 refine Eq.trans (b:=(cond (ok (v23_1 x0)) (some ([.sc (.bool (!val (v23_1 x0)))],[])) none)) (by kernel_rfl) ?_
 unfold v41_1
 refine za ?_ ?_
 rfl
 rfl
noncomputable def sv41_1:OrcS:=fun al H=>dC al fun y1 l2=>dS y1 fun y3=>dD 3 (.int .i64) y3 fun x0=>dC l2 fun y4 l5=>dS y4 fun y6=>dFn 60 0 [] y6 fun y7=>dE y7<|dE l5<|dE H <|  some [(ok (v41_1 x0),[.sc (.bool ((val (v41_1 x0))))],[])]
theorem wv41_1:zm Try.prog dOk base o27 t27 (41,sv41_1):=by
 intro al H q hq0 rs H2 h2
 have hq:sv41_1 al H=some q:=hq0
 clear hq0
 unfold sv41_1 at hq
 repeat with_reducible first|replace hq:=dCq hq;obtain ⟨_,_,rfl,hq⟩:=hq|(first|replace hq:=dSq hq|replace hq:=dDq hq|replace hq:=yo hq);obtain ⟨_,rfl,hq⟩:=hq|replace hq:=dEq hq;obtain ⟨rfl,hq⟩:=hq
 cases hq
 obtain ⟨hc0,rfl,rfl⟩:=zg h2
 exact ⟨41,(zu (by kernel_rfl)).trans ((ev41_1 _).trans (zl (zf hc0)))⟩
noncomputable def o28:OrcT:=(41,sv41_1)::o27
noncomputable def t28:TellT:=t27
noncomputable abbrev tn28:FuncId→TAn:=zh base o28 t28
theorem ok28:TnOk Try.prog tn28 (mkA base) dOk:=by
 have h0:TnOk Try.prog (tn27) (mkA base) dOk:=ok27
 have h1:=zn h0 h0 (p:=(41,sv41_1)) wv41_1
 exact h1
noncomputable def Laq:Nat→(List Int)→(List (List Int))→Int→Int→(List Int)→(List (List (List Int)))→Option (Bool ⊕ Unit)
 | 0,_,_,_,_,_,_=>none
 | n+1,x0,x1,x2,x3,x4,x5=>(cond (decide (x3 < x2)) (cond (decide (0≤x3)) (cond (decide (x3 < (x1.length:Int))) (cond (decide (x3 < (x5.length:Int))) (cond ((↑(List.length (List.getD x1 x3.toNat [])):Int) != (↑(List.length (List.getD x5 x3.toNat [])):Int)) (some (.inl (false))) (cond (ok (v41_1 (List.getD x1 x3.toNat []))) (cond (!val (v41_1 (List.getD x1 x3.toNat []))) (some (.inl (false))) (Laq n x0 x1 x2 (IntKind.wrap IntKind.i64 (x3+(1:Int))) x4 x5)) none)) none) none) none) (some (.inr ())))
theorem qLaq:type_of% @Laq.eq_2:=@Laq.eq_2
noncomputable def xLaq (x0:(List Int)) (x1:(List (List Int))) (x2 x3:Int) (x4:(List Int)) (x5:(List (List (List Int)))):(Bool ⊕ Unit)→Ex×CS:=fun r=>match r with | .inl a0=>(.ret,{ sl:=[(6,.v (.sc (.bool (a0))))],lo:=[],h:=[],n0:=0,w:=true }) | .inr b0=>((.exit 0),{ sl:=[(2,.v (.sc (.d 3 (.int .i64) x0))),(3,.l 3 0)],lo:=[],h:=[],n0:=0,w:=false })
theorem bLaq (k:Nat) (cN:CS→Option (Ex×CS)) (cX:Ex→CS→Option (Ex×CS)) (x0:(List Int)) (x1:(List (List Int))) (x2 x3:Int) (x4:(List Int)) (x5:(List (List (List Int)))):zq Try.prog (tn28 36) (TM.evF Try.prog (tn28) dOk (k+40)) dOk (k+40) (zc Try.prog (tn0 36) 36 0) 0 0 { sl:=[(2,.v (.sc (.d 3 (.int .i64) x0))),(3,.l 3 0),(23,.v (.sc (.d 22 (.list 3 (.int .i64)) x1))),(24,.v (.sc (I4 x2))),(25,.v (.sc (I4 x3)))],lo:=[(3,[.d 3 (.int .i64) (x4),.d 23 (.list 22 (.list 3 (.int .i64))) (x5)])],h:=[],n0:=0,w:=false } cN cX=(cond (decide (x3 < x2)) (cond (decide (0≤x3)) (cond (decide (x3 < (x1.length:Int))) (cond (decide (0≤x3)) (cond (decide (x3 < (x5.length:Int))) (cond ((↑(List.length (List.getD x1 x3.toNat [])):Int) != (↑(List.length (List.getD x5 x3.toNat [])):Int)) (cX .ret { sl:=[(6,.v (.sc (.bool (false))))],lo:=[],h:=[],n0:=0,w:=true }) (cond (ok (v41_1 (List.getD x1 x3.toNat []))) (cond (!val (v41_1 (List.getD x1 x3.toNat []))) (cX .ret { sl:=[(6,.v (.sc (.bool (false))))],lo:=[],h:=[],n0:=0,w:=true }) (cN { sl:=[(2,.v (.sc (.d 3 (.int .i64) x0))),(3,.l 3 0),(23,.v (.sc (.d 22 (.list 3 (.int .i64)) x1))),(24,.v (.sc (I4 x2))),(25,.v (.sc (I4 (IntKind.wrap IntKind.i64 (x3+(1:Int))))))],lo:=[(3,[.d 3 (.int .i64) (x4),.d 23 (.list 22 (.list 3 (.int .i64))) (x5)])],h:=[],n0:=0,w:=false })) none)) none) none) none) none) (cX (.exit 0) { sl:=[(2,.v (.sc (.d 3 (.int .i64) x0))),(3,.l 3 0)],lo:=[],h:=[],n0:=0,w:=false })):=by kernel_rfl
theorem lLaq (k m:Nat):∀ (n:Nat) (x0:(List Int)) (x1:(List (List Int))) (x2 x3:Int) (x4:(List Int)) (x5:(List (List (List Int)))) (r:(Bool ⊕ Unit)),Laq n x0 x1 x2 x3 x4 x5=some r→zM Try.prog (tn28 36) (TM.evF Try.prog (tn28) dOk (k+40)) dOk (k+40) (zc Try.prog (tn0 36) 36 0) 0 0 (n+m) { sl:=[(2,.v (.sc (.d 3 (.int .i64) x0))),(3,.l 3 0),(23,.v (.sc (.d 22 (.list 3 (.int .i64)) x1))),(24,.v (.sc (I4 x2))),(25,.v (.sc (I4 x3)))],lo:=[(3,[.d 3 (.int .i64) (x4),.d 23 (.list 22 (.list 3 (.int .i64))) (x5)])],h:=[],n0:=0,w:=false }=some (xLaq x0 x1 x2 x3 x4 x5 r):=by
 intro n
 induction n with
 | zero=>intro _ _ _ _ _ _ r h;cases h
 | succ n ih=>
  intro x0 x1 x2 x3 x4 x5 r
  rw [show n+1+m=n+m+1 by omega,zp,bLaq,qLaq]
  cases (decide (x3 < x2)) with
  | true=>
   cases (decide (0≤x3)) with
   | true=>
    cases (decide (x3 < (x1.length:Int))) with
    | true=>
     cases (decide (x3 < (x5.length:Int))) with
     | true=>
      cases ((↑(List.length (List.getD x1 x3.toNat [])):Int) != (↑(List.length (List.getD x5 x3.toNat [])):Int)) with
      | true=>
       intro h;cases h;rfl
      | false=>
       cases (ok (v41_1 (List.getD x1 x3.toNat []))) with
       | true=>
        cases (!val (v41_1 (List.getD x1 x3.toNat []))) with
        | true=>
         intro h;cases h;rfl
        | false=>
         exact ih _ _ _ _ _ _ r
       | false=>
        intro h;cases h
     | false=>
      intro h;cases h
    | false=>
     intro h;cases h
   | false=>
    intro h;cases h
  | false=>
   intro h;cases h;rfl
noncomputable def sLaq:TellS:=fun S=>dCS 0 S fun y1 y2 y3=>dSs 2 y1 fun y5 l4=>dD 3 (.int .i64) y5 fun x0=>dSt 3 l4 fun y7 l6=>dL 3 0 y7<|dSs 23 l6 fun y9 l8=>dD 22 (.list 3 (.int .i64)) y9 fun x1=>dSI 24 .i64 l8 fun x2 l10=>dSI 25 .i64 l10 fun x3 l11=>dE l11<|dLo 3 y2 fun y12 l13=>dC y12 fun y14 l15=>dD 3 (.int .i64) y14 fun x4=>dC l15 fun y16 l17=>dD 23 (.list 22 (.list 3 (.int .i64))) y16 fun x5=>dE l17<|dE l13<|dE y3 <|  some [(isL (Laq FU x0 x1 x2 x3 x4 x5),.ret,{ sl:=[(6,.v (.sc (.bool ((zN (Laq FU x0 x1 x2 x3 x4 x5))))))],lo:=[],h:=[],n0:=0,w:=true }),(ok (zL (Laq FU x0 x1 x2 x3 x4 x5)),(.exit 0),{ sl:=[(2,.v (.sc (.d 3 (.int .i64) x0))),(3,.l 3 0)],lo:=[],h:=[],n0:=0,w:=false })]
theorem wLaq:zB Try.prog dOk base o28 t28 ((36,0),sLaq):=by
 refine ⟨.loop (zc Try.prog (tn0 36) 36 0),0,by kernel_rfl,?_⟩
 intro S alts e S' h10 h2
 have h1:sLaq S=some alts:=h10
 clear h10
 unfold sLaq at h1
 repeat with_reducible first|replace h1:=yc h1;obtain ⟨_,_,_,rfl,h1⟩:=h1|(first|replace h1:=zX h1|replace h1:=wB h1|replace h1:=ye h1|replace h1:=wL h1|replace h1:=dCq h1);obtain ⟨_,_,rfl,h1⟩:=h1|replace h1:=dDq h1;obtain ⟨_,rfl,h1⟩:=h1|(first|replace h1:=dLq h1|replace h1:=dEq h1);obtain ⟨rfl,h1⟩:=h1
 cases h1
 rcases yx h2 with ⟨hc0,rfl,rfl⟩ | h2
 · exact ⟨FU+40,(ze rfl).trans (lLaq FU 40 FU _ _ _ _ _ _ _ (yS hc0))⟩
 obtain ⟨hc1,rfl,rfl⟩:=zt h2
 exact ⟨FU+40,(ze rfl).trans (lLaq FU 40 FU _ _ _ _ _ _ _ (yw (zf hc1)))⟩
noncomputable def o29:OrcT:=o28
noncomputable def t29:TellT:=((36,0),sLaq)::t28
noncomputable abbrev tn29:FuncId→TAn:=zh base o29 t29
theorem ok29:TnOk Try.prog tn29 (mkA base) dOk:=by
 have h0:TnOk Try.prog (tn28) (mkA base) dOk:=ok28
 have h1:=zD h0 h0 (p:=((36,0),sLaq)) wLaq
 exact h1
noncomputable def v61 (x0:Int):Option Bool:=(cond (ok (v39 x0 0 (1000000000000:Int))) (some (val (v39 x0 0 (1000000000000:Int)))) none)
theorem ev61 (x0:Int):zo Try.prog (tn29 61) (TM.evF Try.prog (tn29) dOk 40) dOk 40 61 [.sc (I4 x0)] []=(v61 x0).bind fun r=>some ([.sc (.bool (r))],[]):=by
 refine Eq.trans (b:=(cond (ok (v39 x0 0 (1000000000000:Int))) (some ([.sc (.bool (val (v39 x0 0 (1000000000000:Int))))],[])) none)) (by kernel_rfl) ?_
 unfold v61
 refine za ?_ ?_
 rfl
 rfl
noncomputable def sv61:OrcS:=fun al H=>dC al fun y1 l2=>dS y1 fun y3=>xd .i64 y3 fun x0=>dE l2<|dE H <|  some [(ok (v61 x0),[.sc (.bool ((val (v61 x0))))],[])]
theorem wv61:zm Try.prog dOk base o29 t29 (61,sv61):=by
 intro al H q hq0 rs H2 h2
 have hq:sv61 al H=some q:=hq0
 clear hq0
 unfold sv61 at hq
 obtain ⟨_,_,rfl,g1⟩:=dCq hq
 obtain ⟨_,rfl,g2⟩:=dSq g1
 obtain ⟨_,rfl,g3⟩:=xu g2
 obtain ⟨rfl,g4⟩:=dEq g3
 obtain ⟨rfl,g5⟩:=dEq g4
 cases g5
 obtain ⟨hc0,rfl,rfl⟩:=zg h2
 exact ⟨41,(zu (by kernel_rfl)).trans ((ev61 _).trans (zl (zf hc0)))⟩
noncomputable def o30:OrcT:=(61,sv61)::o29
noncomputable def t30:TellT:=t29
noncomputable abbrev tn30:FuncId→TAn:=zh base o30 t30
theorem ok30:TnOk Try.prog tn30 (mkA base) dOk:=by
 have h0:TnOk Try.prog (tn29) (mkA base) dOk:=ok29
 have h1:=zn h0 h0 (p:=(61,sv61)) wv61
 exact h1
noncomputable def v63_2 (x0:Int):Option Bool:=(cond (ok (v61 x0)) (some (!val (v61 x0))) none)
theorem ev63_2 (x0:Int):zo Try.prog (tn30 63) (TM.evF Try.prog (tn30) dOk 40) dOk 40 63 [.sc (I4 x0),.sc (.ptr 0 0)] [.box 52 [.fn 61 0 [] []]]=(v63_2 x0).bind fun r=>some ([.sc (.bool (r))],[.box 52 [.fn 61 0 [] []]]):=by
 refine Eq.trans (b:=(cond (ok (v61 x0)) (some ([.sc (.bool (!val (v61 x0)))],[.box 52 [.fn 61 0 [] []]])) none)) (by kernel_rfl) ?_
 unfold v63_2
 refine za ?_ ?_
 rfl
 rfl
noncomputable def sv63_2:OrcS:=fun al H=>dC al fun y1 l2=>dS y1 fun y3=>xd .i64 y3 fun x0=>dC l2 fun y4 l5=>dS y4 fun y6=>zi 0 0 y6<|dE l5<|dHB 52 H fun y8 l7=>dC y8 fun y9 l10=>dFn 61 0 [] y9 fun y11=>dE y11<|dE l10<|dE l7 <|  some [(ok (v63_2 x0),[.sc (.bool ((val (v63_2 x0))))],[.box 52 [.fn 61 0 [] []]])]
theorem wv63_2:zm Try.prog dOk base o30 t30 (63,sv63_2):=by
 intro al H q hq0 rs H2 h2
 have hq:sv63_2 al H=some q:=hq0
 clear hq0
 unfold sv63_2 at hq
 repeat with_reducible first|(first|replace hq:=dCq hq|replace hq:=zG hq);obtain ⟨_,_,rfl,hq⟩:=hq|(first|replace hq:=dSq hq|replace hq:=xu hq|replace hq:=yo hq);obtain ⟨_,rfl,hq⟩:=hq|(first|replace hq:=zr hq|replace hq:=dEq hq);obtain ⟨rfl,hq⟩:=hq
 cases hq
 obtain ⟨hc0,rfl,rfl⟩:=zg h2
 exact ⟨41,(zu (by kernel_rfl)).trans ((ev63_2 _).trans (zl (zf hc0)))⟩
noncomputable def o31:OrcT:=(63,sv63_2)::o30
noncomputable def t31:TellT:=t30
noncomputable abbrev tn31:FuncId→TAn:=zh base o31 t31
theorem ok31:TnOk Try.prog tn31 (mkA base) dOk:=by
 have h0:TnOk Try.prog (tn30) (mkA base) dOk:=ok30
 have h1:=zn h0 h0 (p:=(63,sv63_2)) wv63_2
 exact h1
noncomputable def LaF:Nat→(List Int)→Int→Int→Option (Int ⊕ Unit)
 | 0,_,_,_=>none
 | n+1,x0,x1,x2=>(cond (decide (x2 < x1)) (cond (decide (0≤x2)) (cond (decide (x2 < (x0.length:Int))) (cond (ok (v63_2 (List.getD x0 x2.toNat 0))) (cond (val (v63_2 (List.getD x0 x2.toNat 0))) (some (.inl x2)) (LaF n x0 x1 (IntKind.wrap IntKind.i64 (x2+(1:Int))))) none) none) none) (some (.inr ())))
theorem qLaF:type_of% @LaF.eq_2:=@LaF.eq_2
noncomputable def xLaF (x0:(List Int)) (x1 x2:Int):(Int ⊕ Unit)→Ex×CS:=fun r=>match r with | .inl a0=>(.ret,{ sl:=[(4,.v (.sc (I4 (a0))))],lo:=[],h:=[.box 52 [.fn 61 0 [] []]],n0:=1,w:=true }) | .inr b0=>((.exit 0),{ sl:=[],lo:=[],h:=[.box 52 [.fn 61 0 [] []]],n0:=1,w:=false })
theorem bLaF (k:Nat) (cN:CS→Option (Ex×CS)) (cX:Ex→CS→Option (Ex×CS)) (x0:(List Int)) (x1 x2:Int):zq Try.prog (tn31 40) (TM.evF Try.prog (tn31) dOk (k+40)) dOk (k+40) (zc Try.prog (tn0 40) 40 0) 0 0 { sl:=[(0,.v (.sc (.d 3 (.int .i64) x0))),(1,.v (.sc (.fn 63 0 [none] [.ptr 0 0]))),(7,.v (.sc (I4 x1))),(8,.v (.sc (I4 x2)))],lo:=[],h:=[.box 52 [.fn 61 0 [] []]],n0:=1,w:=false } cN cX=(cond (decide (x2 < x1)) (cond (decide (0≤x2)) (cond (decide (x2 < (x0.length:Int))) (cond (ok (v63_2 (List.getD x0 x2.toNat 0))) (cond (val (v63_2 (List.getD x0 x2.toNat 0))) (cX .ret { sl:=[(4,.v (.sc (I4 x2)))],lo:=[],h:=[.box 52 [.fn 61 0 [] []]],n0:=1,w:=true }) (cN { sl:=[(0,.v (.sc (.d 3 (.int .i64) x0))),(1,.v (.sc (.fn 63 0 [none] [.ptr 0 0]))),(7,.v (.sc (I4 x1))),(8,.v (.sc (I4 (IntKind.wrap IntKind.i64 (x2+(1:Int))))))],lo:=[],h:=[.box 52 [.fn 61 0 [] []]],n0:=1,w:=false })) none) none) none) (cX (.exit 0) { sl:=[],lo:=[],h:=[.box 52 [.fn 61 0 [] []]],n0:=1,w:=false })):=by kernel_rfl
theorem lLaF (k m:Nat):∀ (n:Nat) (x0:(List Int)) (x1 x2:Int) (r:(Int ⊕ Unit)),LaF n x0 x1 x2=some r→zM Try.prog (tn31 40) (TM.evF Try.prog (tn31) dOk (k+40)) dOk (k+40) (zc Try.prog (tn0 40) 40 0) 0 0 (n+m) { sl:=[(0,.v (.sc (.d 3 (.int .i64) x0))),(1,.v (.sc (.fn 63 0 [none] [.ptr 0 0]))),(7,.v (.sc (I4 x1))),(8,.v (.sc (I4 x2)))],lo:=[],h:=[.box 52 [.fn 61 0 [] []]],n0:=1,w:=false }=some (xLaF x0 x1 x2 r):=by
 intro n
 induction n with
 | zero=>intro _ _ _ r h;cases h
 | succ n ih=>
  intro x0 x1 x2 r
  rw [show n+1+m=n+m+1 by omega,zp,bLaF,qLaF]
  refine zb ?_ ?_
  refine zb ?_ ?_
  refine zb ?_ ?_
  refine zb ?_ ?_
  refine zb ?_ ?_
  intro h;cases h;rfl
  exact ih _ _ _ r
  intro h;cases h
  intro h;cases h
  intro h;cases h
  intro h;cases h;rfl
noncomputable def sLaF:TellS:=fun S=>dCS 1 S fun y1 y2 y3=>dSs 0 y1 fun y5 l4=>dD 3 (.int .i64) y5 fun x0=>dSs 1 l4 fun y7 l6=>dFn 63 0 [none] y7 fun y8=>dC y8 fun y9 l10=>zi 0 0 y9<|dE l10<|dSI 7 .i64 l6 fun x1 l11=>dSI 8 .i64 l11 fun x2 l12=>dE l12<|dE y2<|dHB 52 y3 fun y14 l13=>dC y14 fun y15 l16=>dFn 61 0 [] y15 fun y17=>dE y17<|dE l16<|dE l13 <|  some [(isL (LaF FU x0 x1 x2),.ret,{ sl:=[(4,.v (.sc (I4 ((zN (LaF FU x0 x1 x2))))))],lo:=[],h:=[.box 52 [.fn 61 0 [] []]],n0:=1,w:=true }),(ok (zL (LaF FU x0 x1 x2)),(.exit 0),{ sl:=[],lo:=[],h:=[.box 52 [.fn 61 0 [] []]],n0:=1,w:=false })]
theorem wLaF:zB Try.prog dOk base o31 t31 ((40,0),sLaF):=by
 refine ⟨.loop (zc Try.prog (tn0 40) 40 0),0,by kernel_rfl,?_⟩
 intro S alts e S' h10 h2
 have h1:sLaF S=some alts:=h10
 clear h10
 unfold sLaF at h1
 repeat with_reducible first|replace h1:=yc h1;obtain ⟨_,_,_,rfl,h1⟩:=h1|(first|replace h1:=zX h1|replace h1:=dCq h1|replace h1:=ye h1|replace h1:=zG h1);obtain ⟨_,_,rfl,h1⟩:=h1|(first|replace h1:=dDq h1|replace h1:=yo h1);obtain ⟨_,rfl,h1⟩:=h1|(first|replace h1:=zr h1|replace h1:=dEq h1);obtain ⟨rfl,h1⟩:=h1
 cases h1
 rcases yx h2 with ⟨hc0,rfl,rfl⟩ | h2
 · exact ⟨FU+40,(ze rfl).trans (lLaF FU 40 FU _ _ _ _ (yS hc0))⟩
 obtain ⟨hc1,rfl,rfl⟩:=zt h2
 exact ⟨FU+40,(ze rfl).trans (lLaF FU 40 FU _ _ _ _ (yw (zf hc1)))⟩
noncomputable def o32:OrcT:=o31
noncomputable def t32:TellT:=((40,0),sLaF)::t31
noncomputable abbrev tn32:FuncId→TAn:=zh base o32 t32
theorem ok32:TnOk Try.prog tn32 (mkA base) dOk:=by
 have h0:TnOk Try.prog (tn31) (mkA base) dOk:=ok31
 have h1:=zD h0 h0 (p:=((40,0),sLaF)) wLaF
 exact h1
noncomputable def v40_2 (x0:(List Int)):Option Int:=(cond (isL (LaF FU x0 (x0.length:Int) 0)) (some (zN (LaF FU x0 (x0.length:Int) 0))) (cond (ok (zL (LaF FU x0 (x0.length:Int) 0))) (some ((-1:Int))) none))
theorem ev40_2 (x0:(List Int)):zo Try.prog (tn32 40) (TM.evF Try.prog (tn32) dOk 40) dOk 40 40 [.sc (.d 3 (.int .i64) x0),.sc (.fn 63 0 [none] [.ptr 0 0])] [.box 52 [.fn 61 0 [] []]]=(v40_2 x0).bind fun r=>some ([.sc (I4 (r))],[.box 52 [.fn 61 0 [] []]]):=by
 refine Eq.trans (b:=(cond (isL (LaF FU x0 (x0.length:Int) 0)) (some ([.sc (I4 (zN (LaF FU x0 (x0.length:Int) 0)))],[.box 52 [.fn 61 0 [] []]])) (cond (ok (zL (LaF FU x0 (x0.length:Int) 0))) (some ([.sc (I4 ((-1:Int)))],[.box 52 [.fn 61 0 [] []]])) none))) (by kernel_rfl) ?_
 unfold v40_2
 refine za ?_ ?_
 rfl
 refine za ?_ ?_
 rfl
 rfl
noncomputable def sv40_2:OrcS:=fun al H=>dC al fun y1 l2=>dS y1 fun y3=>dD 3 (.int .i64) y3 fun x0=>dC l2 fun y4 l5=>dS y4 fun y6=>dFn 63 0 [none] y6 fun y7=>dC y7 fun y8 l9=>zi 0 0 y8<|dE l9<|dE l5<|dHB 52 H fun y11 l10=>dC y11 fun y12 l13=>dFn 61 0 [] y12 fun y14=>dE y14<|dE l13<|dE l10 <|  some [(ok (v40_2 x0),[.sc (I4 ((val (v40_2 x0))))],[.box 52 [.fn 61 0 [] []]])]
theorem wv40_2:zm Try.prog dOk base o32 t32 (40,sv40_2):=by
 intro al H q hq0 rs H2 h2
 have hq:sv40_2 al H=some q:=hq0
 clear hq0
 unfold sv40_2 at hq
 repeat with_reducible first|(first|replace hq:=dCq hq|replace hq:=zG hq);obtain ⟨_,_,rfl,hq⟩:=hq|(first|replace hq:=dSq hq|replace hq:=dDq hq|replace hq:=yo hq);obtain ⟨_,rfl,hq⟩:=hq|(first|replace hq:=zr hq|replace hq:=dEq hq);obtain ⟨rfl,hq⟩:=hq
 cases hq
 obtain ⟨hc0,rfl,rfl⟩:=zg h2
 exact ⟨41,(zu (by kernel_rfl)).trans ((ev40_2 _).trans (zl (zf hc0)))⟩
noncomputable def o33:OrcT:=(40,sv40_2)::o32
noncomputable def t33:TellT:=t32
noncomputable abbrev tn33:FuncId→TAn:=zh base o33 t33
theorem ok33:TnOk Try.prog tn33 (mkA base) dOk:=by
 have h0:TnOk Try.prog (tn32) (mkA base) dOk:=ok32
 have h1:=zn h0 h0 (p:=(40,sv40_2)) wv40_2
 exact h1
noncomputable def v23_2 (x0:(List Int)):Option Bool:=(cond (ok (v40_2 x0)) (some (decide (val (v40_2 x0)≥0))) none)
theorem ev23_2 (x0:(List Int)):zo Try.prog (tn33 23) (TM.evF Try.prog (tn33) dOk 40) dOk 40 23 [.sc (.d 3 (.int .i64) x0),.sc (.fn 63 0 [none] [.ptr 0 0])] [.box 52 [.fn 61 0 [] []]]=(v23_2 x0).bind fun r=>some ([.sc (.bool (r))],[.box 52 [.fn 61 0 [] []]]):=by
 refine Eq.trans (b:=(cond (ok (v40_2 x0)) (some ([.sc (.bool (decide (val (v40_2 x0)≥0)))],[.box 52 [.fn 61 0 [] []]])) none)) (by kernel_rfl) ?_
 unfold v23_2
 refine za ?_ ?_
 rfl
 rfl
noncomputable def sv23_2:OrcS:=fun al H=>dC al fun y1 l2=>dS y1 fun y3=>dD 3 (.int .i64) y3 fun x0=>dC l2 fun y4 l5=>dS y4 fun y6=>dFn 63 0 [none] y6 fun y7=>dC y7 fun y8 l9=>zi 0 0 y8<|dE l9<|dE l5<|dHB 52 H fun y11 l10=>dC y11 fun y12 l13=>dFn 61 0 [] y12 fun y14=>dE y14<|dE l13<|dE l10 <|  some [(ok (v23_2 x0),[.sc (.bool ((val (v23_2 x0))))],[.box 52 [.fn 61 0 [] []]])]
theorem wv23_2:zm Try.prog dOk base o33 t33 (23,sv23_2):=by
 intro al H q hq0 rs H2 h2
 have hq:sv23_2 al H=some q:=hq0
 clear hq0
 unfold sv23_2 at hq
 repeat with_reducible first|(first|replace hq:=dCq hq|replace hq:=zG hq);obtain ⟨_,_,rfl,hq⟩:=hq|(first|replace hq:=dSq hq|replace hq:=dDq hq|replace hq:=yo hq);obtain ⟨_,rfl,hq⟩:=hq|(first|replace hq:=zr hq|replace hq:=dEq hq);obtain ⟨rfl,hq⟩:=hq
 cases hq
 obtain ⟨hc0,rfl,rfl⟩:=zg h2
 exact ⟨41,(zu (by kernel_rfl)).trans ((ev23_2 _).trans (zl (zf hc0)))⟩
noncomputable def o34:OrcT:=(23,sv23_2)::o33
noncomputable def t34:TellT:=t33
noncomputable abbrev tn34:FuncId→TAn:=zh base o34 t34
theorem ok34:TnOk Try.prog tn34 (mkA base) dOk:=by
 have h0:TnOk Try.prog (tn33) (mkA base) dOk:=ok33
 have h1:=zn h0 h0 (p:=(23,sv23_2)) wv23_2
 exact h1
noncomputable def v41_2 (x0:(List Int)):Option Bool:=(cond (ok (v23_2 x0)) (some (!val (v23_2 x0))) none)
theorem ev41_2 (x0:(List Int)):zo Try.prog (tn34 41) (TM.evF Try.prog (tn34) dOk 40) dOk 40 41 [.sc (.d 3 (.int .i64) x0),.sc (.fn 61 0 [] [])] []=(v41_2 x0).bind fun r=>some ([.sc (.bool (r))],[]):=by
 refine Eq.trans (b:=(cond (ok (v23_2 x0)) (some ([.sc (.bool (!val (v23_2 x0)))],[])) none)) (by kernel_rfl) ?_
 unfold v41_2
 refine za ?_ ?_
 rfl
 rfl
noncomputable def sv41_2:OrcS:=fun al H=>dC al fun y1 l2=>dS y1 fun y3=>dD 3 (.int .i64) y3 fun x0=>dC l2 fun y4 l5=>dS y4 fun y6=>dFn 61 0 [] y6 fun y7=>dE y7<|dE l5<|dE H <|  some [(ok (v41_2 x0),[.sc (.bool ((val (v41_2 x0))))],[])]
theorem wv41_2:zm Try.prog dOk base o34 t34 (41,sv41_2):=by
 intro al H q hq0 rs H2 h2
 have hq:sv41_2 al H=some q:=hq0
 clear hq0
 unfold sv41_2 at hq
 repeat with_reducible first|replace hq:=dCq hq;obtain ⟨_,_,rfl,hq⟩:=hq|(first|replace hq:=dSq hq|replace hq:=dDq hq|replace hq:=yo hq);obtain ⟨_,rfl,hq⟩:=hq|replace hq:=dEq hq;obtain ⟨rfl,hq⟩:=hq
 cases hq
 obtain ⟨hc0,rfl,rfl⟩:=zg h2
 exact ⟨41,(zu (by kernel_rfl)).trans ((ev41_2 _).trans (zl (zf hc0)))⟩
noncomputable def o35:OrcT:=(41,sv41_2)::o34
noncomputable def t35:TellT:=t34
noncomputable abbrev tn35:FuncId→TAn:=zh base o35 t35
theorem ok35:TnOk Try.prog tn35 (mkA base) dOk:=by
 have h0:TnOk Try.prog (tn34) (mkA base) dOk:=ok34
 have h1:=zn h0 h0 (p:=(41,sv41_2)) wv41_2
 exact h1
noncomputable def v36 (x0:(List Int)) (x1:(List (List (List Int)))) (x2:(List (List Int))) (x3:(List Int)):Option Bool:=(cond ((x2.length:Int) != (x1.length:Int)) (some (false)) (cond ((x3.length:Int) != (x0.length:Int)) (some (false)) (cond (isL (Laq FU x3 x2 (x2.length:Int) 0 x0 x1)) (some (zN (Laq FU x3 x2 (x2.length:Int) 0 x0 x1))) (cond (ok (zL (Laq FU x3 x2 (x2.length:Int) 0 x0 x1))) (cond (ok (v41_2 x3)) (some (val (v41_2 x3))) none) none))))
theorem ev36 (x0:(List Int)) (x1:(List (List (List Int)))) (x2:(List (List Int))) (x3:(List Int)):zo Try.prog (tn35 36) (TM.evF Try.prog (tn35) dOk 40) dOk 40 36 [.agg [.d 3 (.int .i64) (x0),.d 23 (.list 22 (.list 3 (.int .i64))) (x1)],.sc (.d 22 (.list 3 (.int .i64)) x2),.sc (.d 3 (.int .i64) x3)] []=(v36 x0 x1 x2 x3).bind fun r=>some ([.sc (.bool (r))],[]):=by
 refine Eq.trans (b:=(cond ((x2.length:Int) != (x1.length:Int)) (some ([.sc (.bool (false))],[])) (cond ((x3.length:Int) != (x0.length:Int)) (some ([.sc (.bool (false))],[])) (cond (isL (Laq FU x3 x2 (x2.length:Int) 0 x0 x1)) (some ([.sc (.bool (zN (Laq FU x3 x2 (x2.length:Int) 0 x0 x1)))],[])) (cond (ok (zL (Laq FU x3 x2 (x2.length:Int) 0 x0 x1))) (cond (ok (v41_2 x3)) (some ([.sc (.bool (val (v41_2 x3)))],[])) none) none))))) (by kernel_rfl) ?_
 unfold v36
 refine za ?_ ?_
 rfl
 refine za ?_ ?_
 rfl
 refine za ?_ ?_
 rfl
 refine za ?_ ?_
 refine za ?_ ?_
 rfl
 rfl
 rfl
noncomputable def sv36:OrcS:=fun al H=>dC al fun y1 l2=>dA y1 fun y3=>dC y3 fun y4 l5=>dD 3 (.int .i64) y4 fun x0=>dC l5 fun y6 l7=>dD 23 (.list 22 (.list 3 (.int .i64))) y6 fun x1=>dE l7<|dC l2 fun y8 l9=>dS y8 fun y10=>dD 22 (.list 3 (.int .i64)) y10 fun x2=>dC l9 fun y11 l12=>dS y11 fun y13=>dD 3 (.int .i64) y13 fun x3=>dE l12<|dE H <|  some [(ok (v36 x0 x1 x2 x3),[.sc (.bool ((val (v36 x0 x1 x2 x3))))],[])]
theorem wv36:zm Try.prog dOk base o35 t35 (36,sv36):=by
 intro al H q hq0 rs H2 h2
 have hq:sv36 al H=some q:=hq0
 clear hq0
 unfold sv36 at hq
 repeat with_reducible first|replace hq:=dCq hq;obtain ⟨_,_,rfl,hq⟩:=hq|(first|replace hq:=dAq hq|replace hq:=dDq hq|replace hq:=dSq hq);obtain ⟨_,rfl,hq⟩:=hq|replace hq:=dEq hq;obtain ⟨rfl,hq⟩:=hq
 cases hq
 obtain ⟨hc0,rfl,rfl⟩:=zg h2
 exact ⟨41,(zu (by kernel_rfl)).trans ((ev36 _ _ _ _).trans (zl (zf hc0)))⟩
noncomputable def o36:OrcT:=(36,sv36)::o35
noncomputable def t36:TellT:=t35
noncomputable abbrev tn36:FuncId→TAn:=zh base o36 t36
theorem ok36:TnOk Try.prog tn36 (mkA base) dOk:=by
 have h0:TnOk Try.prog (tn35) (mkA base) dOk:=ok35
 have h1:=zn h0 h0 (p:=(36,sv36)) wv36
 exact h1
noncomputable def v62 (x0:(List Int)) (x1:(List (List (List Int)))) (x2:(List (List Int))):Option Unit:=(some ())
theorem ev62 (x0:(List Int)) (x1:(List (List (List Int)))) (x2:(List (List Int))):zo Try.prog (tn36 62) (TM.evF Try.prog (tn36) dOk 40) dOk 40 62 [.agg [.d 3 (.int .i64) (x0),.d 23 (.list 22 (.list 3 (.int .i64))) (x1)],.sc (.d 22 (.list 3 (.int .i64)) x2)] []=(v62 x0 x1 x2).bind fun r=>some ([.sc (.fn 76 0 [none,none] [.ptr 0 0,.ptr 1 0])],[.box 38 [.d 3 (.int .i64) (x0),.d 23 (.list 22 (.list 3 (.int .i64))) (x1)],.box 23 [.d 22 (.list 3 (.int .i64)) (x2)]]):=by
 refine Eq.trans (b:=(some ([.sc (.fn 76 0 [none,none] [.ptr 0 0,.ptr 1 0])],[.box 38 [.d 3 (.int .i64) (x0),.d 23 (.list 22 (.list 3 (.int .i64))) (x1)],.box 23 [.d 22 (.list 3 (.int .i64)) (x2)]]))) (by kernel_rfl) ?_
 unfold v62
 rfl
noncomputable def sv62:OrcS:=fun al H=>dC al fun y1 l2=>dA y1 fun y3=>dC y3 fun y4 l5=>dD 3 (.int .i64) y4 fun x0=>dC l5 fun y6 l7=>dD 23 (.list 22 (.list 3 (.int .i64))) y6 fun x1=>dE l7<|dC l2 fun y8 l9=>dS y8 fun y10=>dD 22 (.list 3 (.int .i64)) y10 fun x2=>dE l9<|dE H <|  some [(ok (v62 x0 x1 x2),[.sc (.fn 76 0 [none,none] [.ptr 0 0,.ptr 1 0])],[.box 38 [.d 3 (.int .i64) (x0),.d 23 (.list 22 (.list 3 (.int .i64))) (x1)],.box 23 [.d 22 (.list 3 (.int .i64)) (x2)]])]
theorem wv62:zm Try.prog dOk base o36 t36 (62,sv62):=by
 intro al H q hq0 rs H2 h2
 have hq:sv62 al H=some q:=hq0
 clear hq0
 unfold sv62 at hq
 repeat with_reducible first|replace hq:=dCq hq;obtain ⟨_,_,rfl,hq⟩:=hq|(first|replace hq:=dAq hq|replace hq:=dDq hq|replace hq:=dSq hq);obtain ⟨_,rfl,hq⟩:=hq|replace hq:=dEq hq;obtain ⟨rfl,hq⟩:=hq
 cases hq
 obtain ⟨hc0,rfl,rfl⟩:=zg h2
 exact ⟨41,(zu (by kernel_rfl)).trans ((ev62 _ _ _).trans (zl (zf hc0)))⟩
noncomputable def o37:OrcT:=(62,sv62)::o36
noncomputable def t37:TellT:=t36
noncomputable abbrev tn37:FuncId→TAn:=zh base o37 t37
theorem ok37:TnOk Try.prog tn37 (mkA base) dOk:=by
 have h0:TnOk Try.prog (tn36) (mkA base) dOk:=ok36
 have h1:=zn h0 h0 (p:=(62,sv62)) wv62
 exact h1
noncomputable def LaG:Nat→(List Int)→Int→Int→(List Int)→Int→(List Int)→(List Int)→Option (List Int)
 | 0,_,_,_,_,_,_,_=>none
 | n+1,x0,x1,x2,x3,x4,x5,x6=>(cond (decide (x2 < x1)) (cond (decide (0≤x2)) (cond (decide (x2 < (x0.length:Int))) (cond (decide (0≤List.getD x0 x2.toNat 0)) (cond (decide (List.getD x0 x2.toNat 0 < (x5.length:Int))) (cond (decide ((List.getD x0 x2.toNat 0).toNat < List.length x5)) (LaG n x0 x1 (IntKind.wrap IntKind.i64 (x2+(1:Int))) x3 x4 (List.set x5 (List.getD x0 x2.toNat 0).toNat (IntKind.wrap IntKind.i64 (List.getD x5 (List.getD x0 x2.toNat 0).toNat 0+x4))) x6) none) none) none) none) none) (some x5))
theorem qLaG:type_of% @LaG.eq_2:=@LaG.eq_2
noncomputable def xLaG (x0:(List Int)) (x1 x2:Int) (x3:(List Int)) (x4:Int) (x5:(List Int)) (x6:(List Int)):(List Int)→Ex×CS:=fun r=>((.exit 2),{ sl:=[(10,.l 10 0)],lo:=[],h:=[.loop 1 none 37 41 106 [(7,.v (.sc (.ptr 1 0))),(8,.v (.sc (.ptr 3 0)))],.box 22 [.g 2],.row 3 (.int .i64) (r:List Int),.box 22 [.g 4],.row 3 (.int .i64) (x6)],n0:=5,w:=false })
theorem bLaG (k:Nat) (cN:CS→Option (Ex×CS)) (cX:Ex→CS→Option (Ex×CS)) (x0:(List Int)) (x1 x2:Int) (x3:(List Int)) (x4:Int) (x5:(List Int)) (x6:(List Int)):zq Try.prog (tn37 37) (TM.evF Try.prog (tn37) dOk (k+40)) dOk (k+40) (zc Try.prog (tn0 37) 37 16) 2 16 { sl:=[(7,.v (.sc (.ptr 1 0))),(10,.l 10 0),(42,.v (.sc (.d 3 (.int .i64) x0))),(43,.v (.sc (I4 x1))),(44,.v (.sc (I4 x2)))],lo:=[(10,[.d 3 (.int .i64) (x3),I4 (x4)])],h:=[.loop 1 none 37 41 106 [(7,.v (.sc (.ptr 1 0))),(8,.v (.sc (.ptr 3 0)))],.box 22 [.g 2],.row 3 (.int .i64) (x5),.box 22 [.g 4],.row 3 (.int .i64) (x6)],n0:=5,w:=false } cN cX=(cond (decide (x2 < x1)) (cond (decide (0≤x2)) (cond (decide (x2 < (x0.length:Int))) (cond (decide (0≤List.getD x0 x2.toNat 0)) (cond (decide (List.getD x0 x2.toNat 0 < (x5.length:Int))) (cond (decide ((List.getD x0 x2.toNat 0).toNat < List.length x5)) (cond (decide (0≤List.getD x0 x2.toNat 0)) (cond (decide (List.getD x0 x2.toNat 0 < (x5.length:Int))) (cond (decide ((List.getD x0 x2.toNat 0).toNat < List.length x5)) (cN { sl:=[(7,.v (.sc (.ptr 1 0))),(10,.l 10 0),(42,.v (.sc (.d 3 (.int .i64) x0))),(43,.v (.sc (I4 x1))),(44,.v (.sc (I4 (IntKind.wrap IntKind.i64 (x2+(1:Int))))))],lo:=[(10,[.d 3 (.int .i64) (x3),I4 (x4)])],h:=[.loop 1 none 37 41 106 [(7,.v (.sc (.ptr 1 0))),(8,.v (.sc (.ptr 3 0)))],.box 22 [.g 2],.row 3 (.int .i64) (List.set x5 (List.getD x0 x2.toNat 0).toNat (IntKind.wrap IntKind.i64 (List.getD x5 (List.getD x0 x2.toNat 0).toNat 0+x4)):List Int),.box 22 [.g 4],.row 3 (.int .i64) (x6)],n0:=5,w:=false }) none) none) none) none) none) none) none) none) (cX (.exit 2) { sl:=[(10,.l 10 0)],lo:=[],h:=[.loop 1 none 37 41 106 [(7,.v (.sc (.ptr 1 0))),(8,.v (.sc (.ptr 3 0)))],.box 22 [.g 2],.row 3 (.int .i64) (x5),.box 22 [.g 4],.row 3 (.int .i64) (x6)],n0:=5,w:=false })):=by kernel_rfl
theorem lLaG (k m:Nat):∀ (n:Nat) (x0:(List Int)) (x1 x2:Int) (x3:(List Int)) (x4:Int) (x5:(List Int)) (x6:(List Int)) (r:(List Int)),LaG n x0 x1 x2 x3 x4 x5 x6=some r→zM Try.prog (tn37 37) (TM.evF Try.prog (tn37) dOk (k+40)) dOk (k+40) (zc Try.prog (tn0 37) 37 16) 2 16 (n+m) { sl:=[(7,.v (.sc (.ptr 1 0))),(10,.l 10 0),(42,.v (.sc (.d 3 (.int .i64) x0))),(43,.v (.sc (I4 x1))),(44,.v (.sc (I4 x2)))],lo:=[(10,[.d 3 (.int .i64) (x3),I4 (x4)])],h:=[.loop 1 none 37 41 106 [(7,.v (.sc (.ptr 1 0))),(8,.v (.sc (.ptr 3 0)))],.box 22 [.g 2],.row 3 (.int .i64) (x5),.box 22 [.g 4],.row 3 (.int .i64) (x6)],n0:=5,w:=false }=some (xLaG x0 x1 x2 x3 x4 x5 x6 r):=by
 intro n
 induction n with
 | zero=>intro _ _ _ _ _ _ _ r h;cases h
 | succ n ih=>
  intro x0 x1 x2 x3 x4 x5 x6 r
  rw [show n+1+m=n+m+1 by omega,zp,bLaG,qLaG]
  cases (decide (x2 < x1)) with
  | true=>
   cases (decide (0≤x2)) with
   | true=>
    cases (decide (x2 < (x0.length:Int))) with
    | true=>
     cases (decide (0≤List.getD x0 x2.toNat 0)) with
     | true=>
      cases (decide (List.getD x0 x2.toNat 0 < (x5.length:Int))) with
      | true=>
       cases (decide ((List.getD x0 x2.toNat 0).toNat < List.length x5)) with
       | true=>
        exact ih _ _ _ _ _ _ _ r
       | false=>
        intro h;cases h
      | false=>
       intro h;cases h
     | false=>
      intro h;cases h
    | false=>
     intro h;cases h
   | false=>
    intro h;cases h
  | false=>
   intro h;cases h;rfl
noncomputable def sLaG:TellS:=fun S=>dCS 5 S fun y1 y2 y3=>dSs 7 y1 fun y5 l4=>zi 1 0 y5<|dSt 10 l4 fun y7 l6=>dL 10 0 y7<|dSs 42 l6 fun y9 l8=>dD 3 (.int .i64) y9 fun x0=>dSI 43 .i64 l8 fun x1 l10=>dSI 44 .i64 l10 fun x2 l11=>dE l11<|dLo 10 y2 fun y12 l13=>dC y12 fun y14 l15=>dD 3 (.int .i64) y14 fun x3=>dK l15 fun x4 l16=>dE l16<|dE l13<|dC y3 fun y18 l17=>wT 1 none 37 41 106 y18 fun y19=>dSs 7 y19 fun y21 l20=>zi 1 0 y21<|dSs 8 l20 fun y23 l22=>zi 3 0 y23<|dE l22<|dHB 22 l17 fun y25 l24=>dC y25 fun y26 l27=>dG 2 y26<|dE l27<|dHR 3 (.int .i64) l24 fun x5 l28=>dHB 22 l28 fun y30 l29=>dC y30 fun y31 l32=>dG 4 y31<|dE l32<|dHR 3 (.int .i64) l29 fun x6 l33=>dE l33 <|  some [(ok (LaG FU x0 x1 x2 x3 x4 x5 x6),(.exit 2),{ sl:=[(10,.l 10 0)],lo:=[],h:=[.loop 1 none 37 41 106 [(7,.v (.sc (.ptr 1 0))),(8,.v (.sc (.ptr 3 0)))],.box 22 [.g 2],.row 3 (.int .i64) ((val (LaG FU x0 x1 x2 x3 x4 x5 x6)):List Int),.box 22 [.g 4],.row 3 (.int .i64) (x6)],n0:=5,w:=false })]
theorem wLaG:zB Try.prog dOk base o37 t37 ((37,16),sLaG):=by
 refine ⟨.loop (zc Try.prog (tn0 37) 37 16),2,by kernel_rfl,?_⟩
 intro S alts e S' h10 h2
 have h1:sLaG S=some alts:=h10
 clear h10
 unfold sLaG at h1
 repeat with_reducible first|replace h1:=yc h1;obtain ⟨_,_,_,rfl,h1⟩:=h1|(first|replace h1:=zX h1|replace h1:=wB h1|replace h1:=ye h1|replace h1:=wL h1|replace h1:=dCq h1|replace h1:=zJ h1|replace h1:=zG h1|replace h1:=zY h1);obtain ⟨_,_,rfl,h1⟩:=h1|(first|replace h1:=zr h1|replace h1:=dLq h1|replace h1:=dEq h1|replace h1:=dGq h1);obtain ⟨rfl,h1⟩:=h1|(first|replace h1:=dDq h1|replace h1:=wp h1);obtain ⟨_,rfl,h1⟩:=h1
 cases h1
 obtain ⟨hc0,rfl,rfl⟩:=zt h2
 exact ⟨FU+40,(ze rfl).trans (lLaG FU 40 FU _ _ _ _ _ _ _ _ (zf hc0))⟩
noncomputable def o38:OrcT:=o37
noncomputable def t38:TellT:=((37,16),sLaG)::t37
noncomputable abbrev tn38:FuncId→TAn:=zh base o38 t38
theorem ok38:TnOk Try.prog tn38 (mkA base) dOk:=by
 have h0:TnOk Try.prog (tn37) (mkA base) dOk:=ok37
 have h1:=zD h0 h0 (p:=((37,16),sLaG)) wLaG
 exact h1
noncomputable def vR (x0:Int) (x1:(List Int)) (x2:Int) (x3:(List Int)) (x4:(List Int)):Option ((List Int)×(List Int)):=(cond (decide (0≤x0)) (cond (decide (x0 < (x4.length:Int))) (cond (decide (x0.toNat < List.length x4)) (cond (ok (LaG FU x1 (x1.length:Int) 0 x1 x2 x3 (List.set x4 x0.toNat (IntKind.wrap IntKind.i64 (List.getD x4 x0.toNat 0+x2))))) (some (val (LaG FU x1 (x1.length:Int) 0 x1 x2 x3 (List.set x4 x0.toNat (IntKind.wrap IntKind.i64 (List.getD x4 x0.toNat 0+x2)))),List.set x4 x0.toNat (IntKind.wrap IntKind.i64 (List.getD x4 x0.toNat 0+x2)))) none) none) none) none)
theorem evR (x0:Int) (x1:(List Int)) (x2:Int) (x3:(List Int)) (x4:(List Int)):evY Try.prog (tn38) (TM.evF Try.prog (tn38) dOk 40) dOk 40 [.sc (.yl 0),.sc (I4 x0),.agg [.d 3 (.int .i64) (x1),I4 (x2)]] [.loop 0 none 37 41 106 [(7,.v (.sc (.ptr 1 0))),(8,.v (.sc (.ptr 3 0)))],.box 22 [.g 2],.row 3 (.int .i64) (x3),.box 22 [.g 4],.row 3 (.int .i64) (x4)]=(vR x0 x1 x2 x3 x4).bind fun r=>some ([.sc (.bool (true))],[.loop 0 none 37 41 106 [(7,.v (.sc (.ptr 1 0))),(8,.v (.sc (.ptr 3 0)))],.box 22 [.g 2],.row 3 (.int .i64) (r.1:List Int),.box 22 [.g 4],.row 3 (.int .i64) (r.2:List Int)]):=by
 refine Eq.trans (b:=(cond (decide (0≤x0)) (cond (decide (x0 < (x4.length:Int))) (cond (decide (x0.toNat < List.length x4)) (cond (decide (0≤x0)) (cond (decide (x0 < (x4.length:Int))) (cond (decide (x0.toNat < List.length x4)) (cond (ok (LaG FU x1 (x1.length:Int) 0 x1 x2 x3 (List.set x4 x0.toNat (IntKind.wrap IntKind.i64 (List.getD x4 x0.toNat 0+x2))))) (some ([.sc (.bool (true))],[.loop 0 none 37 41 106 [(7,.v (.sc (.ptr 1 0))),(8,.v (.sc (.ptr 3 0)))],.box 22 [.g 2],.row 3 (.int .i64) (val (LaG FU x1 (x1.length:Int) 0 x1 x2 x3 (List.set x4 x0.toNat (IntKind.wrap IntKind.i64 (List.getD x4 x0.toNat 0+x2)))):List Int),.box 22 [.g 4],.row 3 (.int .i64) (List.set x4 x0.toNat (IntKind.wrap IntKind.i64 (List.getD x4 x0.toNat 0+x2)):List Int)])) none) none) none) none) none) none) none)) (by kernel_rfl) ?_
 unfold vR
 cases (decide (0≤x0)) with
 | true=>
  cases (decide (x0 < (x4.length:Int))) with
  | true=>
   cases (decide (x0.toNat < List.length x4)) with
   | true=>
    cases (ok (LaG FU x1 (x1.length:Int) 0 x1 x2 x3 (List.set x4 x0.toNat (IntKind.wrap IntKind.i64 (List.getD x4 x0.toNat 0+x2))))) with
    | true=>
     rfl
    | false=>
     rfl
   | false=>
    rfl
  | false=>
   rfl
 | false=>
  rfl
noncomputable def svR:OrcS:=fun al H=>dC al fun y1 l2=>dS y1 fun y3=>dYl 0 y3<|dC l2 fun y4 l5=>dS y4 fun y6=>xd .i64 y6 fun x0=>dC l5 fun y7 l8=>dA y7 fun y9=>dC y9 fun y10 l11=>dD 3 (.int .i64) y10 fun x1=>dK l11 fun x2 l12=>dE l12<|dE l8<|dC H fun y14 l13=>wT 0 none 37 41 106 y14 fun y15=>dSs 7 y15 fun y17 l16=>zi 1 0 y17<|dSs 8 l16 fun y19 l18=>zi 3 0 y19<|dE l18<|dHB 22 l13 fun y21 l20=>dC y21 fun y22 l23=>dG 2 y22<|dE l23<|dHR 3 (.int .i64) l20 fun x3 l24=>dHB 22 l24 fun y26 l25=>dC y26 fun y27 l28=>dG 4 y27<|dE l28<|dHR 3 (.int .i64) l25 fun x4 l29=>dE l29 <|  some [(ok (vR x0 x1 x2 x3 x4),[.sc (.bool (true))],[.loop 0 none 37 41 106 [(7,.v (.sc (.ptr 1 0))),(8,.v (.sc (.ptr 3 0)))],.box 22 [.g 2],.row 3 (.int .i64) ((val (vR x0 x1 x2 x3 x4)).1:List Int),.box 22 [.g 4],.row 3 (.int .i64) ((val (vR x0 x1 x2 x3 x4)).2:List Int)])]
theorem wvR:zm Try.prog dOk base o38 t38 (4294967295,svR):=by
 intro al H q hq0 rs H2 h2
 have hq:svR al H=some q:=hq0
 clear hq0
 unfold svR at hq
 repeat with_reducible first|(first|replace hq:=dCq hq|replace hq:=zJ hq|replace hq:=zX hq|replace hq:=zG hq|replace hq:=zY hq);obtain ⟨_,_,rfl,hq⟩:=hq|(first|replace hq:=dSq hq|replace hq:=xu hq|replace hq:=dAq hq|replace hq:=dDq hq|replace hq:=wp hq);obtain ⟨_,rfl,hq⟩:=hq|(first|replace hq:=WH hq|replace hq:=dEq hq|replace hq:=zr hq|replace hq:=dGq hq);obtain ⟨rfl,hq⟩:=hq
 cases hq
 obtain ⟨hc0,rfl,rfl⟩:=zg h2
 exact ⟨41,fnY_eq.trans ((evR _ _ _ _ _).trans (zl (zf hc0)))⟩
noncomputable def o39:OrcT:=(4294967295,svR)::o38
noncomputable def t39:TellT:=t38
noncomputable abbrev tn39:FuncId→TAn:=zh base o39 t39
theorem ok39:TnOk Try.prog tn39 (mkA base) dOk:=by
 have h0:TnOk Try.prog (tn38) (mkA base) dOk:=ok38
 have h1:=zn h0 h0 (p:=(4294967295,svR)) wvR
 exact h1
end Go.Proofs.Ytgmebdomopdgmaa
