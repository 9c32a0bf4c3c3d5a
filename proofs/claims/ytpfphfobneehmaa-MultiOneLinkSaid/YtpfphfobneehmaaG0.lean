/- What the machines are told of each function. Written by a program of ours. -/
import Derived.Test.YtpfphfobneehmaaB8
import Derived.Test.YtpfphfobneehmaaProg
import Derived.KernelRfl
set_option linter.all false
set_option maxRecDepth 1000000
set_option maxHeartbeats 4000000
namespace Go.Proofs.Ytpfphfobneehmaa
open Go Go.AM Go.TM Go.Proofs
noncomputable section
abbrev iT:Ty:=.int .i64
abbrev LI:=List Int
abbrev LL:=List LI
abbrev L3:=List LL
abbrev I4 (x:Int):TC:=.int .i64 x
abbrev vI (n:Int):TV:=.v (.sc (.int .i64 n))
abbrev vG (n:Nat):TV:=.v (.sc (.g n))
abbrev vP (n:Nat):TV:=.v (.sc (.ptr n 0))
abbrev vB (b:Bool):TV:=.v (.sc (.bool b))
def base:List (FuncId×TAn):=[
 (2,{ a:={ loc:=[],keep:=[] },own:=false,crow:=[],cuts:=[],live:=[],coe:=[],nt:=1 }),
 (6,{ a:={ loc:=[9,11,13,39,45,64,77,83,94,98,43],keep:=[(0,[2,7,8,9,10],[9]),(2,[7,8,9,11,13,15],[9,11,13])],keepR:=[(0,[0,1,2]),(1,[0,1,2,7]),(2,[0,1,2,7,22]),(3,[6]),(4,[0,2,7,8]),(5,[2,7,8,9]),(6,[2,7,8,9,10]),(7,[2,7,8,9,10,36]),(8,[2,7,8,9,10]),(9,[2,7,8,9,10]),(10,[2,7,8,9,11,12]),(11,[7,8,9,11,12,13,14]),(12,[7,8,9,11,13,69]),(13,[6]),(14,[7,8,9,11,13,15]),(15,[7,8,9,11,13,15,72]),(16,[7,8,9,11,13,15]),(17,[7,8,9,11,13,15]),(18,[6])],hst:=[80,85],ro:=[21] },own:=false,crow:=[],cuts:=[10],live:=[(0,[2,7,8,9,10],[9]),(2,[2,7,8,9],[9]),(3,[6],[]),(16,[7,8,9,11,13,15],[9,11,13]),(18,[7,8,9,13],[9,13]),(19,[6],[]),(84,[2,7,8,9],[9]),(85,[6],[]),(86,[6],[]),(87,[6],[])],coe:=[(0,[((1,9,0),3,true),((1,9,1),31,true)]),(16,[((1,9,0),3,true),((1,9,1),31,true),((1,11,0),22,true),((1,11,1),3,true),((1,13,0),22,true),((1,13,1),3,true)]),(84,[((1,9,0),3,false),((1,9,1),31,false)])],nt:=105 }),
 (10,{ a:={ loc:=[1,2,3,8,10,12,108],keep:=[],keepR:=[(0,[]),(1,[1]),(2,[1,2]),(3,[1,2,3]),(4,[1,3,4]),(5,[1,4,5,6,7]),(6,[1,4,5,6,7,9]),(7,[1,4,5,6,7,9,11]),(8,[4,5,6,7,9,11,12,13]),(9,[0])] },own:=false,crow:=[],cuts:=[4,5,6,7,8,9],live:=[(36,[1,2,3],[1,2,3]),(37,[0],[]),(38,[0],[]),(39,[0],[]),(44,[1,3,4],[1,3]),(45,[0],[]),(46,[0],[]),(47,[0],[]),(52,[1,4,5,6,7],[1]),(53,[0],[]),(54,[0],[]),(55,[0],[]),(60,[1,4,5,6,7,9],[1]),(61,[0],[]),(62,[0],[]),(63,[0],[]),(68,[1,4,5,6,7,9,11],[1]),(69,[0],[]),(70,[0],[]),(71,[0],[]),(76,[4,5,6,7,9,11,12,13],[12]),(77,[0],[]),(78,[0],[]),(79,[0],[])],coe:=[(36,[((1,1,0),3,false),((1,1,1),31,false),((1,2,0),3,false),((1,2,1),31,false),((1,3,0),3,false),((1,3,1),31,false)]),(44,[((1,1,0),3,true),((1,1,1),31,true),((1,3,0),3,true),((1,3,1),31,true)]),(52,[((1,1,0),3,true),((1,1,1),31,true)]),(60,[((1,1,0),3,true),((1,1,1),31,true)]),(68,[((1,1,0),3,true),((1,1,1),31,true)]),(76,[((1,12,0),22,true),((1,12,1),3,true)])],nt:=112 }),
 (11,{ a:={ loc:=[3,10,15,31,37,45,54],keep:=[(0,[1,3,7],[3]),(2,[1,3,7,8],[3]),(4,[1,9],[])] },own:=false,crow:=[],cuts:=[],live:=[(0,[1,3,7],[3]),(2,[1],[]),(3,[6],[]),(16,[1,3,7,8],[3]),(18,[1,3,7],[3]),(19,[6],[]),(32,[1,9],[]),(34,[],[]),(35,[6],[])],coe:=[(0,[((0,1,0),22,true),((1,3,0),3,true),((1,3,1),31,true)]),(16,[((0,1,0),22,true),((1,3,0),3,true),((1,3,1),31,true)]),(32,[((0,1,0),22,true)])],nt:=76 }),
 (12,{ a:={ loc:=[3,22,33,51],keep:=[(0,[1,2,3,38,39,40],[3]),(2,[1,11,12,55,56,57],[])] },own:=false,crow:=[],cuts:=[],live:=[(0,[1,2,3,38,39,40],[3]),(2,[1,2,3],[3]),(3,[6,7,8],[]),(16,[1,11,12,55,56,57],[]),(18,[11,12],[]),(19,[6,7,8],[])],coe:=[(0,[((0,1,0),3,true),((0,38,0),3,true),((1,3,0),3,true),((1,3,1),31,true)]),(16,[((0,1,0),3,true),((0,55,0),22,true)])],nt:=77 }),
 (14,{ a:={ loc:=[2,4,24,28,54],keep:=[(0,[1,2,4,6,38,39],[2,4]),(2,[1,4,6,56,57],[4]),(4,[4,6,75,76],[4])],hst:=[47],gr:=[31,33] },own:=false,crow:=[],cuts:=[4,10,17],live:=[(0,[1,2,4,6,38,39],[2,4]),(2,[1,2,4,6],[2,4]),(3,[4,5],[4]),(16,[1,4,6,56,57],[4]),(18,[1,4,6],[4]),(19,[4,5],[4]),(32,[4,6,75,76],[4]),(34,[4,6],[4]),(35,[4,5],[4]),(36,[1,2,4,6],[2,4]),(37,[4,5],[4]),(38,[4,5],[4]),(39,[4,5],[4]),(84,[1,2,4,6],[2,4]),(85,[4,5],[4]),(86,[4,5],[4]),(87,[4,5],[4]),(140,[1,4,6],[4]),(141,[4,5],[4]),(142,[4,5],[4]),(143,[4,5],[4])],coe:=[(0,[((1,2,0),3,true),((1,2,1),31,true),((1,4,0),22,true),((1,4,1),3,true)]),(16,[((1,4,0),22,true),((1,4,1),3,true)]),(32,[((1,4,0),22,true),((1,4,1),3,true),((2,0,5),22,false),((2,0,6),3,false)]),(36,[((1,2,0),3,true),((1,2,1),31,true),((1,4,0),22,true),((1,4,1),3,true),((2,2,5),22,false),((2,2,6),3,false)]),(84,[((1,2,0),3,true),((1,2,1),31,true),((1,4,0),22,true),((1,4,1),3,true)]),(140,[((1,4,0),22,true),((1,4,1),3,true)])],nt:=85 }),
 (16,{ a:={ loc:=[2,3,8,10,16,18,23,26,32,38,43],keep:=[(0,[2,3,6],[2,3])],hst:=[41,46],ro:=[36] },own:=false,crow:=[],cuts:=[],live:=[(0,[2,3,6],[2,3]),(2,[],[]),(3,[4],[])],coe:=[(0,[((1,2,0),22,true),((1,2,1),3,true),((1,3,0),22,true),((1,3,1),3,true)])],nt:=51 }),
 (21,{ a:={ loc:=[],keep:=[(0,[0,3,4],[])] },own:=false,crow:=[],cuts:=[],live:=[(0,[0,3,4],[]),(2,[3],[]),(3,[2],[])],coe:=[(0,[((0,0,0),3,true)])],nt:=18 }),
 (26,{ a:={ loc:=[3,29],keep:=[],ro:=[46] },own:=false,crow:=[],cuts:=[],live:=[],coe:=[],nt:=38 }),
 (27,{ a:={ loc:=[2,3,5],keep:=[] },own:=false,crow:=[],cuts:=[],live:=[],coe:=[],nt:=19 }),
 (28,{ a:={ loc:=[],keep:=[] },own:=false,crow:=[],cuts:=[],live:=[],coe:=[],nt:=24 }),
 (29,{ a:={ loc:=[],keep:=[(0,[1,5,8,9,10],[])] },own:=false,crow:=[],cuts:=[],live:=[(0,[1,5,8,9,10],[]),(2,[5],[]),(3,[4],[])],coe:=[(0,[((0,1,0),3,true),((0,8,0),3,true)])],nt:=22 }),
 (31,{ a:={ loc:=[39],keep:=[(0,[1,5,14,15,16],[]),(2,[1,5,6,8,14,15,16,25,26],[])],hst:=[35],ro:=[32,57,81,83],grv:=true,fsh:=[5,8,23,29,35,37,40],gr:=[55] },own:=false,crow:=[],cuts:=[],live:=[(0,[1,5,14,15,16],[]),(2,[5],[]),(3,[4],[]),(16,[1,5,6,8,14,15,16,25,26],[]),(18,[1,5,8,14,15,16],[]),(19,[4],[])],coe:=[(0,[((0,5,0),22,true),((0,14,0),31,true)]),(16,[((0,5,0),22,true),((0,8,0),3,true),((0,14,0),31,true)])],nt:=43 }),
 (32,{ a:={ loc:=[],keep:=[] },own:=false,crow:=[],cuts:=[],live:=[],coe:=[],nt:=5 }),
 (33,{ a:={ loc:=[],keep:=[(0,[0,2,8,9,20,21,22],[])],ro:=[29],gr:=[54] },own:=false,crow:=[],cuts:=[],live:=[(0,[0,2,8,9,20,21,22],[]),(2,[8,9],[]),(3,[6,7],[])],coe:=[(0,[((0,2,0),3,true),((0,20,0),22,true)])],nt:=47 }),
 (34,{ a:={ loc:=[],keep:=[(0,[1,2,25,26,27],[]),(2,[1,2,5,59,60,61],[]),(4,[1,8,9,96,97,98],[])],hst:=[1,2,21,41,47,78,83,153],gr:=[31,60] },own:=false,crow:=[],cuts:=[2,8,9,15,16,18],live:=[(0,[1,2,25,26,27],[]),(2,[1,2],[]),(3,[],[]),(16,[1,2,5,59,60,61],[]),(18,[1,2,5],[]),(19,[],[]),(32,[1,8,9,96,97,98],[]),(34,[],[]),(35,[],[]),(20,[1,2],[]),(21,[],[]),(22,[],[]),(23,[],[]),(68,[1,2],[]),(69,[],[]),(70,[],[]),(71,[],[]),(76,[1,2],[]),(77,[],[]),(78,[],[]),(79,[],[]),(124,[1,2,5],[]),(125,[],[]),(126,[],[]),(127,[],[]),(132,[1,2],[]),(133,[],[]),(134,[],[]),(135,[],[]),(148,[1,8,9],[]),(149,[],[]),(150,[],[]),(151,[],[])],coe:=[(0,[((0,25,0),3,true)]),(16,[((0,5,0),3,true),((0,59,0),3,true)]),(32,[((0,8,0),3,true),((0,96,0),3,true)]),(124,[((0,5,0),3,true)]),(148,[((0,8,0),3,true)])],nt:=155 }),
 (36,{ a:={ loc:=[],keep:=[(0,[0,1,5],[])] },own:=false,crow:=[],cuts:=[],live:=[(0,[0,1,5],[]),(2,[],[]),(3,[4],[])],coe:=[(0,[((0,0,0),3,true),((0,1,0),3,true)])],nt:=26 }),
 (43,{ a:={ loc:=[],keep:=[] },own:=false,crow:=[],cuts:=[],live:=[],coe:=[],nt:=15 }),
 (44,{ a:={ loc:=[3,11,18,32],keep:=[(0,[2,3,23,24,25],[3])] },own:=false,crow:=[],cuts:=[],live:=[(0,[2,3,23,24,25],[3]),(2,[2],[]),(3,[6],[])],coe:=[(0,[((0,2,0),3,true),((0,23,0),22,true),((1,3,0),3,true),((1,3,1),31,true)])],nt:=47 }),
 (45,{ a:={ loc:=[3,10,16,20,24,37,41,52,65,78],keep:=[(2,[7,10,42,43,44],[10]),(4,[1,3,5,6,8,57,58,59],[3]),(8,[5,6,8,15,17,79,80,81],[])],hst:=[7,8,35,40,50,55],rt:=[(20,3),(24,3),(37,10),(52,10)] },own:=false,crow:=[],cuts:=[],live:=[(16,[7,10,42,43,44],[10]),(18,[],[]),(19,[6],[]),(32,[1,3,5,6,8,57,58,59],[3]),(34,[1,3,5,6,8],[3]),(35,[6],[]),(64,[5,6,8,15,17,79,80,81],[]),(66,[6,8,15,17],[]),(67,[6],[]),(41,[7,8],[]),(161,[5,6,8],[])],coe:=[(16,[((0,42,0),3,true),((1,10,0),3,true)]),(32,[((0,1,0),22,true),((0,57,0),3,true),((1,3,0),3,true),((1,3,1),31,true)]),(64,[((0,79,0),3,true)])],nt:=106 }),
 (46,{ a:={ loc:=[2,17],keep:=[(0,[2,5,8,9,10],[2])] },own:=false,crow:=[],cuts:=[],live:=[(0,[2,5,8,9,10],[2]),(2,[5],[]),(3,[4],[])],coe:=[(0,[((0,8,0),3,true),((1,2,0),3,true),((1,2,1),31,true)])],nt:=26 }),
 (47,{ a:={ loc:=[],keep:=[] },own:=false,crow:=[],cuts:=[],live:=[],coe:=[],nt:=9 }),
 (48,{ a:={ loc:=[],keep:=[],ro:=[43] },own:=false,crow:=[],cuts:=[],live:=[],coe:=[],nt:=5 }),
 (49,{ a:={ loc:=[],keep:=[] },own:=false,crow:=[],cuts:=[],live:=[],coe:=[],nt:=9 }),
 (50,{ a:={ loc:=[],keep:=[] },own:=false,crow:=[],cuts:=[],live:=[],coe:=[],nt:=12 }),
 (51,{ a:={ loc:=[],keep:=[] },own:=false,crow:=[],cuts:=[],live:=[],coe:=[],nt:=9 }),
 (52,{ a:={ loc:=[],keep:=[] },own:=false,crow:=[],cuts:=[],live:=[],coe:=[],nt:=9 }),
 (53,{ a:={ loc:=[],keep:=[(0,[0,1,5,8,9,10],[])] },own:=false,crow:=[],cuts:=[],live:=[(0,[0,1,5,8,9,10],[]),(2,[0],[]),(3,[4],[])],coe:=[(0,[((0,0,0),3,true),((0,8,0),3,true)])],nt:=27 }),
 (54,{ a:={ loc:=[],keep:=[],ro:=[66] },own:=false,crow:=[],cuts:=[],live:=[],coe:=[],nt:=9 }),
 (55,{ a:={ loc:=[],keep:=[],hst:=[2,13],ro:=[56],gr:=[33] },own:=false,crow:=[],cuts:=[],live:=[],coe:=[],nt:=23 }),
 (56,{ a:={ loc:=[],keep:=[],ro:=[73,74] },own:=false,crow:=[],cuts:=[],live:=[],coe:=[],nt:=29 }),
 (57,{ a:={ loc:=[],keep:=[] },own:=false,crow:=[],cuts:=[],live:=[],coe:=[],nt:=25 }),
 (58,{ a:={ loc:=[6,25],keep:=[],hst:=[20,30] },own:=false,crow:=[],cuts:=[],live:=[],coe:=[],nt:=39 }),
 (59,{ a:={ loc:=[],keep:=[(0,[0,3,4],[])] },own:=false,crow:=[],cuts:=[],live:=[(0,[0,3,4],[]),(2,[3],[]),(3,[2],[])],coe:=[(0,[((0,0,0),3,true)])],nt:=25 }),
 (60,{ a:={ loc:=[],keep:=[(0,[1,5,23,24,25],[]),(2,[1,5,6,23,24,25,30,31,32],[]),(4,[1,5,6,8,23,24,25,30,31,32,37,38,39],[])],hst:=[45,49,52,55],fsh:=[5,18,43,55] },own:=false,crow:=[],cuts:=[],live:=[(0,[1,5,23,24,25],[]),(2,[5],[]),(3,[4],[]),(16,[1,5,6,23,24,25,30,31,32],[]),(18,[1,5,23,24,25],[]),(19,[4],[]),(32,[1,5,6,8,23,24,25,30,31,32,37,38,39],[]),(34,[1,5,6,23,24,25,30,31,32],[]),(35,[4],[])],coe:=[(0,[((0,1,0),22,true),((0,5,0),3,true),((0,23,0),31,true)]),(16,[((0,1,0),22,true),((0,5,0),3,true),((0,23,0),31,true),((0,30,0),22,true)]),(32,[((0,1,0),22,true),((0,5,0),3,true),((0,23,0),31,true),((0,30,0),22,true),((0,37,0),3,true)])],nt:=60 }),
 (61,{ a:={ loc:=[],keep:=[(0,[0,1,5,8,9,10],[])] },own:=false,crow:=[],cuts:=[],live:=[(0,[0,1,5,8,9,10],[]),(2,[5],[]),(3,[4],[])],coe:=[(0,[((0,1,0),3,true),((0,8,0),3,true)])],nt:=50 }),
 (63,{ a:={ loc:=[],keep:=[],ro:=[43] },own:=false,crow:=[],cuts:=[],live:=[],coe:=[],nt:=5 }),
 (64,{ a:={ loc:=[],keep:=[],ro:=[43] },own:=false,crow:=[],cuts:=[],live:=[],coe:=[],nt:=5 }),
 (65,{ a:={ loc:=[],keep:=[] },own:=false,crow:=[],cuts:=[],live:=[],coe:=[],nt:=6 }),
 (66,{ a:={ loc:=[],keep:=[],ro:=[77] },own:=false,crow:=[],cuts:=[],live:=[],coe:=[],nt:=9 }),
 (67,{ a:={ loc:=[],keep:=[],ro:=[48,63,64],rov:=true },own:=false,crow:=[],cuts:=[],live:=[],coe:=[],nt:=8 }),
 (68,{ a:={ loc:=[],keep:=[] },own:=false,crow:=[],cuts:=[],live:=[],coe:=[],nt:=9 }),
 (69,{ a:={ loc:=[],keep:=[] },own:=false,crow:=[],cuts:=[],live:=[],coe:=[],nt:=8 }),
 (70,{ a:={ loc:=[],keep:=[] },own:=false,crow:=[],cuts:=[],live:=[],coe:=[],nt:=9 }),
 (71,{ a:={ loc:=[],keep:=[] },own:=false,crow:=[],cuts:=[],live:=[],coe:=[],nt:=8 }),
 (72,{ a:={ loc:=[],keep:=[] },own:=false,crow:=[],cuts:=[],live:=[],coe:=[],nt:=13 }),
 (73,{ a:={ loc:=[],keep:=[] },own:=false,crow:=[],cuts:=[],live:=[],coe:=[],nt:=51 }),
 (74,{ a:={ loc:=[],keep:=[(0,[2,8,9,10,11,13,14,15,16],[]),(2,[2,8,9,10,14,15,16,17,18],[])],ro:=[80] },own:=false,crow:=[],cuts:=[9,12,15,16,21,22,23,28],live:=[(0,[2,8,9,10,11,13,14,15,16],[]),(2,[2,8,9,10,11,13,14,15],[]),(3,[6,7],[]),(16,[2,8,9,10,14,15,16,17,18],[]),(18,[2,8,14,15,17,18],[]),(19,[6,7],[]),(76,[0,1,2,8],[]),(77,[6,7],[]),(78,[6,7],[]),(79,[6,7],[]),(100,[1,2,8,9,10,11],[]),(101,[6,7],[]),(102,[6,7],[]),(103,[6,7],[]),(124,[2,8,9,10,11,13,14],[]),(125,[6,7],[]),(126,[6,7],[]),(127,[6,7],[]),(132,[2,8,9,10,11,13,14,15],[]),(133,[6,7],[]),(134,[6,7],[]),(135,[6,7],[]),(172,[2,8,9,10,11,13,14,15],[]),(173,[6,7],[]),(174,[6,7],[]),(175,[6,7],[]),(180,[2,8,9,10,14,15,17],[]),(181,[6,7],[]),(182,[6,7],[]),(183,[6,7],[]),(188,[2,8,9,10,14,15,17,18],[]),(189,[6,7],[]),(190,[6,7],[]),(191,[6,7],[]),(228,[2,8,14,15,17,18],[]),(229,[6,7],[]),(230,[6,7],[]),(231,[6,7],[])],coe:=[],nt:=135 }),
 (75,{ a:={ loc:=[6,10,41,42,95,105,126,128,134],keep:=[(0,[2,3,6,10,11,12,43,44,45],[6,10]),(2,[2,3,6,10,11,12,19,85,86,87],[6,10])],hst:=[3,98,111,119,124],rt:=[(105,10)],gr:=[31,33,60] },own:=false,crow:=[],cuts:=[4,5,18,26],live:=[(0,[2,3,6,10,11,12,43,44,45],[6,10]),(2,[2,3,6,10,11,12],[6,10]),(3,[6,7],[6]),(16,[2,3,6,10,11,12,19,85,86,87],[6,10]),(18,[3,6,10],[6,10]),(19,[6,7],[6]),(36,[2,3,4,6,8,9,10],[6,10]),(37,[6,7],[6]),(38,[6,7],[6]),(39,[6,7],[6]),(44,[2,3,6,10],[6,10]),(45,[6,7],[6]),(46,[6,7],[6]),(47,[6,7],[6]),(148,[2,3,6,10,11,12,19],[6,10]),(149,[6,7],[6]),(150,[6,7],[6]),(151,[6,7],[6]),(212,[3,6,10],[6,10]),(213,[6,7],[6]),(214,[6,7],[6]),(215,[6,7],[6])],coe:=[(0,[((0,2,0),3,true),((0,43,0),22,true),((1,6,0),22,true),((1,6,1),3,true),((1,10,0),22,true),((1,10,1),3,true)]),(16,[((0,2,0),3,true),((0,19,0),3,true),((0,85,0),3,true),((1,6,0),22,true),((1,6,1),3,true),((1,10,0),22,true),((1,10,1),3,true)]),(36,[((0,2,0),3,true),((1,6,0),22,true),((1,6,1),3,true),((1,10,0),22,true),((1,10,1),3,true)]),(44,[((0,2,0),3,true),((1,6,0),22,true),((1,6,1),3,true),((1,10,0),22,true),((1,10,1),3,true)]),(148,[((0,2,0),3,true),((0,19,0),3,true),((1,6,0),22,true),((1,6,1),3,true),((1,10,0),22,true),((1,10,1),3,true)]),(212,[((1,6,0),22,true),((1,6,1),3,true),((1,10,0),22,true),((1,10,1),3,true)])],nt:=138 }),
 (76,{ a:={ loc:=[],keep:=[(0,[0,2,9,10,11],[]),(2,[0,2,4,9,10,11,16,17,18],[])] },own:=false,crow:=[],cuts:=[],live:=[(0,[0,2,9,10,11],[]),(2,[],[]),(3,[],[]),(16,[0,2,4,9,10,11,16,17,18],[]),(18,[0,2,9,10,11],[]),(19,[],[])],coe:=[(0,[((0,9,0),31,true)]),(16,[((0,9,0),31,true),((0,16,0),22,true)])],nt:=38 }),
 (77,{ a:={ loc:=[],keep:=[(0,[0,1,7,8],[])],ro:=[67,72],rov:=true },own:=false,crow:=[],cuts:=[],live:=[(0,[0,1,7,8],[]),(2,[],[]),(3,[4],[])],coe:=[(0,[((0,0,0),3,true)])],nt:=19 }),
 (78,{ a:={ loc:=[],keep:=[(0,[0,1,7,8],[])] },own:=false,crow:=[],cuts:=[],live:=[(0,[0,1,7,8],[]),(2,[],[]),(3,[4],[])],coe:=[(0,[((0,0,0),31,true)])],nt:=19 }),
 (79,{ a:={ loc:=[],keep:=[(0,[0,1,7,8],[])] },own:=false,crow:=[],cuts:=[],live:=[(0,[0,1,7,8],[]),(2,[],[]),(3,[4],[])],coe:=[(0,[((0,0,0),22,true)])],nt:=19 }),
 (80,{ a:={ loc:=[],keep:=[],ro:=[84] },own:=false,crow:=[],cuts:=[],live:=[],coe:=[],nt:=6 }),
 (81,{ a:={ loc:=[],keep:=[],hst:=[2,3,4,5,11,14,19,22,27],ro:=[56] },own:=false,crow:=[],cuts:=[],live:=[],coe:=[],nt:=30 }),
 (82,{ a:={ loc:=[],keep:=[(0,[3,6,7,8],[])] },own:=false,crow:=[],cuts:=[],live:=[(0,[3,6,7,8],[]),(2,[3],[]),(3,[2],[])],coe:=[(0,[((0,6,0),3,true)])],nt:=17 }),
 (83,{ a:={ loc:=[],keep:=[] },own:=false,crow:=[],cuts:=[],live:=[],coe:=[],nt:=5 }),
 (84,{ a:={ loc:=[],keep:=[] },own:=false,crow:=[],cuts:=[4,7,10],live:=[(36,[0,2],[]),(37,[2],[]),(38,[2],[]),(39,[2],[]),(60,[0,2],[]),(61,[2],[]),(62,[2],[]),(63,[2],[]),(84,[0,2],[]),(85,[2],[]),(86,[2],[]),(87,[2],[])],coe:=[],nt:=25 })]
abbrev zP:=Try.prog
theorem names:yc zP=true:=by kernel_rfl
theorem mixed:zP.follows .mixedOrders=true:=by kernel_rfl
def S0:Lv zP base:=⟨[],[],tn_nil (by kernel_rfl)⟩
abbrev kd0 (l:LI):TC:=.d 3 iT l
abbrev vd0 (l:LI):TV:=.v (.sc (kd0 l))
section
variable {β:Type} (y:LI->Int->LI->Int->Int->Option β) (z:Int->Option β) (x0:LI) (x1:Int) (x2:LI) (x3 x4:Int)
def gG:Option β:=(cond (decide (x4 < x3)) (ck x4 (x2.length:Int) (ck (List.getD x2 x4.toNat 0) (x0.length:Int) (y x0 (wI (x1+List.getD x0 (List.getD x2 x4.toNat 0).toNat 0)) x2 x3 (wI (x4+1))))) (z x1))
def jo:=itL (fun _ _ _ _ _=>none) fun f=>gG f some
theorem SK (n:Nat):jo (n+1)=gG (jo n) some:=rfl
def Hz:Int->Ex×CS:=fun r=>((.exit 0),⟨[(5,vI r)],[],[],0,false⟩)
abbrev Sa:CS:=⟨[(1,vd0 x0),(5,vI x1),(8,vd0 x2),(9,vI x3),(10,vI x4)],[],[],0,false⟩
theorem qeK {k m n:Nat} {r:Int} (h:jo n x0 x1 x2 x3 x4=some r):lE S0 29 0 k (n+m) (Sa x0 x1 x2 x3 x4)=some (Hz r):=by
 induction n generalizing x1 x4 with
 |zero=>cases h
 |succ n ih=>
 exact lS (gG (fun x0 x1 x2 x3 x4=>lE S0 29 0 k (n+m) (Sa x0 x1 x2 x3 x4)) (sm Hz) x0 x1 x2 x3 x4) (by kernel_rfl) (by rw [SK];unfold gG;with_reducible repeat' first|apply zd|exact ih _ _|exact nX|exact sX) h
end
def S1:=S0.lp 29 0 (Sa [] 0 [] 0 0) (fun x0 x1 x2 x3 x4=>some (y1 (jo FU x0 x1 x2 x3 x4) Hz)) (by kernel_rfl) fun _=>w1 fun h=>qeK _ _ _ _ _ h
section
variable {β:Type} (z:Int->Option β) (x0 x1:LI)
def tv29:Option β:=(ob (jo FU x1 0 x0 (x0.length:Int) 0) fun r1=>(z r1))
def v29:=tv29 some x0 x1
abbrev aF29:List TA:=[.sc (kd0 x0),.sc (kd0 x1)]
abbrev rF29:Int->List TA×List TO:=fun r=>([.sc (I4 r)],[])
theorem ev29:fE S1 29 (aF29 x0 x1) []=(v29 x0 x1).bind (sm rF29):=zE (fun z=>tv29 z x0 x1) (by kernel_rfl) fun K=>by unfold v29 tv29;with_reducible repeat' first|apply zc|exact nB|exact sB
end
def S2:=S1.fn 29 (aF29 [] []) [] (fun x0 x1=>some (y1 (v29 x0 x1) rF29)) rfl fun _=>w1 fun h=>(ev29 ..).trans (bD h)
section
variable {β:Type} (z:Bool->Option β) (x0 x1 x2:Int)
def tv43:Option β:=(cond (decide (x1<=x0)) (z (decide (x0<=x2))) (z false))
def v43:=tv43 some x0 x1 x2
abbrev aF43:List TA:=[.sc (I4 x0),.sc (I4 x1),.sc (I4 x2)]
abbrev rF43:Bool->List TA×List TO:=fun r=>([.sc (.bool r)],[])
theorem ev43:fE S2 43 (aF43 x0 x1 x2) []=(v43 x0 x1 x2).bind (sm rF43):=zE (fun z=>tv43 z x0 x1 x2) (by kernel_rfl) fun K=>by unfold v43 tv43;with_reducible repeat' first|apply zc|exact nB|exact sB
end
def S3:=S2.fn 43 (aF43 0 0 0) [] (fun x0 x1 x2=>some (y1 (v43 x0 x1 x2) rF43)) rfl fun _=>w1 fun h=>(ev43 ..).trans (bD h)
section
variable {β:Type} (z:Bool->Option β) (x0:Int)
def tv48:Option β:=(ob (v43 x0 0 (1000:Int)) fun r1=>(z r1))
def v48:=tv48 some x0
abbrev aF48:List TA:=[.sc (I4 x0)]
abbrev rF48:Bool->List TA×List TO:=fun r=>([.sc (.bool r)],[])
theorem ev48:fE S3 48 (aF48 x0) []=(v48 x0).bind (sm rF48):=zE (fun z=>tv48 z x0) (by kernel_rfl) fun K=>by unfold v48 tv48;with_reducible repeat' first|apply zc|exact nB|exact sB
end
def S4:=S3.fn 48 (aF48 0) [] (fun x0=>some (y1 (v48 x0) rF48)) rfl fun _=>w1 fun h=>(ev48 ..).trans (bD h)
section
variable {β:Type} (z:Bool->Option β) (x0:Int)
def tv67:Option β:=(ob (v48 x0) fun r1=>(z (!r1)))
def v67:=tv67 some x0
abbrev aF67:List TA:=[.sc (I4 x0),.sc (.ptr 0 0)]
abbrev hF67:List TO:=[.box 67 [.fn 48 0 [] []]]
abbrev rF67:Bool->List TA×List TO:=fun r=>([.sc (.bool r)],[.box 67 [.fn 48 0 [] []]])
theorem ev67:fE S4 67 (aF67 x0) hF67=(v67 x0).bind (sm rF67):=zE (fun z=>tv67 z x0) (by kernel_rfl) fun K=>by unfold v67 tv67;with_reducible repeat' first|apply zc|exact nB|exact sB
end
def S5:=S4.fn 67 (aF67 0) hF67 (fun x0=>some (y1 (v67 x0) rF67)) rfl fun _=>w1 fun h=>(ev67 ..).trans (bD h)
section
variable {β:Type} (y:LI->Int->Int->Option β) (z:(Int ⊕ Unit)->Option β) (x0:LI) (x1 x2:Int)
def gW:Option β:=(cond (decide (x2 < x1)) (ck x2 (x0.length:Int) (ob (v67 (List.getD x0 x2.toNat 0)) fun r1=>(cond r1 (z (.inl (x2))) (y x0 x1 (wI (x2+1)))))) (z (.inr ())))
def jB:=itL (fun _ _ _=>none) fun f=>gW f some
theorem Hg (n:Nat):jB (n+1)=gW (jB n) some:=rfl
def HX:(Int ⊕ Unit)->Ex×CS:=Sum.elim (fun r=>(.ret,⟨[(4,vI r)],[],[.box 67 [.fn 48 0 [] []]],1,true⟩)) fun r=>((.exit 0),⟨[],[],[.box 67 [.fn 48 0 [] []]],1,false⟩)
abbrev Sz:CS:=⟨[(0,vd0 x0),(1,.v (.sc (.fn 67 0 [none] [.ptr 0 0]))),(7,vI x1),(8,vI x2)],[],[.box 67 [.fn 48 0 [] []]],1,false⟩
theorem qe7 {k m n:Nat} {r:Int ⊕ Unit} (h:jB n x0 x1 x2=some r):lE S5 77 0 k (n+m) (Sz x0 x1 x2)=some (HX r):=by
 induction n generalizing x2 with
 |zero=>cases h
 |succ n ih=>
 exact lS (gW (fun x0 x1 x2=>lE S5 77 0 k (n+m) (Sz x0 x1 x2)) (sm HX) x0 x1 x2) (by kernel_rfl) (by rw [Hg];unfold gW;with_reducible repeat' first|apply zd|exact ih _|exact nX|exact sX) h
end
def S6:=S5.lp 77 0 (Sz [] 0 0) (fun x0 x1 x2=>some (y2 (jB FU x0 x1 x2) HX)) (by kernel_rfl) fun _=>w2 fun h=>qe7 _ _ _ h
section
variable {β:Type} (z:Int->Option β) (x0:LI)
def tv77:Option β:=(cond (isL (jB FU x0 (x0.length:Int) 0)) (z (zx (jB FU x0 (x0.length:Int) 0))) (ob (zB (jB FU x0 (x0.length:Int) 0)) fun _=>(z ((-1:Int)))))
def v77:=tv77 some x0
abbrev aF77:List TA:=[.sc (kd0 x0),.sc (.fn 67 0 [none] [.ptr 0 0])]
abbrev hF77:List TO:=[.box 67 [.fn 48 0 [] []]]
abbrev rF77:Int->List TA×List TO:=fun r=>([.sc (I4 r)],[.box 67 [.fn 48 0 [] []]])
theorem ev77:fE S6 77 (aF77 x0) hF77=(v77 x0).bind (sm rF77):=zE (fun z=>tv77 z x0) (by kernel_rfl) fun K=>by unfold v77 tv77;with_reducible repeat' first|apply zc|exact nB|exact sB
end
def S7:=S6.fn 77 (aF77 []) hF77 (fun x0=>some (y1 (v77 x0) rF77)) rfl fun _=>w1 fun h=>(ev77 ..).trans (bD h)
section
variable {β:Type} (z:Bool->Option β) (x0:LI)
def tv66:Option β:=(ob (v77 x0) fun r1=>(z (decide (r1≥0))))
def v66:=tv66 some x0
abbrev aF66:List TA:=[.sc (kd0 x0),.sc (.fn 67 0 [none] [.ptr 0 0])]
abbrev hF66:List TO:=[.box 67 [.fn 48 0 [] []]]
abbrev rF66:Bool->List TA×List TO:=fun r=>([.sc (.bool r)],[.box 67 [.fn 48 0 [] []]])
theorem ev66:fE S7 66 (aF66 x0) hF66=(v66 x0).bind (sm rF66):=zE (fun z=>tv66 z x0) (by kernel_rfl) fun K=>by unfold v66 tv66;with_reducible repeat' first|apply zc|exact nB|exact sB
end
def S8:=S7.fn 66 (aF66 []) hF66 (fun x0=>some (y1 (v66 x0) rF66)) rfl fun _=>w1 fun h=>(ev66 ..).trans (bD h)
section
variable {β:Type} (z:Bool->Option β) (x0:LI)
def tv47:Option β:=(ob (v66 x0) fun r1=>(z (!r1)))
def v47:=tv47 some x0
abbrev aF47:List TA:=[.sc (kd0 x0),.sc (.fn 48 0 [] [])]
abbrev rF47:Bool->List TA×List TO:=fun r=>([.sc (.bool r)],[])
theorem ev47:fE S8 47 (aF47 x0) []=(v47 x0).bind (sm rF47):=zE (fun z=>tv47 z x0) (by kernel_rfl) fun K=>by unfold v47 tv47;with_reducible repeat' first|apply zc|exact nB|exact sB
end
def S9:=S8.fn 47 (aF47 []) [] (fun x0=>some (y1 (v47 x0) rF47)) rfl fun _=>w1 fun h=>(ev47 ..).trans (bD h)
section
variable {β:Type} (y:LI->Int->Int->LI->Int->Int->Option β) (z:(Bool ⊕ Unit)->Option β) (x0:LI) (x1 x2:Int) (x3:LI) (x4 x5:Int)
def gO:Option β:=(cond (decide (x5 < x4)) (ck x5 (x3.length:Int) (cond (decide (List.getD x3 x5.toNat 0<=x2)) (z (.inl (false))) (cond (decide (List.getD x3 x5.toNat 0≥x1)) (z (.inl (false))) (y x0 x1 (List.getD x3 x5.toNat 0) x3 x4 (wI (x5+1)))))) (z (.inr ())))
def j4:=itL (fun _ _ _ _ _ _=>none) fun f=>gO f some
theorem SX (n:Nat):j4 (n+1)=gO (j4 n) some:=rfl
def HL:(Bool ⊕ Unit)->Ex×CS:=Sum.elim (fun r=>(.ret,⟨[(4,vB r)],[],[],0,true⟩)) fun r=>((.exit 0),⟨[(0,vd0 x0)],[],[],0,false⟩)
abbrev So:CS:=⟨[(0,vd0 x0),(1,vI x1),(5,vI x2),(8,vd0 x3),(9,vI x4),(10,vI x5)],[],[],0,false⟩
theorem qeW {k m n:Nat} {r:Bool ⊕ Unit} (h:j4 n x0 x1 x2 x3 x4 x5=some r):lE S9 53 0 k (n+m) (So x0 x1 x2 x3 x4 x5)=some (HL x0 r):=by
 induction n generalizing x2 x5 with
 |zero=>cases h
 |succ n ih=>
 exact lS (gO (fun x0 x1 x2 x3 x4 x5=>lE S9 53 0 k (n+m) (So x0 x1 x2 x3 x4 x5)) (sm (HL x0)) x0 x1 x2 x3 x4 x5) (by kernel_rfl) (by rw [SX];unfold gO;with_reducible repeat' first|apply zd|exact ih _ _|exact nX|exact sX) h
end
def S10:=S9.lp 53 0 (So [] 0 0 [] 0 0) (fun x0 x1 x2 x3 x4 x5=>some (y2 (j4 FU x0 x1 x2 x3 x4 x5) (HL x0))) (by kernel_rfl) fun _=>w2 fun h=>qeW _ _ _ _ _ _ h
section
variable {β:Type} (z:Bool->Option β) (x0:LI) (x1:Int)
def tv53:Option β:=(cond (isL (j4 FU x0 x1 (-1:Int) x0 (x0.length:Int) 0)) (z (zx (j4 FU x0 x1 (-1:Int) x0 (x0.length:Int) 0))) (ob (zB (j4 FU x0 x1 (-1:Int) x0 (x0.length:Int) 0)) fun _=>(ob (v43 (x0.length:Int) (1:Int) (6:Int)) fun r2=>(z r2))))
def v53:=tv53 some x0 x1
abbrev aF53:List TA:=[.sc (kd0 x0),.sc (I4 x1)]
abbrev rF53:Bool->List TA×List TO:=fun r=>([.sc (.bool r)],[])
theorem ev53:fE S10 53 (aF53 x0 x1) []=(v53 x0 x1).bind (sm rF53):=zE (fun z=>tv53 z x0 x1) (by kernel_rfl) fun K=>by unfold v53 tv53;with_reducible repeat' first|apply zc|exact nB|exact sB
end
def S11:=S10.fn 53 (aF53 [] 0) [] (fun x0 x1=>some (y1 (v53 x0 x1) rF53)) rfl fun _=>w1 fun h=>(ev53 ..).trans (bD h)
abbrev yT0:Ty:=.list 3 iT
abbrev yT1:Ty:=.list 22 yT0
abbrev kd1 (l:L3):TC:=.d 31 yT1 l
section
variable {β:Type} (z:Bool->Option β) (x0 x1:LI) (x2:L3)
def tv52:Option β:=(ob (v53 x0 (x1.length:Int)) fun r1=>(z r1))
def v52 (x0 x1:LI) (x2:L3):Option Bool:=tv52 some x0 x1
abbrev aF52:List TA:=[.sc (kd0 x0),.sc (.ptr 0 0)]
abbrev hF52:List TO:=[.box 25 [kd0 x1,kd1 x2]]
abbrev rF52:Bool->List TA×List TO:=fun r=>([.sc (.bool r)],[.box 25 [kd0 x1,kd1 x2]])
theorem ev52:fE S11 52 (aF52 x0) (hF52 x1 x2)=(v52 x0 x1 x2).bind (sm (rF52 x1 x2)):=zE (fun z=>tv52 z x0 x1) (by kernel_rfl) fun K=>by unfold v52 tv52;with_reducible repeat' first|apply zc|exact nB|exact sB
end
def S12:=S11.fn 52 (aF52 []) (hF52 [] []) (fun x0 x1 x2=>some (y1 (v52 x0 x1 x2) (rF52 x1 x2))) rfl fun _=>w1 fun h=>(ev52 ..).trans (bD h)
section
variable {β:Type} (z:Bool->Option β) (x0 x1:LI) (x2:L3)
def tv71:Option β:=(ob (v52 x0 x1 x2) fun r1=>(z (!r1)))
def v71:=tv71 some x0 x1 x2
abbrev aF71:List TA:=[.sc (kd0 x0),.sc (.ptr 0 0)]
abbrev hF71:List TO:=[.box 70 [.fn 52 0 [none] [.ptr 1 0]],.box 25 [kd0 x1,kd1 x2]]
abbrev rF71:Bool->List TA×List TO:=fun r=>([.sc (.bool r)],[.box 70 [.fn 52 0 [none] [.ptr 1 0]],.box 25 [kd0 x1,kd1 x2]])
theorem ev71:fE S12 71 (aF71 x0) (hF71 x1 x2)=(v71 x0 x1 x2).bind (sm (rF71 x1 x2)):=zE (fun z=>tv71 z x0 x1 x2) (by kernel_rfl) fun K=>by unfold v71 tv71;with_reducible repeat' first|apply zc|exact nB|exact sB
end
def S13:=S12.fn 71 (aF71 []) (hF71 [] []) (fun x0 x1 x2=>some (y1 (v71 x0 x1 x2) (rF71 x1 x2))) rfl fun _=>w1 fun h=>(ev71 ..).trans (bD h)
abbrev kd2 (l:LL):TC:=.d 22 yT0 l
abbrev vd1 (l:LL):TV:=.v (.sc (kd2 l))
section
variable {β:Type} (y:LL->Int->Int->LI->L3->Option β) (z:(Int ⊕ Unit)->Option β) (x0:LL) (x1 x2:Int) (x3:LI) (x4:L3)
def g9:Option β:=(cond (decide (x2 < x1)) (ck x2 (x0.length:Int) (ob (v71 (List.getD x0 x2.toNat []) x3 x4) fun r1=>(cond r1 (z (.inl (x2))) (y x0 x1 (wI (x2+1)) x3 x4)))) (z (.inr ())))
def jG:=itL (fun _ _ _ _ _=>none) fun f=>g9 f some
theorem Hl (n:Nat):jG (n+1)=g9 (jG n) some:=rfl
def H7:(Int ⊕ Unit)->Ex×CS:=Sum.elim (fun r=>(.ret,⟨[(4,vI r)],[],[.box 70 [.fn 52 0 [none] [.ptr 1 0]],.box 25 [kd0 x3,kd1 x4]],2,true⟩)) fun r=>((.exit 0),⟨[],[],[.box 70 [.fn 52 0 [none] [.ptr 1 0]],.box 25 [kd0 x3,kd1 x4]],2,false⟩)
abbrev SE:CS:=⟨[(0,vd1 x0),(1,.v (.sc (.fn 71 0 [none] [.ptr 0 0]))),(7,vI x1),(8,vI x2)],[],[.box 70 [.fn 52 0 [none] [.ptr 1 0]],.box 25 [kd0 x3,kd1 x4]],2,false⟩
theorem qfc {k m n:Nat} {r:Int ⊕ Unit} (h:jG n x0 x1 x2 x3 x4=some r):lE S13 79 0 k (n+m) (SE x0 x1 x2 x3 x4)=some (H7 x3 x4 r):=by
 induction n generalizing x2 with
 |zero=>cases h
 |succ n ih=>
 exact lS (g9 (fun x0 x1 x2 x3 x4=>lE S13 79 0 k (n+m) (SE x0 x1 x2 x3 x4)) (sm (H7 x3 x4)) x0 x1 x2 x3 x4) (by kernel_rfl) (by rw [Hl];unfold g9;with_reducible repeat' first|apply zd|exact ih _|exact nX|exact sX) h
end
def S14:=S13.lp 79 0 (SE [] 0 0 [] []) (fun x0 x1 x2 x3 x4=>some (y2 (jG FU x0 x1 x2 x3 x4) (H7 x3 x4))) (by kernel_rfl) fun _=>w2 fun h=>qfc _ _ _ _ _ h
section
variable {β:Type} (z:Int->Option β) (x0:LL) (x1:LI) (x2:L3)
def tv79:Option β:=(cond (isL (jG FU x0 (x0.length:Int) 0 x1 x2)) (z (zx (jG FU x0 (x0.length:Int) 0 x1 x2))) (ob (zB (jG FU x0 (x0.length:Int) 0 x1 x2)) fun _=>(z ((-1:Int)))))
def v79:=tv79 some x0 x1 x2
abbrev aF79:List TA:=[.sc (kd2 x0),.sc (.fn 71 0 [none] [.ptr 0 0])]
abbrev hF79:List TO:=[.box 70 [.fn 52 0 [none] [.ptr 1 0]],.box 25 [kd0 x1,kd1 x2]]
abbrev rF79:Int->List TA×List TO:=fun r=>([.sc (I4 r)],[.box 70 [.fn 52 0 [none] [.ptr 1 0]],.box 25 [kd0 x1,kd1 x2]])
theorem ev79:fE S14 79 (aF79 x0) (hF79 x1 x2)=(v79 x0 x1 x2).bind (sm (rF79 x1 x2)):=zE (fun z=>tv79 z x0 x1 x2) (by kernel_rfl) fun K=>by unfold v79 tv79;with_reducible repeat' first|apply zc|exact nB|exact sB
end
def S15:=S14.fn 79 (aF79 []) (hF79 [] []) (fun x0 x1 x2=>some (y1 (v79 x0 x1 x2) (rF79 x1 x2))) rfl fun _=>w1 fun h=>(ev79 ..).trans (bD h)
section
variable {β:Type} (z:Bool->Option β) (x0:LL) (x1:LI) (x2:L3)
def tv70:Option β:=(ob (v79 x0 x1 x2) fun r1=>(z (decide (r1≥0))))
def v70:=tv70 some x0 x1 x2
abbrev aF70:List TA:=[.sc (kd2 x0),.sc (.fn 71 0 [none] [.ptr 0 0])]
abbrev hF70:List TO:=[.box 70 [.fn 52 0 [none] [.ptr 1 0]],.box 25 [kd0 x1,kd1 x2]]
abbrev rF70:Bool->List TA×List TO:=fun r=>([.sc (.bool r)],[.box 70 [.fn 52 0 [none] [.ptr 1 0]],.box 25 [kd0 x1,kd1 x2]])
theorem ev70:fE S15 70 (aF70 x0) (hF70 x1 x2)=(v70 x0 x1 x2).bind (sm (rF70 x1 x2)):=zE (fun z=>tv70 z x0 x1 x2) (by kernel_rfl) fun K=>by unfold v70 tv70;with_reducible repeat' first|apply zc|exact nB|exact sB
end
def S16:=S15.fn 70 (aF70 []) (hF70 [] []) (fun x0 x1 x2=>some (y1 (v70 x0 x1 x2) (rF70 x1 x2))) rfl fun _=>w1 fun h=>(ev70 ..).trans (bD h)
section
variable {β:Type} (z:Bool->Option β) (x0:LL) (x1:LI) (x2:L3)
def tv51:Option β:=(ob (v70 x0 x1 x2) fun r1=>(z (!r1)))
def v51:=tv51 some x0 x1 x2
abbrev aF51:List TA:=[.sc (kd2 x0),.sc (.fn 52 0 [none] [.ptr 0 0])]
abbrev hF51:List TO:=[.box 25 [kd0 x1,kd1 x2]]
abbrev rF51:Bool->List TA×List TO:=fun r=>([.sc (.bool r)],[.box 25 [kd0 x1,kd1 x2]])
theorem ev51:fE S16 51 (aF51 x0) (hF51 x1 x2)=(v51 x0 x1 x2).bind (sm (rF51 x1 x2)):=zE (fun z=>tv51 z x0 x1 x2) (by kernel_rfl) fun K=>by unfold v51 tv51;with_reducible repeat' first|apply zc|exact nB|exact sB
end
def S17:=S16.fn 51 (aF51 []) (hF51 [] []) (fun x0 x1 x2=>some (y1 (v51 x0 x1 x2) (rF51 x1 x2))) rfl fun _=>w1 fun h=>(ev51 ..).trans (bD h)
section
variable {β:Type} (z:Bool->Option β) (x0:LL) (x1:LI) (x2:L3)
def tv50:Option β:=(ob (v43 (x0.length:Int) (1:Int) (4:Int)) fun r1=>(cond r1 (ob (v51 x0 x1 x2) fun r2=>(z r2)) (z false)))
def v50:=tv50 some x0 x1 x2
abbrev aF50:List TA:=[.sc (kd2 x0),.sc (.ptr 0 0)]
abbrev hF50:List TO:=[.box 25 [kd0 x1,kd1 x2]]
abbrev rF50:Bool->List TA×List TO:=fun r=>([.sc (.bool r)],[.box 25 [kd0 x1,kd1 x2]])
theorem ev50:fE S17 50 (aF50 x0) (hF50 x1 x2)=(v50 x0 x1 x2).bind (sm (rF50 x1 x2)):=zE (fun z=>tv50 z x0 x1 x2) (by kernel_rfl) fun K=>by unfold v50 tv50;with_reducible repeat' first|apply zc|exact nB|exact sB
end
def S18:=S17.fn 50 (aF50 []) (hF50 [] []) (fun x0 x1 x2=>some (y1 (v50 x0 x1 x2) (rF50 x1 x2))) rfl fun _=>w1 fun h=>(ev50 ..).trans (bD h)
section
variable {β:Type} (z:Bool->Option β) (x0:LL) (x1:LI) (x2:L3)
def tv69:Option β:=(ob (v50 x0 x1 x2) fun r1=>(z (!r1)))
def v69:=tv69 some x0 x1 x2
abbrev aF69:List TA:=[.sc (kd2 x0),.sc (.ptr 0 0)]
abbrev hF69:List TO:=[.box 71 [.fn 50 0 [none] [.ptr 1 0]],.box 25 [kd0 x1,kd1 x2]]
abbrev rF69:Bool->List TA×List TO:=fun r=>([.sc (.bool r)],[.box 71 [.fn 50 0 [none] [.ptr 1 0]],.box 25 [kd0 x1,kd1 x2]])
theorem ev69:fE S18 69 (aF69 x0) (hF69 x1 x2)=(v69 x0 x1 x2).bind (sm (rF69 x1 x2)):=zE (fun z=>tv69 z x0 x1 x2) (by kernel_rfl) fun K=>by unfold v69 tv69;with_reducible repeat' first|apply zc|exact nB|exact sB
end
def S19:=S18.fn 69 (aF69 []) (hF69 [] []) (fun x0 x1 x2=>some (y1 (v69 x0 x1 x2) (rF69 x1 x2))) rfl fun _=>w1 fun h=>(ev69 ..).trans (bD h)
abbrev vd2 (l:L3):TV:=.v (.sc (kd1 l))
section
variable {β:Type} (y:L3->Int->Int->LI->L3->Option β) (z:(Int ⊕ Unit)->Option β) (x0:L3) (x1 x2:Int) (x3:LI) (x4:L3)
def g8:Option β:=(cond (decide (x2 < x1)) (ck x2 (x0.length:Int) (ob (v69 (List.getD x0 x2.toNat []) x3 x4) fun r1=>(cond r1 (z (.inl (x2))) (y x0 x1 (wI (x2+1)) x3 x4)))) (z (.inr ())))
def jF:=itL (fun _ _ _ _ _=>none) fun f=>g8 f some
theorem Hk (n:Nat):jF (n+1)=g8 (jF n) some:=rfl
def H6:(Int ⊕ Unit)->Ex×CS:=Sum.elim (fun r=>(.ret,⟨[(4,vI r)],[],[.box 71 [.fn 50 0 [none] [.ptr 1 0]],.box 25 [kd0 x3,kd1 x4]],2,true⟩)) fun r=>((.exit 0),⟨[],[],[.box 71 [.fn 50 0 [none] [.ptr 1 0]],.box 25 [kd0 x3,kd1 x4]],2,false⟩)
abbrev SD:CS:=⟨[(0,vd2 x0),(1,.v (.sc (.fn 69 0 [none] [.ptr 0 0]))),(7,vI x1),(8,vI x2)],[],[.box 71 [.fn 50 0 [none] [.ptr 1 0]],.box 25 [kd0 x3,kd1 x4]],2,false⟩
theorem qfb {k m n:Nat} {r:Int ⊕ Unit} (h:jF n x0 x1 x2 x3 x4=some r):lE S19 78 0 k (n+m) (SD x0 x1 x2 x3 x4)=some (H6 x3 x4 r):=by
 induction n generalizing x2 with
 |zero=>cases h
 |succ n ih=>
 exact lS (g8 (fun x0 x1 x2 x3 x4=>lE S19 78 0 k (n+m) (SD x0 x1 x2 x3 x4)) (sm (H6 x3 x4)) x0 x1 x2 x3 x4) (by kernel_rfl) (by rw [Hk];unfold g8;with_reducible repeat' first|apply zd|exact ih _|exact nX|exact sX) h
end
def S20:=S19.lp 78 0 (SD [] 0 0 [] []) (fun x0 x1 x2 x3 x4=>some (y2 (jF FU x0 x1 x2 x3 x4) (H6 x3 x4))) (by kernel_rfl) fun _=>w2 fun h=>qfb _ _ _ _ _ h
section
variable {β:Type} (z:Int->Option β) (x0:L3) (x1:LI) (x2:L3)
def tv78:Option β:=(cond (isL (jF FU x0 (x0.length:Int) 0 x1 x2)) (z (zx (jF FU x0 (x0.length:Int) 0 x1 x2))) (ob (zB (jF FU x0 (x0.length:Int) 0 x1 x2)) fun _=>(z ((-1:Int)))))
def v78:=tv78 some x0 x1 x2
abbrev aF78:List TA:=[.sc (kd1 x0),.sc (.fn 69 0 [none] [.ptr 0 0])]
abbrev hF78:List TO:=[.box 71 [.fn 50 0 [none] [.ptr 1 0]],.box 25 [kd0 x1,kd1 x2]]
abbrev rF78:Int->List TA×List TO:=fun r=>([.sc (I4 r)],[.box 71 [.fn 50 0 [none] [.ptr 1 0]],.box 25 [kd0 x1,kd1 x2]])
theorem ev78:fE S20 78 (aF78 x0) (hF78 x1 x2)=(v78 x0 x1 x2).bind (sm (rF78 x1 x2)):=zE (fun z=>tv78 z x0 x1 x2) (by kernel_rfl) fun K=>by unfold v78 tv78;with_reducible repeat' first|apply zc|exact nB|exact sB
end
def S21:=S20.fn 78 (aF78 []) (hF78 [] []) (fun x0 x1 x2=>some (y1 (v78 x0 x1 x2) (rF78 x1 x2))) rfl fun _=>w1 fun h=>(ev78 ..).trans (bD h)
section
variable {β:Type} (z:Bool->Option β) (x0:L3) (x1:LI) (x2:L3)
def tv68:Option β:=(ob (v78 x0 x1 x2) fun r1=>(z (decide (r1≥0))))
def v68:=tv68 some x0 x1 x2
abbrev aF68:List TA:=[.sc (kd1 x0),.sc (.fn 69 0 [none] [.ptr 0 0])]
abbrev hF68:List TO:=[.box 71 [.fn 50 0 [none] [.ptr 1 0]],.box 25 [kd0 x1,kd1 x2]]
abbrev rF68:Bool->List TA×List TO:=fun r=>([.sc (.bool r)],[.box 71 [.fn 50 0 [none] [.ptr 1 0]],.box 25 [kd0 x1,kd1 x2]])
theorem ev68:fE S21 68 (aF68 x0) (hF68 x1 x2)=(v68 x0 x1 x2).bind (sm (rF68 x1 x2)):=zE (fun z=>tv68 z x0 x1 x2) (by kernel_rfl) fun K=>by unfold v68 tv68;with_reducible repeat' first|apply zc|exact nB|exact sB
end
def S22:=S21.fn 68 (aF68 []) (hF68 [] []) (fun x0 x1 x2=>some (y1 (v68 x0 x1 x2) (rF68 x1 x2))) rfl fun _=>w1 fun h=>(ev68 ..).trans (bD h)
section
variable {β:Type} (z:Bool->Option β) (x0:L3) (x1:LI) (x2:L3)
def tv49:Option β:=(ob (v68 x0 x1 x2) fun r1=>(z (!r1)))
def v49:=tv49 some x0 x1 x2
abbrev aF49:List TA:=[.sc (kd1 x0),.sc (.fn 50 0 [none] [.ptr 0 0])]
abbrev hF49:List TO:=[.box 25 [kd0 x1,kd1 x2]]
abbrev rF49:Bool->List TA×List TO:=fun r=>([.sc (.bool r)],[.box 25 [kd0 x1,kd1 x2]])
theorem ev49:fE S22 49 (aF49 x0) (hF49 x1 x2)=(v49 x0 x1 x2).bind (sm (rF49 x1 x2)):=zE (fun z=>tv49 z x0 x1 x2) (by kernel_rfl) fun K=>by unfold v49 tv49;with_reducible repeat' first|apply zc|exact nB|exact sB
end
def S23:=S22.fn 49 (aF49 []) (hF49 [] []) (fun x0 x1 x2=>some (y1 (v49 x0 x1 x2) (rF49 x1 x2))) rfl fun _=>w1 fun h=>(ev49 ..).trans (bD h)
section
variable {β:Type} (z:Bool->Option β) (x0:LI) (x1:L3)
def tv28:Option β:=(ob (v43 (x0.length:Int) (1:Int) (8:Int)) fun r1=>(cond (!r1) (z false) (ob (v43 (x1.length:Int) (1:Int) (8:Int)) fun r2=>(cond (!r2) (z false) (ob (v47 x0) fun r3=>(cond r3 (ob (v49 x1 x0 x1) fun r4=>(z r4)) (z false)))))))
def v28:=tv28 some x0 x1
abbrev aF28:List TA:=[.agg [kd0 x0,kd1 x1]]
abbrev rF28:Bool->List TA×List TO:=fun r=>([.sc (.bool r)],[])
theorem ev28:fE S23 28 (aF28 x0 x1) []=(v28 x0 x1).bind (sm rF28):=zE (fun z=>tv28 z x0 x1) (by kernel_rfl) fun K=>by unfold v28 tv28;with_reducible repeat' first|apply zc|exact nB|exact sB
end
def S24:=S23.fn 28 (aF28 [] []) [] (fun x0 x1=>some (y1 (v28 x0 x1) rF28)) rfl fun _=>w1 fun h=>(ev28 ..).trans (bD h)
section
variable {β:Type} (y:LI->Int->LI->Int->Int->LI->L3->Option β) (z:((Int × Int × Int) ⊕ Unit)->Option β) (x0:LI) (x1:Int) (x2:LI) (x3 x4:Int) (x5:LI) (x6:L3)
def JN:Option β:=(cond (decide (x4 < x3)) (ck x4 (x2.length:Int) (cond (decide (List.getD x2 x4.toNat 0 < 0)) (z (.inl (0,0,(1:Int)))) (cond (decide (List.getD x2 x4.toNat 0 > (1000000000000:Int))) (z (.inl (0,0,(1:Int)))) (y x0 x1 x2 x3 (wI (x4+1)) x5 x6)))) (z (.inr ())))
def jQ:=itL (fun _ _ _ _ _ _ _=>none) fun f=>JN f some
theorem qfi (n:Nat):jQ (n+1)=JN (jQ n) some:=rfl
def Ht:((Int×Int×Int) ⊕ Unit)->Ex×CS:=Sum.elim (fun r=>(.ret,⟨[(6,vI r.1),(7,vI r.2.1),(8,vI r.2.2)],[],[],0,true⟩)) fun r=>((.exit 0),⟨[(1,vd0 x0),(2,vI x1),(3,.l 3 0)],[(3,[kd0 x5,kd1 x6])],[],0,false⟩)
abbrev D6:CS:=⟨[(1,vd0 x0),(2,vI x1),(3,.l 3 0),(38,vd0 x2),(39,vI x3),(40,vI x4)],[(3,[kd0 x5,kd1 x6])],[],0,false⟩
theorem qeG {k m n:Nat} {r:(Int×Int×Int) ⊕ Unit} (h:jQ n x0 x1 x2 x3 x4 x5 x6=some r):lE S24 12 0 k (n+m) (D6 x0 x1 x2 x3 x4 x5 x6)=some (Ht x0 x1 x5 x6 r):=by
 induction n generalizing x4 with
 |zero=>cases h
 |succ n ih=>
 exact lS (JN (fun x0 x1 x2 x3 x4 x5 x6=>lE S24 12 0 k (n+m) (D6 x0 x1 x2 x3 x4 x5 x6)) (sm (Ht x0 x1 x5 x6)) x0 x1 x2 x3 x4 x5 x6) (by kernel_rfl) (by rw [qfi];unfold JN;with_reducible repeat' first|apply zd|exact ih _|exact nX|exact sX) h
end
def S25:=S24.lp 12 0 (D6 [] 0 [] 0 0 [] []) (fun x0 x1 x2 x3 x4 x5 x6=>some (y2 (jQ FU x0 x1 x2 x3 x4 x5 x6) (Ht x0 x1 x5 x6))) (by kernel_rfl) fun _=>w2 fun h=>qeG _ _ _ _ _ _ _ h
section
variable {β:Type} (y:LI->Int->Int->LL->Int->Int->Option β) (z:(Int × Int)->Option β) (x0:LI) (x1 x2:Int) (x3:LL) (x4 x5:Int)
def Jj:Option β:=(cond (decide (x5 < x4)) (ck x5 (x3.length:Int) (ob (v29 (List.getD x3 x5.toNat []) x0) fun r1=>(cond (decide (x2 < 0)) (y x0 x5 r1 x3 x4 (wI (x5+1))) (cond (decide (r1 < x2)) (y x0 x5 r1 x3 x4 (wI (x5+1))) (y x0 x1 x2 x3 x4 (wI (x5+1))))))) (z (x1,x2)))
def G0:=itL (fun _ _ _ _ _ _=>none) fun f=>Jj f some
theorem qd0 (n:Nat):G0 (n+1)=Jj (G0 n) some:=rfl
def Dk:(Int×Int)->Ex×CS:=fun r=>((.exit 2),⟨[(11,vI r.1),(12,vI r.2)],[],[],0,false⟩)
abbrev Kj:CS:=⟨[(1,vd0 x0),(11,vI x1),(12,vI x2),(55,vd1 x3),(56,vI x4),(57,vI x5)],[],[],0,false⟩
theorem qdl {k m n:Nat} {r:Int×Int} (h:G0 n x0 x1 x2 x3 x4 x5=some r):lE S25 12 2 k (n+m) (Kj x0 x1 x2 x3 x4 x5)=some (Dk r):=by
 induction n generalizing x1 x2 x5 with
 |zero=>cases h
 |succ n ih=>
 exact lS (Jj (fun x0 x1 x2 x3 x4 x5=>lE S25 12 2 k (n+m) (Kj x0 x1 x2 x3 x4 x5)) (sm Dk) x0 x1 x2 x3 x4 x5) (by kernel_rfl) (by rw [qd0];unfold Jj;with_reducible repeat' first|apply zd|exact ih _ _ _|exact nX|exact sX) h
end
def S26:=S25.lp 12 2 (Kj [] 0 0 [] 0 0) (fun x0 x1 x2 x3 x4 x5=>some (y1 (G0 FU x0 x1 x2 x3 x4 x5) Dk)) (by kernel_rfl) fun _=>w1 fun h=>qdl _ _ _ _ _ _ h
section
variable {β:Type} (z:(Int × Int × Int)->Option β) (x0:LI) (x1:L3) (x2:LI) (x3:Int)
def tv12:Option β:=(ob (v28 x0 x1) fun r1=>(cond (!r1) (z (0,0,(1:Int))) (cond ((x2.length:Int) != (x0.length:Int)) (z (0,0,(1:Int))) (cond (decide (x3 < 0)) (z (0,0,(1:Int))) (cond (decide (x3≥(x1.length:Int))) (z (0,0,(1:Int))) (cond (isL (jQ FU x2 x3 x2 (x2.length:Int) 0 x0 x1)) (z ((zx (jQ FU x2 x3 x2 (x2.length:Int) 0 x0 x1)).1,(zx (jQ FU x2 x3 x2 (x2.length:Int) 0 x0 x1)).2.1,(zx (jQ FU x2 x3 x2 (x2.length:Int) 0 x0 x1)).2.2)) (ob (zB (jQ FU x2 x3 x2 (x2.length:Int) 0 x0 x1)) fun _=>(ck x3 (x1.length:Int) (ob (G0 FU x2 0 (-1:Int) (List.getD x1 x3.toNat []) (↑(List.length (List.getD x1 x3.toNat [])):Int) 0) fun r3=>(z (r3.1,r3.2,0)))))))))))
def v12:=tv12 some x0 x1 x2 x3
abbrev aF12:List TA:=[.agg [kd0 x0,kd1 x1],.sc (kd0 x2),.sc (I4 x3)]
abbrev rF12:(Int×Int×Int)->List TA×List TO:=fun r=>([.sc (I4 r.1),.sc (I4 r.2.1),.sc (I4 r.2.2)],[])
theorem ev12:fE S26 12 (aF12 x0 x1 x2 x3) []=(v12 x0 x1 x2 x3).bind (sm rF12):=zE (fun z=>tv12 z x0 x1 x2 x3) (by kernel_rfl) fun K=>by unfold v12 tv12;with_reducible repeat' first|apply zc|exact nB|exact sB
end
def S27:=S26.fn 12 (aF12 [] [] [] 0) [] (fun x0 x1 x2 x3=>some (y1 (v12 x0 x1 x2 x3) rF12)) rfl fun _=>w1 fun h=>(ev12 ..).trans (bD h)
section
variable {β:Type} (z:Bool->Option β) (x0:Int)
def tv63:Option β:=(ob (v43 x0 0 (1000000000:Int)) fun r1=>(z r1))
def v63:=tv63 some x0
abbrev aF63:List TA:=[.sc (I4 x0)]
abbrev rF63:Bool->List TA×List TO:=fun r=>([.sc (.bool r)],[])
theorem ev63:fE S27 63 (aF63 x0) []=(v63 x0).bind (sm rF63):=zE (fun z=>tv63 z x0) (by kernel_rfl) fun K=>by unfold v63 tv63;with_reducible repeat' first|apply zc|exact nB|exact sB
end
def S28:=S27.fn 63 (aF63 0) [] (fun x0=>some (y1 (v63 x0) rF63)) rfl fun _=>w1 fun h=>(ev63 ..).trans (bD h)
section
variable {β:Type} (z:Bool->Option β) (x0:Int)
def qaE:Option β:=(ob (v63 x0) fun r1=>(z (!r1)))
def qaO:=qaE some x0
abbrev qcJ:List TA:=[.sc (I4 x0),.sc (.ptr 0 0)]
abbrev qc4:List TO:=[.box 67 [.fn 63 0 [] []]]
abbrev qec:Bool->List TA×List TO:=fun r=>([.sc (.bool r)],[.box 67 [.fn 63 0 [] []]])
theorem ev67_1:fE S28 67 (qcJ x0) qc4=(qaO x0).bind (sm qec):=zE (fun z=>qaE z x0) (by kernel_rfl) fun K=>by unfold qaO qaE;with_reducible repeat' first|apply zc|exact nB|exact sB
end
def S29:=S28.fn 67 (qcJ 0) qc4 (fun x0=>some (y1 (qaO x0) qec)) rfl fun _=>w1 fun h=>(ev67_1 ..).trans (bD h)
section
variable {β:Type} (y:LI->Int->Int->Option β) (z:(Int ⊕ Unit)->Option β) (x0:LI) (x1 x2:Int)
def gX:Option β:=(cond (decide (x2 < x1)) (ck x2 (x0.length:Int) (ob (qaO (List.getD x0 x2.toNat 0)) fun r1=>(cond r1 (z (.inl (x2))) (y x0 x1 (wI (x2+1)))))) (z (.inr ())))
def jC:=itL (fun _ _ _=>none) fun f=>gX f some
theorem Hh (n:Nat):jC (n+1)=gX (jC n) some:=rfl
def HY:(Int ⊕ Unit)->Ex×CS:=Sum.elim (fun r=>(.ret,⟨[(4,vI r)],[],[.box 67 [.fn 63 0 [] []]],1,true⟩)) fun r=>((.exit 0),⟨[],[],[.box 67 [.fn 63 0 [] []]],1,false⟩)
abbrev SA:CS:=⟨[(0,vd0 x0),(1,.v (.sc (.fn 67 0 [none] [.ptr 0 0]))),(7,vI x1),(8,vI x2)],[],[.box 67 [.fn 63 0 [] []]],1,false⟩
theorem qe8 {k m n:Nat} {r:Int ⊕ Unit} (h:jC n x0 x1 x2=some r):lE S29 77 0 k (n+m) (SA x0 x1 x2)=some (HY r):=by
 induction n generalizing x2 with
 |zero=>cases h
 |succ n ih=>
 exact lS (gX (fun x0 x1 x2=>lE S29 77 0 k (n+m) (SA x0 x1 x2)) (sm HY) x0 x1 x2) (by kernel_rfl) (by rw [Hh];unfold gX;with_reducible repeat' first|apply zd|exact ih _|exact nX|exact sX) h
end
def S30:=S29.lp 77 0 (SA [] 0 0) (fun x0 x1 x2=>some (y2 (jC FU x0 x1 x2) HY)) (by kernel_rfl) fun _=>w2 fun h=>qe8 _ _ _ h
section
variable {β:Type} (z:Int->Option β) (x0:LI)
def qaI:Option β:=(cond (isL (jC FU x0 (x0.length:Int) 0)) (z (zx (jC FU x0 (x0.length:Int) 0))) (ob (zB (jC FU x0 (x0.length:Int) 0)) fun _=>(z ((-1:Int)))))
def qaQ:=qaI some x0
abbrev qcN:List TA:=[.sc (kd0 x0),.sc (.fn 67 0 [none] [.ptr 0 0])]
abbrev qc8:List TO:=[.box 67 [.fn 63 0 [] []]]
abbrev qeg:Int->List TA×List TO:=fun r=>([.sc (I4 r)],[.box 67 [.fn 63 0 [] []]])
theorem ev77_1:fE S30 77 (qcN x0) qc8=(qaQ x0).bind (sm qeg):=zE (fun z=>qaI z x0) (by kernel_rfl) fun K=>by unfold qaQ qaI;with_reducible repeat' first|apply zc|exact nB|exact sB
end
def S31:=S30.fn 77 (qcN []) qc8 (fun x0=>some (y1 (qaQ x0) qeg)) rfl fun _=>w1 fun h=>(ev77_1 ..).trans (bD h)
section
variable {β:Type} (z:Bool->Option β) (x0:LI)
def qaB:Option β:=(ob (qaQ x0) fun r1=>(z (decide (r1≥0))))
def qaL:=qaB some x0
abbrev qcG:List TA:=[.sc (kd0 x0),.sc (.fn 67 0 [none] [.ptr 0 0])]
abbrev qc1:List TO:=[.box 67 [.fn 63 0 [] []]]
abbrev qd9:Bool->List TA×List TO:=fun r=>([.sc (.bool r)],[.box 67 [.fn 63 0 [] []]])
theorem ev66_1:fE S31 66 (qcG x0) qc1=(qaL x0).bind (sm qd9):=zE (fun z=>qaB z x0) (by kernel_rfl) fun K=>by unfold qaL qaB;with_reducible repeat' first|apply zc|exact nB|exact sB
end
def S32:=S31.fn 66 (qcG []) qc1 (fun x0=>some (y1 (qaL x0) qd9)) rfl fun _=>w1 fun h=>(ev66_1 ..).trans (bD h)
section
variable {β:Type} (z:Bool->Option β) (x0:LI)
def qay:Option β:=(ob (qaL x0) fun r1=>(z (!r1)))
def JT:=qay some x0
abbrev qcD:List TA:=[.sc (kd0 x0),.sc (.fn 63 0 [] [])]
abbrev qd6:Bool->List TA×List TO:=fun r=>([.sc (.bool r)],[])
theorem ev47_1:fE S32 47 (qcD x0) []=(JT x0).bind (sm qd6):=zE (fun z=>qay z x0) (by kernel_rfl) fun K=>by unfold JT qay;with_reducible repeat' first|apply zc|exact nB|exact sB
end
def S33:=S32.fn 47 (qcD []) [] (fun x0=>some (y1 (JT x0) qd6)) rfl fun _=>w1 fun h=>(ev47_1 ..).trans (bD h)
section
variable {β:Type} (y:LI->LL->Int->Int->LI->L3->Option β) (z:(Bool ⊕ Unit)->Option β) (x0:LI) (x1:LL) (x2 x3:Int) (x4:LI) (x5:L3)
def Ja:Option β:=(cond (decide (x3 < x2)) (ck x3 (x1.length:Int) (cond (decide (x3 < (x5.length:Int))) (cond ((↑(List.length (List.getD x1 x3.toNat [])):Int) != (↑(List.length (List.getD x5 x3.toNat [])):Int)) (z (.inl (false))) (ob (JT (List.getD x1 x3.toNat [])) fun r1=>(cond (!r1) (z (.inl (false))) (y x0 x1 x2 (wI (x3+1)) x4 x5)))) none)) (z (.inr ())))
def qbV:Option β:=(cond (decide (x3 < x2)) (ck x3 (x1.length:Int) (ck x3 (x5.length:Int) (cond ((↑(List.length (List.getD x1 x3.toNat [])):Int) != (↑(List.length (List.getD x5 x3.toNat [])):Int)) (z (.inl (false))) (ob (JT (List.getD x1 x3.toNat [])) fun r1=>(cond (!r1) (z (.inl (false))) (y x0 x1 x2 (wI (x3+1)) x4 x5)))))) (z (.inr ())))
def jh:=itL (fun _ _ _ _ _ _=>none) fun f=>Ja f some
theorem SU (n:Nat):jh (n+1)=Ja (jh n) some:=rfl
def HJ:(Bool ⊕ Unit)->Ex×CS:=Sum.elim (fun r=>(.ret,⟨[(6,vB r)],[],[],0,true⟩)) fun r=>((.exit 0),⟨[(2,vd0 x0),(3,.l 3 0)],[],[],0,false⟩)
abbrev Sl:CS:=⟨[(2,vd0 x0),(3,.l 3 0),(23,vd1 x1),(24,vI x2),(25,vI x3)],[(3,[kd0 x4,kd1 x5])],[],0,false⟩
theorem qeU {k m n:Nat} {r:Bool ⊕ Unit} (h:jh n x0 x1 x2 x3 x4 x5=some r):lE S33 44 0 k (n+m) (Sl x0 x1 x2 x3 x4 x5)=some (HJ x0 r):=by
 induction n generalizing x3 with
 |zero=>cases h
 |succ n ih=>
 exact lS (qbV (fun x0 x1 x2 x3 x4 x5=>lE S33 44 0 k (n+m) (Sl x0 x1 x2 x3 x4 x5)) (sm (HJ x0)) x0 x1 x2 x3 x4 x5) (by kernel_rfl) (by rw [SU];unfold Ja qbV;with_reducible repeat' first|apply gT ‹_›|apply gF ‹_›|(apply zz<;>intro _)|exact ih _|exact nX|exact sX) h
end
def S34:=S33.lp 44 0 (Sl [] [] 0 0 [] []) (fun x0 x1 x2 x3 x4 x5=>some (y2 (jh FU x0 x1 x2 x3 x4 x5) (HJ x0))) (by kernel_rfl) fun _=>w2 fun h=>qeU _ _ _ _ _ _ h
section
variable {β:Type} (z:Bool->Option β) (x0:Int)
def tv64:Option β:=(ob (v43 x0 0 (1000000000000:Int)) fun r1=>(z r1))
def v64:=tv64 some x0
abbrev aF64:List TA:=[.sc (I4 x0)]
abbrev rF64:Bool->List TA×List TO:=fun r=>([.sc (.bool r)],[])
theorem ev64:fE S34 64 (aF64 x0) []=(v64 x0).bind (sm rF64):=zE (fun z=>tv64 z x0) (by kernel_rfl) fun K=>by unfold v64 tv64;with_reducible repeat' first|apply zc|exact nB|exact sB
end
def S35:=S34.fn 64 (aF64 0) [] (fun x0=>some (y1 (v64 x0) rF64)) rfl fun _=>w1 fun h=>(ev64 ..).trans (bD h)
section
variable {β:Type} (z:Bool->Option β) (x0:Int)
def qaF:Option β:=(ob (v64 x0) fun r1=>(z (!r1)))
def qaP:=qaF some x0
abbrev qcK:List TA:=[.sc (I4 x0),.sc (.ptr 0 0)]
abbrev qc5:List TO:=[.box 67 [.fn 64 0 [] []]]
abbrev qed:Bool->List TA×List TO:=fun r=>([.sc (.bool r)],[.box 67 [.fn 64 0 [] []]])
theorem ev67_2:fE S35 67 (qcK x0) qc5=(qaP x0).bind (sm qed):=zE (fun z=>qaF z x0) (by kernel_rfl) fun K=>by unfold qaP qaF;with_reducible repeat' first|apply zc|exact nB|exact sB
end
def S36:=S35.fn 67 (qcK 0) qc5 (fun x0=>some (y1 (qaP x0) qed)) rfl fun _=>w1 fun h=>(ev67_2 ..).trans (bD h)
section
variable {β:Type} (y:LI->Int->Int->Option β) (z:(Int ⊕ Unit)->Option β) (x0:LI) (x1 x2:Int)
def gY:Option β:=(cond (decide (x2 < x1)) (ck x2 (x0.length:Int) (ob (qaP (List.getD x0 x2.toNat 0)) fun r1=>(cond r1 (z (.inl (x2))) (y x0 x1 (wI (x2+1)))))) (z (.inr ())))
def jD:=itL (fun _ _ _=>none) fun f=>gY f some
theorem Hi (n:Nat):jD (n+1)=gY (jD n) some:=rfl
def HZ:(Int ⊕ Unit)->Ex×CS:=Sum.elim (fun r=>(.ret,⟨[(4,vI r)],[],[.box 67 [.fn 64 0 [] []]],1,true⟩)) fun r=>((.exit 0),⟨[],[],[.box 67 [.fn 64 0 [] []]],1,false⟩)
abbrev SB:CS:=⟨[(0,vd0 x0),(1,.v (.sc (.fn 67 0 [none] [.ptr 0 0]))),(7,vI x1),(8,vI x2)],[],[.box 67 [.fn 64 0 [] []]],1,false⟩
theorem qe9 {k m n:Nat} {r:Int ⊕ Unit} (h:jD n x0 x1 x2=some r):lE S36 77 0 k (n+m) (SB x0 x1 x2)=some (HZ r):=by
 induction n generalizing x2 with
 |zero=>cases h
 |succ n ih=>
 exact lS (gY (fun x0 x1 x2=>lE S36 77 0 k (n+m) (SB x0 x1 x2)) (sm HZ) x0 x1 x2) (by kernel_rfl) (by rw [Hi];unfold gY;with_reducible repeat' first|apply zd|exact ih _|exact nX|exact sX) h
end
def S37:=S36.lp 77 0 (SB [] 0 0) (fun x0 x1 x2=>some (y2 (jD FU x0 x1 x2) HZ)) (by kernel_rfl) fun _=>w2 fun h=>qe9 _ _ _ h
section
variable {β:Type} (z:Int->Option β) (x0:LI)
def qaJ:Option β:=(cond (isL (jD FU x0 (x0.length:Int) 0)) (z (zx (jD FU x0 (x0.length:Int) 0))) (ob (zB (jD FU x0 (x0.length:Int) 0)) fun _=>(z ((-1:Int)))))
def qaR:=qaJ some x0
abbrev qcO:List TA:=[.sc (kd0 x0),.sc (.fn 67 0 [none] [.ptr 0 0])]
abbrev qc9:List TO:=[.box 67 [.fn 64 0 [] []]]
abbrev qeh:Int->List TA×List TO:=fun r=>([.sc (I4 r)],[.box 67 [.fn 64 0 [] []]])
theorem ev77_2:fE S37 77 (qcO x0) qc9=(qaR x0).bind (sm qeh):=zE (fun z=>qaJ z x0) (by kernel_rfl) fun K=>by unfold qaR qaJ;with_reducible repeat' first|apply zc|exact nB|exact sB
end
def S38:=S37.fn 77 (qcO []) qc9 (fun x0=>some (y1 (qaR x0) qeh)) rfl fun _=>w1 fun h=>(ev77_2 ..).trans (bD h)
section
variable {β:Type} (z:Bool->Option β) (x0:LI)
def qaC:Option β:=(ob (qaR x0) fun r1=>(z (decide (r1≥0))))
def qaM:=qaC some x0
abbrev qcH:List TA:=[.sc (kd0 x0),.sc (.fn 67 0 [none] [.ptr 0 0])]
abbrev qc2:List TO:=[.box 67 [.fn 64 0 [] []]]
abbrev qea:Bool->List TA×List TO:=fun r=>([.sc (.bool r)],[.box 67 [.fn 64 0 [] []]])
theorem ev66_2:fE S38 66 (qcH x0) qc2=(qaM x0).bind (sm qea):=zE (fun z=>qaC z x0) (by kernel_rfl) fun K=>by unfold qaM qaC;with_reducible repeat' first|apply zc|exact nB|exact sB
end
def S39:=S38.fn 66 (qcH []) qc2 (fun x0=>some (y1 (qaM x0) qea)) rfl fun _=>w1 fun h=>(ev66_2 ..).trans (bD h)
section
variable {β:Type} (z:Bool->Option β) (x0:LI)
def qaz:Option β:=(ob (qaM x0) fun r1=>(z (!r1)))
def DZ:=qaz some x0
abbrev qcE:List TA:=[.sc (kd0 x0),.sc (.fn 64 0 [] [])]
abbrev qd7:Bool->List TA×List TO:=fun r=>([.sc (.bool r)],[])
theorem ev47_2:fE S39 47 (qcE x0) []=(DZ x0).bind (sm qd7):=zE (fun z=>qaz z x0) (by kernel_rfl) fun K=>by unfold DZ qaz;with_reducible repeat' first|apply zc|exact nB|exact sB
end
def S40:=S39.fn 47 (qcE []) [] (fun x0=>some (y1 (DZ x0) qd7)) rfl fun _=>w1 fun h=>(ev47_2 ..).trans (bD h)
section
variable {β:Type} (z:Bool->Option β) (x0:LI) (x1:L3) (x2:LL) (x3:LI)
def tv44:Option β:=(cond ((x2.length:Int) != (x1.length:Int)) (z false) (cond ((x3.length:Int) != (x0.length:Int)) (z false) (cond (isL (jh FU x3 x2 (x2.length:Int) 0 x0 x1)) (z (zx (jh FU x3 x2 (x2.length:Int) 0 x0 x1))) (ob (zB (jh FU x3 x2 (x2.length:Int) 0 x0 x1)) fun _=>(ob (DZ x3) fun r2=>(z r2))))))
def v44:=tv44 some x0 x1 x2 x3
abbrev aF44:List TA:=[.agg [kd0 x0,kd1 x1],.sc (kd2 x2),.sc (kd0 x3)]
abbrev rF44:Bool->List TA×List TO:=fun r=>([.sc (.bool r)],[])
theorem ev44:fE S40 44 (aF44 x0 x1 x2 x3) []=(v44 x0 x1 x2 x3).bind (sm rF44):=zE (fun z=>tv44 z x0 x1 x2 x3) (by kernel_rfl) fun K=>by unfold v44 tv44;with_reducible repeat' first|apply zc|exact nB|exact sB
end
def S41:=S40.fn 44 (aF44 [] [] [] []) [] (fun x0 x1 x2 x3=>some (y1 (v44 x0 x1 x2 x3) rF44)) rfl fun _=>w1 fun h=>(ev44 ..).trans (bD h)
section
variable {β:Type} (z:Unit->Option β) (x0:LI) (x1:L3) (x2:LL)
def tv65:Option β:=(z ())
def v65 (x0:LI) (x1:L3) (x2:LL):Option Unit:=tv65 some
abbrev aF65:List TA:=[.agg [kd0 x0,kd1 x1],.sc (kd2 x2)]
abbrev rF65:Unit->List TA×List TO:=fun r=>([.sc (.fn 76 0 [none,none] [.ptr 0 0,.ptr 1 0])],[.box 25 [kd0 x0,kd1 x1],.box 31 [kd2 x2]])
theorem ev65:fE S41 65 (aF65 x0 x1 x2) []=(v65 x0 x1 x2).bind (sm (rF65 x0 x1 x2)):=zE (fun z=>tv65 z) (by kernel_rfl) fun K=>by unfold v65 tv65;with_reducible repeat' first|apply zc|exact nB|exact sB
end
def S42:=S41.fn 65 (aF65 [] [] []) [] (fun x0 x1 x2=>some (y1 (v65 x0 x1 x2) (rF65 x0 x1 x2))) rfl fun _=>w1 fun h=>(ev65 ..).trans (bD h)
abbrev rd0 (l:LI):TO:=.row 3 iT l
section
variable {β:Type} (y:LI->Int->Int->LI->Int->LI->LI->Option β) (z:LI->Option β) (x0:LI) (x1 x2:Int) (x3:LI) (x4:Int) (x5 x6:LI)
def Gw:Option β:=(cond (decide (x2 < x1)) (ck x2 (x0.length:Int) (ck (List.getD x0 x2.toNat 0) (x5.length:Int) (cond (decide ((List.getD x0 x2.toNat 0).toNat < List.length x5)) (y x0 x1 (wI (x2+1)) x3 x4 (List.set x5 (List.getD x0 x2.toNat 0).toNat (wI (List.getD x5 (List.getD x0 x2.toNat 0).toNat 0+x4))) x6) none))) (z x5))
def qbt:Option β:=(cond (decide (x2 < x1)) (ck x2 (x0.length:Int) (ck (List.getD x0 x2.toNat 0) (x5.length:Int) (cond (decide ((List.getD x0 x2.toNat 0).toNat < List.length x5)) (ck (List.getD x0 x2.toNat 0) (x5.length:Int) (cond (decide ((List.getD x0 x2.toNat 0).toNat < List.length x5)) (y x0 x1 (wI (x2+1)) x3 x4 (List.set x5 (List.getD x0 x2.toNat 0).toNat (wI (List.getD x5 (List.getD x0 x2.toNat 0).toNat 0+x4))) x6) none)) none))) (z x5))
def qP:=itL (fun _ _ _ _ _ _ _=>none) fun f=>Gw f some
theorem KO (n:Nat):qP (n+1)=Gw (qP n) some:=rfl
def Dz:LI->Ex×CS:=fun r=>((.exit 2),⟨[(10,.l 10 0)],[],[.loop 1 none 45 41 106 [(7,vP 1),(8,vP 3)],.box 22 [.g 2],rd0 r,.box 22 [.g 4],rd0 x6],5,false⟩)
abbrev Ku:CS:=⟨[(7,vP 1),(10,.l 10 0),(42,vd0 x0),(43,vI x1),(44,vI x2)],[(10,[kd0 x3,I4 x4])],[.loop 1 none 45 41 106 [(7,vP 1),(8,vP 3)],.box 22 [.g 2],rd0 x5,.box 22 [.g 4],rd0 x6],5,false⟩
theorem qdA {k m n:Nat} {r:LI} (h:qP n x0 x1 x2 x3 x4 x5 x6=some r):lE S42 45 2 k (n+m) (Ku x0 x1 x2 x3 x4 x5 x6)=some (Dz x6 r):=by
 induction n generalizing x2 x5 with
 |zero=>cases h
 |succ n ih=>
 exact lS (qbt (fun x0 x1 x2 x3 x4 x5 x6=>lE S42 45 2 k (n+m) (Ku x0 x1 x2 x3 x4 x5 x6)) (sm (Dz x6)) x0 x1 x2 x3 x4 x5 x6) (by kernel_rfl) (by rw [KO];unfold Gw qbt;with_reducible repeat' first|apply gT ‹_›|apply gF ‹_›|(apply zz<;>intro _)|exact ih _ _|exact nX|exact sX) h
end
def S43:=S42.lp 45 2 (Ku [] 0 0 [] 0 [] []) (fun x0 x1 x2 x3 x4 x5 x6=>some (y1 (qP FU x0 x1 x2 x3 x4 x5 x6) (Dz x6))) (by kernel_rfl) fun _=>w1 fun h=>qdA _ _ _ _ _ _ _ h
section
variable {β:Type} (z:(LI × LI)->Option β) (x0:Int) (x1:LI) (x2:Int) (x3 x4:LI)
def tvR:Option β:=(ck x0 (x4.length:Int) (cond (decide (x0.toNat < List.length x4)) (ob (qP FU x1 (x1.length:Int) 0 x1 x2 x3 (List.set x4 x0.toNat (wI (List.getD x4 x0.toNat 0+x2)))) fun r1=>(z (r1,List.set x4 x0.toNat (wI (List.getD x4 x0.toNat 0+x2))))) none))
def vR:=tvR some x0 x1 x2 x3 x4
def uvR:Option β:=(ck x0 (x4.length:Int) (cond (decide (x0.toNat < List.length x4)) (ck x0 (x4.length:Int) (cond (decide (x0.toNat < List.length x4)) (ob (qP FU x1 (x1.length:Int) 0 x1 x2 x3 (List.set x4 x0.toNat (wI (List.getD x4 x0.toNat 0+x2)))) fun r1=>(z (r1,List.set x4 x0.toNat (wI (List.getD x4 x0.toNat 0+x2))))) none)) none))
abbrev aFR:List TA:=[.sc (.yl 0),.sc (I4 x0),.agg [kd0 x1,I4 x2]]
abbrev hFR:List TO:=[.loop 0 none 45 41 106 [(7,vP 1),(8,vP 3)],.box 22 [.g 2],rd0 x3,.box 22 [.g 4],rd0 x4]
abbrev rFR:(LI×LI)->List TA×List TO:=fun r=>([.sc (.bool true)],[.loop 0 none 45 41 106 [(7,vP 1),(8,vP 3)],.box 22 [.g 2],rd0 r.1,.box 22 [.g 4],rd0 r.2])
theorem evR:yE S43 (aFR x0 x1 x2) (hFR x3 x4)=(vR x0 x1 x2 x3 x4).bind (sm rFR):=zE (fun z=>uvR z x0 x1 x2 x3 x4) (by kernel_rfl) fun K=>by unfold vR tvR uvR;with_reducible repeat' first|apply bT ‹_›|apply bF ‹_›|(apply Yi<;>intro _)|exact nB|exact sB
end
def S44:=S43.yf (aFR 0 [] 0) (hFR [] []) (fun x0 x1 x2 x3 x4=>some (y1 (vR x0 x1 x2 x3 x4) rFR)) fun _=>w1 fun h=>(evR ..).trans (bD h)
section
variable {β:Type} (y:Int->L3->Int->Int->LL->Int->Int->LI->LI->LI->L3->LL->Option β) (z:(LI × LI)->Option β) (x0:Int) (x1:L3) (x2 x3:Int) (x4:LL) (x5 x6:Int) (x7 x8 x9:LI) (x10:L3) (x11:LL)
def GC:Option β:=(cond (decide (x6 < x5)) (ck x6 (x4.length:Int) (ck x0 (x11.length:Int) (cond (decide (x6 < (↑(List.length (List.getD x11 x0.toNat [])):Int))) (ob (vR x0 (List.getD x4 x6.toNat []) (List.getD (List.getD x11 x0.toNat []) x6.toNat 0) x7 x8) fun r1=>(y x0 x1 x2 x3 x4 x5 (wI (x6+1)) (r1.1) (r1.2) x9 x10 x11)) none))) (z (x7,x8)))
def qby:Option β:=(cond (decide (x6 < x5)) (ck x6 (x4.length:Int) (ck x0 (x11.length:Int) (ck x6 (↑(List.length (List.getD x11 x0.toNat [])):Int) (ob (vR x0 (List.getD x4 x6.toNat []) (List.getD (List.getD x11 x0.toNat []) x6.toNat 0) x7 x8) fun r1=>(y x0 x1 x2 x3 x4 x5 (wI (x6+1)) (r1.1) (r1.2) x9 x10 x11))))) (z (x7,x8)))
def jf:=itL (fun _ _ _ _ _ _ _ _ _ _ _ _=>none) fun f=>GC f some
theorem KV (n:Nat):jf (n+1)=GC (jf n) some:=rfl
def DM:(LI×LI)->Ex×CS:=fun r=>((.exit 2),⟨[(0,.v (.sc (.yl 0))),(2,vP 6),(9,vd2 x1),(10,vI x2),(11,vI x3)],[],[.loop 0 none 45 41 106 [(7,vP 1),(8,vP 3)],.box 22 [.g 2],rd0 r.1,.box 22 [.g 4],rd0 r.2,.box 25 [kd0 x9,kd1 x10],.box 31 [kd2 x11]],7,false⟩)
abbrev KC:CS:=⟨[(0,.v (.sc (.yl 0))),(2,vP 6),(4,vI x0),(9,vd2 x1),(10,vI x2),(11,vI x3),(16,vd1 x4),(17,vI x5),(18,vI x6)],[],[.loop 0 none 45 41 106 [(7,vP 1),(8,vP 3)],.box 22 [.g 2],rd0 x7,.box 22 [.g 4],rd0 x8,.box 25 [kd0 x9,kd1 x10],.box 31 [kd2 x11]],7,false⟩
theorem qdN {k m n:Nat} {r:LI×LI} (h:jf n x0 x1 x2 x3 x4 x5 x6 x7 x8 x9 x10 x11=some r):lE S44 76 2 k (n+m) (KC x0 x1 x2 x3 x4 x5 x6 x7 x8 x9 x10 x11)=some (DM x1 x2 x3 x9 x10 x11 r):=by
 induction n generalizing x6 x7 x8 with
 |zero=>cases h
 |succ n ih=>
 exact lS (qby (fun x0 x1 x2 x3 x4 x5 x6 x7 x8 x9 x10 x11=>lE S44 76 2 k (n+m) (KC x0 x1 x2 x3 x4 x5 x6 x7 x8 x9 x10 x11)) (sm (DM x1 x2 x3 x9 x10 x11)) x0 x1 x2 x3 x4 x5 x6 x7 x8 x9 x10 x11) (by kernel_rfl) (by rw [KV];unfold GC qby;with_reducible repeat' first|apply gT ‹_›|apply gF ‹_›|(apply zz<;>intro _)|exact ih _ _ _|exact nX|exact sX) h
end
def S45:=S44.lp 76 2 (KC 0 [] 0 0 [] 0 0 [] [] [] [] []) (fun x0 x1 x2 x3 x4 x5 x6 x7 x8 x9 x10 x11=>some (y1 (jf FU x0 x1 x2 x3 x4 x5 x6 x7 x8 x9 x10 x11) (DM x1 x2 x3 x9 x10 x11))) (by kernel_rfl) fun _=>w1 fun h=>qdN _ _ _ _ _ _ _ _ _ _ _ _ h
section
variable {β:Type} (y:L3->Int->Int->LI->LI->LI->L3->LL->Option β) (z:(LI × LI)->Option β) (x0:L3) (x1 x2:Int) (x3 x4 x5:LI) (x6:L3) (x7:LL)
def gU:Option β:=(cond (decide (x2 < x1)) (ck x2 (x0.length:Int) (ob (jf FU x2 x0 x1 x2 (List.getD x0 x2.toNat []) (↑(List.length (List.getD x0 x2.toNat [])):Int) 0 x3 x4 x5 x6 x7) fun r1=>(y x0 x1 (wI (x2+1)) (r1.1) (r1.2) x5 x6 x7))) (z (x3,x4)))
def jA:=itL (fun _ _ _ _ _ _ _ _=>none) fun f=>gU f some
theorem He (n:Nat):jA (n+1)=gU (jA n) some:=rfl
def HV:(LI×LI)->Ex×CS:=fun r=>((.exit 0),⟨[],[],[.loop 0 none 45 41 106 [(7,vP 1),(8,vP 3)],.box 22 [.g 2],rd0 r.1,.box 22 [.g 4],rd0 r.2,.box 25 [kd0 x5,kd1 x6],.box 31 [kd2 x7]],7,false⟩)
abbrev Sx:CS:=⟨[(0,.v (.sc (.yl 0))),(2,vP 6),(9,vd2 x0),(10,vI x1),(11,vI x2)],[],[.loop 0 none 45 41 106 [(7,vP 1),(8,vP 3)],.box 22 [.g 2],rd0 x3,.box 22 [.g 4],rd0 x4,.box 25 [kd0 x5,kd1 x6],.box 31 [kd2 x7]],7,false⟩
theorem qe5 {k m n:Nat} {r:LI×LI} (h:jA n x0 x1 x2 x3 x4 x5 x6 x7=some r):lE S45 76 0 k (n+m) (Sx x0 x1 x2 x3 x4 x5 x6 x7)=some (HV x5 x6 x7 r):=by
 induction n generalizing x2 x3 x4 with
 |zero=>cases h
 |succ n ih=>
 exact lS (gU (fun x0 x1 x2 x3 x4 x5 x6 x7=>lE S45 76 0 k (n+m) (Sx x0 x1 x2 x3 x4 x5 x6 x7)) (sm (HV x5 x6 x7)) x0 x1 x2 x3 x4 x5 x6 x7) (by kernel_rfl) (by rw [He];unfold gU;with_reducible repeat' first|apply zd|exact ih _ _ _|exact nX|exact sX) h
end
def S46:=S45.lp 76 0 (Sx [] 0 0 [] [] [] [] []) (fun x0 x1 x2 x3 x4 x5 x6 x7=>some (y1 (jA FU x0 x1 x2 x3 x4 x5 x6 x7) (HV x5 x6 x7))) (by kernel_rfl) fun _=>w1 fun h=>qe5 _ _ _ _ _ _ _ _ h
section
variable {β:Type} (z:(LI × LI)->Option β) (x0 x1 x2:LI) (x3:L3) (x4:LL)
def tv76:Option β:=(ob (jA FU x3 (x3.length:Int) 0 x0 x1 x2 x3 x4) fun r1=>(z (r1.1,r1.2)))
def v76:=tv76 some x0 x1 x2 x3 x4
abbrev aF76:List TA:=[.sc (.yl 0),.sc (.ptr 5 0),.sc (.ptr 6 0)]
abbrev hF76:List TO:=[.loop 0 none 45 41 106 [(7,vP 1),(8,vP 3)],.box 22 [.g 2],rd0 x0,.box 22 [.g 4],rd0 x1,.box 25 [kd0 x2,kd1 x3],.box 31 [kd2 x4]]
abbrev rF76:(LI×LI)->List TA×List TO:=fun r=>([],[.loop 0 none 45 41 106 [(7,vP 1),(8,vP 3)],.box 22 [.g 2],rd0 r.1,.box 22 [.g 4],rd0 r.2,.box 25 [kd0 x2,kd1 x3],.box 31 [kd2 x4]])
theorem ev76:fE S46 76 aF76 (hF76 x0 x1 x2 x3 x4)=(v76 x0 x1 x2 x3 x4).bind (sm (rF76 x2 x3 x4)):=zE (fun z=>tv76 z x0 x1 x2 x3 x4) (by kernel_rfl) fun K=>by unfold v76 tv76;with_reducible repeat' first|apply zc|exact nB|exact sB
end
def S47:=S46.fn 76 aF76 (hF76 [] [] [] [] []) (fun x0 x1 x2 x3 x4=>some (y1 (v76 x0 x1 x2 x3 x4) (rF76 x2 x3 x4))) rfl fun _=>w1 fun h=>(ev76 ..).trans (bD h)
section
variable {β:Type} (y:LL->Int->Int->LI->L3->LI->Bool->LI->LI->Option β) (z:(Bool ⊕ Unit)->Option β) (x0:LL) (x1 x2:Int) (x3:LI) (x4:L3) (x5:LI) (x6:Bool) (x7 x8:LI)
def Gx:Option β:=(cond (decide (x2 < x1)) (ck x2 (x7.length:Int) (cond (decide (x2.toNat < List.length x7)) (cond (decide (x2 < (x3.length:Int))) (cond (decide (List.getD x7 x2.toNat 0 > wI ((1000000:Int)*List.getD x3 x2.toNat 0))) (z (.inl (false))) (y x0 x1 (wI (x2+1)) x3 x4 x5 x6 x7 x8)) none) none)) (z (.inr ())))
def qbu:Option β:=(cond (decide (x2 < x1)) (ck x2 (x7.length:Int) (cond (decide (x2.toNat < List.length x7)) (ck x2 (x3.length:Int) (cond (decide (List.getD x7 x2.toNat 0 > wI ((1000000:Int)*List.getD x3 x2.toNat 0))) (z (.inl (false))) (y x0 x1 (wI (x2+1)) x3 x4 x5 x6 x7 x8))) none)) (z (.inr ())))
def qQ:=itL (fun _ _ _ _ _ _ _ _ _=>none) fun f=>Gx f some
theorem KP (n:Nat):qQ (n+1)=Gx (qQ n) some:=rfl
def DA:(Bool ⊕ Unit)->Ex×CS:=Sum.elim (fun r=>(.ret,⟨[(6,vP 0)],[],[.box 4 [.bool r]],0,true⟩)) fun r=>((.exit 4),⟨[(1,vd1 x0),(3,.l 3 0),(5,vP 3),(6,vP 2),(8,vP 0)],[(3,[kd0 x3,kd1 x4])],[.box 22 [.g 1],rd0 x5,.box 4 [.bool x6],.box 22 [kd0 x8]],0,false⟩)
abbrev Kv:CS:=⟨[(1,vd1 x0),(3,.l 3 0),(5,vP 4),(6,vP 2),(8,vP 0),(57,vG 3),(58,vI x1),(59,vI x2)],[(3,[kd0 x3,kd1 x4])],[.box 22 [.g 1],rd0 x5,.box 4 [.bool x6],rd0 x7,.box 22 [kd0 x8]],0,false⟩
theorem qdB {k m n:Nat} {r:Bool ⊕ Unit} (h:qQ n x0 x1 x2 x3 x4 x5 x6 x7 x8=some r):lE S47 45 4 k (n+m) (Kv x0 x1 x2 x3 x4 x5 x6 x7 x8)=some (DA x0 x3 x4 x5 x6 x8 r):=by
 induction n generalizing x2 with
 |zero=>cases h
 |succ n ih=>
 exact lS (qbu (fun x0 x1 x2 x3 x4 x5 x6 x7 x8=>lE S47 45 4 k (n+m) (Kv x0 x1 x2 x3 x4 x5 x6 x7 x8)) (sm (DA x0 x3 x4 x5 x6 x8)) x0 x1 x2 x3 x4 x5 x6 x7 x8) (by kernel_rfl) (by rw [KP];unfold Gx qbu;with_reducible repeat' first|apply gT ‹_›|apply gF ‹_›|(apply zz<;>intro _)|exact ih _|exact nX|exact sX) h
end
def S48:=S47.lp 45 4 (Kv [] 0 0 [] [] [] false [] []) (fun x0 x1 x2 x3 x4 x5 x6 x7 x8=>some (y2 (qQ FU x0 x1 x2 x3 x4 x5 x6 x7 x8) (DA x0 x3 x4 x5 x6 x8))) (by kernel_rfl) fun _=>w2 fun h=>qdB _ _ _ _ _ _ _ _ _ h
section
variable {β:Type} (y:Int->Int->LI->Int->Int->LI->Bool->LI->Option β) (z:Int->Option β) (x0 x1:Int) (x2:LI) (x3 x4:Int) (x5:LI) (x6:Bool) (x7:LI)
def gf:Option β:=(cond (decide (x4 < x3)) (ck x4 (x2.length:Int) (ck (List.getD x2 x4.toNat 0) (x5.length:Int) (y x0 (wI (x1+List.getD x5 (List.getD x2 x4.toNat 0).toNat 0)) x2 x3 (wI (x4+1)) x5 x6 x7))) (z x1))
def q9:=itL (fun _ _ _ _ _ _ _ _=>none) fun f=>gf f some
theorem KQ (n:Nat):q9 (n+1)=gf (q9 n) some:=rfl
def DB:Int->Ex×CS:=fun r=>((.exit 8),⟨[(6,vP 2),(8,vP 3),(15,vI x0),(17,vI r)],[],[.loop 1 none 45 161 106 [(5,vP 1),(6,vP 2),(8,vP 3)],.box 22 [kd0 x5],.box 4 [.bool x6],.box 22 [.g 4],rd0 x7],5,false⟩)
abbrev Kw:CS:=⟨[(5,vP 1),(6,vP 2),(8,vP 3),(15,vI x0),(17,vI x1),(79,vd0 x2),(80,vI x3),(81,vI x4)],[],[.loop 1 none 45 161 106 [(5,vP 1),(6,vP 2),(8,vP 3)],.box 22 [kd0 x5],.box 4 [.bool x6],.box 22 [.g 4],rd0 x7],5,false⟩
theorem qdC {k m n:Nat} {r:Int} (h:q9 n x0 x1 x2 x3 x4 x5 x6 x7=some r):lE S48 45 8 k (n+m) (Kw x0 x1 x2 x3 x4 x5 x6 x7)=some (DB x0 x5 x6 x7 r):=by
 induction n generalizing x1 x4 with
 |zero=>cases h
 |succ n ih=>
 exact lS (gf (fun x0 x1 x2 x3 x4 x5 x6 x7=>lE S48 45 8 k (n+m) (Kw x0 x1 x2 x3 x4 x5 x6 x7)) (sm (DB x0 x5 x6 x7)) x0 x1 x2 x3 x4 x5 x6 x7) (by kernel_rfl) (by rw [KQ];unfold gf;with_reducible repeat' first|apply zd|exact ih _ _|exact nX|exact sX) h
end
def S49:=S48.lp 45 8 (Kw 0 0 [] 0 0 [] false []) (fun x0 x1 x2 x3 x4 x5 x6 x7=>some (y1 (q9 FU x0 x1 x2 x3 x4 x5 x6 x7) (DB x0 x5 x6 x7))) (by kernel_rfl) fun _=>w1 fun h=>qdC _ _ _ _ _ _ _ _ h
section
variable {β:Type} (z:(Unit ⊕ Unit)->Option β) (x0:Int) (x1:LI) (x2:Int) (x3:LI) (x4:Bool) (x5:LI)
def qbB:Option β:=(ob (q9 FU x0 0 x1 (x1.length:Int) 0 x3 x4 x5) fun r1=>(cond (r1==0) (z (.inl ())) (ck x0 (x5.length:Int) (cond (decide (x0.toNat < List.length x5)) (cond (decide (r1≠0)) (cond (decide (List.getD x5 x0.toNat 0 < wI (Int.tdiv (wI (wI ((1000000000000:Int)+r1) - (1:Int))) r1))) (z (.inl ())) (z (.inr ()))) none) none))))
def JV (x0:Int) (x1:LI) (x2:Int) (x3:LI) (x4:Bool) (x5:LI):Option (Unit ⊕ Unit):=qbB some x0 x1 x3 x4 x5
abbrev aFR_1:List TA:=[.sc (.yl 0),.sc (I4 x0),.agg [kd0 x1,I4 x2]]
abbrev hFR_1:List TO:=[.loop 0 none 45 161 106 [(5,vP 1),(6,vP 2),(8,vP 3)],.box 22 [kd0 x3],.box 4 [.bool x4],.box 22 [.g 4],rd0 x5]
abbrev rFR_1:(Unit ⊕ Unit)->List TA×List TO:=Sum.elim (fun r=>([.sc (.bool false)],[.loop 2 (some .ret) 45 161 106 [(5,vP 1),(6,vP 2),(8,vP 3)],.box 22 [kd0 x3],.box 4 [.bool false],.box 22 [.g 4],rd0 x5])) fun r=>([.sc (.bool true)],[.loop 0 none 45 161 106 [(5,vP 1),(6,vP 2),(8,vP 3)],.box 22 [kd0 x3],.box 4 [.bool x4],.box 22 [.g 4],rd0 x5])
theorem evR_1:yE S49 (aFR_1 x0 x1 x2) (hFR_1 x3 x4 x5)=(JV x0 x1 x2 x3 x4 x5).bind (sm (rFR_1 x3 x4 x5)):=zE (fun z=>qbB z x0 x1 x3 x4 x5) (by kernel_rfl) fun K=>by unfold JV qbB;with_reducible repeat' first|apply zc|exact nB|exact sB
end
def S50:=S49.yf (aFR_1 0 [] 0) (hFR_1 [] false []) (fun x0 x1 x2 x3 x4 x5=>some (y2 (JV x0 x1 x2 x3 x4 x5) (rFR_1 x3 x4 x5))) fun _=>w2 fun h=>(evR_1 ..).trans (bD h)
section
variable {β:Type} (y:Int->L3->Int->Int->LL->Int->Int->LI->Bool->LI->LI->L3->LL->Option β) (z:(Bool ⊕ Unit)->Option β) (x0:Int) (x1:L3) (x2 x3:Int) (x4:LL) (x5 x6:Int) (x7:LI) (x8:Bool) (x9 x10:LI) (x11:L3) (x12:LL)
def GD:Option β:=(cond (decide (x6 < x5)) (ck x6 (x4.length:Int) (ck x0 (x12.length:Int) (cond (decide (x6 < (↑(List.length (List.getD x12 x0.toNat [])):Int))) (cond (isL (JV x0 (List.getD x4 x6.toNat []) (List.getD (List.getD x12 x0.toNat []) x6.toNat 0) x7 x8 x9)) (z (.inl (false))) (ob (zB (JV x0 (List.getD x4 x6.toNat []) (List.getD (List.getD x12 x0.toNat []) x6.toNat 0) x7 x8 x9)) fun _=>(y x0 x1 x2 x3 x4 x5 (wI (x6+1)) x7 x8 x9 x10 x11 x12))) none))) (z (.inr ())))
def qbz:Option β:=(cond (decide (x6 < x5)) (ck x6 (x4.length:Int) (ck x0 (x12.length:Int) (ck x6 (↑(List.length (List.getD x12 x0.toNat [])):Int) (cond (isL (JV x0 (List.getD x4 x6.toNat []) (List.getD (List.getD x12 x0.toNat []) x6.toNat 0) x7 x8 x9)) (z (.inl (false))) (ob (zB (JV x0 (List.getD x4 x6.toNat []) (List.getD (List.getD x12 x0.toNat []) x6.toNat 0) x7 x8 x9)) fun _=>(y x0 x1 x2 x3 x4 x5 (wI (x6+1)) x7 x8 x9 x10 x11 x12)))))) (z (.inr ())))
def qR:=itL (fun _ _ _ _ _ _ _ _ _ _ _ _ _=>none) fun f=>GD f some
theorem KW (n:Nat):qR (n+1)=GD (qR n) some:=rfl
def DN:(Bool ⊕ Unit)->Ex×CS:=Sum.elim (fun r=>(.ret,⟨[],[],[.loop 2 (some .ret) 45 161 106 [(5,vP 1),(6,vP 2),(8,vP 3)],.box 22 [kd0 x7],.box 4 [.bool r],.box 22 [.g 4],rd0 x9,.box 25 [kd0 x10,kd1 x11],.box 31 [kd2 x12]],7,true⟩)) fun r=>((.exit 2),⟨[(0,.v (.sc (.yl 0))),(2,vP 6),(9,vd2 x1),(10,vI x2),(11,vI x3)],[],[.loop 0 none 45 161 106 [(5,vP 1),(6,vP 2),(8,vP 3)],.box 22 [kd0 x7],.box 4 [.bool x8],.box 22 [.g 4],rd0 x9,.box 25 [kd0 x10,kd1 x11],.box 31 [kd2 x12]],7,false⟩)
abbrev KD:CS:=⟨[(0,.v (.sc (.yl 0))),(2,vP 6),(4,vI x0),(9,vd2 x1),(10,vI x2),(11,vI x3),(16,vd1 x4),(17,vI x5),(18,vI x6)],[],[.loop 0 none 45 161 106 [(5,vP 1),(6,vP 2),(8,vP 3)],.box 22 [kd0 x7],.box 4 [.bool x8],.box 22 [.g 4],rd0 x9,.box 25 [kd0 x10,kd1 x11],.box 31 [kd2 x12]],7,false⟩
theorem qdO {k m n:Nat} {r:Bool ⊕ Unit} (h:qR n x0 x1 x2 x3 x4 x5 x6 x7 x8 x9 x10 x11 x12=some r):lE S50 76 2 k (n+m) (KD x0 x1 x2 x3 x4 x5 x6 x7 x8 x9 x10 x11 x12)=some (DN x1 x2 x3 x7 x8 x9 x10 x11 x12 r):=by
 induction n generalizing x6 with
 |zero=>cases h
 |succ n ih=>
 exact lS (qbz (fun x0 x1 x2 x3 x4 x5 x6 x7 x8 x9 x10 x11 x12=>lE S50 76 2 k (n+m) (KD x0 x1 x2 x3 x4 x5 x6 x7 x8 x9 x10 x11 x12)) (sm (DN x1 x2 x3 x7 x8 x9 x10 x11 x12)) x0 x1 x2 x3 x4 x5 x6 x7 x8 x9 x10 x11 x12) (by kernel_rfl) (by rw [KW];unfold GD qbz;with_reducible repeat' first|apply gT ‹_›|apply gF ‹_›|(apply zz<;>intro _)|exact ih _|exact nX|exact sX) h
end
def S51:=S50.lp 76 2 (KD 0 [] 0 0 [] 0 0 [] false [] [] [] []) (fun x0 x1 x2 x3 x4 x5 x6 x7 x8 x9 x10 x11 x12=>some (y2 (qR FU x0 x1 x2 x3 x4 x5 x6 x7 x8 x9 x10 x11 x12) (DN x1 x2 x3 x7 x8 x9 x10 x11 x12))) (by kernel_rfl) fun _=>w2 fun h=>qdO _ _ _ _ _ _ _ _ _ _ _ _ _ h
section
variable {β:Type} (y:L3->Int->Int->LI->Bool->LI->LI->L3->LL->Option β) (z:(Bool ⊕ Unit)->Option β) (x0:L3) (x1 x2:Int) (x3:LI) (x4:Bool) (x5 x6:LI) (x7:L3) (x8:LL)
def gV:Option β:=(cond (decide (x2 < x1)) (ck x2 (x0.length:Int) (cond (isL (qR FU x2 x0 x1 x2 (List.getD x0 x2.toNat []) (↑(List.length (List.getD x0 x2.toNat [])):Int) 0 x3 x4 x5 x6 x7 x8)) (z (.inl (zx (qR FU x2 x0 x1 x2 (List.getD x0 x2.toNat []) (↑(List.length (List.getD x0 x2.toNat [])):Int) 0 x3 x4 x5 x6 x7 x8)))) (ob (zB (qR FU x2 x0 x1 x2 (List.getD x0 x2.toNat []) (↑(List.length (List.getD x0 x2.toNat [])):Int) 0 x3 x4 x5 x6 x7 x8)) fun _=>(y x0 x1 (wI (x2+1)) x3 x4 x5 x6 x7 x8)))) (z (.inr ())))
def ji:=itL (fun _ _ _ _ _ _ _ _ _=>none) fun f=>gV f some
theorem Hf (n:Nat):ji (n+1)=gV (ji n) some:=rfl
def HW:(Bool ⊕ Unit)->Ex×CS:=Sum.elim (fun r=>(.ret,⟨[],[],[.loop 2 (some .ret) 45 161 106 [(5,vP 1),(6,vP 2),(8,vP 3)],.box 22 [kd0 x3],.box 4 [.bool r],.box 22 [.g 4],rd0 x5,.box 25 [kd0 x6,kd1 x7],.box 31 [kd2 x8]],7,true⟩)) fun r=>((.exit 0),⟨[],[],[.loop 0 none 45 161 106 [(5,vP 1),(6,vP 2),(8,vP 3)],.box 22 [kd0 x3],.box 4 [.bool x4],.box 22 [.g 4],rd0 x5,.box 25 [kd0 x6,kd1 x7],.box 31 [kd2 x8]],7,false⟩)
abbrev Sy:CS:=⟨[(0,.v (.sc (.yl 0))),(2,vP 6),(9,vd2 x0),(10,vI x1),(11,vI x2)],[],[.loop 0 none 45 161 106 [(5,vP 1),(6,vP 2),(8,vP 3)],.box 22 [kd0 x3],.box 4 [.bool x4],.box 22 [.g 4],rd0 x5,.box 25 [kd0 x6,kd1 x7],.box 31 [kd2 x8]],7,false⟩
theorem qe6 {k m n:Nat} {r:Bool ⊕ Unit} (h:ji n x0 x1 x2 x3 x4 x5 x6 x7 x8=some r):lE S51 76 0 k (n+m) (Sy x0 x1 x2 x3 x4 x5 x6 x7 x8)=some (HW x3 x4 x5 x6 x7 x8 r):=by
 induction n generalizing x2 with
 |zero=>cases h
 |succ n ih=>
 exact lS (gV (fun x0 x1 x2 x3 x4 x5 x6 x7 x8=>lE S51 76 0 k (n+m) (Sy x0 x1 x2 x3 x4 x5 x6 x7 x8)) (sm (HW x3 x4 x5 x6 x7 x8)) x0 x1 x2 x3 x4 x5 x6 x7 x8) (by kernel_rfl) (by rw [Hf];unfold gV;with_reducible repeat' first|apply zd|exact ih _|exact nX|exact sX) h
end
def S52:=S51.lp 76 0 (Sy [] 0 0 [] false [] [] [] []) (fun x0 x1 x2 x3 x4 x5 x6 x7 x8=>some (y2 (ji FU x0 x1 x2 x3 x4 x5 x6 x7 x8) (HW x3 x4 x5 x6 x7 x8))) (by kernel_rfl) fun _=>w2 fun h=>qe6 _ _ _ _ _ _ _ _ _ h
section
variable {β:Type} (z:(Bool ⊕ Unit)->Option β) (x0:LI) (x1:Bool) (x2 x3:LI) (x4:L3) (x5:LL)
def qaH:Option β:=(cond (isL (ji FU x4 (x4.length:Int) 0 x0 x1 x2 x3 x4 x5)) (z (.inl (zx (ji FU x4 (x4.length:Int) 0 x0 x1 x2 x3 x4 x5)))) (ob (zB (ji FU x4 (x4.length:Int) 0 x0 x1 x2 x3 x4 x5)) fun _=>(z (.inr ()))))
def Jz:=qaH some x0 x1 x2 x3 x4 x5
abbrev qcM:List TA:=[.sc (.yl 0),.sc (.ptr 5 0),.sc (.ptr 6 0)]
abbrev qc7:List TO:=[.loop 0 none 45 161 106 [(5,vP 1),(6,vP 2),(8,vP 3)],.box 22 [kd0 x0],.box 4 [.bool x1],.box 22 [.g 4],rd0 x2,.box 25 [kd0 x3,kd1 x4],.box 31 [kd2 x5]]
abbrev qef:(Bool ⊕ Unit)->List TA×List TO:=Sum.elim (fun r=>([],[.loop 2 (some .ret) 45 161 106 [(5,vP 1),(6,vP 2),(8,vP 3)],.box 22 [kd0 x0],.box 4 [.bool r],.box 22 [.g 4],rd0 x2,.box 25 [kd0 x3,kd1 x4],.box 31 [kd2 x5]])) fun r=>([],[.loop 0 none 45 161 106 [(5,vP 1),(6,vP 2),(8,vP 3)],.box 22 [kd0 x0],.box 4 [.bool x1],.box 22 [.g 4],rd0 x2,.box 25 [kd0 x3,kd1 x4],.box 31 [kd2 x5]])
theorem ev76_1:fE S52 76 qcM (qc7 x0 x1 x2 x3 x4 x5)=(Jz x0 x1 x2 x3 x4 x5).bind (sm (qef x0 x1 x2 x3 x4 x5)):=zE (fun z=>qaH z x0 x1 x2 x3 x4 x5) (by kernel_rfl) fun K=>by unfold Jz qaH;with_reducible repeat' first|apply zc|exact nB|exact sB
end
def S53:=S52.fn 76 qcM (qc7 [] false [] [] [] []) (fun x0 x1 x2 x3 x4 x5=>some (y2 (Jz x0 x1 x2 x3 x4 x5) (qef x0 x1 x2 x3 x4 x5))) rfl fun _=>w2 fun h=>(ev76_1 ..).trans (bD h)
section
variable {β:Type} (z:Bool->Option β) (x0:LI) (x1:L3) (x2:LL) (x3:LI)
def tv45:Option β:=(cond (decide ((x0.length:Int)<=(x0.length:Int))) (cond (decide ((x0.length:Int)<=(↑(nat_lit 2147483648):Int))) (cond (decide ((x1.length:Int)<=(x1.length:Int))) (cond (decide ((x1.length:Int)<=(↑(nat_lit 2147483648):Int))) (ob (v76 (List.replicate (x0.length:Int).toNat 0) (List.replicate (x1.length:Int).toNat 0) x0 x1 x2) fun r1=>(cond (isL (qQ FU x2 (↑(List.length r1.1):Int) 0 x0 x1 r1.2 false r1.1 x3)) (z (zx (qQ FU x2 (↑(List.length r1.1):Int) 0 x0 x1 r1.2 false r1.1 x3))) (ob (zB (qQ FU x2 (↑(List.length r1.1):Int) 0 x0 x1 r1.2 false r1.1 x3)) fun _=>(cond (isL (Jz x3 false r1.2 x0 x1 x2)) (z (zx (Jz x3 false r1.2 x0 x1 x2))) (ob (zB (Jz x3 false r1.2 x0 x1 x2)) fun _=>(z true)))))) none) none) none) none)
def v45:=tv45 some x0 x1 x2 x3
abbrev aF45:List TA:=[.agg [kd0 x0,kd1 x1],.sc (kd2 x2),.sc (kd0 x3)]
abbrev rF45:Bool->List TA×List TO:=fun r=>([.sc (.bool r)],[])
theorem ev45:fE S53 45 (aF45 x0 x1 x2 x3) []=(v45 x0 x1 x2 x3).bind (sm rF45):=zE (fun z=>tv45 z x0 x1 x2 x3) (by kernel_rfl) fun K=>by unfold v45 tv45;with_reducible repeat' first|apply zc|exact nB|exact sB
end
def S54:=S53.fn 45 (aF45 [] [] [] []) [] (fun x0 x1 x2 x3=>some (y1 (v45 x0 x1 x2 x3) rF45)) rfl fun _=>w1 fun h=>(ev45 ..).trans (bD h)
section
variable {β:Type} (y:Int->LI->Int->Int->LI->L3->Option β) (z:Int->Option β) (x0:Int) (x1:LI) (x2 x3:Int) (x4:LI) (x5:L3)
def Jb:Option β:=(cond (decide (x3 < x2)) (ck x3 (x1.length:Int) (cond (decide (x3 < (x4.length:Int))) (y (wI (x0+wI (List.getD x1 x3.toNat 0*List.getD x4 x3.toNat 0))) x1 x2 (wI (x3+1)) x4 x5) none)) (z x0))
def qbW:Option β:=(cond (decide (x3 < x2)) (ck x3 (x1.length:Int) (ck x3 (x4.length:Int) (y (wI (x0+wI (List.getD x1 x3.toNat 0*List.getD x4 x3.toNat 0))) x1 x2 (wI (x3+1)) x4 x5))) (z x0))
def jw:=itL (fun _ _ _ _ _ _=>none) fun f=>Jb f some
theorem SW (n:Nat):jw (n+1)=Jb (jw n) some:=rfl
def HK:Int->Ex×CS:=fun r=>((.exit 0),⟨[(2,.l 2 0),(5,vI r)],[],[],0,false⟩)
abbrev Sn:CS:=⟨[(2,.l 2 0),(5,vI x0),(8,vd0 x1),(9,vI x2),(10,vI x3)],[(2,[kd0 x4,kd1 x5])],[],0,false⟩
theorem qeV {k m n:Nat} {r:Int} (h:jw n x0 x1 x2 x3 x4 x5=some r):lE S54 46 0 k (n+m) (Sn x0 x1 x2 x3 x4 x5)=some (HK r):=by
 induction n generalizing x0 x3 with
 |zero=>cases h
 |succ n ih=>
 exact lS (qbW (fun x0 x1 x2 x3 x4 x5=>lE S54 46 0 k (n+m) (Sn x0 x1 x2 x3 x4 x5)) (sm HK) x0 x1 x2 x3 x4 x5) (by kernel_rfl) (by rw [SW];unfold Jb qbW;with_reducible repeat' first|apply gT ‹_›|apply gF ‹_›|(apply zz<;>intro _)|exact ih _ _|exact nX|exact sX) h
end
def S55:=S54.lp 46 0 (Sn 0 [] 0 0 [] []) (fun x0 x1 x2 x3 x4 x5=>some (y1 (jw FU x0 x1 x2 x3 x4 x5) HK)) (by kernel_rfl) fun _=>w1 fun h=>qeV _ _ _ _ _ _ h
section
variable {β:Type} (z:Int->Option β) (x0:LI) (x1:L3) (x2:LI)
def tv46:Option β:=(ob (jw FU 0 x2 (x2.length:Int) 0 x0 x1) fun r1=>(z r1))
def v46:=tv46 some x0 x1 x2
abbrev aF46:List TA:=[.agg [kd0 x0,kd1 x1],.sc (kd0 x2)]
abbrev rF46:Int->List TA×List TO:=fun r=>([.sc (I4 r)],[])
theorem ev46:fE S55 46 (aF46 x0 x1 x2) []=(v46 x0 x1 x2).bind (sm rF46):=zE (fun z=>tv46 z x0 x1 x2) (by kernel_rfl) fun K=>by unfold v46 tv46;with_reducible repeat' first|apply zc|exact nB|exact sB
end
def S56:=S55.fn 46 (aF46 [] [] []) [] (fun x0 x1 x2=>some (y1 (v46 x0 x1 x2) rF46)) rfl fun _=>w1 fun h=>(ev46 ..).trans (bD h)
section
variable {β:Type} (z:(Int × Int)->Option β) (x0:LI) (x1:L3) (x2:LL) (x3:LI)
def tv26:Option β:=(ob (v28 x0 x1) fun r1=>(cond (!r1) (z (0,(1:Int))) (ob (v44 x0 x1 x2 x3) fun r2=>(cond (!r2) (z (0,(1:Int))) (ob (v45 x0 x1 x2 x3) fun r3=>(cond (!r3) (z (0,(17:Int))) (ob (v46 x0 x1 x3) fun r4=>(cond (decide (max 0 (wI (r4 - wI ((1000000:Int)*(x1.length:Int)))) > (1000000000000:Int))) (z (0,(3:Int))) (z (max 0 (wI (r4 - wI ((1000000:Int)*(x1.length:Int)))),0))))))))))
def v26:=tv26 some x0 x1 x2 x3
abbrev aF26:List TA:=[.agg [kd0 x0,kd1 x1],.sc (kd2 x2),.sc (kd0 x3)]
abbrev rF26:(Int×Int)->List TA×List TO:=fun r=>([.sc (I4 r.1),.sc (I4 r.2)],[])
theorem ev26:fE S56 26 (aF26 x0 x1 x2 x3) []=(v26 x0 x1 x2 x3).bind (sm rF26):=zE (fun z=>tv26 z x0 x1 x2 x3) (by kernel_rfl) fun K=>by unfold v26 tv26;with_reducible repeat' first|apply zc|exact nB|exact sB
end
def S57:=S56.fn 26 (aF26 [] [] [] []) [] (fun x0 x1 x2 x3=>some (y1 (v26 x0 x1 x2 x3) rF26)) rfl fun _=>w1 fun h=>(ev26 ..).trans (bD h)
abbrev bx0 (y0:LI) (y1:L3) (y2:LL) (y3:LI) (y4:Int):TO:=.box 55 [kd0 y0,kd1 y1,.g 1,.nil,.g 2,kd2 y2,kd0 y3,I4 y4]
abbrev rd1 (l:LL):TO:=.row 22 yT0 l
section
variable {β:Type} (y:Int->Int->Int->LI->L3->Int->LI->L3->LL->LI->Int->LI->LI->LL->LI->Option β) (z:LI->Option β) (x0 x1 x2:Int) (x3:LI) (x4:L3) (x5:Int) (x6:LI) (x7:L3) (x8:LL) (x9:LI) (x10:Int) (x11 x12:LI) (x13:LL) (x14:LI)
def gE:Option β:=(cond (decide (x2 < x1)) (ck x2 (x11.length:Int) (cond (decide (x2.toNat < List.length x11)) (y x0 x1 (wI (x2+1)) x3 x4 x5 x6 x7 x8 x9 x10 (List.set x11 x2.toNat (1024:Int)) x12 x13 x14) none)) (z x11))
def jm:=itL (fun _ _ _ _ _ _ _ _ _ _ _ _ _ _ _=>none) fun f=>gE f some
theorem SI (n:Nat):jm (n+1)=gE (jm n) some:=rfl
def Hu:LI->Ex×CS:=fun r=>((.exit 0),⟨[(1,vI x0),(2,.l 2 0),(4,.l 4 0),(6,vP 0)],[(2,[kd0 x3,kd1 x4]),(4,[.g 3,.g 4,I4 x5])],[bx0 x6 x7 x8 x9 x10,rd0 r,rd0 x12,rd1 x13,rd0 x14],0,false⟩)
abbrev D7:CS:=⟨[(1,vI x0),(2,.l 2 0),(4,.l 4 0),(6,vP 0),(38,vI x1),(39,vI x2)],[(2,[kd0 x3,kd1 x4]),(4,[.g 3,.g 4,I4 x5])],[bx0 x6 x7 x8 x9 x10,rd0 x11,rd0 x12,rd1 x13,rd0 x14],0,false⟩
theorem qeH {k m n:Nat} {r:LI} (h:jm n x0 x1 x2 x3 x4 x5 x6 x7 x8 x9 x10 x11 x12 x13 x14=some r):lE S57 14 0 k (n+m) (D7 x0 x1 x2 x3 x4 x5 x6 x7 x8 x9 x10 x11 x12 x13 x14)=some (Hu x0 x3 x4 x5 x6 x7 x8 x9 x10 x12 x13 x14 r):=by
 induction n generalizing x2 x11 with
 |zero=>cases h
 |succ n ih=>
 exact lS (gE (fun x0 x1 x2 x3 x4 x5 x6 x7 x8 x9 x10 x11 x12 x13 x14=>lE S57 14 0 k (n+m) (D7 x0 x1 x2 x3 x4 x5 x6 x7 x8 x9 x10 x11 x12 x13 x14)) (sm (Hu x0 x3 x4 x5 x6 x7 x8 x9 x10 x12 x13 x14)) x0 x1 x2 x3 x4 x5 x6 x7 x8 x9 x10 x11 x12 x13 x14) (by kernel_rfl) (by rw [SI];unfold gE;with_reducible repeat' first|apply zd|exact ih _ _|exact nX|exact sX) h
end
def S58:=S57.lp 14 0 (D7 0 0 0 [] [] 0 [] [] [] [] 0 [] [] [] []) (fun x0 x1 x2 x3 x4 x5 x6 x7 x8 x9 x10 x11 x12 x13 x14=>some (y1 (jm FU x0 x1 x2 x3 x4 x5 x6 x7 x8 x9 x10 x11 x12 x13 x14) (Hu x0 x3 x4 x5 x6 x7 x8 x9 x10 x12 x13 x14))) (by kernel_rfl) fun _=>w1 fun h=>qeH _ _ _ _ _ _ _ _ _ _ _ _ _ _ _ h
section
variable {β:Type} (z:Int->Option β) (x0 x1:Int)
def tv32:Option β:=(z 0)
def v32 (x0 x1:Int):Option Int:=tv32 some
abbrev aF32:List TA:=[.sc (I4 x0),.sc (I4 x1)]
abbrev rF32:Int->List TA×List TO:=fun r=>([.sc (I4 r)],[])
theorem ev32:fE S58 32 (aF32 x0 x1) []=(v32 x0 x1).bind (sm rF32):=zE (fun z=>tv32 z) (by kernel_rfl) fun K=>by unfold v32 tv32;with_reducible repeat' first|apply zc|exact nB|exact sB
end
def S59:=S58.fn 32 (aF32 0 0) [] (fun x0 x1=>some (y1 (v32 x0 x1) rF32)) rfl fun _=>w1 fun h=>(ev32 ..).trans (bD h)
section
variable {β:Type} (y:Int->L3->Int->Int->Int->Int->LI->L3->LL->LI->Int->LI->LI->LI->LL->Option β) (z:LI->Option β) (x0:Int) (x1:L3) (x2 x3 x4 x5:Int) (x6:LI) (x7:L3) (x8:LL) (x9:LI) (x10:Int) (x11 x12 x13:LI) (x14:LL)
def j9:Option β:=(cond (decide (x5 < x4)) (ck x5 (x13.length:Int) (cond (decide (x5.toNat < List.length x13)) (y x0 x1 x2 x3 x4 (wI (x5+1)) x6 x7 x8 x9 x10 x11 x12 (List.set x13 x5.toNat (val (v32 x0 x5))) x14) none)) (z x13))
def qJ:=itL (fun _ _ _ _ _ _ _ _ _ _ _ _ _ _ _=>none) fun f=>j9 f some
theorem KH (n:Nat):qJ (n+1)=j9 (qJ n) some:=rfl
def Dp:LI->Ex×CS:=fun r=>((.exit 2),⟨[(1,.v (.sc (.fn 32 0 [] []))),(5,vG 4),(8,vG 3),(14,vd2 x1),(15,vI x2),(16,vI x3)],[],[bx0 x6 x7 x8 x9 x10,rd0 x11,rd0 x12,rd0 r,rd1 x14],3,false⟩)
abbrev Km:CS:=⟨[(1,.v (.sc (.fn 32 0 [] []))),(5,vG 4),(6,vI x0),(8,vG 3),(14,vd2 x1),(15,vI x2),(16,vI x3),(25,vI x4),(26,vI x5)],[],[bx0 x6 x7 x8 x9 x10,rd0 x11,rd0 x12,rd0 x13,rd1 x14],3,false⟩
theorem qdq {k m n:Nat} {r:LI} (h:qJ n x0 x1 x2 x3 x4 x5 x6 x7 x8 x9 x10 x11 x12 x13 x14=some r):lE S59 31 2 k (n+m) (Km x0 x1 x2 x3 x4 x5 x6 x7 x8 x9 x10 x11 x12 x13 x14)=some (Dp x1 x2 x3 x6 x7 x8 x9 x10 x11 x12 x14 r):=by
 induction n generalizing x5 x13 with
 |zero=>cases h
 |succ n ih=>
 exact lS (j9 (fun x0 x1 x2 x3 x4 x5 x6 x7 x8 x9 x10 x11 x12 x13 x14=>lE S59 31 2 k (n+m) (Km x0 x1 x2 x3 x4 x5 x6 x7 x8 x9 x10 x11 x12 x13 x14)) (sm (Dp x1 x2 x3 x6 x7 x8 x9 x10 x11 x12 x14)) x0 x1 x2 x3 x4 x5 x6 x7 x8 x9 x10 x11 x12 x13 x14) (by kernel_rfl) (by rw [KH];unfold j9;with_reducible repeat' first|apply zd|exact ih _ _|exact nX|exact sX) h
end
def S60:=S59.lp 31 2 (Km 0 [] 0 0 0 0 [] [] [] [] 0 [] [] [] []) (fun x0 x1 x2 x3 x4 x5 x6 x7 x8 x9 x10 x11 x12 x13 x14=>some (y1 (qJ FU x0 x1 x2 x3 x4 x5 x6 x7 x8 x9 x10 x11 x12 x13 x14) (Dp x1 x2 x3 x6 x7 x8 x9 x10 x11 x12 x14))) (by kernel_rfl) fun _=>w1 fun h=>qdq _ _ _ _ _ _ _ _ _ _ _ _ _ _ _ h
section
variable {β:Type} (y:L3->Int->Int->LI->L3->LL->LI->Int->LI->LI->LL->Option β) (z:LL->Option β) (x0:L3) (x1 x2:Int) (x3:LI) (x4:L3) (x5:LL) (x6:LI) (x7:Int) (x8 x9:LI) (x10:LL)
def gH:Option β:=(cond (decide (x2 < x1)) (ck x2 (x0.length:Int) (cond (decide ((↑(List.length (List.getD x0 x2.toNat [])):Int)<=(↑(List.length (List.getD x0 x2.toNat [])):Int))) (cond (decide ((↑(List.length (List.getD x0 x2.toNat [])):Int)<=(↑(nat_lit 2147483648):Int))) (ob (qJ FU x2 x0 x1 x2 (↑(List.length (List.replicate (↑(List.length (List.getD x0 x2.toNat [])):Int).toNat (0:Int))):Int) 0 x3 x4 x5 x6 x7 x8 x9 (List.replicate (↑(List.length (List.getD x0 x2.toNat [])):Int).toNat 0) x10) fun r1=>(cond (decide (List.length x10+List.length [val (qJ FU x2 x0 x1 x2 (↑(List.length (List.replicate (↑(List.length (List.getD x0 x2.toNat [])):Int).toNat (0:Int))):Int) (0:Int) x3 x4 x5 x6 x7 x8 x9 (List.replicate (↑(List.length (List.getD x0 x2.toNat [])):Int).toNat (0:Int)) x10)]<=nat_lit 2147483648)) (y x0 x1 (wI (x2+1)) x3 x4 x5 x6 x7 x8 x9 (x10++[r1])) none)) none) none)) (z x10))
def jp:=itL (fun _ _ _ _ _ _ _ _ _ _ _=>none) fun f=>gH f some
theorem SL (n:Nat):jp (n+1)=gH (jp n) some:=rfl
def HA:LL->Ex×CS:=fun r=>((.exit 0),⟨[(5,vG 3)],[],[bx0 x3 x4 x5 x6 x7,rd0 x8,rd0 x9,rd1 r],3,false⟩)
abbrev Sb:CS:=⟨[(1,.v (.sc (.fn 32 0 [] []))),(5,vG 3),(14,vd2 x0),(15,vI x1),(16,vI x2)],[],[bx0 x3 x4 x5 x6 x7,rd0 x8,rd0 x9,rd1 x10],3,false⟩
theorem qeL {k m n:Nat} {r:LL} (h:jp n x0 x1 x2 x3 x4 x5 x6 x7 x8 x9 x10=some r):lE S60 31 0 k (n+m) (Sb x0 x1 x2 x3 x4 x5 x6 x7 x8 x9 x10)=some (HA x3 x4 x5 x6 x7 x8 x9 r):=by
 induction n generalizing x2 x10 with
 |zero=>cases h
 |succ n ih=>
 exact lS (gH (fun x0 x1 x2 x3 x4 x5 x6 x7 x8 x9 x10=>lE S60 31 0 k (n+m) (Sb x0 x1 x2 x3 x4 x5 x6 x7 x8 x9 x10)) (sm (HA x3 x4 x5 x6 x7 x8 x9)) x0 x1 x2 x3 x4 x5 x6 x7 x8 x9 x10) (by kernel_rfl) (by rw [SL];unfold gH;with_reducible repeat' first|apply zd|exact ih _ _|exact nX|exact sX) h
end
def S61:=S60.lp 31 0 (Sb [] 0 0 [] [] [] [] 0 [] [] []) (fun x0 x1 x2 x3 x4 x5 x6 x7 x8 x9 x10=>some (y1 (jp FU x0 x1 x2 x3 x4 x5 x6 x7 x8 x9 x10) (HA x3 x4 x5 x6 x7 x8 x9))) (by kernel_rfl) fun _=>w1 fun h=>qeL _ _ _ _ _ _ _ _ _ _ _ h
section
variable {β:Type} (z:LL->Option β) (x0:LI) (x1:L3) (x2:LL) (x3:LI) (x4:Int) (x5 x6:LI)
def tv31:Option β:=(ob (jp FU x1 (x1.length:Int) 0 x0 x1 x2 x3 x4 x5 x6 []) fun r1=>(z r1))
def v31:=tv31 some x0 x1 x2 x3 x4 x5 x6
abbrev aF31:List TA:=[.sc (.ptr 0 0),.sc (.fn 32 0 [] [])]
abbrev hF31:List TO:=[bx0 x0 x1 x2 x3 x4,rd0 x5,rd0 x6]
abbrev rF31:LL->List TA×List TO:=fun r=>([.sc (kd2 r)],[bx0 x0 x1 x2 x3 x4,rd0 x5,rd0 x6])
theorem ev31:fE S61 31 aF31 (hF31 x0 x1 x2 x3 x4 x5 x6)=(v31 x0 x1 x2 x3 x4 x5 x6).bind (sm (rF31 x0 x1 x2 x3 x4 x5 x6)):=zE (fun z=>tv31 z x0 x1 x2 x3 x4 x5 x6) (by kernel_rfl) fun K=>by unfold v31 tv31;with_reducible repeat' first|apply zc|exact nB|exact sB
end
def S62:=S61.fn 31 aF31 (hF31 [] [] [] [] 0 [] []) (fun x0 x1 x2 x3 x4 x5 x6=>some (y1 (v31 x0 x1 x2 x3 x4 x5 x6) (rF31 x0 x1 x2 x3 x4 x5 x6))) rfl fun _=>w1 fun h=>(ev31 ..).trans (bD h)
abbrev bx1 (y0:LI) (y1:L3) (y2:LL) (y3:LL) (y4:LI) (y5:Int):TO:=.box 55 [kd0 y0,kd1 y1,.g 2,kd2 y2,.g 3,kd2 y3,kd0 y4,I4 y5]
section
variable {β:Type} (z:Bool->Option β) (x0:Int) (x1:LI) (x2:L3) (x3 x4:LL) (x5:LI) (x6:Int) (x7 x8:LI)
def tv72:Option β:=(ck x0 (x1.length:Int) (z (List.getD x1 x0.toNat 0==0)))
def v72 (x0:Int) (x1:LI) (x2:L3) (x3 x4:LL) (x5:LI) (x6:Int) (x7 x8:LI):Option Bool:=tv72 some x0 x1
abbrev aF72:List TA:=[.sc (I4 x0),.sc (.ptr 0 0)]
abbrev hF72:List TO:=[.box 53 [.ptr 1 0],bx1 x1 x2 x3 x4 x5 x6,rd0 x7,rd0 x8]
abbrev rF72:Bool->List TA×List TO:=fun r=>([.sc (.bool r)],[.box 53 [.ptr 1 0],bx1 x1 x2 x3 x4 x5 x6,rd0 x7,rd0 x8])
theorem ev72:fE S62 72 (aF72 x0) (hF72 x1 x2 x3 x4 x5 x6 x7 x8)=(v72 x0 x1 x2 x3 x4 x5 x6 x7 x8).bind (sm (rF72 x1 x2 x3 x4 x5 x6 x7 x8)):=zE (fun z=>tv72 z x0 x1) (by kernel_rfl) fun K=>by unfold v72 tv72;with_reducible repeat' first|apply zc|exact nB|exact sB
end
def S63:=S62.fn 72 (aF72 0) (hF72 [] [] [] [] [] 0 [] []) (fun x0 x1 x2 x3 x4 x5 x6 x7 x8=>some (y1 (v72 x0 x1 x2 x3 x4 x5 x6 x7 x8) (rF72 x1 x2 x3 x4 x5 x6 x7 x8))) rfl fun _=>w1 fun h=>(ev72 ..).trans (bD h)
section
variable {β:Type} (y:LI->Int->Int->LI->L3->LL->LL->LI->Int->LI->LI->Option β) (z:(Int ⊕ Unit)->Option β) (x0:LI) (x1 x2:Int) (x3:LI) (x4:L3) (x5 x6:LL) (x7:LI) (x8:Int) (x9 x10:LI)
def gZ:Option β:=(cond (decide (x2 < x1)) (ck x2 (x0.length:Int) (ob (v72 (List.getD x0 x2.toNat 0) x3 x4 x5 x6 x7 x8 x9 x10) fun r1=>(cond r1 (z (.inl (x2))) (y x0 x1 (wI (x2+1)) x3 x4 x5 x6 x7 x8 x9 x10)))) (z (.inr ())))
def jE:=itL (fun _ _ _ _ _ _ _ _ _ _ _=>none) fun f=>gZ f some
theorem Hj (n:Nat):jE (n+1)=gZ (jE n) some:=rfl
def H5:(Int ⊕ Unit)->Ex×CS:=Sum.elim (fun r=>(.ret,⟨[(4,vI r)],[],[.box 53 [.ptr 1 0],bx1 x3 x4 x5 x6 x7 x8,rd0 x9,rd0 x10],4,true⟩)) fun r=>((.exit 0),⟨[],[],[.box 53 [.ptr 1 0],bx1 x3 x4 x5 x6 x7 x8,rd0 x9,rd0 x10],4,false⟩)
abbrev SC:CS:=⟨[(0,vd0 x0),(1,.v (.sc (.fn 72 0 [none] [.ptr 0 0]))),(7,vI x1),(8,vI x2)],[],[.box 53 [.ptr 1 0],bx1 x3 x4 x5 x6 x7 x8,rd0 x9,rd0 x10],4,false⟩
theorem qfa {k m n:Nat} {r:Int ⊕ Unit} (h:jE n x0 x1 x2 x3 x4 x5 x6 x7 x8 x9 x10=some r):lE S63 77 0 k (n+m) (SC x0 x1 x2 x3 x4 x5 x6 x7 x8 x9 x10)=some (H5 x3 x4 x5 x6 x7 x8 x9 x10 r):=by
 induction n generalizing x2 with
 |zero=>cases h
 |succ n ih=>
 exact lS (gZ (fun x0 x1 x2 x3 x4 x5 x6 x7 x8 x9 x10=>lE S63 77 0 k (n+m) (SC x0 x1 x2 x3 x4 x5 x6 x7 x8 x9 x10)) (sm (H5 x3 x4 x5 x6 x7 x8 x9 x10)) x0 x1 x2 x3 x4 x5 x6 x7 x8 x9 x10) (by kernel_rfl) (by rw [Hj];unfold gZ;with_reducible repeat' first|apply zd|exact ih _|exact nX|exact sX) h
end
def S64:=S63.lp 77 0 (SC [] 0 0 [] [] [] [] [] 0 [] []) (fun x0 x1 x2 x3 x4 x5 x6 x7 x8 x9 x10=>some (y2 (jE FU x0 x1 x2 x3 x4 x5 x6 x7 x8 x9 x10) (H5 x3 x4 x5 x6 x7 x8 x9 x10))) (by kernel_rfl) fun _=>w2 fun h=>qfa _ _ _ _ _ _ _ _ _ _ _ h
section
variable {β:Type} (z:Int->Option β) (x0 x1:LI) (x2:L3) (x3 x4:LL) (x5:LI) (x6:Int) (x7 x8:LI)
def qaK:Option β:=(cond (isL (jE FU x0 (x0.length:Int) 0 x1 x2 x3 x4 x5 x6 x7 x8)) (z (zx (jE FU x0 (x0.length:Int) 0 x1 x2 x3 x4 x5 x6 x7 x8))) (ob (zB (jE FU x0 (x0.length:Int) 0 x1 x2 x3 x4 x5 x6 x7 x8)) fun _=>(z ((-1:Int)))))
def qaS:=qaK some x0 x1 x2 x3 x4 x5 x6 x7 x8
abbrev qcP:List TA:=[.sc (kd0 x0),.sc (.fn 72 0 [none] [.ptr 0 0])]
abbrev qda:List TO:=[.box 53 [.ptr 1 0],bx1 x1 x2 x3 x4 x5 x6,rd0 x7,rd0 x8]
abbrev qei:Int->List TA×List TO:=fun r=>([.sc (I4 r)],[.box 53 [.ptr 1 0],bx1 x1 x2 x3 x4 x5 x6,rd0 x7,rd0 x8])
theorem ev77_3:fE S64 77 (qcP x0) (qda x1 x2 x3 x4 x5 x6 x7 x8)=(qaS x0 x1 x2 x3 x4 x5 x6 x7 x8).bind (sm (qei x1 x2 x3 x4 x5 x6 x7 x8)):=zE (fun z=>qaK z x0 x1 x2 x3 x4 x5 x6 x7 x8) (by kernel_rfl) fun K=>by unfold qaS qaK;with_reducible repeat' first|apply zc|exact nB|exact sB
end
def S65:=S64.fn 77 (qcP []) (qda [] [] [] [] [] 0 [] []) (fun x0 x1 x2 x3 x4 x5 x6 x7 x8=>some (y1 (qaS x0 x1 x2 x3 x4 x5 x6 x7 x8) (qei x1 x2 x3 x4 x5 x6 x7 x8))) rfl fun _=>w1 fun h=>(ev77_3 ..).trans (bD h)
section
variable {β:Type} (z:Bool->Option β) (x0 x1:LI) (x2:L3) (x3 x4:LL) (x5:LI) (x6:Int) (x7 x8:LI)
def qaD:Option β:=(ob (qaS x0 x1 x2 x3 x4 x5 x6 x7 x8) fun r1=>(z (decide (r1≥0))))
def qaN:=qaD some x0 x1 x2 x3 x4 x5 x6 x7 x8
abbrev qcI:List TA:=[.sc (kd0 x0),.sc (.fn 72 0 [none] [.ptr 0 0])]
abbrev qc3:List TO:=[.box 53 [.ptr 1 0],bx1 x1 x2 x3 x4 x5 x6,rd0 x7,rd0 x8]
abbrev qeb:Bool->List TA×List TO:=fun r=>([.sc (.bool r)],[.box 53 [.ptr 1 0],bx1 x1 x2 x3 x4 x5 x6,rd0 x7,rd0 x8])
theorem ev66_3:fE S65 66 (qcI x0) (qc3 x1 x2 x3 x4 x5 x6 x7 x8)=(qaN x0 x1 x2 x3 x4 x5 x6 x7 x8).bind (sm (qeb x1 x2 x3 x4 x5 x6 x7 x8)):=zE (fun z=>qaD z x0 x1 x2 x3 x4 x5 x6 x7 x8) (by kernel_rfl) fun K=>by unfold qaN qaD;with_reducible repeat' first|apply zc|exact nB|exact sB
end
def S66:=S65.fn 66 (qcI []) (qc3 [] [] [] [] [] 0 [] []) (fun x0 x1 x2 x3 x4 x5 x6 x7 x8=>some (y1 (qaN x0 x1 x2 x3 x4 x5 x6 x7 x8) (qeb x1 x2 x3 x4 x5 x6 x7 x8))) rfl fun _=>w1 fun h=>(ev66_3 ..).trans (bD h)
abbrev bx2 (y0:LI) (y1:L3) (y2:LL) (y3:LL) (y4:LI) (y5:Int):TO:=.box 55 [kd0 y0,kd1 y1,.g 1,kd2 y2,.g 2,kd2 y3,kd0 y4,I4 y5]
section
variable {β:Type} (z:Bool->Option β) (x0 x1:LI) (x2:L3) (x3 x4:LL) (x5:LI) (x6:Int) (x7 x8:LI)
def tv54:Option β:=(ob (qaN x0 x1 x2 x3 x4 x5 x6 x7 x8) fun r1=>(z (!r1)))
def v54:=tv54 some x0 x1 x2 x3 x4 x5 x6 x7 x8
abbrev aF54:List TA:=[.sc (.ptr 0 0),.sc (kd0 x0)]
abbrev hF54:List TO:=[bx2 x1 x2 x3 x4 x5 x6,rd0 x7,rd0 x8]
abbrev rF54:Bool->List TA×List TO:=fun r=>([.sc (.bool r)],[bx2 x1 x2 x3 x4 x5 x6,rd0 x7,rd0 x8])
theorem ev54:fE S66 54 (aF54 x0) (hF54 x1 x2 x3 x4 x5 x6 x7 x8)=(v54 x0 x1 x2 x3 x4 x5 x6 x7 x8).bind (sm (rF54 x1 x2 x3 x4 x5 x6 x7 x8)):=zE (fun z=>tv54 z x0 x1 x2 x3 x4 x5 x6 x7 x8) (by kernel_rfl) fun K=>by unfold v54 tv54;with_reducible repeat' first|apply zc|exact nB|exact sB
end
def S67:=S66.fn 54 (aF54 []) (hF54 [] [] [] [] [] 0 [] []) (fun x0 x1 x2 x3 x4 x5 x6 x7 x8=>some (y1 (v54 x0 x1 x2 x3 x4 x5 x6 x7 x8) (rF54 x1 x2 x3 x4 x5 x6 x7 x8))) rfl fun _=>w1 fun h=>(ev54 ..).trans (bD h)
section
variable {β:Type} (y:Int->Int->LL->Int->Int->LI->L3->LL->LL->LI->Int->LI->LI->Option β) (z:(Int × Int)->Option β) (x0 x1:Int) (x2:LL) (x3 x4:Int) (x5:LI) (x6:L3) (x7 x8:LL) (x9:LI) (x10:Int) (x11 x12:LI)
def gM:Option β:=(cond (decide (x4 < x3)) (ck x4 (x2.length:Int) (ob (v29 (List.getD x2 x4.toNat []) x11) fun r1=>(ob (v54 (List.getD x2 x4.toNat []) x5 x6 x7 x8 x9 x10 x11 x12) fun r2=>(cond r2 (cond (decide (x0 < 0)) (y x4 r1 x2 x3 (wI (x4+1)) x5 x6 x7 x8 x9 x10 x11 x12) (cond (decide (r1 < x1)) (y x4 r1 x2 x3 (wI (x4+1)) x5 x6 x7 x8 x9 x10 x11 x12) (y x0 x1 x2 x3 (wI (x4+1)) x5 x6 x7 x8 x9 x10 x11 x12))) (y x0 x1 x2 x3 (wI (x4+1)) x5 x6 x7 x8 x9 x10 x11 x12))))) (z (x0,x1)))
def ju:=itL (fun _ _ _ _ _ _ _ _ _ _ _ _ _=>none) fun f=>gM f some
theorem SQ (n:Nat):ju (n+1)=gM (ju n) some:=rfl
def HF:(Int×Int)->Ex×CS:=fun r=>((.exit 0),⟨[(8,vI r.1),(9,vI r.2)],[],[bx2 x5 x6 x7 x8 x9 x10,rd0 x11,rd0 x12],3,false⟩)
abbrev Sh:CS:=⟨[(0,vP 0),(2,vG 1),(8,vI x0),(9,vI x1),(20,vd1 x2),(21,vI x3),(22,vI x4)],[],[bx2 x5 x6 x7 x8 x9 x10,rd0 x11,rd0 x12],3,false⟩
theorem qeQ {k m n:Nat} {r:Int×Int} (h:ju n x0 x1 x2 x3 x4 x5 x6 x7 x8 x9 x10 x11 x12=some r):lE S67 33 0 k (n+m) (Sh x0 x1 x2 x3 x4 x5 x6 x7 x8 x9 x10 x11 x12)=some (HF x5 x6 x7 x8 x9 x10 x11 x12 r):=by
 induction n generalizing x0 x1 x4 with
 |zero=>cases h
 |succ n ih=>
 exact lS (gM (fun x0 x1 x2 x3 x4 x5 x6 x7 x8 x9 x10 x11 x12=>lE S67 33 0 k (n+m) (Sh x0 x1 x2 x3 x4 x5 x6 x7 x8 x9 x10 x11 x12)) (sm (HF x5 x6 x7 x8 x9 x10 x11 x12)) x0 x1 x2 x3 x4 x5 x6 x7 x8 x9 x10 x11 x12) (by kernel_rfl) (by rw [SQ];unfold gM;with_reducible repeat' first|apply zd|exact ih _ _ _|exact nX|exact sX) h
end
def S68:=S67.lp 33 0 (Sh 0 0 [] 0 0 [] [] [] [] [] 0 [] []) (fun x0 x1 x2 x3 x4 x5 x6 x7 x8 x9 x10 x11 x12=>some (y1 (ju FU x0 x1 x2 x3 x4 x5 x6 x7 x8 x9 x10 x11 x12) (HF x5 x6 x7 x8 x9 x10 x11 x12))) (by kernel_rfl) fun _=>w1 fun h=>qeQ _ _ _ _ _ _ _ _ _ _ _ _ _ h
section
variable {β:Type} (z:(Int × Int)->Option β) (x0:Int) (x1:LI) (x2:L3) (x3 x4:LL) (x5:LI) (x6:Int) (x7 x8:LI)
def tv33:Option β:=(ck x0 (x2.length:Int) (ob (ju FU (-1:Int) 0 (List.getD x2 x0.toNat []) (↑(List.length (List.getD x2 x0.toNat [])):Int) 0 x1 x2 x3 x4 x5 x6 x7 x8) fun r1=>(z (r1.1,r1.2))))
def v33:=tv33 some x0 x1 x2 x3 x4 x5 x6 x7 x8
abbrev aF33:List TA:=[.sc (.ptr 0 0),.sc (I4 x0),.sc (.g 1)]
abbrev hF33:List TO:=[bx2 x1 x2 x3 x4 x5 x6,rd0 x7,rd0 x8]
abbrev rF33:(Int×Int)->List TA×List TO:=fun r=>([.sc (I4 r.1),.sc (I4 r.2)],[bx2 x1 x2 x3 x4 x5 x6,rd0 x7,rd0 x8])
theorem ev33:fE S68 33 (aF33 x0) (hF33 x1 x2 x3 x4 x5 x6 x7 x8)=(v33 x0 x1 x2 x3 x4 x5 x6 x7 x8).bind (sm (rF33 x1 x2 x3 x4 x5 x6 x7 x8)):=zE (fun z=>tv33 z x0 x1 x2 x3 x4 x5 x6 x7 x8) (by kernel_rfl) fun K=>by unfold v33 tv33;with_reducible repeat' first|apply zc|exact nB|exact sB
end
def S69:=S68.fn 33 (aF33 0) (hF33 [] [] [] [] [] 0 [] []) (fun x0 x1 x2 x3 x4 x5 x6 x7 x8=>some (y1 (v33 x0 x1 x2 x3 x4 x5 x6 x7 x8) (rF33 x1 x2 x3 x4 x5 x6 x7 x8))) rfl fun _=>w1 fun h=>(ev33 ..).trans (bD h)
section
variable {β:Type} (y:Int->Int->Int->Int->LI->L3->LL->LL->LI->Int->LI->LI->LL->LI->Option β) (z:((Int × Int) ⊕ Unit)->Option β) (x0 x1 x2 x3:Int) (x4:LI) (x5:L3) (x6 x7:LL) (x8:LI) (x9:Int) (x10 x11:LI) (x12:LL) (x13:LI)
def j7:Option β:=(cond (decide (x2 < x1)) (ob (v33 x2 x4 x5 x6 x7 x8 x9 x10 x11) fun r1=>(cond (decide (r1.1 < 0)) (z (.inl ((4:Int),0))) (y x0 x1 (wI (x2+1)) x3 x4 x5 x6 x7 x8 x9 x10 x11 x12 x13))) (z (.inr ())))
def qH:=itL (fun _ _ _ _ _ _ _ _ _ _ _ _ _ _=>none) fun f=>j7 f some
theorem KF (n:Nat):qH (n+1)=j7 (qH n) some:=rfl
def Dl:((Int×Int) ⊕ Unit)->Ex×CS:=Sum.elim (fun r=>(.ret,⟨[(4,.l 4 0),(5,vI r.1)],[(4,[.nil,.nil,I4 r.2])],[],0,true⟩)) fun r=>((.exit 2),⟨[(1,vI x0),(4,.l 4 0),(6,vP 0)],[(4,[.g 3,.g 4,I4 x3])],[bx2 x4 x5 x6 x7 x8 x9,rd0 x10,rd0 x11,rd1 x12,rd0 x13],0,false⟩)
abbrev Kk:CS:=⟨[(1,vI x0),(4,.l 4 0),(6,vP 0),(56,vI x1),(57,vI x2)],[(4,[.g 3,.g 4,I4 x3])],[bx2 x4 x5 x6 x7 x8 x9,rd0 x10,rd0 x11,rd1 x12,rd0 x13],0,false⟩
theorem qdm {k m n:Nat} {r:(Int×Int) ⊕ Unit} (h:qH n x0 x1 x2 x3 x4 x5 x6 x7 x8 x9 x10 x11 x12 x13=some r):lE S69 14 2 k (n+m) (Kk x0 x1 x2 x3 x4 x5 x6 x7 x8 x9 x10 x11 x12 x13)=some (Dl x0 x3 x4 x5 x6 x7 x8 x9 x10 x11 x12 x13 r):=by
 induction n generalizing x2 with
 |zero=>cases h
 |succ n ih=>
 exact lS (j7 (fun x0 x1 x2 x3 x4 x5 x6 x7 x8 x9 x10 x11 x12 x13=>lE S69 14 2 k (n+m) (Kk x0 x1 x2 x3 x4 x5 x6 x7 x8 x9 x10 x11 x12 x13)) (sm (Dl x0 x3 x4 x5 x6 x7 x8 x9 x10 x11 x12 x13)) x0 x1 x2 x3 x4 x5 x6 x7 x8 x9 x10 x11 x12 x13) (by kernel_rfl) (by rw [KF];unfold j7;with_reducible repeat' first|apply zd|exact ih _|exact nX|exact sX) h
end
def S70:=S69.lp 14 2 (Kk 0 0 0 0 [] [] [] [] [] 0 [] [] [] []) (fun x0 x1 x2 x3 x4 x5 x6 x7 x8 x9 x10 x11 x12 x13=>some (y2 (qH FU x0 x1 x2 x3 x4 x5 x6 x7 x8 x9 x10 x11 x12 x13) (Dl x0 x3 x4 x5 x6 x7 x8 x9 x10 x11 x12 x13))) (by kernel_rfl) fun _=>w2 fun h=>qdm _ _ _ _ _ _ _ _ _ _ _ _ _ _ h
section
variable {β:Type} (z:(Int × Int)->Option β) (x0 x1:Int)
def tv73:Option β:=(z (wU (wU (wU (Int.fdiv x0 ((2:Int) ^ min (Int.toNat (32:Int)) (IntKind.bits IntKind.u64))*Int.fdiv x1 ((2:Int) ^ min (Int.toNat (32:Int)) (IntKind.bits IntKind.u64)))+Int.fdiv (wU (wU (Int.fdiv x0 ((2:Int) ^ min (Int.toNat (32:Int)) (IntKind.bits IntKind.u64))*wU (↑(BitVec.toNat (BitVec.ofInt (IntKind.bits IntKind.u64) x1 &&& BitVec.ofInt (IntKind.bits IntKind.u64) (4294967295:Int))):Int))+Int.fdiv (wU (wU (↑(BitVec.toNat (BitVec.ofInt (IntKind.bits IntKind.u64) x0 &&& BitVec.ofInt (IntKind.bits IntKind.u64) (4294967295:Int))):Int)*wU (↑(BitVec.toNat (BitVec.ofInt (IntKind.bits IntKind.u64) x1 &&& BitVec.ofInt (IntKind.bits IntKind.u64) (4294967295:Int))):Int))) ((2:Int) ^ min (Int.toNat (32:Int)) (IntKind.bits IntKind.u64)))) ((2:Int) ^ min (Int.toNat (32:Int)) (IntKind.bits IntKind.u64)))+Int.fdiv (wU (wU (↑(BitVec.toNat (BitVec.ofInt (IntKind.bits IntKind.u64) (wU (wU (Int.fdiv x0 ((2:Int) ^ min (Int.toNat (32:Int)) (IntKind.bits IntKind.u64))*wU (↑(BitVec.toNat (BitVec.ofInt (IntKind.bits IntKind.u64) x1 &&& BitVec.ofInt (IntKind.bits IntKind.u64) (4294967295:Int))):Int))+Int.fdiv (wU (wU (↑(BitVec.toNat (BitVec.ofInt (IntKind.bits IntKind.u64) x0 &&& BitVec.ofInt (IntKind.bits IntKind.u64) (4294967295:Int))):Int)*wU (↑(BitVec.toNat (BitVec.ofInt (IntKind.bits IntKind.u64) x1 &&& BitVec.ofInt (IntKind.bits IntKind.u64) (4294967295:Int))):Int))) ((2:Int) ^ min (Int.toNat (32:Int)) (IntKind.bits IntKind.u64)))) &&& BitVec.ofInt (IntKind.bits IntKind.u64) (4294967295:Int))):Int)+wU (wU (↑(BitVec.toNat (BitVec.ofInt (IntKind.bits IntKind.u64) x0 &&& BitVec.ofInt (IntKind.bits IntKind.u64) (4294967295:Int))):Int)*Int.fdiv x1 ((2:Int) ^ min (Int.toNat (32:Int)) (IntKind.bits IntKind.u64))))) ((2:Int) ^ min (Int.toNat (32:Int)) (IntKind.bits IntKind.u64))),wU (x0*x1)))
def v73:=tv73 some x0 x1
abbrev aF73:List TA:=[.sc (.int .u64 x0),.sc (.int .u64 x1)]
abbrev rF73:(Int×Int)->List TA×List TO:=fun r=>([.sc (.int .u64 r.1),.sc (.int .u64 r.2)],[])
theorem ev73:fE S70 73 (aF73 x0 x1) []=(v73 x0 x1).bind (sm rF73):=zE (fun z=>tv73 z x0 x1) (by kernel_rfl) fun K=>by unfold v73 tv73;with_reducible repeat' first|apply zc|exact nB|exact sB
end
def S71:=S70.fn 73 (aF73 0 0) [] (fun x0 x1=>some (y1 (v73 x0 x1) rF73)) rfl fun _=>w1 fun h=>(ev73 ..).trans (bD h)
section
variable {β:Type} (z:Int->Option β) (x0 x1:Int)
def Jw:Option β:=(cond (decide (0<=IntKind.wrap IntKind.u8 x0)) (cond (decide ((IntKind.wrap IntKind.u8 x0).toNat < ByteArray.size { data:=List.toArray (List.append (List.append [(0:UInt8),(1:UInt8),(2:UInt8),(2:UInt8),(3:UInt8),(3:UInt8),(3:UInt8),(3:UInt8),(4:UInt8),(4:UInt8),(4:UInt8),(4:UInt8),(4:UInt8),(4:UInt8),(4:UInt8),(4:UInt8),(5:UInt8),(5:UInt8),(5:UInt8),(5:UInt8),(5:UInt8),(5:UInt8),(5:UInt8),(5:UInt8),(5:UInt8),(5:UInt8),(5:UInt8),(5:UInt8),(5:UInt8),(5:UInt8),(5:UInt8),(5:UInt8),(6:UInt8),(6:UInt8),(6:UInt8),(6:UInt8),(6:UInt8),(6:UInt8),(6:UInt8),(6:UInt8),(6:UInt8),(6:UInt8),(6:UInt8),(6:UInt8),(6:UInt8),(6:UInt8),(6:UInt8),(6:UInt8),(6:UInt8),(6:UInt8),(6:UInt8),(6:UInt8),(6:UInt8),(6:UInt8),(6:UInt8),(6:UInt8),(6:UInt8),(6:UInt8),(6:UInt8),(6:UInt8),(6:UInt8),(6:UInt8),(6:UInt8),(6:UInt8)] [(7:UInt8),(7:UInt8),(7:UInt8),(7:UInt8),(7:UInt8),(7:UInt8),(7:UInt8),(7:UInt8),(7:UInt8),(7:UInt8),(7:UInt8),(7:UInt8),(7:UInt8),(7:UInt8),(7:UInt8),(7:UInt8),(7:UInt8),(7:UInt8),(7:UInt8),(7:UInt8),(7:UInt8),(7:UInt8),(7:UInt8),(7:UInt8),(7:UInt8),(7:UInt8),(7:UInt8),(7:UInt8),(7:UInt8),(7:UInt8),(7:UInt8),(7:UInt8),(7:UInt8),(7:UInt8),(7:UInt8),(7:UInt8),(7:UInt8),(7:UInt8),(7:UInt8),(7:UInt8),(7:UInt8),(7:UInt8),(7:UInt8),(7:UInt8),(7:UInt8),(7:UInt8),(7:UInt8),(7:UInt8),(7:UInt8),(7:UInt8),(7:UInt8),(7:UInt8),(7:UInt8),(7:UInt8),(7:UInt8),(7:UInt8),(7:UInt8),(7:UInt8),(7:UInt8),(7:UInt8),(7:UInt8),(7:UInt8),(7:UInt8),(7:UInt8)]) (List.append [(8:UInt8),(8:UInt8),(8:UInt8),(8:UInt8),(8:UInt8),(8:UInt8),(8:UInt8),(8:UInt8),(8:UInt8),(8:UInt8),(8:UInt8),(8:UInt8),(8:UInt8),(8:UInt8),(8:UInt8),(8:UInt8),(8:UInt8),(8:UInt8),(8:UInt8),(8:UInt8),(8:UInt8),(8:UInt8),(8:UInt8),(8:UInt8),(8:UInt8),(8:UInt8),(8:UInt8),(8:UInt8),(8:UInt8),(8:UInt8),(8:UInt8),(8:UInt8),(8:UInt8),(8:UInt8),(8:UInt8),(8:UInt8),(8:UInt8),(8:UInt8),(8:UInt8),(8:UInt8),(8:UInt8),(8:UInt8),(8:UInt8),(8:UInt8),(8:UInt8),(8:UInt8),(8:UInt8),(8:UInt8),(8:UInt8),(8:UInt8),(8:UInt8),(8:UInt8),(8:UInt8),(8:UInt8),(8:UInt8),(8:UInt8),(8:UInt8),(8:UInt8),(8:UInt8),(8:UInt8),(8:UInt8),(8:UInt8),(8:UInt8),(8:UInt8)] [(8:UInt8),(8:UInt8),(8:UInt8),(8:UInt8),(8:UInt8),(8:UInt8),(8:UInt8),(8:UInt8),(8:UInt8),(8:UInt8),(8:UInt8),(8:UInt8),(8:UInt8),(8:UInt8),(8:UInt8),(8:UInt8),(8:UInt8),(8:UInt8),(8:UInt8),(8:UInt8),(8:UInt8),(8:UInt8),(8:UInt8),(8:UInt8),(8:UInt8),(8:UInt8),(8:UInt8),(8:UInt8),(8:UInt8),(8:UInt8),(8:UInt8),(8:UInt8),(8:UInt8),(8:UInt8),(8:UInt8),(8:UInt8),(8:UInt8),(8:UInt8),(8:UInt8),(8:UInt8),(8:UInt8),(8:UInt8),(8:UInt8),(8:UInt8),(8:UInt8),(8:UInt8),(8:UInt8),(8:UInt8),(8:UInt8),(8:UInt8),(8:UInt8),(8:UInt8),(8:UInt8),(8:UInt8),(8:UInt8),(8:UInt8),(8:UInt8),(8:UInt8),(8:UInt8),(8:UInt8),(8:UInt8),(8:UInt8),(8:UInt8),(8:UInt8)])) })) (z (wI (x1+wI (↑(UInt8.toNat (Array.getD (ByteArray.data { data:=List.toArray (List.append (List.append [(0:UInt8),(1:UInt8),(2:UInt8),(2:UInt8),(3:UInt8),(3:UInt8),(3:UInt8),(3:UInt8),(4:UInt8),(4:UInt8),(4:UInt8),(4:UInt8),(4:UInt8),(4:UInt8),(4:UInt8),(4:UInt8),(5:UInt8),(5:UInt8),(5:UInt8),(5:UInt8),(5:UInt8),(5:UInt8),(5:UInt8),(5:UInt8),(5:UInt8),(5:UInt8),(5:UInt8),(5:UInt8),(5:UInt8),(5:UInt8),(5:UInt8),(5:UInt8),(6:UInt8),(6:UInt8),(6:UInt8),(6:UInt8),(6:UInt8),(6:UInt8),(6:UInt8),(6:UInt8),(6:UInt8),(6:UInt8),(6:UInt8),(6:UInt8),(6:UInt8),(6:UInt8),(6:UInt8),(6:UInt8),(6:UInt8),(6:UInt8),(6:UInt8),(6:UInt8),(6:UInt8),(6:UInt8),(6:UInt8),(6:UInt8),(6:UInt8),(6:UInt8),(6:UInt8),(6:UInt8),(6:UInt8),(6:UInt8),(6:UInt8),(6:UInt8)] [(7:UInt8),(7:UInt8),(7:UInt8),(7:UInt8),(7:UInt8),(7:UInt8),(7:UInt8),(7:UInt8),(7:UInt8),(7:UInt8),(7:UInt8),(7:UInt8),(7:UInt8),(7:UInt8),(7:UInt8),(7:UInt8),(7:UInt8),(7:UInt8),(7:UInt8),(7:UInt8),(7:UInt8),(7:UInt8),(7:UInt8),(7:UInt8),(7:UInt8),(7:UInt8),(7:UInt8),(7:UInt8),(7:UInt8),(7:UInt8),(7:UInt8),(7:UInt8),(7:UInt8),(7:UInt8),(7:UInt8),(7:UInt8),(7:UInt8),(7:UInt8),(7:UInt8),(7:UInt8),(7:UInt8),(7:UInt8),(7:UInt8),(7:UInt8),(7:UInt8),(7:UInt8),(7:UInt8),(7:UInt8),(7:UInt8),(7:UInt8),(7:UInt8),(7:UInt8),(7:UInt8),(7:UInt8),(7:UInt8),(7:UInt8),(7:UInt8),(7:UInt8),(7:UInt8),(7:UInt8),(7:UInt8),(7:UInt8),(7:UInt8),(7:UInt8)]) (List.append [(8:UInt8),(8:UInt8),(8:UInt8),(8:UInt8),(8:UInt8),(8:UInt8),(8:UInt8),(8:UInt8),(8:UInt8),(8:UInt8),(8:UInt8),(8:UInt8),(8:UInt8),(8:UInt8),(8:UInt8),(8:UInt8),(8:UInt8),(8:UInt8),(8:UInt8),(8:UInt8),(8:UInt8),(8:UInt8),(8:UInt8),(8:UInt8),(8:UInt8),(8:UInt8),(8:UInt8),(8:UInt8),(8:UInt8),(8:UInt8),(8:UInt8),(8:UInt8),(8:UInt8),(8:UInt8),(8:UInt8),(8:UInt8),(8:UInt8),(8:UInt8),(8:UInt8),(8:UInt8),(8:UInt8),(8:UInt8),(8:UInt8),(8:UInt8),(8:UInt8),(8:UInt8),(8:UInt8),(8:UInt8),(8:UInt8),(8:UInt8),(8:UInt8),(8:UInt8),(8:UInt8),(8:UInt8),(8:UInt8),(8:UInt8),(8:UInt8),(8:UInt8),(8:UInt8),(8:UInt8),(8:UInt8),(8:UInt8),(8:UInt8),(8:UInt8)] [(8:UInt8),(8:UInt8),(8:UInt8),(8:UInt8),(8:UInt8),(8:UInt8),(8:UInt8),(8:UInt8),(8:UInt8),(8:UInt8),(8:UInt8),(8:UInt8),(8:UInt8),(8:UInt8),(8:UInt8),(8:UInt8),(8:UInt8),(8:UInt8),(8:UInt8),(8:UInt8),(8:UInt8),(8:UInt8),(8:UInt8),(8:UInt8),(8:UInt8),(8:UInt8),(8:UInt8),(8:UInt8),(8:UInt8),(8:UInt8),(8:UInt8),(8:UInt8),(8:UInt8),(8:UInt8),(8:UInt8),(8:UInt8),(8:UInt8),(8:UInt8),(8:UInt8),(8:UInt8),(8:UInt8),(8:UInt8),(8:UInt8),(8:UInt8),(8:UInt8),(8:UInt8),(8:UInt8),(8:UInt8),(8:UInt8),(8:UInt8),(8:UInt8),(8:UInt8),(8:UInt8),(8:UInt8),(8:UInt8),(8:UInt8),(8:UInt8),(8:UInt8),(8:UInt8),(8:UInt8),(8:UInt8),(8:UInt8),(8:UInt8),(8:UInt8)])) }) (IntKind.wrap IntKind.u8 x0).toNat (0:UInt8))):Int)))) none) none)
def jO:=Jw some x0 x1
def DQ:Int->Ex×CS:=fun r=>(.ret,⟨[(2,vI r)],[],[],0,true⟩)
abbrev qbh:CS:=⟨[(0,.v (.sc (.int .u64 x0))),(2,vI x1)],[],[],0,false⟩
theorem qdR {k:Nat} {r:Int}:jO x0 x1=some r->pE S71 84 84 0 k (qbh x0 x1)=some (DQ r):=lP (Jw (sm DQ) x0 x1) (by kernel_rfl) (by unfold jO Jw;with_reducible repeat' first|apply zd|exact nX|exact sX)
end
def S72:=S71.pc 84 84 0 (qbh 0 0) (fun x0 x1=>some (y1 (jO x0 x1) DQ)) (by kernel_rfl) rfl fun _=>w1 fun h=>qdR _ _ h
section
variable {β:Type} (z:Int->Option β) (x0 x1:Int)
def Jv:Option β:=(cond (decide (x0≥(256:Int))) (ob (jO (Int.fdiv x0 ((2:Int) ^ min (Int.toNat (8:Int)) (IntKind.bits IntKind.u64))) (wI (x1+8))) fun r1=>(z r1)) (ob (jO x0 x1) fun r1=>(z r1)))
def jX:=Jv some x0 x1
def DP:Int->Ex×CS:=fun r=>(.ret,⟨[(2,vI r)],[],[],0,true⟩)
abbrev qbg:CS:=⟨[(0,.v (.sc (.int .u64 x0))),(2,vI x1)],[],[],0,false⟩
theorem qdQ {k:Nat} {r:Int}:jX x0 x1=some r->pE S72 84 60 0 k (qbg x0 x1)=some (DP r):=lP (Jv (sm DP) x0 x1) (by kernel_rfl) (by unfold jX Jv;with_reducible repeat' first|apply zd|exact nX|exact sX)
end
def S73:=S72.pc 84 60 0 (qbg 0 0) (fun x0 x1=>some (y1 (jX x0 x1) DP)) (by kernel_rfl) rfl fun _=>w1 fun h=>qdQ _ _ h
section
variable {β:Type} (z:Int->Option β) (x0 x1:Int)
def Ju:Option β:=(cond (decide (x0≥(65536:Int))) (ob (jX (Int.fdiv x0 ((2:Int) ^ min (Int.toNat (16:Int)) (IntKind.bits IntKind.u64))) (wI (x1+16))) fun r1=>(z r1)) (ob (jX x0 x1) fun r1=>(z r1)))
def jW:=Ju some x0 x1
def DO:Int->Ex×CS:=fun r=>(.ret,⟨[(2,vI r)],[],[],0,true⟩)
abbrev qbf:CS:=⟨[(0,.v (.sc (.int .u64 x0))),(2,vI x1)],[],[],0,false⟩
theorem qdP {k:Nat} {r:Int}:jW x0 x1=some r->pE S73 84 36 0 k (qbf x0 x1)=some (DO r):=lP (Ju (sm DO) x0 x1) (by kernel_rfl) (by unfold jW Ju;with_reducible repeat' first|apply zd|exact nX|exact sX)
end
def S74:=S73.pc 84 36 0 (qbf 0 0) (fun x0 x1=>some (y1 (jW x0 x1) DO)) (by kernel_rfl) rfl fun _=>w1 fun h=>qdP _ _ h
section
variable {β:Type} (z:Int->Option β) (x0:Int)
def tv84:Option β:=(cond (decide (x0≥(4294967296:Int))) (ob (jW (Int.fdiv x0 ((2:Int) ^ min (Int.toNat (32:Int)) (IntKind.bits IntKind.u64))) (32:Int)) fun r1=>(z r1)) (ob (jW x0 0) fun r1=>(z r1)))
def v84:=tv84 some x0
abbrev aF84:List TA:=[.sc (.int .u64 x0)]
abbrev rF84:Int->List TA×List TO:=fun r=>([.sc (I4 r)],[])
theorem ev84:fE S74 84 (aF84 x0) []=(v84 x0).bind (sm rF84):=zE (fun z=>tv84 z x0) (by kernel_rfl) fun K=>by unfold v84 tv84;with_reducible repeat' first|apply zc|exact nB|exact sB
end
def S75:=S74.fn 84 (aF84 0) [] (fun x0=>some (y1 (v84 x0) rF84)) rfl fun _=>w1 fun h=>(ev84 ..).trans (bD h)
section
variable {β:Type} (z:Int->Option β) (x0:Int)
def tv80:Option β:=(ob (v84 x0) fun r1=>(z (wI ((64:Int) - r1))))
def v80:=tv80 some x0
abbrev aF80:List TA:=[.sc (.int .u64 x0)]
abbrev rF80:Int->List TA×List TO:=fun r=>([.sc (I4 r)],[])
theorem ev80:fE S75 80 (aF80 x0) []=(v80 x0).bind (sm rF80):=zE (fun z=>tv80 z x0) (by kernel_rfl) fun K=>by unfold v80 tv80;with_reducible repeat' first|apply zc|exact nB|exact sB
end
def S76:=S75.fn 80 (aF80 0) [] (fun x0=>some (y1 (v80 x0) rF80)) rfl fun _=>w1 fun h=>(ev80 ..).trans (bD h)
end
end Go.Proofs.Ytpfphfobneehmaa
