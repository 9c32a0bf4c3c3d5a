/- The typed machine: calls, regions, code. -/
import Derived.Test.YtpfphfobneehmaaB4
set_option linter.all false
namespace Go.TM
open Go Go.AM
noncomputable section
section
variable {R : Type} (P : Program) (A : TAn) (ev : TEv)
def lendC (h:TH) (ord:List Nat) (t:Option TypeId) (v:TC) (c:TC→List Nat→Option R):Option R:=
 match v with
 | .g id=>cond (yP ord id) (c (.g (yX ord id)) []) (match zF h id with | .row e t xs=>c (.d e t xs) [id] | _=>none)
 | .sl id o n=>cond (yP ord id) (c (.sl (yX ord id) o n) []) (match zF h id with | .row e t xs=>guardB (decide (o+n≤xs.length)) (c (.d e t ((xs.drop o).take n)) [id]) | _=>none)
 | .sc id o n=>cond (yP ord id) (c (.sc (yX ord id) o n) []) (match t with | some e=>elT P e fun t=>elems h e t (.sc id o n) fun xs _=>c (.d e t xs) [id] | none=>none)
 | .nil=>match t with | some e=>(match ZF P 8 e with | some t=>c (.d e t []) [] | none=>c .nil []) | none=>c .nil []
 | .fn f nf sh cs=>guardB ((TC.refsL cs).all (yP ord)) (c (.fn f nf sh (TC.renL (yX ord) cs)) [])
 | .ptr id o=>guardB (yP ord id) (c (.ptr (yX ord id) o) [])
 | .yl id=>guardB (yP ord id) (c (.yl (yX ord id)) [])
 | v=>c v []
def Tc (h:TH) (ord:List Nat):List (Option TypeId)→List TC→(List TC→List Nat→Option R)→Option R
 | _,[],c=>c [] []
 | t,x::r,c=>lendC P h ord (t.headD none) x fun y l=>Tc h ord t.tail r fun ys m=>c (y::ys) (l++m)
def lendA (h:TH) (ord:List Nat) (t:Option TypeId) (v:TA) (c:TA→List Nat→Option R):Option R:=
 match v with
 | .sc x=>lendC P h ord ((t.map fun t=>(VD P 8 t).headD none).getD none) x fun y l=>c (.sc y) l
 | .agg xs=>Tc P h ord ((t.map fun t=>VD P 8 t).getD []) xs fun ys l=>c (.agg ys) l
def WT (h:TH) (ord:List Nat):List (Option TypeId)→List TA→(List TA→List Nat→Option R)→Option R
 | _,[],c=>c [] []
 | t,x::r,c=>lendA P h ord (t.headD none) x fun y l=>WT h ord t.tail r fun ys m=>c (y::ys) (l++m)
def rootsC:TC→List Nat
 | .ptr id _=>[id]
 | .fn _ _ _ cs=>TC.refsL cs
 | .yl id=>[id]
 | _=>[]
def rootsA (v:TA):List Nat:=v.cells.flatMap rootsC
def WY:TC→Bool
 | .bool _ | .int _ _ | .str _ | .nilp | .nilf | .nili=>true
 | _=>false
def Te (h:TH) (ord:List Nat):Bool:=UF ord&&ord.all fun i=>Nat.blt i h.length&&(zF h i).refs.all (yP ord)
def ZE (h:TH) (ord:List Nat) (i:Nat):Nat:=cond (Nat.blt i ord.length) (ord.getD i 0) (h.length+(i - ord.length))
def xD (h:TH) (ord lent:List Nat) (h':TH):TH:=
 (h.zipIdx.map fun p=>cond (yP ord p.2) ((zF h' (yX ord p.2)).ren (ZE h ord)) (cond (yP lent p.2) .dead p.1))++(h'.drop ord.length).map (TO.ren (ZE h ord))
def xN:List (Bool×List TA×TH)→(List TA→TH→Option R)→Option R
 | [],_=>none
 | (b,rs,h)::r,c=>cond b (c rs h) (xN r c)
def Wm (f:FuncId) (ts:List (Option TypeId)) (as:List TA) (h:TH) (c:List TA→TH→Option R):Option R:=
 let ord:=Wv h 100 (as.flatMap rootsA) []
 guardB (Te h ord)<|
 WT P h ord ts as fun as' lent=>
 let sub:=ord.map fun i=>(zF h i).ren (yX ord)
 let fin:=fun (rs:List TA) (h':TH)=>
  cond (ord.isEmpty&&h'.isEmpty&&rs.all fun v=>v.cells.all WY) (c rs h)<|
  guardB (Nat.ble ord.length h'.length) (c (rs.map (TA.ren (ZE h ord))) (xD h ord lent h'))
 match A.orc f as' sub with
 | some alts=>xN alts fin
 | none=>(ev f as' sub).bind fun p=>fin p.1 p.2
def YF:FuncId:=4294967295
def ontoK (x:Operand) (v:TV) (c:TC→Option R):Option R:=
 match x with
 | .tmp d=>cond (A.a.loc.contains d) (match v with | .s _ n=>guardB (Nat.beq n 0) (c .nil) | _=>none) (v.val.bind fun v=>asSc v c)
 | _=>v.val.bind fun v=>asSc v c
def builtinK (b:Builtin) (ts:List TypeId) (args:List Operand) (s:TS) (c:TV→TS→Option R):Option R:=
 match b,ts,args with
 | .len,[ty],[x]=>
  match P.underlying ty with
  | some (.slice _)=>(evA s x).bind fun a=>lenA s a fun n=>c (.v (.sc (.int .i64 n))) s
  | some (.array n _)=>c (.v (.sc (.int .i64 n))) s
  | _=>none
 | .max,_,x::r=>(evV s x).bind fun v=>(evVs s r).bind fun vs=>(foldO mx2 v vs).bind fun z=>c (.v z) s
 | .min,_,x::r=>(evV s x).bind fun v=>(evVs s r).bind fun vs=>(foldO mn2 v vs).bind fun z=>c (.v z) s
 | .append,[ty,ty2],[x,y]=>
  (AM.elemOf P ty).bind fun e=>(zeroCells P e).bind fun z=>guardB ((AM.elemOf P ty2).isSome&&decide (P.bytesOf e≤8192)&&Nat.beq z.length (P.cellsOf e))<|elT P e fun t=>
   (evA s x).bind fun xv=>ontoK A x xv fun xs=>(evA s y).bind fun a=>srcT P s e t a fun new h=>appendS h e t xs new fun v h=>c (.v (.sc v)) { s with h:=h }
 | .copy,[ty,ty2],[x,y]=>
  (AM.elemOf P ty).bind fun e=>guardB ((AM.elemOf P ty2).isSome&&(P.info? e).isSome)<|elT P e fun t=>
   (evV s x).bind fun xv=>asSc xv fun xs=>(evA s y).bind fun a=>lenC s.h xs fun n=>srcT P s e t a fun new h=>copyS h e t xs new fun h=>c (.v (.sc (.int .i64 (min new.length n:Nat)))) { s with h:=h }
 | _,_,_=>none
def onlyL (x:Operand) (v:TV):Bool:=
 match x with
 | .tmp d=>!(A.a.loc.contains d)||(match v with | .l _ _=>true | _=>false)
 | _=>true
def onlyH (x:Operand) (v:TV):Bool:=
 match x with
 | .tmp d=>!(A.a.hst.contains d)||(match v with | .v _ | .e _ _ _ _ | .p _ _ _=>true | _=>false)
 | _=>true
def onlyR (x:Operand) (v:TV):Bool:=
 match AM.rootOf A.a x with
 | none=>true
 | some k=>match v with | .l k' _=>Nat.beq k k' | _=>false
def onlyB (h:TH) (x:Operand) (v:TV):Bool:=
 match x with
 | .tmp d=>!(A.a.ldb.contains d)||(match v with | .v (.sc (.ptr id _))=>(match zF h id with | .box _ _=>true | _=>false) | _=>false)
 | _=>true
def onlyX (h:TH) (x:Operand) (v:TV):Bool:=onlyH A x v&&onlyR A x v&&onlyB A h x v
def onlyS (x:Operand) (v:TV):Bool:=onlyH A x v&&onlyR A x v
def evOp (o:Oper) (s:TS) (c:TS→Option R):Option R:=
 match o.op with
 | .move x | .assign x=>(evA s x).bind fun v=>setK s o.dst v c
 | .pick q a b=>(evV s q).bind fun v=>asSc v fun v=>asB v fun t=>pickB t (evA s a) (evA s b) fun v=>setK s o.dst v c
 | .alloc e=>o.dst.bind fun d=>(zeroCells P e).bind fun z=>guardB (Nat.beq z.length (P.cellsOf e))<|
   cond (A.a.loc.contains d) (newLocalK s d (.l d 0) z c) (setK { s with h:=s.h++[.box e z] } o.dst (.v (.sc (.ptr s.h.length 0))) c)
 | .box e x=>o.dst.bind fun d=>(evV s x).bind fun v=>guardB (Nat.beq v.cells.length (P.cellsOf e))<|
   cond (A.a.loc.contains d) (newLocalK s d (.l d 0) v.cells c) (setK { s with h:=s.h++[.box e v.cells] } o.dst (.v (.sc (.ptr s.h.length 0))) c)
 | .build t parts=>(zeroCells P t).bind fun z=>(places P t).bind fun pl=>(evParts s parts.toList).bind fun vs=>(fillA pl z vs).bind fun cs=>setK s o.dst (.v (.agg cs)) c
 | .buildSlice t n parts=>o.dst.bind fun d=>(AM.elemOf P t).bind fun e=>(zeroCells P e).bind fun z=>guardB (Nat.beq z.length (P.cellsOf e)&&decide (n*z.length≤1000000))<|
   (evParts s parts.toList).bind fun vs=>(fillA (fun i=>some (i*P.cellsOf e,P.cellsOf e)) (repC n z) vs).bind fun cs=>
   cond (A.a.loc.contains d) (newLocalK s d (.s d n) cs c)<|
   cond (A.crow.contains d) (setK { s with h:=s.h++[.crow e cs] } o.dst (.v (.sc (.sc s.h.length 0 n))) c)<|
   elT P e fun t=>frzL P cs s.h fun cs h=>mkN t n cs fun xs=>setK { s with h:=h++[.row e t xs] } o.dst (.v (.sc (.g h.length))) c
 | .load t x=>guardB (P.underlying t).isSome<|(evA s x).bind fun a=>guardB (onlyL A x a&&onlyX A s.h x a)<|cond (yK P t) (loadAt s a (P.cellsOf t) fun l=>asLeaves (yp P 8 t) l fun ys=>setK s o.dst (.v (.agg ys)) c)
   (load1 s a fun x=>asLeaf ((yp P 8 t).getD 0 .any) x fun y=>setK s o.dst (.v (.sc y)) c)
 | .store t a x=>guardB (P.info? t).isSome<|(evA s a).bind fun av=>(evV s x).bind fun v=>guardB (Nat.beq v.cells.length (P.cellsOf t)&&onlyS A a av)<|storeAt P s av v.cells fun s=>setK s o.dst .no c
 | .nilCheck x=>(evA s x).bind fun v=>guardB (isAddr v) (setK s o.dst v c)
 | .binOp op t x y _=>(evV s x).bind fun x=>(evV s y).bind fun y=>guardB (opOk op y)<|(binop P op t x y).bind fun v=>setK s o.dst (.v (.sc v)) c
 | .unOp op _ x=>(evV s x).bind fun x=>(unop op x).bind fun v=>setK s o.dst (.v (.sc v)) c
 | .convert src dst x=>(evV s x).bind fun x=>match P.underlying src,P.underlying dst,x with
  | some (.int _),some (.int k),.sc (.int _ n)=>setK s o.dst (.v (.sc (.int k (k.wrap n)))) c
  | _,_,_=>none
 | .makeFunc (.func f) first captured=>(evVs s first.toList).bind fun a=>(evVs s captured.toList).bind fun b=>
   setK s o.dst (.v (.sc (.fn f a.length ((a++b).map shapeOf) ((a++b).flatMap TA.cells)))) c
 | .makeSlice t len cap=>(AM.elemOf P t).bind fun e=>(zeroCells P e).bind fun z=>elT P e fun et=>(evV s len).bind fun l=>(evV s cap).bind fun m=>match l,m with
  | .sc (.int .i64 l),.sc (.int .i64 m)=>guardB (Nat.beq z.length (P.cellsOf e)&&decide (P.bytesOf e≤8192))<|guardB (decide (0≤l))<|guardB (decide (l≤m))<|guardB (decide (m≤most))<|
    mk1 et z fun x=>setK { s with h:=s.h++[.row e et (List.replicate l.toNat x)] } o.dst (.v (.sc (.g s.h.length))) c
  | _,_=>none
 | .slice t x lo hi mx=>match P.underlying t with
  | some (.slice e)=>guardB (P.info? e).isSome<|(evV s x).bind fun x=>asSc x fun x=>sliceS s e (P.cellsOf e) x lo hi mx fun v=>setK s o.dst (.v (.sc v)) c
  | some (.array n e)=>guardB (P.info? e).isSome<|(evV s x).bind fun x=>asSc x fun x=>match x with
   | .ptr id off=>(match zF s.h id with | .box _ _=>sliceS s e (P.cellsOf e) (.sc id off n) lo hi mx fun v=>setK s o.dst (.v (.sc v)) c | _=>none)
   | _=>none
  | _=>none
 | .fieldAddr t x i=>match P.underlying t with
  | some (.struct fs)=>(fs.toList[i]?).bind fun f=>guardB (!(Nat.beq (P.cellsOf f.type) 0))<|(evA s x).bind fun a=>addAt a f.offset fun v=>setK s o.dst v c
  | _=>none
 | .indexAddr t x i=>match P.underlying t with
  | some (.slice e)=>guardB (P.info? e).isSome<|(evV s x).bind fun x=>asSc x fun x=>(evV s i).bind fun i=>match x with
   | .d e' t xs=>guardB (Nat.beq e e'&&Nat.beq t.size (P.cellsOf e))<|idxI i xs.length fun i=>setK s o.dst (.e t xs i 0) c
   | .g id=>(match zF s.h id with | .row e' _ xs=>guardB (Nat.beq e e')<|idxI i xs.length fun i=>setK s o.dst (.p id i 0) c | _=>none)
   | .sl id off n=>(match zF s.h id with | .row e' _ _=>guardB (Nat.beq e e')<|idxI i n fun i=>setK s o.dst (.p id (off+i) 0) c | _=>none)
   | .sc id off n=>(match zF s.h id with | .box _ _ | .crow _ _=>idxI i n fun i=>setK s o.dst (.v (.sc (.ptr id (off+i*P.cellsOf e)))) c | _=>none)
   | _=>none
  | some (.array n e)=>guardB (P.info? e).isSome<|(evA s x).bind fun a=>(evV s i).bind fun i=>idxI i n fun i=>addAt a (i*P.cellsOf e) fun v=>setK s o.dst v c
  | _=>none
 | .extract x i=>(evA s x).bind fun v=>match v with
  | .t vs=>(vs[i]?).bind fun v=>setK s o.dst (.v v) c
  | _=>none
 | .call { callee:=.builtin b,args,argTypes }=>builtinK P A b argTypes.toList args.toList s fun v s=>setK s o.dst v c
 | .call { callee:=.value f,args,argTypes }=>(evV s f).bind fun f=>asSc f fun f=>match f with
  | .fn g nf sh cs=>guardB (!(Nat.beq g YF)&&okv A.a g)<|(evVs s args.toList).bind fun as=>(spread sh cs).bind fun vs=>
   Wm P A ev g (List.replicate nf none++argTypes.toList.map some) (vs.take nf++as++vs.drop nf) s.h fun rs h=>typed P o.type rs fun v=>setK { s with h:=h } o.dst v c
  | .yl id=>guardB (oky A.a)<|(evVs s args.toList).bind fun as=>Wm P A ev YF (none::argTypes.toList.map some) (.sc (.yl id)::as) s.h fun rs h=>typed P o.type rs fun v=>setK { s with h:=h } o.dst v c
  | _=>none
 | .index t x i=>(evV s x).bind fun x=>(evV s i).bind fun i=>match P.underlying t,x,i with
  | some .string,.sc (.str b),.sc (.int _ n)=>guardB (decide (0≤n))<|guardB (decide (n.toNat < b.size))<|setK s o.dst (.v (.sc (.int .u8 ((b.data.getD n.toNat 0).toNat:Int)))) c
  | _,_,_=>none
 | _=>none
def evOps (ops:Array Oper):List Oper→TS→(TS→Option R)→Option R
 | [],s,c=>c s
 | o::r,s,c=>
  match o.guard with
  | none=>evOp P A ev o s fun s=>evOps ops r s c
  | some (j,w)=>((ops[j]?).bind (·.dst)).bind fun d=>(s.sl.get d).bind fun g=>match g with
   | .v (.sc (.bool t))=>
    cond w (cond t (setK s (some d) (.v (.sc (.bool true))) fun s=>evOp P A ev o s fun s=>evOps ops r s c) (setK s (some d) (.v (.sc (.bool false))) fun s=>setK s o.dst .no fun s=>evOps ops r s c))
     (cond t (setK s (some d) (.v (.sc (.bool true))) fun s=>setK s o.dst .no fun s=>evOps ops r s c) (setK s (some d) (.v (.sc (.bool false))) fun s=>evOp P A ev o s fun s=>evOps ops r s c))
   | .no=>setK s o.dst .no fun s=>evOps ops r s c
   | _=>none
def isLoc:TV→Bool
 | .l _ _ | .s _ _ | .w=>true
 | _=>false
def isRef (d:Nat):TV→Bool
 | .l k _=>Nat.beq k d
 | .s k _=>Nat.beq k d
 | .w=>true
 | _=>false
def freshAll (A:FAn) (ops:Array Oper) (s:TS):Bool:=ops.toList.all fun o=>
 match o.op with
 | .alloc _ | .box _ _ | .buildSlice _ _ _=>(match o.dst with | some d=>!(A.loc.contains d)||s.sl.all fun v=>!(isRef d v) | none=>true)
 | _=>true
def keepT {α:Type} (f:α→α) (t:Tr α) (l:List Nat):Tr α:=l.foldl (fun u i=>match t.get i with | some v=>u.set i v | none=>u) (t.map f)
def maskR (id:Nat) (s:TS):TS:=
 match A.a.keepR.find? (fun p=>Nat.beq p.1 id) with
 | none=>s
 | some (_,a)=>{ s with sl:=keepT (fun _=>.u) s.sl a }
def evRegion (dOk:FAn→Array Oper→Bool) (id:Nat) (ops:Array Oper) (draw:Bool) (s:TS) (c:TS→Option R):Option R:=
 guardB (!draw||(dOk A.a ops&&freshAll A.a ops s)) (evOps P A ev ops ops.toList s fun s=>c (maskR A id s))
def maskAt (blk:Nat) (s:TS):TS:=
 match A.a.keep.find? (fun p=>Nat.beq p.1 blk) with
 | none=>s
 | some (_,a,b)=>{ s with sl:=keepT (fun _=>.u) s.sl a,lo:=keepT (fun _=>none) s.lo b }
def isRetK (key:Nat):Bool:=Nat.beq (key % 4) 3
def dropV (key:Nat) (v:TV):TV:=cond (isRetK key) .w (cond (isLoc v) v .u)
def maskL (key:Nat) (s:TS):TS:=
 match A.live.find? (fun p=>Nat.beq p.1 key) with
 | none=>s
 | some (_,a,b)=>{ s with sl:=keepT (dropV key) s.sl a,lo:=keepT (fun _=>none) s.lo b }
def coeC (h:TH) (v:TC) (e:TypeId) (own:Bool) (c:TC→TH→Option R):Option R:=
 match own,v with
 | true,.nil=>elT P e fun t=>c (.g h.length) (h++[.row e t []])
 | true,.sl id o n=>(match zF h id with | .row e' t xs=>guardB (Nat.beq e e'&&!(Nat.beq t.size 0))<|guardB (Nat.beq (o+n) xs.length) (c (.g h.length) (h.set id .dead++[.row e t (xs.drop o)])) | _=>none)
 | false,.nil=>elT P e fun t=>c (.d e t []) h
 | false,v=>frzC P 3 v h c
 | true,v=>c v h
def Wu (l:List TC) (j:Nat) (h:TH) (e:TypeId) (own:Bool) (c:List TC→TH→Option R):Option R:=
 match l[j]? with
 | some v=>coeC P h v e own fun v h=>c (l.set j v) h
 | none=>none
def coe1 (p:(Nat×Nat×Nat)×TypeId×Bool) (s:TS) (c:TS→Option R):Option R:=
 match p with
 | ((0,i,j),e,own)=>(match s.sl.get i with
  | some (.v (.sc v))=>Wu P [v] j s.h e own fun l h=>asC l fun x _=>s.sl.setT i (.v (.sc x)) fun m=>c { s with sl:=m,h:=h }
  | some (.v (.agg l))=>Wu P l j s.h e own fun l h=>s.sl.setT i (.v (.agg l)) fun m=>c { s with sl:=m,h:=h }
  | _=>c s)
 | ((1,k,j),e,own)=>(match s.lo.get k with
  | some (some l)=>Wu P l j s.h e own fun l h=>s.lo.setT k (some l) fun m=>c { s with lo:=m,h:=h }
  | _=>c s)
 | ((2,i,j),e,own)=>(match zF s.h i with
  | .box _ l=>Wu P l j s.h e own fun l h=>(match zF h i with | .box b _=>c { s with h:=h.set i (.box b l) } | _=>none)
  | .crow _ l=>Wu P l j s.h e own fun l h=>(match zF h i with | .crow b _=>c { s with h:=h.set i (.crow b l) } | _=>none)
  | _=>c s)
 | _=>c s
def Ts:List ((Nat×Nat×Nat)×TypeId×Bool)→TS→(TS→Option R)→Option R
 | [],s,c=>c s
 | p::r,s,c=>coe1 P p s fun s=>Ts r s c
def Wh:List Nat→List Nat→Bool
 | [],_=>true
 | x::r,y::q=>Nat.beq x y&&Wh r q
 | _::_,[]=>false
def order (s:TS):List Nat:=Wv s.h 200 ((List.range s.n0).flatMap (fun i=>(zF s.h i).refs)++s.sl.toL.flatMap TV.refs++s.lo.toL.flatMap fun b=>match b with | some l=>TC.refsL l | none=>[]) (List.range s.n0)
def gc (s:TS) (c:TS→Option R):Option R:=
 let ord:=order s
 guardB (Te s.h ord&&Wh (List.range s.n0) ord&&s.sl.all (fun v=>v.refs.all (yP ord))&&s.lo.all (fun b=>match b with | some l=>(TC.refsL l).all (yP ord) | none=>true))<|
 c { sl:=s.sl.map (TV.ren (yX ord)),lo:=s.lo.map fun b=>b.map (TC.renL (yX ord)),h:=ord.map fun i=>(zF s.h i).ren (yX ord),n0:=s.n0 }
def shp {α β:Type} (t:Tr α):Tr β→Bool:=Tr.rec (motive:=fun _=>Tr β→Bool) (fun u=>match u with | .nil=>true | _=>false) (fun _ u=>match u with | .leaf _=>true | _=>false)
 (fun _ _ il ir u=>match u with | .node l r=>cond (il l) (ir r) false | _=>false) t
def xA (v:TV) (n:Nat):Tr TV:=Tr.ofL (Nat.log2 n+1) (List.replicate n v)
def Ya (n:Nat):Tr TV:=xA .u n
def isW:TV→Bool
 | .w=>true
 | _=>false
def Yq (t:Tr TV):Bool:=!(t.all fun v=>!(isW v))
def wJ (n:Nat):Tr (Option (List TC)):=Tr.ofL (Nat.log2 n+1) (List.replicate n none)
def pickS (t:Tr TV) (i:Nat):Option (Nat×TV):=match t.get i with | some .u=>none | some .w=>none | some v=>some (i,v) | none=>none
def pickL (t:Tr (Option (List TC))) (i:Nat):Option (Nat×List TC):=match t.get i with | some (some v)=>some (i,v) | _=>none
def toCS (n:Nat) (s:TS):CS:={ sl:=(List.range n).filterMap (pickS s.sl),lo:=(List.range n).filterMap (pickL s.lo),h:=s.h,n0:=s.n0,w:=Yq s.sl }
def wm (n:Nat) (c:CS):TS:={ sl:=c.sl.foldl (fun t p=>t.set p.1 p.2) (xA (cond c.w .w .u) n),lo:=c.lo.foldl (fun t p=>t.set p.1 (some p.2)) (wJ n),h:=c.h,n0:=c.n0 }
def wN (key:Nat) (s:TS) (c:CS→Option R):Option R:=
 Ts P (match A.coe.find? (fun p=>Nat.beq p.1 key) with | some p=>p.2 | none=>[]) (maskL A key s) fun s=>gc s fun s=>guardB (shp s.sl (Ya A.nt)&&shp s.lo (wJ A.nt)) (c (toCS A.nt s))
def xk:List (Bool×Ex×CS)→(Ex→CS→Option R)→Option R
 | [],_=>none
 | (b,e,s)::r,c=>cond b (c e s) (xk r c)
def loopN (n:Nat) (m:TS→(CS→Option R)→Option R) (body:TS→(Ex→TS→Option R)→Option R) (c:Ex→TS→Option R):Nat→CS→Option R
 | 0,_=>none
 | k+1,s=>body (wm n s) fun e s'=>match e with
  | .normal=>m s' fun s=>loopN n m body c k s
  | e=>c e s'
def kSeq (b:TS→(Ex→TS→Option R)→Option R) (c:Ex→TS→Option R):Ex→TS→Option R:=fun e s=>
 match e with
 | .normal=>b s c
 | e=>c e s
def kBlock (id:Nat) (c:Ex→TS→Option R):Ex→TS→Option R:=fun e s=>
 match e with
 | .exit i=>cond (Nat.beq i id) (c .normal s) (c (.exit i) s)
 | e=>c e s
def xY:Code→Option Nat
 | .region id _ _=>some id
 | .seq a b=>match xY a with | some i=>some i | none=>xY b
 | .block _ b=>xY b
 | .scope b=>xY b
 | .loop b=>xY b
 | _=>none
def Zn (blk:Nat) (s:TS) (c:CS→Option R):Option R:=wN P A (8*blk) (maskAt A blk s) c
def tellK (key:Nat) (s:CS) (c:Ex→TS→Option R) (d:CS→Option R):Option R:=
 match A.tell key s with
 | some alts=>xk alts fun e s=>c e (wm A.nt s)
 | none=>d s
def YH (body:Code):Nat:=match xY body with | some i=>8*i+1 | none=>1
def rfs:Code→List (Nat×List Tmp×Code×Code)
 | .rangeFunc _ ps a b=>(YH b,ps.toList,a,b)::(rfs a++rfs b)
 | .seq a b=>rfs a++rfs b
 | .cond _ a b=>rfs a++rfs b
 | .block _ b=>rfs b
 | .scope b=>rfs b
 | .loop b=>rfs b
 | _=>[]
def ZH (P:Program) (f key:Nat):Option (List Tmp×Code×Code):=((P.funcs[f]?).bind fun fn=>fn.body.bind fun c=>(rfs c).find? fun p=>Nat.beq p.1 key).map (·.2)
def plainV:TV→Bool
 | .u | .w | .l _ _ | .s _ _=>false
 | _=>true
def seenAt (key:Nat):List Nat:=match A.live.find? (fun p=>Nat.beq p.1 key) with | some (_,a,_)=>a | none=>List.range A.nt
def VH (key:Nat) (s:TS):List (Nat×TV):=
 (seenAt A key).filterMap fun i=>(s.sl.get i).bind fun v=>cond (plainV v) (some (i,v)) none
def rangeEnd (s:TS) (c:Ex→TS→Option R) (h:TH):Option R:=
 match zF h s.h.length with
 | .loop st pe _ _ _ _=>guardB (!(Nat.beq st 1)) (match pe with
  | none=>c .normal { s with h:=h.set s.h.length .dead }
  | some (.exit i)=>c (.exit i) { s with h:=h.set s.h.length .dead }
  | some .ret=>c .ret { s with h:=h.set s.h.length .dead }
  | _=>none)
 | _=>none
def rangeT (g:Operand) (assign body:Code) (s:TS) (c:Ex→TS→Option R):Option R:=
 (evV s g).bind fun v=>asSc v fun v=>match v with
 | .fn f nf sh cs=>(spread sh cs).bind fun vs=>guardB (zN assign&&zN body&&shp s.sl (Ya A.nt)&&(!(Nat.beq f YF)&&okv A.a f))<|
   Wm P A ev f [] (vs.take nf++[.sc (.yl s.h.length)]++vs.drop nf) (s.h++[.loop 0 none A.a.self (YH body) A.nt (VH A (YH body) s)]) fun _ h=>rangeEnd s c h
 | _=>none
def evCode (dOk:FAn→Array Oper→Bool) (k:Nat):Code→Nat→TS→(Ex→TS→Option R)→Option R
 | .skip,_,s,c=>c .normal s
 | .label _,_,s,c=>c .normal s
 | .region id ops draw,_,s,c=>evRegion P A ev dOk id ops draw s fun s=>c .normal s
 | .seq a b,blk,s,c=>evCode dOk k a blk s (kSeq (fun s c=>match xY b with
   | some id=>cond (A.cuts.contains id) (wN P A (8*id+4) s fun s=>tellK A (8*id+4) s c fun s=>evCode dOk k b blk (wm A.nt s) c) (evCode dOk k b blk s c)
   | none=>evCode dOk k b blk s c) c)
 | .cond q a b,blk,s,c=>(evV s q).bind fun v=>asSc v fun v=>asB v fun t=>cond t (evCode dOk k a blk s c) (evCode dOk k b blk s c)
 | .block id b,_,s,c=>evCode dOk k b id s (kBlock id c)
 | .scope b,blk,s,c=>evCode dOk k b blk s c
 | .loop b,blk,s,c=>Zn P A blk s fun s=>tellK A (8*blk) s c fun s=>loopN A.nt (fun s c=>Zn P A blk s c) (evCode dOk k b blk) c k s
 | .exit id,_,s,c=>c (.exit id) s
 | .ret,_,s,c=>c .ret s
 | .rangeFunc g _ assign body,_,s,c=>rangeT P A ev g assign body s c
 | _,_,_,_=>none
def Uf (key:Nat):Ex→Nat
 | .normal=>key+1
 | .exit _=>key+2
 | .ret=>key+3
def ZO (dOk:FAn→Array Oper→Bool) (k:Nat) (key:Nat) (c:Code) (blk:Nat) (s:CS) (K:Ex→TS→Option R):Option R:=
 cond (Nat.beq (key % 8) 0)
  (match c with
  | .loop b=>loopN A.nt (fun s c=>Zn P A blk s c) (evCode P A ev dOk k b blk) K k s
  | _=>none)
  (evCode P A ev dOk k c blk (wm A.nt s) K)
def zw (A:TAn):Nat→Code→List (Nat×Code×Nat)
 | blk,.loop b=>(8*blk,.loop b,blk)::zw A blk b
 | blk,.seq a b=>zw A blk a++(match xY b with | some id=>cond (A.cuts.contains id) [(8*id+4,b,blk)] [] | none=>[])++zw A blk b
 | blk,.cond _ a b=>zw A blk a++zw A blk b
 | _,.block id b=>zw A id b
 | blk,.scope b=>zw A blk b
 | _,.rangeFunc _ _ a b=>zw A 0 a++zw A 0 b
 | _,_=>[]
def resOf (s:TS):List ResultVar→(List TA→Option R)→Option R
 | [],c=>c []
 | .tmp t::r,c=>(s.sl.get t).bind fun v=>v.val.bind fun v=>resOf s r fun vs=>c (v::vs)
 | .cell a t::r,c=>guardB (P.underlying t).isSome<|(s.sl.get a).bind fun a=>cond (yK P t) (loadAt s a (P.cellsOf t) fun l=>resOf s r fun vs=>c (.agg l::vs)) (load1 s a fun x=>resOf s r fun vs=>c (.sc x::vs))
def finC (own:Bool) (t:Option TypeId) (v:TC) (h:TH) (c:TC→TH→Option R):Option R:=
 match t with
 | some e=>(match ZF P 8 e with | some _=>coeC P h v e own c | none=>c v h)
 | none=>c v h
def finL (own:Bool):List (Option TypeId)→List TC→TH→(List TC→TH→Option R)→Option R
 | _,[],h,c=>c [] h
 | t,x::r,h,c=>finC P own (t.headD none) x h fun y h=>finL own t.tail r h fun ys h=>c (y::ys) h
def finA (own:Bool) (t:Option TypeId) (v:TA) (h:TH) (c:TA→TH→Option R):Option R:=
 match v with
 | .sc x=>finC P own ((t.map fun t=>(VD P 8 t).headD none).getD none) x h fun y h=>c (.sc y) h
 | .agg xs=>finL P own ((t.map fun t=>VD P 8 t).getD []) xs h fun ys h=>c (.agg ys) h
def VG (own:Bool):List TypeId→List TA→TH→(List TA→TH→Option R)→Option R
 | _,[],h,c=>c [] h
 | t,x::r,h,c=>finA P own t.head? x h fun y h=>VG own t.tail r h fun ys h=>c (y::ys) h
def YT (n0:Nat) (rs:List TA) (h:TH) (c:List TA→TH→Option R):Option R:=
 let ord:=Wv h 200 ((List.range n0).flatMap (fun i=>(zF h i).refs)++rs.flatMap TA.refs) (List.range n0)
 guardB (Te h ord&&Wh (List.range n0) ord&&rs.all fun v=>v.refs.all (yP ord))<|
 c (rs.map (TA.ren (yX ord))) (ord.map fun i=>(zF h i).ren (yX ord))
def kFin (fn:Func) (c:List TA→TH→Option R):Ex→TS→Option R:=fun e s=>
 match e with
 | .normal | .ret=>resOf P s fn.results.toList fun vs=>VG P A.own fn.resultTypes.toList vs s.h fun rs h=>YT s.n0 rs h c
 | _=>none
end
def enterSt (fn:Func) (args:List TA) (h:TH):TS:={ sl:=Tr.ofL (Nat.log2 fn.ntmps+1) (args.map TV.v++List.replicate (fn.ntmps - args.length) TV.no),lo:=Tr.ofL (Nat.log2 fn.ntmps+1) (List.replicate fn.ntmps none),h:=h,n0:=h.length }
def roundSt (nt:Nat) (sl:List (Nat×TV)) (ps:List Tmp) (args:List TA) (h:TH):TS:=
 { sl:=(ps.zip args).foldl (fun t p=>t.set p.1 (TV.v p.2)) (sl.foldl (fun t p=>t.set p.1 p.2) (Ya nt)),lo:=wJ nt,h:=h,n0:=h.length }
def kRound (id:Nat):Ex→TS→Option (List TA×TH):=fun e s=>
 match zF s.h id with
 | .loop _ _ g key nt sl=>match e with
  | .normal=>YT s.n0 [.sc (.bool true)] (s.h.set id (.loop 0 none g key nt sl)) fun rs h=>some (rs,h)
  | e=>YT s.n0 [.sc (.bool false)] (s.h.set id (.loop 2 (some e) g key nt sl)) fun rs h=>some (rs,h)
 | _=>none
def kBegin (id:Nat) (c:TS→Option (List TA×TH)):Ex→TS→Option (List TA×TH):=fun e s=>
 match e,zF s.h id with
 | .normal,.loop st pe g key nt sl=>guardB (Nat.beq st 0) (c { s with h:=s.h.set id (.loop 1 pe g key nt sl) })
 | _,_=>none
def evY (P:Program) (An:FuncId→TAn) (ev:TEv) (dOk:FAn→Array Oper→Bool) (k:Nat) (args:List TA) (h:TH):Option (List TA×TH):=
 match args with
 | .sc (.yl id)::rest=>match zF h id with
  | .loop _ _ g key nt sl=>(ZH P g key).bind fun rf=>guardB (Nat.beq rest.length rf.1.length&&zN rf.2.1&&zN rf.2.2)<|
    evCode P (An g) ev dOk k rf.2.1 0 (roundSt nt sl rf.1 rest h) (kBegin id fun s=>evCode P (An g) ev dOk k rf.2.2 0 s (kRound id))
  | _=>none
 | _=>none
def evF (P:Program) (An:FuncId→TAn) (dOk:FAn→Array Oper→Bool):Nat→TEv
 | 0,_,_,_=>none
 | k+1,f,args,h=>cond (Nat.beq f YF) (evY P An (evF P An dOk k) dOk k args h)<|
   (P.funcs[f]?).bind fun fn=>fn.body.bind fun code=>guardB (Th (An f).a fn args.length)<|
   evCode P (An f) (evF P An dOk k) dOk k code 0 (enterSt fn args h) (kFin P (An f) fn fun rs h=>some (rs,h))
end
def Seg {α:Type} (R:α→List Sc→Prop):List α→List Sc→Prop
 | [],cs=>cs=[]
 | x::xs,cs=>∃ a b,cs=a++b∧R x a∧Seg R xs b
def rowE (e:TypeId):AO→Prop
 | .row true e' _=>e=e'
 | .row false _ _ | .box _ _=>True
 | _=>False
def SlR (P:Program) (h:AH) (Z:Nat→Prop) (e:TypeId) (z:Nat) {α:Type} (R:α→List Sc→Prop) (xs:List α) (s:Sc):Prop:=
 (xs=[]∧∃ b,s=.nils b)∨∃ id off o cs,s=.sl id off xs.length∧Z id∧h[id]?=some o∧rowE e o∧yr o=some cs∧z=P.cellsOf e∧off+xs.length*z≤cs.length∧Seg R xs ((cs.drop off).take (xs.length*z))
def DR (P:Program) (h:AH) (Z:Nat→Prop):(t:Ty)→t.T→List Sc→Prop
 | .int k,n,cs=>cs=[.int k n]
 | .bool,b,cs=>cs=[.bool b]
 | .str,s,cs=>cs=[.str s]
 | .list e t,xs,cs=>∃ s,cs=[s]∧SlR P h Z e t.size (DR P h Z t) xs s
 | .pair a b,p,cs=>∃ x y,cs=x++y∧DR P h Z a p.1 x∧DR P h Z b p.2 y
 | .unit,_,cs=>cs=[]
structure JE where
 v:Bool
 id:Nat
 off:Nat
 n:Nat
 z:Nat
mutual
def CR (P:Program) (h:AH) (Z:Nat→Prop) (J:List JE):TC→Sc→Prop
 | .bool b,s=>s=.bool b
 | .int k n,s=>s=.int k n
 | .str b,s=>s=.str b
 | .d e t xs,s=>SlR P h Z e t.size (DR P h Z t) xs s
 | .nil,s=>∃ b,s=.nils b
 | .g id,s=>∃ je,J[id]?=some je∧((je.v=true∧∃ b,s=.nils b)∨(je.v=false∧s=.sl je.id je.off je.n))
 | .sl id o n,s=>∃ je,J[id]?=some je∧((je.v=true∧n=0∧∃ b,s=.nils b)∨(je.v=false∧s=.sl je.id (je.off+o*je.z) n))
 | .sc id o n,s=>∃ je,J[id]?=some je∧je.v=false∧s=.sl je.id o n
 | .ptr id o,s=>∃ je,J[id]?=some je∧je.v=false∧s=.ptr je.id o
 | .fn f nf sh cs,s=>∃ ss,s=.fn (.func f) nf sh ss∧CRs P h Z J cs ss
 | .yl id,s=>∃ je,J[id]?=some je∧je.v=false∧s=.fn (.yield je.id) 0 [] []
 | .nilp,s=>s=.nilp
 | .nilf,s=>s=.nilf
 | .nili,s=>s=.nili
def CRs (P:Program) (h:AH) (Z:Nat→Prop) (J:List JE):List TC→List Sc→Prop
 | [],[]=>True
 | x::xs,v::vs=>CR P h Z J x v∧CRs P h Z J xs vs
 | [],_::_=>False
 | _::_,[]=>False
end
def AR (P:Program) (h:AH) (Z:Nat→Prop) (J:List JE):TA→AV→Prop
 | .sc c,v=>∃ s,v=.sc s∧CR P h Z J c s
 | .agg cs,v=>∃ ss,v=.agg ss∧CRs P h Z J cs ss
def ARs (P:Program) (h:AH) (Z:Nat→Prop) (J:List JE):List TA→List AV→Prop
 | [],[]=>True
 | x::xs,v::vs=>AR P h Z J x v∧ARs P h Z J xs vs
 | [],_::_=>False
 | _::_,[]=>False
def YG:AM.SV→Bool
 | .l _ _ | .s _ _=>true
 | _=>false
def SR (P:Program) (h:AH) (Z:Nat→Prop) (J:List JE):TV→AM.SV→Prop
 | .u,v=>YG v=false
 | .w,_=>True
 | .no,v=>v=.no
 | .v a,v=>∃ x,v=.v x∧AR P h Z J a x
 | .t vs,v=>∃ xs,v=.t xs∧ARs P h Z J vs xs
 | .l k o,v=>v=.l k o
 | .s k n,v=>v=.s k n
 | .e t xs i off,v=>∃ id o ob cs,v=.v (.sc (.ptr id (o+i*t.size+off)))∧Z id∧h[id]?=some ob∧yr ob=some cs∧o+xs.length*t.size≤cs.length∧i < xs.length∧Seg (DR P h Z t) xs ((cs.drop o).take (xs.length*t.size))
 | .p id i off,v=>∃ je,J[id]?=some je∧je.v=false∧v=.v (.sc (.ptr je.id (je.off+i*je.z+off)))
def TO.live:TO→Bool
 | .dead=>false
 | _=>true
def PeR:Option Ex→Option Code→Prop
 | none,c=>c=none
 | some (.exit i),c=>c=some (.exit i)
 | some .ret,c=>c=some .ret
 | some .normal,_=>False
def OR (P:Program) (h:AH) (Z:Nat→Prop) (J:List JE) (je:JE):TO→Prop
 | .row e t xs=>je.z=t.size∧je.n=xs.length∧t.size=P.cellsOf e∧(P.info? e).isSome=true∧((je.v=true∧xs=[])∨(je.v=false∧∃ cs,h[je.id]?=some (.row true e cs)∧cs.length=je.off+xs.length*t.size∧Seg (DR P h Z t) xs (cs.drop je.off)))
 | .crow e cells=>je.v=false∧∃ cs,h[je.id]?=some (.row true e cs)∧CRs P h Z J cells cs
 | .box e cells=>je.v=false∧∃ cs,h[je.id]?=some (.box e cs)∧CRs P h Z J cells cs
 | .dead=>True
 | .loop st pe f key nt sl=>je.v=false∧∃ al,h[je.id]?=some (.loop al)∧al.st=st∧PeR pe al.pend∧al.fn=f∧ZH P f key=some (al.params,al.assign,al.body)∧
   (∀ i,(al.sl.get i).isSome=((Ya nt).get i).isSome)∧(∀ i x,al.sl.get i=some x→YG x=false)∧∀ p∈sl,∃ x,al.sl.get p.1=some x∧SR P h Z J p.2 x
structure HR (P:Program) (J:List JE) (Z:Nat→Prop) (H:TH) (h:AH):Prop where
 len:J.length=H.length
 obj:∀ (i:Nat) o je,H[i]?=some o→J[i]?=some je→OR P h Z J je o
 uniq:∀ (i j:Nat) o o' je je',H[i]?=some o→H[j]?=some o'→o.live=true→o'.live=true→J[i]?=some je→J[j]?=some je'→je.v=false→je'.v=false→je.id=je'.id→i=j
 sep:∀ (i:Nat) o je,H[i]?=some o→o.live=true→J[i]?=some je→je.v=false→¬ Z je.id
 zlt:∀ id,Z id→id < h.length
def OwnJ (J:List JE) (H:TH) (id:Nat):Prop:=∃ (i:Nat) (o:TO) (je:JE),H[i]?=some o∧o.live=true∧J[i]?=some je∧je.v=false∧je.id=id
structure Kp (J0:List JE) (Z0:Nat→Prop) (H0:TH) (h0:AH) (J:List JE) (Z:Nat→Prop) (H:TH) (h:AH):Prop where
 len:h0.length≤h.length
 pre:J0 <+: J
 same:∀ id,id < h0.length→¬ OwnJ J0 H0 id→h[id]?=h0[id]?
 own:∀ id,OwnJ J H id→OwnJ J0 H0 id∨h0.length≤id
 zin:∀ id,Z0 id→Z id
 zout:∀ id,Z id→Z0 id∨OwnJ J0 H0 id∨h0.length≤id
structure StR (P:Program) (J0:List JE) (Z0:Nat→Prop) (H0:TH) (h0:AH) (J:List JE) (Z:Nat→Prop) (s:TS) (a:AM.St):Prop where
 tm:∀ (i:Nat) v,s.sl.get i=some v→∃ x,a.sl.get i=some x∧SR P a.h Z J v x
 mt:∀ (i:Nat) x,a.sl.get i=some x→∃ v,s.sl.get i=some v
 lo:∀ (k:Nat) cs,s.lo.get k=some (some cs)→∃ cs',a.lo.get k=some (some cs')∧CRs P a.h Z J cs cs'
 lt:∀ (k:Nat) x,s.lo.get k=some x→∃ y,a.lo.get k=some y
 hp:HR P J Z s.h a.h
 kp:Kp J0 Z0 H0 h0 J Z s.h a.h
 n0:s.n0=H0.length
 j0:J0.length=H0.length
structure Ext (h:AH) (Z:Nat→Prop) (h':AH) (Z':Nat→Prop):Prop where
 z:∀ id,Z id→Z' id
 same:∀ id,Z id→h'[id]?=h[id]?
theorem Ext.refl (h:AH) (Z:Nat→Prop):Ext h Z h Z:=⟨fun _ h=>h,fun _ _=>rfl⟩
theorem Ext.trans {h h1 h2:AH} {Z Z1 Z2:Nat→Prop} (a:Ext h Z h1 Z1) (b:Ext h1 Z1 h2 Z2):Ext h Z h2 Z2:=
 ⟨fun id h=>b.z id (a.z id h),fun id h=>(b.same id (a.z id h)).trans (a.same id h)⟩
variable {P : Program} {h h' : AH} {Z Z' : Nat → Prop} {J J' : List JE}
theorem Seg.mono {α:Type} {R R':α→List Sc→Prop} (hr:∀ x cs,R x cs→R' x cs):∀ {xs:List α} {cs:List Sc},Seg R xs cs→Seg R' xs cs
 | [],_,h=>h
 | _::_,_,⟨a,b,h1,h2,h3⟩=>⟨a,b,h1,hr _ _ h2,Seg.mono hr h3⟩
theorem SlR.mono (x:Ext h Z h' Z') {e:TypeId} {z:Nat} {α:Type} {R R':α→List Sc→Prop} (hr:∀ x cs,R x cs→R' x cs) {xs:List α} {s:Sc} (r:SlR P h Z e z R xs s):SlR P h' Z' e z R' xs s:=by
 rcases r with r | ⟨id,off,o,cs,h1,h2,h3,h4,h5,h6,h7,h8⟩
 ·exact .inl r
 ·exact .inr ⟨id,off,o,cs,h1,x.z _ h2,(x.same _ h2).trans h3,h4,h5,h6,h7,h8.mono hr⟩
theorem DR.mono (x:Ext h Z h' Z'):∀ (t:Ty) {d:t.T} {cs:List Sc},DR P h Z t d cs→DR P h' Z' t d cs
 | .int _,_,_,r=>r
 | .bool,_,_,r=>r
 | .str,_,_,r=>r
 | .list e t,_,_,⟨s,h1,h2⟩=>⟨s,h1,h2.mono x fun _ _=>DR.mono x t⟩
 | .pair a b,_,_,⟨p,q,h1,h2,h3⟩=>⟨p,q,h1,DR.mono x a h2,DR.mono x b h3⟩
 | .unit,_,_,r=>r
theorem zU {α:Type} {I I':List α} (h:I <+: I') {i:Nat} {x:α} (hx:I[i]?=some x):I'[i]?=some x:=by
 obtain ⟨t,rfl⟩:=h
 rw [List.getElem?_append_left (List.getElem?_eq_some_iff.1 hx).1];exact hx
mutual
theorem CR.mono (x:Ext h Z h' Z') (p:J <+: J'):∀ (c:TC) (s:Sc),CR P h Z J c s→CR P h' Z' J' c s
 | .bool _,_,r=>r
 | .int _ _,_,r=>r
 | .str _,_,r=>r
 | .d e t xs,_,r=>SlR.mono x (fun _ _=>DR.mono x t) r
 | .nil,_,r=>r
 | .g _,_,⟨je,h1,h2⟩=>⟨je,zU p h1,h2⟩
 | .sl _ _ _,_,⟨je,h1,h2⟩=>⟨je,zU p h1,h2⟩
 | .sc _ _ _,_,⟨je,h1,h2⟩=>⟨je,zU p h1,h2⟩
 | .ptr _ _,_,⟨je,h1,h2⟩=>⟨je,zU p h1,h2⟩
 | .fn _ _ _ cs,_,⟨ss,h1,h2⟩=>⟨ss,h1,CRs.mono x p cs ss h2⟩
 | .yl _,_,⟨je,h1,h2⟩=>⟨je,zU p h1,h2⟩
 | .nilp,_,r=>r
 | .nilf,_,r=>r
 | .nili,_,r=>r
theorem CRs.mono (x:Ext h Z h' Z') (p:J <+: J'):∀ (c:List TC) (s:List Sc),CRs P h Z J c s→CRs P h' Z' J' c s
 | [],[],_=>trivial
 | c::cs,s::ss,⟨h1,h2⟩=>⟨CR.mono x p c s h1,CRs.mono x p cs ss h2⟩
 | [],_::_,r=>r
 | _::_,[],r=>r
end
theorem AR.mono (x:Ext h Z h' Z') (p:J <+: J') {c:TA} {s:AV} (r:AR P h Z J c s):AR P h' Z' J' c s:=by
 cases c with
 | sc c=>obtain ⟨s',h1,h2⟩:=r;exact ⟨s',h1,CR.mono x p _ _ h2⟩
 | agg cs=>obtain ⟨s',h1,h2⟩:=r;exact ⟨s',h1,CRs.mono x p _ _ h2⟩
theorem ARs.mono (x:Ext h Z h' Z') (p:J <+: J'):∀ {c:List TA} {s:List AV},ARs P h Z J c s→ARs P h' Z' J' c s
 | [],[],_=>trivial
 | _::_,_::_,⟨h1,h2⟩=>⟨h1.mono x p,ARs.mono x p h2⟩
 | [],_::_,r=>r.elim
 | _::_,[],r=>r.elim
theorem SR.mono (x:Ext h Z h' Z') (p:J <+: J') {c:TV} {s:AM.SV} (r:SR P h Z J c s):SR P h' Z' J' c s:=by
 cases c with
 | u=>exact r
 | w=>exact r
 | no=>exact r
 | v a=>obtain ⟨s',h1,h2⟩:=r;exact ⟨s',h1,h2.mono x p⟩
 | t vs=>obtain ⟨s',h1,h2⟩:=r;exact ⟨s',h1,h2.mono x p⟩
 | l k o=>exact r
 | s k n=>exact r
 | e t xs i off=>obtain ⟨id,o,ob,cs,h1,h2,h3,h4,h5,h6,h7⟩:=r;exact ⟨id,o,ob,cs,h1,x.z _ h2,(x.same _ h2).trans h3,h4,h5,h6,h7.mono fun _ _=>DR.mono x t⟩
 | p id i off=>obtain ⟨je,h1,h2⟩:=r;exact ⟨je,zU p h1,h2⟩
theorem CRs.length:∀ {c:List TC} {s:List Sc},CRs P h Z J c s→c.length=s.length
 | [],[],_=>rfl
 | _::_,_::_,⟨_,h2⟩=>by simp [CRs.length h2]
 | [],_::_,r=>by simp [CRs] at r
 | _::_,[],r=>by simp [CRs] at r
theorem ARs.length:∀ {c:List TA} {s:List AV},ARs P h Z J c s→c.length=s.length
 | [],[],_=>rfl
 | _::_,_::_,⟨_,h2⟩=>by simp [ARs.length h2]
 | [],_::_,r=>r.elim
 | _::_,[],r=>r.elim
theorem CRs.append:∀ {c d:List TC} {s t:List Sc},CRs P h Z J c s→CRs P h Z J d t→CRs P h Z J (c++d) (s++t)
 | [],_,[],_,_,k=>k
 | _::_,_,_::_,_,h,k=>by simp only [CRs,List.cons_append] at h ⊢;exact ⟨h.1,CRs.append h.2 k⟩
 | [],_,_::_,_,h,_=>by simp [CRs] at h
 | _::_,_,[],_,h,_=>by simp [CRs] at h
theorem CRs.take (n:Nat):∀ {c:List TC} {s:List Sc},CRs P h Z J c s→CRs P h Z J (c.take n) (s.take n):=by
 induction n with
 | zero=>intro c s _;simp [CRs]
 | succ n ih=>intro c s h;cases c<;>cases s<;>simp_all [CRs]
theorem CRs.drop (n:Nat):∀ {c:List TC} {s:List Sc},CRs P h Z J c s→CRs P h Z J (c.drop n) (s.drop n):=by
 induction n with
 | zero=>intro c s h;simpa using h
 | succ n ih=>intro c s h;cases c<;>cases s<;>simp_all [CRs]
theorem CRs.get:∀ {c:List TC} {s:List Sc},CRs P h Z J c s→∀ {i:Nat} {x:TC},c[i]?=some x→∃ y,s[i]?=some y∧CR P h Z J x y
 | [],[],_,_,_,h=>by simp at h
 | a::_,b::_,⟨h1,h2⟩,i,x,h=>by
  cases i with
  | zero=>simp at h;subst h;exact ⟨b,rfl,h1⟩
  | succ i=>simpa using CRs.get h2 (by simpa using h)
 | [],_::_,r,_,_,_=>by simp [CRs] at r
 | _::_,[],r,_,_,_=>by simp [CRs] at r
theorem CRs.splice {c v:List TC} {cs vs:List Sc} (off:Nat) (h1:CRs P h Z J c cs) (k:CRs P h Z J v vs):CRs P h Z J (AM.splice c off v) (AM.splice cs off vs):=by
 unfold AM.splice
 rw [k.length]
 exact ((h1.take off).append k).append (h1.drop _)
theorem CRs.set {c:List TC} {s:List Sc} (r:CRs P h Z J c s) {j:Nat} {x:TC} {y:Sc} (hx:CR P h Z J x y) (hy:s[j]?=some y):CRs P h Z J (c.set j x) s:=by
 induction c generalizing s j with
 | nil=>simpa using r
 | cons a c ih=>
  cases s with
  | nil=>simp [CRs] at r
  | cons b s=>
   simp only [CRs] at r
   cases j with
   | zero=>simp at hy;subst hy;simp only [List.set_cons_zero,CRs];exact ⟨hx,r.2⟩
   | succ j=>simp only [List.set_cons_succ,CRs];exact ⟨r.1,ih r.2 (by simpa using hy)⟩
theorem AR.cells {c:TA} {s:AV} (r:AR P h Z J c s):CRs P h Z J c.cells s.cells:=by
 cases c with
 | sc c=>obtain ⟨s',rfl,h2⟩:=r;simp only [TA.cells,AV.cells,CRs];exact ⟨h2,trivial⟩
 | agg cs=>obtain ⟨s',rfl,h2⟩:=r;exact h2
theorem AR.shape {c:TA} {s:AV} (r:AR P h Z J c s):TM.shapeOf c=AM.shapeOf s:=by
 cases c with
 | sc c=>obtain ⟨s',rfl,h2⟩:=r;rfl
 | agg cs=>obtain ⟨s',rfl,h2⟩:=r;simp only [TM.shapeOf,AM.shapeOf,h2.length]
theorem DR.length:∀ (t:Ty) {d:t.T} {cs:List Sc},DR P h Z t d cs→cs.length=t.size
 | .int _,_,_,r=>by simp only [DR] at r;subst r;rfl
 | .bool,_,_,r=>by simp only [DR] at r;subst r;rfl
 | .str,_,_,r=>by simp only [DR] at r;subst r;rfl
 | .list e t,_,_,⟨s,h1,_⟩=>by subst h1;rfl
 | .pair a b,_,_,⟨p,q,h1,h2,h3⟩=>by subst h1;simp [Ty.size,DR.length a h2,DR.length b h3]
 | .unit,_,_,r=>by simp only [DR] at r;subst r;rfl
theorem DR.cells:∀ (t:Ty) {d:t.T} {cs:List Sc},DR P h Z t d cs→CRs P h Z J (t.cells d) cs
 | .int _,_,_,r=>by simp only [DR] at r;subst r;simp [Ty.cells,CRs,CR]
 | .bool,_,_,r=>by simp only [DR] at r;subst r;simp [Ty.cells,CRs,CR]
 | .str,_,_,r=>by simp only [DR] at r;subst r;simp [Ty.cells,CRs,CR]
 | .list e t,_,_,⟨s,h1,h2⟩=>by subst h1;simp only [Ty.cells,CRs,CR];exact ⟨h2,trivial⟩
 | .pair a b,_,_,⟨p,q,h1,h2,h3⟩=>by subst h1;exact (DR.cells a h2).append (DR.cells b h3)
 | .unit,_,_,r=>by simp only [DR] at r;subst r;simp [Ty.cells,CRs]
theorem Seg.length {α:Type} {R:α→List Sc→Prop} {z:Nat} (hz:∀ x cs,R x cs→cs.length=z):∀ {xs:List α} {cs:List Sc},Seg R xs cs→cs.length=xs.length*z
 | [],_,h=>by simp only [Seg] at h;subst h;simp
 | _::xs,_,⟨a,b,h1,h2,h3⟩=>by subst h1;simp [hz _ _ h2,Seg.length hz h3,Nat.succ_mul,Nat.add_comm]
theorem Seg.append {α:Type} {R:α→List Sc→Prop}:∀ {xs ys:List α} {c d:List Sc},Seg R xs c→Seg R ys d→Seg R (xs++ys) (c++d)
 | [],_,_,_,h,k=>by simp only [Seg] at h;subst h;exact k
 | x::xs,ys,_,d,⟨a,b,h1,h2,h3⟩,k=>⟨a,b++d,by rw [h1,List.append_assoc],h2,Seg.append h3 k⟩
theorem Seg.split {α:Type} {R:α→List Sc→Prop} {z:Nat} (hz:∀ x cs,R x cs→cs.length=z):∀ (n:Nat) {xs:List α} {c:List Sc},Seg R xs c→Seg R (xs.take n) (c.take (n*z))∧Seg R (xs.drop n) (c.drop (n*z))
 | 0,xs,c,h=>by simpa [Seg] using h
 | n+1,[],c,h=>by simp only [Seg] at h;subst h;simp [Seg]
 | n+1,x::xs,c,⟨a,b,h1,h2,h3⟩=>by
  obtain ⟨k1,k2⟩:=Seg.split hz n h3
  have ha:=hz _ _ h2
  subst h1
  have e:(n+1)*z=a.length+n*z:=by rw [ha,Nat.succ_mul,Nat.add_comm]
  rw [e]
  refine ⟨⟨a,b.take (n*z),?_,h2,k1⟩,?_⟩
  ·rw [List.take_append,List.take_of_length_le (by omega)];simp
  ·rw [List.drop_append,List.drop_of_length_le (l:=a) (by omega)];simpa using k2
theorem Seg.get {α:Type} {R:α→List Sc→Prop} {z:Nat} (hz:∀ x cs,R x cs→cs.length=z) {xs:List α} {c:List Sc} (r:Seg R xs c) {i:Nat} (hi:i < xs.length):R xs[i] ((c.drop (i*z)).take z):=by
 have h1:=(Seg.split hz i r).2
 rw [List.drop_eq_getElem_cons hi] at h1
 obtain ⟨a,b,e,h2,_⟩:=h1
 rw [e]
 have:=hz _ _ h2
 rw [List.take_left' this];exact h2
theorem Seg.set {α:Type} {R:α→List Sc→Prop} {z:Nat} (hz:∀ x cs,R x cs→cs.length=z) {xs:List α} {c:List Sc} (r:Seg R xs c) {i:Nat} (hi:i < xs.length) {x:α} {v:List Sc} (hx:R x v):Seg R (xs.set i x) (AM.splice c (i*z) v):=by
 obtain ⟨k1,k2⟩:=Seg.split hz i r
 obtain ⟨_,k3⟩:=Seg.split hz (i+1) r
 rw [List.set_eq_take_append_cons_drop,if_pos hi]
 unfold AM.splice
 have e:(i+1)*z=i*z+v.length:=by rw [hz _ _ hx,Nat.succ_mul]
 rw [e] at k3
 rw [List.append_assoc]
 exact k1.append ⟨v,_,rfl,hx,k3⟩
end Go.TM
namespace Go.AM
open Go
section
variable {R S : Type} (P : Program) (A : FAn) (ev : Ev) (dOk : FAn → Array Oper → Bool) (g : R → Option S)
theorem evOps_bind (ops:Array Oper):∀ (l:List Oper) (s:St) (c:St→Option R),(evOps P A ev ops l s c).bind g=evOps P A ev ops l s fun s=>(c s).bind g
 | [],s,c=>rfl
 | o::r,s,c=>by
  simp only [evOps,setK_eq]
  split
  ·rw [evOp_bind];simp only [evOps_bind ops r]
  ·rename_i j w _
   simp only [Option.bind_assoc]
   congr 1;funext o1;congr 1;funext d;congr 1;funext x
   cases x with
   | v y=>cases y with
    | sc z=>cases z with
     | bool t=>cases w<;>cases t<;>simp [evOp_bind,evOps_bind ops r]
     | _=>rfl
    | agg _=>rfl
   | no=>simp [evOps_bind ops r]
   | _=>rfl
theorem evRegion_bind (hrj:A.rj=[]) (id:Nat) (ops:Array Oper) (draw:Bool) (s:St) (c:St→Option R):(evRegion P A ev dOk id ops draw s c).bind g=evRegion P A ev dOk id ops draw s fun s=>(c s).bind g:=by
 simp only [evRegion,hrj,List.find?_nil,zC,evOps_bind]
theorem Uy (m:St→St) (body:St→(Ex→St→Option R)→Option R) (body':St→(Ex→St→Option S)→Option S) (hb:∀ s c,(body s c).bind g=body' s fun e s=>(c e s).bind g) (c:Ex→St→Option R):∀ (n:Nat) (s:St),(loopN m body c n s).bind g=loopN m body' (fun e s=>(c e s).bind g) n s
 | 0,_=>rfl
 | n+1,s=>by
  simp only [loopN,hb]
  congr;funext e s'
  cases e<;>simp [Uy m body body' hb c n]
theorem kSeq_bind (b:St→(Ex→St→Option R)→Option R) (b':St→(Ex→St→Option S)→Option S) (hb:∀ s c,(b s c).bind g=b' s fun e s=>(c e s).bind g) (c:Ex→St→Option R):(fun e s=>(kSeq b c e s).bind g)=kSeq b' (fun e s=>(c e s).bind g):=by
 funext e s;cases e<;>simp [kSeq,hb]
theorem kBlock_bind (id:Nat) (c:Ex→St→Option R):(fun e s=>(kBlock id c e s).bind g)=kBlock id (fun e s=>(c e s).bind g):=by
 funext e s;cases e with
 | exit i=>simp only [kBlock];cases Nat.beq i id<;>rfl
 | _=>rfl
theorem rangeEnd_bind (s:St) (c:Ex→St→Option R) (h:AH):(rangeEnd s c h).bind g=rangeEnd s (fun e s=>(c e s).bind g) h:=by
 unfold rangeEnd
 split
 ·rw [zC]
  split<;>rfl
 ·rfl
theorem rangeK_bind (q:Operand) (ps:Array Tmp) (a b:Code) (s:St) (c:Ex→St→Option R):(rangeK A ev q ps a b s c).bind g=rangeK A ev q ps a b s fun e s=>(c e s).bind g:=by
 unfold rangeK
 simp only [Option.bind_assoc,xf,Uj,zC,wM,rangeEnd_bind]
theorem evCode_bind (hrj:A.rj=[]) (k:Nat):∀ (c:Code) (blk:Nat) (s:St) (K:Ex→St→Option R),(evCode P A ev dOk k c blk s K).bind g=evCode P A ev dOk k c blk s fun e s=>(K e s).bind g
 | .skip,_,s,K=>rfl
 | .label _,_,s,K=>rfl
 | .region id ops draw,_,s,K=>by simp only [evCode,evRegion_bind _ _ _ _ _ hrj]
 | .seq a b,blk,s,K=>by simp only [evCode];rw [evCode_bind hrj k a,kSeq_bind g _ (evCode P A ev dOk k b blk) (fun s c=>evCode_bind hrj k b blk s c)]
 | .cond q a b,blk,s,K=>by
  simp only [evCode,Option.bind_assoc]
  congr;funext v
  cases v with
  | agg _=>rfl
  | sc v=>cases v with
   | bool t=>cases t<;>simp [asSc,asB,evCode_bind hrj k a,evCode_bind hrj k b]
   | _=>rfl
 | .block id b,_,s,K=>by simp only [evCode];rw [evCode_bind hrj k b,kBlock_bind]
 | .loop b,blk,s,K=>by simp only [evCode];rw [Uy g _ _ (evCode P A ev dOk k b blk) fun s c=>evCode_bind hrj k b blk s c]
 | .exit id,_,s,K=>rfl
 | .ret,_,s,K=>rfl
 | .rangeFunc q ps a b,_,s,K=>by simp only [evCode];exact rangeK_bind A ev g q ps a b s K
 | .scope b,blk,s,K=>by simp only [evCode];rw [evCode_bind hrj k b]
 | .goto _,_,_,_=>rfl
 | .refuse _,_,_,_=>rfl
end
def Tx (ev ev':Ev):Prop:=∀ f as h r,ev f as h=some r→ev' f as h=some r
section
variable {P : Program} {A : FAn} {ev ev' : Ev} {dOk : FAn → Array Oper → Bool}
theorem guardB_true {R:Type} {b:Bool} {x:Option R} {r:R}:guardB b x=some r↔b=true∧x=some r:=by cases b<;>simp [guardB]
theorem callK_le (hle:Tx ev ev') {R:Type} {f:Fn} {as:List AV} {h:AH} {c:List AV→AH→Option R} {x:R} (hx:callK A ev f as h c=some x):callK A ev' f as h c=some x:=by
 unfold callK at hx ⊢
 split at hx
 ·rename_i n
  obtain ⟨hrov,hx⟩:=guardB_true.1 hx
  simp only [hrov,guardB,cond_true]
  have key:∀ (hh:AH) (d:List AV×AH→Option R),(ev (.func n) as hh).bind d=some x→(ev' (.func n) as hh).bind d=some x:=by
   intro hh d hd
   obtain ⟨p,h1,h2⟩:=oB hd
   rw [hle _ _ _ _ h1];exact h2
  cases hc:(A.iso.contains n&&as.all AV.bare) with
  | true=>
   rw [hc] at hx
   simp only [cond_true] at hx ⊢
   split at hx
   ·exact hx
   ·exact key _ _ hx
  | false=>
   rw [hc] at hx
   simp only [cond_false] at hx ⊢
   exact key _ _ hx
 ·obtain ⟨hrov,hx⟩:=guardB_true.1 hx
  simp only [hrov,guardB,cond_true]
  obtain ⟨p,h1,h2⟩:=oB hx
  rw [hle _ _ _ _ h1];exact h2
 ·cases hx
theorem rangeEnd_le {R:Type} {s:St} {c c':Ex→St→Option R} {x:R} (hc:∀ e s y,c e s=some y→c' e s=some y) {h:AH} (hx:rangeEnd s c h=some x):rangeEnd s c' h=some x:=by
 unfold rangeEnd at hx ⊢
 split at hx
 ·cases hb:!(Nat.beq _ 1) with
  | false=>rw [hb] at hx;cases hx
  | true=>
   rw [hb] at hx
   simp only [guardB,cond_true] at hx ⊢
   split at hx
   ·exact hc _ _ _ hx
   ·exact hc _ _ _ hx
   ·exact hc _ _ _ hx
   ·cases hx
 ·cases hx
theorem rangeK_le (hle:Tx ev ev') {R:Type} {g:Operand} {ps:Array Tmp} {a b:Code} {s:St} {c c':Ex→St→Option R} {x:R} (hc:∀ e s y,c e s=some y→c' e s=some y) (hx:rangeK A ev g ps a b s c=some x):rangeK A ev' g ps a b s c'=some x:=by
 unfold rangeK at hx ⊢
 obtain ⟨v,h1,hx⟩:=oB hx
 rw [h1,Option.bind_some]
 cases v with
 | agg _=>cases hx
 | sc v=>cases v with
  | fn f nf sh cs=>
   simp only [asSc,asF] at hx ⊢
   obtain ⟨vs,h2,hx⟩:=oB hx
   rw [h2,Option.bind_some]
   cases hb:(zN a&&zN b&&fnName f) with
   | false=>rw [hb] at hx;cases hx
   | true=>
    rw [hb] at hx
    simp only [guardB,cond_true] at hx ⊢
    have h3:=callK_le hle hx
    have e1:=wM (fun p:AH=>rangeEnd s c p) A ev' f (vs.take nf++[.sc (.fn (.yield s.h.length) 0 [] [])]++vs.drop nf) (s.h++[.loop ⟨0,none,A.self,s.sl.map noLoc,ps.toList,a,b⟩]) fun _ h=>some h
    have e2:=wM (fun p:AH=>rangeEnd s c' p) A ev' f (vs.take nf++[.sc (.fn (.yield s.h.length) 0 [] [])]++vs.drop nf) (s.h++[.loop ⟨0,none,A.self,s.sl.map noLoc,ps.toList,a,b⟩]) fun _ h=>some h
    simp only [Option.bind_some] at e1 e2
    rw [← e1] at h3
    rw [← e2]
    obtain ⟨p,h4,h5⟩:=oB h3
    rw [h4,Option.bind_some]
    exact rangeEnd_le hc h5
  | _=>cases hx
theorem evOp_le (hle:Tx ev ev') {R:Type} {o:Oper} {s:St} {c:St→Option R} {x:R} (hx:evOp P A ev o s c=some x):evOp P A ev' o s c=some x:=by
 unfold evOp at hx ⊢
 split at hx
 case h_21=>
  obtain ⟨f,h1,hx⟩:=oB hx
  rw [h1]
  simp only [Option.bind_some]
  cases f with
  | agg _=>cases hx
  | sc f=>
   cases f with
   | fn g nf sh cs=>
    simp only [asSc,asF] at hx ⊢
    obtain ⟨as,h2,hx⟩:=oB hx
    obtain ⟨vs,h3,hx⟩:=oB hx
    rw [h2,h3]
    exact callK_le hle hx
   | _=>cases hx
 all_goals exact hx
theorem evOps_le (hle:Tx ev ev') {R:Type} {ops:Array Oper}:∀ (l:List Oper) {s:St} {c c':St→Option R} {x:R},(∀ s y,c s=some y→c' s=some y)→evOps P A ev ops l s c=some x→evOps P A ev' ops l s c'=some x
 | [],s,c,c',x,hc,hx=>hc _ _ hx
 | o::r,s,c,c',x,hc,hx=>by
  have step:∀ (s:St),evOp P A ev o s (fun s=>evOps P A ev ops r s c)=some x→evOp P A ev' o s (fun s=>evOps P A ev' ops r s c')=some x:=by
   intro s hs
   obtain ⟨s',h1,h2⟩:=evOp_some hs
   have:=evOp_bind (fun s=>evOps P A ev' ops r s c') P A ev' o s some
   simp only [Option.bind_some] at this
   rw [← this,evOp_le hle h1]
   exact evOps_le hle r hc h2
  simp only [evOps,setK_eq] at hx ⊢
  split at hx
  ·exact step _ hx
  ·rename_i j w _
   replace hx:=oB hx
   obtain ⟨d,h1,hx⟩:=hx
   replace hx:=oB hx
   obtain ⟨y,h2,hx⟩:=hx
   rw [h1,Option.bind_some,h2,Option.bind_some]
   split at hx
   ·rename_i t
    cases w<;>cases t<;>simp only [cond_true,cond_false] at hx ⊢<;>first | exact step _ hx | exact evOps_le hle r hc hx
   ·exact evOps_le hle r hc hx
   ·cases hx
theorem loopN_le {R:Type} {m:St→St} {body body':St→(Ex→St→Option R)→Option R} (hb:∀ s c c' x,(∀ e s y,c e s=some y→c' e s=some y)→body s c=some x→body' s c'=some x) {c c':Ex→St→Option R} (hc:∀ e s y,c e s=some y→c' e s=some y) :
  ∀ (n n':Nat) {s:St} {x:R},n≤n'→loopN m body c n s=some x→loopN m body' c' n' s=some x
 | 0,_,_,_,_,hx=>by cases hx
 | n+1,0,_,_,hn,_=>by omega
 | n+1,n'+1,s,x,hn,hx=>by
  simp only [loopN] at hx ⊢
  refine hb _ _ _ _ (fun e s y hy=>?_) hx
  cases e with
  | normal=>exact loopN_le hb hc n n' (by omega) hy
  | exit i=>exact hc _ _ _ hy
  | ret=>exact hc _ _ _ hy
theorem evCode_le (hrj:A.rj=[]) (hle:Tx ev ev') {R:Type} {k k':Nat} (hk:k≤k'):∀ (c:Code) (blk:Nat) (s:St) {K K':Ex→St→Option R} {x:R},(∀ e s y,K e s=some y→K' e s=some y)→evCode P A ev dOk k c blk s K=some x→evCode P A ev' dOk k' c blk s K'=some x
 | .skip,_,s,K,K',x,hK,hx=>hK _ _ _ hx
 | .label _,_,s,K,K',x,hK,hx=>hK _ _ _ hx
 | .region id ops draw,_,s,K,K',x,hK,hx=>by
  simp only [evCode,evRegion,hrj,List.find?_nil] at hx ⊢
  cases hg:(!draw||(dOk A ops&&freshAll A ops s)) with
  | false=>rw [hg] at hx;cases hx
  | true=>
   rw [hg] at hx
   simp only [guardB,cond_true] at hx ⊢
   exact evOps_le hle _ (fun s y hy=>hK _ _ _ hy) hx
 | .seq a b,blk,s,K,K',x,hK,hx=>by
  simp only [evCode] at hx ⊢
  refine evCode_le hrj hle hk a blk s (fun e s y hy=>?_) hx
  cases e with
  | normal=>exact evCode_le hrj hle hk b blk s hK hy
  | exit i=>exact hK _ _ _ hy
  | ret=>exact hK _ _ _ hy
 | .cond q a b,blk,s,K,K',x,hK,hx=>by
  simp only [evCode] at hx ⊢
  obtain ⟨v,h1,hx⟩:=oB hx
  rw [h1]
  cases v with
  | agg _=>cases hx
  | sc v=>cases v with
   | bool t=>
    cases t with
    | true=>exact evCode_le hrj hle hk a blk s hK hx
    | false=>exact evCode_le hrj hle hk b blk s hK hx
   | _=>cases hx
 | .block id b,_,s,K,K',x,hK,hx=>by
  simp only [evCode] at hx ⊢
  refine evCode_le hrj hle hk b id s (fun e s y hy=>?_) hx
  cases e with
  | normal=>exact hK _ _ _ hy
  | exit i=>
   simp only [kBlock] at hy ⊢
   cases hb:Nat.beq i id<;>rw [hb] at hy<;>exact hK _ _ _ hy
  | ret=>exact hK _ _ _ hy
 | .loop b,blk,s,K,K',x,hK,hx=>by
  simp only [evCode] at hx ⊢
  exact loopN_le (fun s c c' x hc hx=>evCode_le hrj hle hk b blk s hc hx) hK k k' hk hx
 | .exit id,_,s,K,K',x,hK,hx=>hK _ _ _ hx
 | .ret,_,s,K,K',x,hK,hx=>hK _ _ _ hx
 | .rangeFunc _ _ _ _,_,_,_,_,_,hK,hx=>by simp only [evCode] at hx ⊢;exact rangeK_le hle hK hx
 | .scope b,blk,s,K,K',x,hK,hx=>by
  simp only [evCode] at hx ⊢
  exact evCode_le hrj hle hk b blk s hK hx
 | .goto _,_,_,_,_,_,_,hx=>by cases hx
 | .refuse _,_,_,_,_,_,_,hx=>by cases hx
theorem evF_le {An:FuncId→FAn} (hrj:∀ f,(An f).rj=[]):∀ {k k':Nat},k≤k'→Tx (evF P An dOk k) (evF P An dOk k')
 | 0,_,_,_,_,_,_,hx=>by cases hx
 | k+1,0,h,_,_,_,_,_=>by omega
 | k+1,k'+1,h,f,as,hh,r,hx=>by
  cases f with
  | func f=>
   simp only [evF] at hx ⊢
   obtain ⟨fn,h1,hx⟩:=oB hx
   obtain ⟨code,h2,hx⟩:=oB hx
   rw [h1,Option.bind_some,h2,Option.bind_some]
   cases hg:Th (An f) fn as.length with
   | false=>rw [hg] at hx;cases hx
   | true=>
    rw [hg] at hx
    simp only [guardB,cond_true] at hx ⊢
    exact evCode_le (hrj f) (evF_le hrj (by omega)) (by omega) code 0 _ (fun _ _ _ h=>h) hx
  | yield id=>
   simp only [evF] at hx ⊢
   split at hx
   case h_2=>cases hx
   rename_i l hl
   cases hg:(Nat.beq as.length l.params.length&&zN l.assign&&zN l.body) with
   | false=>rw [hg] at hx;cases hx
   | true=>
    rw [hg] at hx
    simp only [guardB,cond_true] at hx ⊢
    refine evCode_le (hrj _) (evF_le hrj (by omega)) (by omega) l.assign 0 _ (fun e s y hy=>?_) hx
    unfold kBegin at hy ⊢
    split at hy
    case h_2=>cases hy
    rename_i l1 hl1
    cases hb:Nat.beq l1.st 0 with
    | false=>rw [hb] at hy;cases hy
    | true=>
     rw [hb] at hy
     simp only [guardB,cond_true] at hy ⊢
     exact evCode_le (hrj _) (evF_le hrj (by omega)) (by omega) l.body 0 _ (fun _ _ _ h=>h) hy
  | _=>cases hx
end
end Go.AM
namespace Go.TM
open Go Go.AM
section
variable {R : Type} {r : R}
theorem asSc_some {v:TA} {c:TC→Option R}:asSc v c=some r↔∃ s,v=.sc s∧c s=some r:=by cases v<;>simp [asSc]
theorem asAgg_some {v:TA} {c:List TC→Option R}:asAgg v c=some r↔∃ s,v=.agg s∧c s=some r:=by cases v<;>simp [asAgg]
theorem asB_some {v:TC} {c:Bool→Option R}:asB v c=some r↔∃ b,v=.bool b∧c b=some r:=by cases v<;>simp [asB]
theorem asStr_some {v:TC} {c:ByteArray→Option R}:asStr v c=some r↔∃ b,v=.str b∧c b=some r:=by cases v<;>simp [asStr]
theorem asI_some {k:IntKind} {v:TC} {c:Int→Option R}:asI k v c=some r↔∃ n,v=.int k n∧c n=some r:=by
 constructor
 ·intro h
  cases v with
  | int k' n=>simp only [asI] at h;split at h<;>simp_all
  | _=>simp [asI] at h
 ·rintro ⟨n,rfl,h⟩;simp [asI,h]
theorem asC_some {α:Type} {l:List α} {c:α→List α→Option R}:asC l c=some r↔∃ x xs,l=x::xs∧c x xs=some r:=by
 constructor
 ·intro h
  cases l with
  | nil=>simp [asC] at h
  | cons x xs=>exact ⟨x,xs,rfl,h⟩
 ·rintro ⟨x,xs,rfl,h⟩;exact h
theorem asN_some {α:Type} {l:List α} {c:Option R}:asN l c=some r↔l=[]∧c=some r:=by cases l<;>simp [asN]
theorem gB {b:Bool} {c:Option R}:guardB b c=some r↔b=true∧c=some r:=by cases b<;>simp [guardB]
theorem cond_some {b:Bool} {x y:Option R}:cond b x y=some r↔(b=true∧x=some r)∨(b=false∧y=some r):=by cases b<;>simp
theorem wC {e:TypeId} {t:Ty} {v:TC} {c:List t.T→Option R} (h:asD e t v c=some r):(∃ xs,v=.d e t xs∧c xs=some r)∨(v=.nil∧c []=some r):=by
 unfold asD at h
 split at h
 ·replace h:=gB.1 h
  obtain ⟨he,h2⟩:=h
  have he:=Nat.eq_of_beq_eq_true he
  subst he
  split at h2
  ·rename_i ht;subst ht;exact .inl ⟨_,rfl,h2⟩
  ·cases h2
 ·exact .inr ⟨rfl,h⟩
 ·cases h
end
theorem zH {a b:Nat} (h:Nat.beq a b=true):a=b:=Nat.eq_of_beq_eq_true h
variable {P : Program} {h h' : AH} {Z Z' : Nat → Prop} {J J' : List JE} {R : Type} {r : R}
theorem YX:∀ (t:Ty) {l:List TC} {c:t.T→List TC→Option R} {cs:List Sc},mkT t l c=some r→CRs P h Z J l cs→∃ x rest a b,cs=a++b∧DR P h Z t x a∧CRs P h Z J rest b∧c x rest=some r
 | .int k,l,c,cs,hx,hr=>by
  replace hx:=asC_some.1 hx
  obtain ⟨x,xs,rfl,hx1⟩:=hx
  obtain ⟨n,rfl,hx⟩:=asI_some.1 hx1
  cases cs with
  | nil=>simp [CRs] at hr
  | cons s ss=>simp only [CRs,CR] at hr;exact ⟨n,xs,[s],ss,rfl,by simp [DR,hr.1],hr.2,hx⟩
 | .bool,l,c,cs,hx,hr=>by
  replace hx:=asC_some.1 hx
  obtain ⟨x,xs,rfl,hx1⟩:=hx
  obtain ⟨n,rfl,hx⟩:=asB_some.1 hx1
  cases cs with
  | nil=>simp [CRs] at hr
  | cons s ss=>simp only [CRs,CR] at hr;exact ⟨n,xs,[s],ss,rfl,by simp [DR,hr.1],hr.2,hx⟩
 | .str,l,c,cs,hx,hr=>by
  replace hx:=asC_some.1 hx
  obtain ⟨x,xs,rfl,hx1⟩:=hx
  obtain ⟨n,rfl,hx⟩:=asStr_some.1 hx1
  cases cs with
  | nil=>simp [CRs] at hr
  | cons s ss=>simp only [CRs,CR] at hr;exact ⟨n,xs,[s],ss,rfl,by simp [DR,hr.1],hr.2,hx⟩
 | .list e t,l,c,cs,hx,hr=>by
  replace hx:=asC_some.1 hx
  obtain ⟨x,xs,rfl,hx1⟩:=hx
  cases cs with
  | nil=>simp [CRs] at hr
  | cons s ss=>
   simp only [CRs] at hr
   rcases wC hx1 with ⟨ys,rfl,hx⟩ | ⟨rfl,hx⟩
   ·exact ⟨ys,xs,[s],ss,rfl,⟨s,rfl,hr.1⟩,hr.2,hx⟩
   ·exact ⟨[],xs,[s],ss,rfl,⟨s,rfl,.inl ⟨rfl,hr.1⟩⟩,hr.2,hx⟩
 | .pair a b,l,c,cs,hx,hr=>by
  simp only [mkT] at hx
  obtain ⟨x,l1,c1,c2,rfl,h1,h2,hx1⟩:=YX a hx hr
  obtain ⟨y,l2,c3,c4,rfl,h3,h4,hx2⟩:=YX b hx1 h2
  exact ⟨(x,y),l2,c1++c3,c4,by simp,⟨c1,c3,rfl,h1,h3⟩,h4,hx2⟩
 | .unit,l,c,cs,hx,hr=>⟨(),l,[],cs,rfl,rfl,hr,hx⟩
theorem mk1_some {t:Ty} {l:List TC} {c:t.T→Option R} {cs:List Sc} (hx:mk1 t l c=some r) (hr:CRs P h Z J l cs):∃ x,DR P h Z t x cs∧c x=some r:=by
 obtain ⟨x,rest,a,b,rfl,h1,h2,h3⟩:=YX t hx hr
 replace h3:=asN_some.1 h3
 obtain ⟨rfl,h3⟩:=h3
 cases b with
 | nil=>exact ⟨x,by simpa using h1,h3⟩
 | cons _ _=>simp [CRs] at h2
theorem wZ {t:Ty}:∀ (n:Nat) {l:List TC} {c:List t.T→Option R} {cs:List Sc},mkN t n l c=some r→CRs P h Z J l cs→∃ xs,xs.length=n∧Seg (DR P h Z t) xs cs∧c xs=some r
 | 0,l,c,cs,hx,hr=>by
  replace hx:=asN_some.1 hx
  obtain ⟨rfl,hx⟩:=hx
  cases cs with
  | nil=>exact ⟨[],rfl,rfl,hx⟩
  | cons _ _=>simp [CRs] at hr
 | n+1,l,c,cs,hx,hr=>by
  simp only [mkN] at hx
  obtain ⟨x,rest,a,b,rfl,h1,h2,hx⟩:=YX t hx hr
  obtain ⟨xs,h3,h4,hx⟩:=wZ n hx h2
  exact ⟨x::xs,by simp [h3],⟨a,b,rfl,h1,h4⟩,hx⟩
theorem xZ {e:TypeId} {c:Ty→Option R} (hx:elT P e c=some r):∃ t,t.size=P.cellsOf e∧(P.info? e).isSome=true∧c t=some r:=by
 unfold elT at hx
 split at hx
 ·obtain ⟨hg,hx⟩:=gB.1 hx
  simp only [Bool.and_eq_true] at hg
  exact ⟨_,zH hg.1,hg.2,hx⟩
 ·cases hx
theorem xo {cs:List TC} {off n:Nat} {c:List TC→Option R} (hx:cutK cs off n c=some r):off+n≤cs.length∧c ((cs.drop off).take n)=some r:=by
 obtain ⟨h1,h2⟩:=gB.1 hx
 exact ⟨of_decide_eq_true h1,h2⟩
theorem Yj {cs v:List TC} {off:Nat} {c:List TC→Option R} (hx:putK cs off v c=some r):off+v.length≤cs.length∧c (AM.splice cs off v)=some r:=by
 obtain ⟨h1,h2⟩:=gB.1 hx
 exact ⟨of_decide_eq_true h1,h2⟩
theorem zE {H:TH} {i:Nat} {o:TO} (h:zF H i=o) (hd:o.live=true):H[i]?=some o:=by
 unfold zF at h
 rw [List.getD_eq_getElem?_getD] at h
 cases hi:H[i]? with
 | none=>rw [hi] at h;simp at h;subst h;simp [TO.live] at hd
 | some x=>rw [hi] at h;simp at h;rw [h]
structure RowAt (P:Program) (J:List JE) (h:AH) (Z:Nat→Prop) (je:JE) (e:TypeId) (t:Ty) (xs:List t.T):Prop where
 z:je.z=t.size
 n:je.n=xs.length
 sz:t.size=P.cellsOf e
 inf:(P.info? e).isSome=true
 at':(je.v=true∧xs=[])∨(je.v=false∧∃ cs,h[je.id]?=some (.row true e cs)∧cs.length=je.off+xs.length*t.size∧Seg (DR P h Z t) xs (cs.drop je.off))
theorem HR.row {H:TH} (hr:HR P J Z H h) {id:Nat} {e:TypeId} {t:Ty} {xs:List t.T} (ho:zF H id=.row e t xs):∃ je,J[id]?=some je∧RowAt P J h Z je e t xs:=by
 have hg:=zE ho rfl
 have hlt:id < J.length:=by rw [hr.len];exact (List.getElem?_eq_some_iff.1 hg).1
 obtain ⟨h1,h2,h3,h4,h5⟩:=hr.obj id _ _ hg (List.getElem?_eq_getElem hlt)
 exact ⟨_,List.getElem?_eq_getElem hlt,h1,h2,h3,h4,h5⟩
theorem yE {α:Type} {l:List α} {i j:Nat} {x y:α} (h:(l.set i x)[j]?=some y):(i=j∧y=x)∨(i≠j∧l[j]?=some y):=by
 by_cases e:i=j
 ·subst e
  rw [List.getElem?_set_self'] at h
  obtain ⟨z,_,hz⟩:=oM h
  exact .inl ⟨rfl,hz.symm⟩
 ·rw [List.getElem?_set_ne e] at h;exact .inr ⟨e,h⟩
theorem OR.mono (x:Ext h Z h' Z') (p:J <+: J') {je:JE} {o:TO} (hs:o.live=true→je.v=false→h'[je.id]?=h[je.id]?) (r:OR P h Z J je o):OR P h' Z' J' je o:=by
 cases o with
 | row e t xs=>
  obtain ⟨h1,h2,h3,h4,h5⟩:=r
  refine ⟨h1,h2,h3,h4,?_⟩
  rcases h5 with h5 | ⟨hv,cs,h5,h6,h7⟩
  ·exact .inl h5
  ·exact .inr ⟨hv,cs,(hs rfl hv).trans h5,h6,h7.mono fun _ _=>DR.mono x t⟩
 | crow e cells=>obtain ⟨hv,cs,h1,h2⟩:=r;exact ⟨hv,cs,(hs rfl hv).trans h1,CRs.mono x p _ _ h2⟩
 | box e cells=>obtain ⟨hv,cs,h1,h2⟩:=r;exact ⟨hv,cs,(hs rfl hv).trans h1,CRs.mono x p _ _ h2⟩
 | dead=>trivial
 | loop st pe f key nt sl=>
  obtain ⟨hv,al,h1,h2,h3,h4,h5,h6,h7,h8⟩:=r
  exact ⟨hv,al,(hs rfl hv).trans h1,h2,h3,h4,h5,h6,h7,fun q hq=>let ⟨y,k1,k2⟩:=h8 q hq;⟨y,k1,k2.mono x p⟩⟩
def WI (Z:Nat→Prop) (i:Nat):Nat→Prop:=fun j=>Z j∨j=i
theorem ext_addZ (h:AH) (Z:Nat→Prop) (i:Nat):Ext h Z h (WI Z i):=⟨fun _ h=>.inl h,fun _ _=>rfl⟩
theorem HR.kill {H:TH} (hr:HR P J Z H h) {id:Nat} {je:JE} {o:TO} (ho:H[id]?=some o) (hl:o.live=true) (hj:J[id]?=some je) (hv:je.v=false) (hz:je.id < h.length):HR P J (WI Z je.id) (H.set id .dead) h:=by
 refine ⟨by simp [hr.len],fun i o' je' h1 h2=>?_,fun i j o1 o2 j1 j2 h1 h2 l1 l2 k1 k2 v1 v2 e=>?_,fun i o' je' h1 h2 h3 h4 h5=>?_,fun i hi=>?_⟩
 ·rcases yE h1 with ⟨_,rfl⟩ | ⟨_,h1⟩
  ·trivial
  ·exact (hr.obj i o' je' h1 h2).mono (ext_addZ h Z _) (List.prefix_refl _) fun _ _=>rfl
 ·rcases yE h1 with ⟨_,rfl⟩ | ⟨_,h1⟩
  ·simp [TO.live] at l1
  rcases yE h2 with ⟨_,rfl⟩ | ⟨_,h2⟩
  ·simp [TO.live] at l2
  exact hr.uniq i j o1 o2 j1 j2 h1 h2 l1 l2 k1 k2 v1 v2 e
 ·rcases yE h1 with ⟨_,rfl⟩ | ⟨hne,h1⟩
  ·simp [TO.live] at h2
  rcases h5 with h5 | h5
  ·exact hr.sep i o' je' h1 h2 h3 h4 h5
  ·exact hne (hr.uniq i id o' o je' je h1 ho h2 hl h3 hj h4 hv h5).symm
 ·rcases hi with hi | hi
  ·exact hr.zlt i hi
  ·rw [hi];exact hz
theorem HR.kill' {H:TH} (hr:HR P J Z H h) (id:Nat):HR P J Z (H.set id .dead) h:=by
 refine ⟨by simp [hr.len],fun i o' je' h1 h2=>?_,fun i j o1 o2 j1 j2 h1 h2 l1 l2 k1 k2 v1 v2 e=>?_,fun i o' je' h1 h2 h3 h4 h5=>?_,hr.zlt⟩
 ·rcases yE h1 with ⟨_,rfl⟩ | ⟨_,h1⟩
  ·trivial
  ·exact hr.obj i o' je' h1 h2
 ·rcases yE h1 with ⟨_,rfl⟩ | ⟨_,h1⟩
  ·simp [TO.live] at l1
  rcases yE h2 with ⟨_,rfl⟩ | ⟨_,h2⟩
  ·simp [TO.live] at l2
  exact hr.uniq i j o1 o2 j1 j2 h1 h2 l1 l2 k1 k2 v1 v2 e
 ·rcases yE h1 with ⟨_,rfl⟩ | ⟨hne,h1⟩
  ·simp [TO.live] at h2
  exact hr.sep i o' je' h1 h2 h3 h4 h5
theorem xX {H:TH} {id b:Nat} (ho:OwnJ J (H.set id .dead) b):OwnJ J H b:=by
 obtain ⟨i,o,je,h1,h2,h3,h4,h5⟩:=ho
 rcases yE h1 with ⟨_,rfl⟩ | ⟨_,h1⟩
 ·simp [TO.live] at h2
 ·exact ⟨i,o,je,h1,h2,h3,h4,h5⟩
structure Mv (P:Program) (J:List JE) (Z:Nat→Prop) (H:TH) (h:AH) (Z':Nat→Prop) (H':TH):Prop where
 hr:HR P J Z' H' h
 zin:∀ id,Z id→Z' id
 zout:∀ id,Z' id→Z id∨OwnJ J H id
 own:∀ id,OwnJ J H' id→OwnJ J H id
 len:H'.length=H.length
theorem Mv.refl {H:TH} (hr:HR P J Z H h):Mv P J Z H h Z H:=⟨hr,fun _ h=>h,fun _ h=>.inl h,fun _ h=>h,rfl⟩
theorem Mv.trans {H H1 H2:TH} {Z1 Z2:Nat→Prop} (a:Mv P J Z H h Z1 H1) (b:Mv P J Z1 H1 h Z2 H2):Mv P J Z H h Z2 H2:=
 ⟨b.hr,fun id h=>b.zin id (a.zin id h),fun id h=>by
  rcases b.zout id h with h | h
  ·exact a.zout id h
  ·exact .inr (a.own id h),fun id h=>a.own id (b.own id h),b.len.trans a.len⟩
theorem Mv.ext {H H1:TH} {Z1:Nat→Prop} (a:Mv P J Z H h Z1 H1):Ext h Z h Z1:=⟨a.zin,fun _ _=>rfl⟩
theorem RowAt.cut {je:JE} {e:TypeId} {t:Ty} {xs:List t.T} (ra:RowAt P J h Z je e t xs) {Z':Nat→Prop} (hz2:je.v=false→Z' je.id) {o n:Nat} (hn:o+n≤xs.length) {s:Sc}
  (hs:(je.v=true∧∃ b,s=.nils b)∨(je.v=false∧s=.sl je.id (je.off+o*je.z) n)):SlR P h Z' e t.size (DR P h Z t) ((xs.drop o).take n) s:=by
 rcases hs with ⟨hv,b,rfl⟩ | ⟨hv,rfl⟩
 ·rcases ra.at' with ⟨_,rfl⟩ | ⟨hv',_⟩
  ·exact .inl ⟨by simp,b,rfl⟩
  ·rw [hv] at hv';cases hv'
 ·rcases ra.at' with ⟨hv',_⟩ | ⟨_,cs,h1,h2,h3⟩
  ·rw [hv] at hv';cases hv'
  ·have hl:((xs.drop o).take n).length=n:=by simp;omega
   have hz:=fun x cs (r:DR P h Z t x cs)=>r.length
   obtain ⟨_,k1⟩:=Seg.split hz o h3
   obtain ⟨k2,_⟩:=Seg.split hz n k1
   refine .inr ⟨je.id,je.off+o*je.z,_,cs,by rw [hl],hz2 hv,h1,rfl,rfl,ra.sz,?_,?_⟩
   ·rw [hl,ra.z,h2,Nat.add_assoc,← Nat.add_mul]
    exact Nat.add_le_add_left (Nat.mul_le_mul_right _ hn) _
   ·rw [hl,ra.z,← List.drop_drop];exact k2
theorem RowAt.whole {je:JE} {e:TypeId} {t:Ty} {xs:List t.T} (ra:RowAt P J h Z je e t xs) {Z':Nat→Prop} (hz2:je.v=false→Z' je.id) {s:Sc}
  (hs:(je.v=true∧∃ b,s=.nils b)∨(je.v=false∧s=.sl je.id je.off je.n)):SlR P h Z' e t.size (DR P h Z t) xs s:=by
 have:=ra.cut hz2 (o:=0) (n:=xs.length) (by omega) (s:=s) (by simpa [ra.n] using hs)
 simpa using this
theorem SlR.up {e:TypeId} {z:Nat} {t:Ty} {xs:List t.T} {s:Sc} (hz:∀ i,Z i→Z' i) (q:SlR P h Z' e z (DR P h Z t) xs s):SlR P h Z' e z (DR P h Z' t) xs s:=
 q.mono (Ext.refl _ _) fun _ _=>DR.mono ⟨hz,fun _ _=>rfl⟩ t
variable {P : Program} {J J' J1 J2 : List JE} {Z Z' Z1 Z2 : Nat → Prop} {H H' H1 H2 : TH} {h h' h1 h2 : AH}
structure Step (P:Program) (J:List JE) (Z:Nat→Prop) (H:TH) (h:AH) (J':List JE) (Z':Nat→Prop) (H':TH) (h':AH):Prop where
 hr:HR P J' Z' H' h'
 kp:Kp J Z H h J' Z' H' h'
theorem Kp.refl (J:List JE) (Z:Nat→Prop) (H:TH) (h:AH):Kp J Z H h J Z H h:=
 ⟨Nat.le_refl _,List.prefix_refl _,fun _ _ _=>rfl,fun _ h=>.inl h,fun _ h=>h,fun _ h=>.inl h⟩
theorem Kp.trans (a:Kp J Z H h J1 Z1 H1 h1) (b:Kp J1 Z1 H1 h1 J2 Z2 H2 h2):Kp J Z H h J2 Z2 H2 h2 where
 len:=Nat.le_trans a.len b.len
 pre:=a.pre.trans b.pre
 same id hl ho:=by
  refine (b.same id (Nat.lt_of_lt_of_le hl a.len) fun hw=>?_).trans (a.same id hl ho)
  rcases a.own id hw with hw | hw
  ·exact ho hw
  ·omega
 own id ho:=by
  rcases b.own id ho with ho | ho
  ·exact a.own id ho
  ·exact .inr (Nat.le_trans a.len ho)
 zin id hz:=b.zin id (a.zin id hz)
 zout id hz:=by
  rcases b.zout id hz with hz | hz | hz
  ·exact a.zout id hz
  ·rcases a.own id hz with hz | hz
   ·exact .inr (.inl hz)
   ·exact .inr (.inr hz)
  ·exact .inr (.inr (Nat.le_trans a.len hz))
theorem Step.refl (hr:HR P J Z H h):Step P J Z H h J Z H h:=⟨hr,Kp.refl ..⟩
theorem Step.trans (a:Step P J Z H h J1 Z1 H1 h1) (b:Step P J1 Z1 H1 h1 J2 Z2 H2 h2):Step P J Z H h J2 Z2 H2 h2:=⟨b.hr,a.kp.trans b.kp⟩
theorem HR.notOwn (hr:HR P J Z H h) {id:Nat} (hz:Z id):¬ OwnJ J H id:=by
 rintro ⟨i,o,je,h1,h2,h3,h4,rfl⟩
 exact hr.sep i o je h1 h2 h3 h4 hz
theorem Step.ext (hr:HR P J Z H h) (s:Step P J Z H h J' Z' H' h'):Ext h Z h' Z':=
 ⟨s.kp.zin,fun id hz=>s.kp.same id (hr.zlt id hz) (hr.notOwn hz)⟩
theorem Mv.step {hr:HR P J Z H h} (m:Mv P J Z H h Z' H'):Step P J Z H h J Z' H' h:=
 ⟨m.hr,⟨Nat.le_refl _,List.prefix_refl _,fun _ _ _=>rfl,fun id ho=>.inl (m.own id ho),m.zin,fun id hz=>by
  rcases m.zout id hz with hz | hz
  ·exact .inl hz
  ·exact .inr (.inl hz)⟩⟩
theorem OR.lt {je:JE} {o:TO} (hl:o.live=true) (hv:je.v=false) (r:OR P h Z J je o):je.id < h.length:=by
 cases o with
 | row e t xs=>
  rcases r.2.2.2.2 with ⟨h5,_⟩ | ⟨_,cs,h5,_⟩
  ·rw [hv] at h5;cases h5
  ·exact (List.getElem?_eq_some_iff.1 h5).1
 | crow e cells=>obtain ⟨_,cs,h1,_⟩:=r;exact (List.getElem?_eq_some_iff.1 h1).1
 | box e cells=>obtain ⟨_,cs,h1,_⟩:=r;exact (List.getElem?_eq_some_iff.1 h1).1
 | dead=>simp [TO.live] at hl
 | loop st pe f key nt sl=>obtain ⟨_,al,h1,_⟩:=r;exact (List.getElem?_eq_some_iff.1 h1).1
theorem OwnJ.lt (hr:HR P J Z H h) {id:Nat} (ho:OwnJ J H id):id < h.length:=by
 obtain ⟨i,o,je,h1,h2,h3,h4,rfl⟩:=ho
 exact OR.lt h2 h4 (hr.obj i o je h1 h3)
theorem get_snoc {α:Type} {l:List α} {x y:α} {i:Nat} (h:(l++[x])[i]?=some y):(i < l.length∧l[i]?=some y)∨(i=l.length∧y=x):=by
 rcases Nat.lt_or_ge i l.length with hi | hi
 ·rw [List.getElem?_append_left hi] at h;exact .inl ⟨hi,h⟩
 ·rw [List.getElem?_append_right hi] at h
  cases hk:i - l.length with
  | zero=>rw [hk] at h;simp at h;exact .inr ⟨by omega,h.symm⟩
  | succ k=>rw [hk] at h;simp at h
theorem xT {α β:Type} {l:List α} {m:List β} (hl:m.length=l.length) {x y:α} {u v:β} {i:Nat} (h:(l++[x])[i]?=some y) (k:(m++[u])[i]?=some v):(i < l.length∧l[i]?=some y∧m[i]?=some v)∨(i=l.length∧y=x∧v=u):=by
 rcases get_snoc h with ⟨h1,h2⟩ | ⟨h1,h2⟩<;>rcases get_snoc k with ⟨k1,k2⟩ | ⟨k1,k2⟩
 ·exact .inl ⟨h1,h2,k2⟩
 ·omega
 ·omega
 ·exact .inr ⟨h1,h2,k2⟩
theorem HR.add (hr:HR P J Z H h) {je:JE} {o:TO} (ho:OR P h Z (J++[je]) je o) (hn:je.v=false→¬ OwnJ J H je.id∧¬ Z je.id):HR P (J++[je]) Z (H++[o]) h:=by
 have hp:J <+: J++[je]:=List.prefix_append _ _
 refine ⟨by simp [hr.len],fun i o' je' h1 h2=>?_,fun i j o1 o2 j1 j2 h1 h2 l1 l2 k1 k2 v1 v2 e=>?_,fun i o' je' h1 h2 h3 h4 h5=>?_,hr.zlt⟩
 ·rcases xT hr.len h1 h2 with ⟨_,a,b⟩ | ⟨_,rfl,rfl⟩
  ·exact (hr.obj i o' je' a b).mono (Ext.refl _ _) hp fun _ _=>rfl
  ·exact ho
 ·rcases xT hr.len h1 k1 with ⟨_,a,b⟩ | ⟨a,rfl,rfl⟩<;>rcases xT hr.len h2 k2 with ⟨_,c,d⟩ | ⟨c,rfl,rfl⟩
  ·exact hr.uniq i j o1 o2 j1 j2 a c l1 l2 b d v1 v2 e
  ·exact absurd ⟨i,o1,j1,a,l1,b,v1,e⟩ (hn v2).1
  ·exact absurd ⟨j,o2,j2,c,l2,d,v2,e.symm⟩ (hn v1).1
  ·omega
 ·rcases xT hr.len h1 h3 with ⟨_,a,b⟩ | ⟨a,rfl,rfl⟩
  ·exact hr.sep i o' je' a h2 b h4 h5
  ·exact (hn h4).2 h5
theorem Ud {je:JE} {o:TO} (hl:J.length=H.length) {b:Nat} (ho:OwnJ (J++[je]) (H++[o]) b):OwnJ J H b∨(o.live=true∧je.v=false∧b=je.id):=by
 obtain ⟨i,o',je',h1,h2,h3,h4,h5⟩:=ho
 rcases xT hl h1 h3 with ⟨_,a,b⟩ | ⟨a,rfl,rfl⟩
 ·exact .inl ⟨i,o',je',a,h2,b,h4,h5⟩
 ·exact .inr ⟨h2,h4,h5.symm⟩
theorem HR.grow (hr:HR P J Z H h) (ao:AO):HR P J Z H (h++[ao]):=by
 have x:Ext h Z (h++[ao]) Z:=⟨fun _ h=>h,fun id hz=>List.getElem?_append_left (hr.zlt id hz)⟩
 refine ⟨hr.len,fun i o je h1 h2=>(hr.obj i o je h1 h2).mono x (List.prefix_refl _) fun hl hv=>List.getElem?_append_left (OR.lt hl hv (hr.obj i o je h1 h2)),hr.uniq,hr.sep,fun id hz=>?_⟩
 have:=hr.zlt id hz
 simp;omega
theorem Wn (hr:HR P J Z H h) {je:JE} {o:TO} {ao:AO} (hid:je.id=h.length) (ho:OR P (h++[ao]) Z (J++[je]) je o):Step P J Z H h (J++[je]) Z (H++[o]) (h++[ao]):=by
 have hg:=hr.grow ao
 have hn:¬ OwnJ J H je.id:=fun hw=>by have:=OwnJ.lt hr hw;omega
 refine ⟨hg.add ho fun _=>⟨hn,fun hz=>by have:=hr.zlt _ hz;omega⟩,⟨by simp,List.prefix_append _ _,fun id hl _=>List.getElem?_append_left hl,fun id hw=>?_,fun _ h=>h,fun _ h=>.inl h⟩⟩
 rcases Ud hr.len hw with hw | ⟨_,_,hw⟩
 ·exact .inl hw
 ·exact .inr (by omega)
theorem step_virt (hr:HR P J Z H h) {je:JE} {o:TO} (hv:je.v=true) (ho:OR P h Z (J++[je]) je o):Step P J Z H h (J++[je]) Z (H++[o]) h:=by
 refine ⟨hr.add ho (fun h=>by rw [hv] at h;cases h),⟨Nat.le_refl _,List.prefix_append _ _,fun id hl _=>rfl,fun id hw=>?_,fun _ h=>h,fun _ h=>.inl h⟩⟩
 rcases Ud hr.len hw with hw | ⟨_,hw,_⟩
 ·exact .inl hw
 ·rw [hv] at hw;cases hw
theorem wc (hr:HR P J Z H h) {i:Nat} {o o':TO} {je:JE} {ao:AO} (hi:H[i]?=some o) (hl:o.live=true) (hj:J[i]?=some je) (hv:je.v=false) (ho:OR P (h.set je.id ao) Z J je o'):Step P J Z H h J Z (H.set i o') (h.set je.id ao):=by
 have hown:OwnJ J H je.id:=⟨i,o,je,hi,hl,hj,hv,rfl⟩
 have hz:∀ id,Z id→je.id≠id:=fun id h1 h2=>hr.notOwn h1 (h2▸hown)
 have x:Ext h Z (h.set je.id ao) Z:=⟨fun _ h=>h,fun id h1=>List.getElem?_set_ne (hz id h1)⟩
 have own2:∀ b,OwnJ J (H.set i o') b→OwnJ J H b:=by
  rintro b ⟨j,o2,j2,h1,h2,h3,h4,rfl⟩
  rcases yE h1 with ⟨rfl,_⟩ | ⟨_,h1⟩
  ·rw [hj] at h3;cases h3;exact hown
  ·exact ⟨j,o2,j2,h1,h2,h3,h4,rfl⟩
 refine ⟨⟨by simp [hr.len],fun j o2 j2 h1 h2=>?_,fun j k o1 o2 j1 j2 h1 h2 l1 l2 k1 k2 v1 v2 e=>?_,fun j o2 j2 h1 h2 h3 h4 h5=>?_,fun id hz=>by simpa using hr.zlt id hz⟩,
  ⟨by simp,List.prefix_refl _,fun id _ hn=>List.getElem?_set_ne fun (he:je.id=id)=>hn (he▸hown),fun id hw=>.inl (own2 id hw),fun _ h=>h,fun _ h=>.inl h⟩⟩
 ·rcases yE h1 with ⟨rfl,rfl⟩ | ⟨hne,h1⟩
  ·rw [hj] at h2;cases h2;exact ho
  ·refine (hr.obj j o2 j2 h1 h2).mono x (List.prefix_refl _) fun l2 v2=>List.getElem?_set_ne fun he=>hne (hr.uniq i j o o2 je j2 hi h1 hl l2 hj h2 hv v2 he)
 ·rcases yE h1 with ⟨e1,_⟩ | ⟨n1,g1⟩<;>rcases yE h2 with ⟨e2,_⟩ | ⟨n2,g2⟩
  ·exact e1.symm.trans e2
  ·subst e1;rw [hj] at k1;cases k1
   exact hr.uniq i k o o2 je j2 hi g2 hl l2 hj k2 hv v2 e
  ·subst e2;rw [hj] at k2;cases k2
   exact hr.uniq j i o1 o j1 je g1 hi l1 hl k1 hj v1 hv e
  ·exact hr.uniq j k o1 o2 j1 j2 g1 g2 l1 l2 k1 k2 v1 v2 e
 ·rcases yE h1 with ⟨rfl,rfl⟩ | ⟨hne,h1⟩
  ·rw [hj] at h3;cases h3;exact hr.sep i o je hi hl hj hv h5
  ·exact hr.sep j o2 j2 h1 h2 h3 h4 h5
theorem Qv (hr:HR P J Z H h) {i:Nat} {o:TO} {je:JE} (hi:H[i]?=some o) (hl:o.live=true) (hj:J[i]?=some je) (hv:je.v=false):Step P J Z H h J (WI Z je.id) (H.set i .dead) h:=
 ⟨hr.kill hi hl hj hv (OR.lt hl hv (hr.obj i o je hi hj)),⟨Nat.le_refl _,List.prefix_refl _,fun _ _ _=>rfl,fun id ho=>.inl (xX ho),fun _ h=>.inl h,fun id hz=>by
  rcases hz with hz | hz
  ·exact .inl hz
  ·exact .inr (.inl ⟨i,o,je,hi,hl,hj,hv,hz.symm⟩)⟩⟩
theorem We (hr:HR P J Z H h) (i:Nat):Step P J Z H h J Z (H.set i .dead) h:=
 ⟨hr.kill' i,⟨Nat.le_refl _,List.prefix_refl _,fun _ _ _=>rfl,fun id ho=>.inl (xX ho),fun _ h=>h,fun _ h=>.inl h⟩⟩
theorem not_own_kill (hr:HR P J Z H h) {i:Nat} {o:TO} {je:JE} (hi:H[i]?=some o) (hl:o.live=true) (hj:J[i]?=some je) (hv:je.v=false):¬ OwnJ J (H.set i .dead) je.id:=by
 rintro ⟨j,o2,j2,h1,h2,h3,h4,h5⟩
 rcases yE h1 with ⟨_,rfl⟩ | ⟨hne,h1⟩
 ·simp [TO.live] at h2
 ·exact hne (hr.uniq i j o o2 je j2 hi h1 hl h2 hj h3 hv h4 h5.symm)
theorem step_move (hr:HR P J Z H h) {i:Nat} {o o':TO} {je je':JE} (hi:H[i]?=some o) (hl:o.live=true) (hj:J[i]?=some je) (hv:je.v=false) (hid:je'.id=je.id) (ho:OR P h Z (J++[je']) je' o'):Step P J Z H h (J++[je']) Z (H.set i .dead++[o']) h:=by
 have hown:OwnJ J H je.id:=⟨i,o,je,hi,hl,hj,hv,rfl⟩
 have s1:=We hr i
 have h2:=s1.hr.add ho fun _=>by rw [hid];exact ⟨not_own_kill hr hi hl hj hv,hr.sep i o je hi hl hj hv⟩
 refine ⟨h2,⟨Nat.le_refl _,List.prefix_append _ _,fun _ _ _=>rfl,fun id hw=>?_,fun _ h=>h,fun _ h=>.inl h⟩⟩
 rcases Ud s1.hr.len hw with hw | ⟨_,_,hw⟩
 ·exact .inl (xX hw)
 ·rw [hw,hid];exact .inl hown
theorem RowAt.or {je:JE} {e:TypeId} {t:Ty} {xs:List t.T} (ra:RowAt P J h Z je e t xs):OR P h Z J je (.row e t xs):=⟨ra.z,ra.n,ra.sz,ra.inf,ra.at'⟩
theorem Ux (hr:HR P J Z H h) {id:Nat} {e:TypeId} {t:Ty} {xs:List t.T} (ho:zF H id=.row e t xs):∃ je Z',J[id]?=some je∧RowAt P J h Z je e t xs∧Mv P J Z H h Z' (H.set id .dead)∧(∀ i,Z i→Z' i)∧(je.v=false→Z' je.id):=by
 obtain ⟨je,hj,ra⟩:=hr.row ho
 have hi:=zE ho rfl
 cases hv:je.v with
 | true=>
  refine ⟨je,Z,hj,ra,⟨hr.kill' id,fun _ h=>h,fun _ h=>.inl h,fun _ h=>xX h,by simp⟩,fun _ h=>h,fun h=>by rw [hv] at h;cases h⟩
 | false=>
  have s:=Qv hr hi rfl hj hv
  refine ⟨je,WI Z je.id,hj,ra,⟨s.hr,s.kp.zin,fun b hb=>?_,fun _ h=>xX h,by simp⟩,s.kp.zin,fun _=>.inr rfl⟩
  rcases hb with hb | hb
  ·exact .inl hb
  ·exact .inr ⟨id,_,je,hi,rfl,hj,hv,hb.symm⟩
theorem Vk {R:Type} {r:R} {f:TC→TH→(TC→TH→Option R)→Option R}
  (hf:∀ {v:TC} {H:TH} {c:TC→TH→Option R} {Z:Nat→Prop} {s:Sc},f v H c=some r→HR P J Z H h→CR P h Z J v s→∃ v' H' Z',Mv P J Z H h Z' H'∧CR P h Z' J v' s∧c v' H'=some r) :
  ∀ {l:List TC} {H:TH} {c:List TC→TH→Option R} {Z:Nat→Prop} {ss:List Sc},seqK f l H c=some r→HR P J Z H h→CRs P h Z J l ss→∃ l' H' Z',Mv P J Z H h Z' H'∧CRs P h Z' J l' ss∧c l' H'=some r
 | [],H,c,Z,ss,hx,hr,hc=>⟨[],H,Z,Mv.refl hr,hc,hx⟩
 | x::l,H,c,Z,ss,hx,hr,hc=>by
  cases ss with
  | nil=>simp [CRs] at hc
  | cons s ss=>
   simp only [CRs] at hc
   obtain ⟨v',H1,Z1,m1,c1,hx1⟩:=hf hx hr hc.1
   obtain ⟨l',H2,Z2,m2,c2,hx2⟩:=Vk hf hx1 m1.hr (CRs.mono m1.ext (List.prefix_refl _) _ _ hc.2)
   exact ⟨v'::l',H2,Z2,m1.trans m2,by simp only [CRs];exact ⟨CR.mono m2.ext (List.prefix_refl _) _ _ c1,c2⟩,hx2⟩
theorem Vl {R:Type} {r:R}:∀ (k:Nat) {v:TC} {H:TH} {c:TC→TH→Option R} {Z:Nat→Prop} {s:Sc},frzC P k v H c=some r→HR P J Z H h→CR P h Z J v s→∃ v' H' Z',Mv P J Z H h Z' H'∧CR P h Z' J v' s∧c v' H'=some r
 | 0,v,H,c,Z,s,hx,hr,hc=>by cases hx
 | k+1,v,H,c,Z,s,hx,hr,hc=>by
  unfold frzC at hx
  split at hx
  ·rename_i id
   split at hx
   ·rename_i e t xs ho
    obtain ⟨je,Z',hj,ra,m,hz,hz2⟩:=Ux hr ho
    obtain ⟨je2,hj2,hs⟩:=hc
    rw [hj] at hj2;cases hj2
    exact ⟨.d e t xs,_,Z',m,(ra.whole hz2 hs).up hz,hx⟩
   ·cases hx
  ·rename_i id o n
   split at hx
   ·rename_i e t xs ho
    obtain ⟨je,Z',hj,ra,m,hz,hz2⟩:=Ux hr ho
    obtain ⟨je2,hj2,hs⟩:=hc
    rw [hj] at hj2;cases hj2
    obtain ⟨hg,hx⟩:=gB.1 hx
    have hg:=of_decide_eq_true hg
    refine ⟨.d e t ((xs.drop o).take n),_,Z',m,(ra.cut hz2 hg ?_).up hz,hx⟩
    rcases hs with ⟨h1,_,h2⟩ | hs
    ·exact .inl ⟨h1,h2⟩
    ·exact .inr hs
   ·cases hx
  ·rename_i id o n
   split at hx
   ·rename_i e cs ho
    obtain ⟨t,hsz,hinf,hx⟩:=xZ hx
    obtain ⟨hle,hx⟩:=xo hx
    have hi:=zE ho rfl
    obtain ⟨je,hj,hv,rfl⟩:=hc
    have hob:=hr.obj id _ je hi hj
    obtain ⟨_,cs',hg,hcs⟩:=hob
    have st:=Qv hr hi rfl hj hv
    have x1:=st.ext hr
    have hcut:=(hcs.drop o).take (n*t.size)
    obtain ⟨l',H2,Z2,m2,c2,hx⟩:=Vk (fun {v H c Z s}=>Vl k) hx st.hr (CRs.mono x1 (List.prefix_refl _) _ _ hcut)
    obtain ⟨xs,hn,hseg,hx⟩:=wZ n hx c2
    have hlen:=hcs.length
    refine ⟨.d e t xs,_,Z2,⟨m2.hr,fun i hi=>m2.zin i (st.kp.zin i hi),fun b hb=>?_,fun b hb=>xX (m2.own b hb),by rw [m2.len];simp⟩,.inr ⟨je.id,o,_,cs',by rw [hn],m2.zin _ (.inr rfl),hg,rfl,rfl,hsz,by rw [hn];omega,?_⟩,hx⟩
    ·rcases m2.zout b hb with hb | hb
     ·rcases hb with hb | hb
      ·exact .inl hb
      ·exact .inr ⟨id,_,je,hi,rfl,hj,hv,hb.symm⟩
     ·exact .inr (xX hb)
    ·rw [hn];exact hseg
   ·cases hx
  ·exact ⟨v,H,Z,Mv.refl hr,hc,hx⟩
theorem WX {R:Type} {r:R} {l:List TC} {H:TH} {c:List TC→TH→Option R} {Z:Nat→Prop} {ss:List Sc} (hx:frzL P l H c=some r) (hr:HR P J Z H h) (hc:CRs P h Z J l ss):∃ l' H' Z',Mv P J Z H h Z' H'∧CRs P h Z' J l' ss∧c l' H'=some r:=
 Vk (fun {v H c Z s}=>Vl 3) hx hr hc
variable {P : Program} {J0 J J' : List JE} {Z0 Z Z' : Nat → Prop} {H0 H H' : TH} {h0 h h' : AH} {s : TS} {a : AM.St} {R : Type} {r : R}
theorem StR.put (q:StR P J0 Z0 H0 h0 J Z s a) (d:Option Tmp) {v:TV} {x:AM.SV} (hv:SR P a.h Z J v x):StR P J0 Z0 H0 h0 J Z (TM.setSl s d v) (AM.setSl a d x):=by
 cases d with
 | none=>exact q
 | some d=>
  refine ⟨fun i y hu=>?_,fun i y hu=>?_,q.lo,q.lt,q.hp,q.kp,q.n0,q.j0⟩
  ·by_cases e:d=i
   ·subst e
    simp only [TM.setSl,Tr.get_set_self] at hu
    obtain ⟨y0,hy,rfl⟩:=oM hu
    obtain ⟨x0,hx0,_⟩:=q.tm d y0 hy
    exact ⟨x,by simp [AM.setSl,Tr.get_set_self,hx0],hv⟩
   ·simp only [TM.setSl,Tr.get_set_ne _ e] at hu
    obtain ⟨z,hz,hr⟩:=q.tm i y hu
    exact ⟨z,by simp only [AM.setSl,Tr.get_set_ne _ e];exact hz,hr⟩
  ·by_cases e:d=i
   ·subst e
    simp only [AM.setSl,Tr.get_set_self] at hu
    obtain ⟨y0,hy,rfl⟩:=oM hu
    obtain ⟨v0,hv0⟩:=q.mt d y0 hy
    exact ⟨v,by simp [TM.setSl,Tr.get_set_self,hv0]⟩
   ·simp only [AM.setSl,Tr.get_set_ne _ e] at hu
    obtain ⟨z,hz⟩:=q.mt i y hu
    exact ⟨z,by simp only [TM.setSl,Tr.get_set_ne _ e];exact hz⟩
theorem xy (s:TS) (d:Option Tmp) (v:TV) (c:TS→Option R):TM.setK s d v c=c (TM.setSl s d v):=by
 cases d with
 | none=>rfl
 | some d=>simp only [TM.setK,Tr.setT_eq,TM.setSl]
theorem WA (s:TS) (d:Tmp) (v:TV) (cs:List TC) (c:TS→Option R):TM.newLocalK s d v cs c=c (TM.newLocal s d v cs):=by
 simp only [TM.newLocalK,Tr.setT_eq,TM.newLocal]
theorem StR.mem (q:StR P J0 Z0 H0 h0 J Z s a) (st:Step P J Z s.h a.h J' Z' H' h'):StR P J0 Z0 H0 h0 J' Z' { s with h:=H' } { a with h:=h' }:=by
 have x:=st.ext q.hp
 refine ⟨fun i v hv=>?_,q.mt,fun k cs hk=>?_,q.lt,st.hr,q.kp.trans st.kp,q.n0,q.j0⟩
 ·obtain ⟨y,h1,h2⟩:=q.tm i v hv
  exact ⟨y,h1,h2.mono x st.kp.pre⟩
 ·obtain ⟨cs',h1,h2⟩:=q.lo k cs hk
  exact ⟨cs',h1,CRs.mono x st.kp.pre _ _ h2⟩
theorem killL_SR {d:Nat} {v:TV} {x:AM.SV} (hv:SR P h Z J v x):SR P h Z J (TM.killL d v) (AM.killL d x):=by
 cases v with
 | u=>cases x<;>simp only [SR,TM.killL,AM.killL,YG] at hv ⊢<;>simp_all
 | l k o=>simp only [SR] at hv;subst hv;simp only [TM.killL,AM.killL];cases Nat.beq k d<;>simp [SR,YG]
 | s k n=>simp only [SR] at hv;subst hv;simp only [TM.killL,AM.killL];cases Nat.beq k d<;>simp [SR,YG]
 | no=>simp only [SR] at hv;subst hv;simp [TM.killL,AM.killL,SR]
 | w=>trivial
 | v y=>obtain ⟨z,rfl,h2⟩:=hv;exact ⟨z,rfl,h2⟩
 | t y=>obtain ⟨z,rfl,h2⟩:=hv;exact ⟨z,rfl,h2⟩
 | e t xs i off=>obtain ⟨id,o,ob,cs,rfl,h1⟩:=hv;exact ⟨id,o,ob,cs,rfl,h1⟩
 | p id i off=>obtain ⟨je,h1,h2,rfl⟩:=hv;exact ⟨je,h1,h2,rfl⟩
theorem StR.newLocal (q:StR P J0 Z0 H0 h0 J Z s a) (d:Nat) {v:TV} {x:AM.SV} (hv:SR P a.h Z J v x) {cs:List TC} {cs':List Sc} (hc:CRs P a.h Z J cs cs') :
  StR P J0 Z0 H0 h0 J Z (TM.newLocal s d v cs) (AM.newLocal a d x cs'):=by
 refine ⟨fun i y hu=>?_,fun i y hu=>?_,fun k c hk=>?_,fun k c hk=>?_,q.hp,q.kp,q.n0,q.j0⟩
 ·by_cases e:d=i
  ·subst e
   simp only [TM.newLocal,Tr.get_set_self,Tr.get_map] at hu
   obtain ⟨y0,hy,rfl⟩:=oM hu
   obtain ⟨y1,hy1,_⟩:=oM hy
   obtain ⟨x0,hx0,_⟩:=q.tm d y1 hy1
   exact ⟨x,by simp [AM.newLocal,Tr.get_set_self,Tr.get_map,hx0],hv⟩
  ·simp only [TM.newLocal,Tr.get_set_ne _ e,Tr.get_map] at hu
   obtain ⟨y0,hy,rfl⟩:=oM hu
   obtain ⟨z,hz,hr⟩:=q.tm i y0 hy
   exact ⟨AM.killL d z,by simp only [AM.newLocal,Tr.get_set_ne _ e,Tr.get_map,hz,Option.map_some],killL_SR hr⟩
 ·by_cases e:d=i
  ·subst e
   simp only [AM.newLocal,Tr.get_set_self,Tr.get_map] at hu
   obtain ⟨y0,hy,rfl⟩:=oM hu
   obtain ⟨y1,hy1,_⟩:=oM hy
   obtain ⟨v0,hv0⟩:=q.mt d y1 hy1
   exact ⟨v,by simp [TM.newLocal,Tr.get_set_self,Tr.get_map,hv0]⟩
  ·simp only [AM.newLocal,Tr.get_set_ne _ e,Tr.get_map] at hu
   obtain ⟨y0,hy,rfl⟩:=oM hu
   obtain ⟨z,hz⟩:=q.mt i y0 hy
   exact ⟨TM.killL d z,by simp only [TM.newLocal,Tr.get_set_ne _ e,Tr.get_map,hz,Option.map_some]⟩
 ·by_cases e:d=k
  ·subst e
   simp only [TM.newLocal,Tr.get_set_self] at hk
   obtain ⟨y0,hy,hk⟩:=oM hk
   simp at hk;subst hk
   obtain ⟨y1,hy1⟩:=q.lt d y0 hy
   exact ⟨cs',by simp [AM.newLocal,Tr.get_set_self,hy1],hc⟩
  ·simp only [TM.newLocal,Tr.get_set_ne _ e] at hk
   obtain ⟨c',h1,h2⟩:=q.lo k c hk
   exact ⟨c',by simp only [AM.newLocal,Tr.get_set_ne _ e];exact h1,h2⟩
 ·by_cases e:d=k
  ·subst e
   simp only [TM.newLocal,Tr.get_set_self] at hk
   obtain ⟨y0,hy,hk⟩:=oM hk
   obtain ⟨y1,hy1⟩:=q.lt d y0 hy
   exact ⟨some cs',by simp [AM.newLocal,Tr.get_set_self,hy1]⟩
  ·simp only [TM.newLocal,Tr.get_set_ne _ e] at hk
   obtain ⟨y1,hy1⟩:=q.lt k c hk
   exact ⟨y1,by simp only [AM.newLocal,Tr.get_set_ne _ e];exact hy1⟩
theorem StR.setLocal (q:StR P J0 Z0 H0 h0 J Z s a) {k:Nat} {cs0:List TC} (hk0:s.lo.get k=some (some cs0)) {cs:List TC} {cs':List Sc} (hc:CRs P a.h Z J cs cs') :
  StR P J0 Z0 H0 h0 J Z { s with lo:=s.lo.set k (some cs) } { a with lo:=a.lo.set k (some cs') }:=by
 refine ⟨q.tm,q.mt,fun i c hk=>?_,fun i c hk=>?_,q.hp,q.kp,q.n0,q.j0⟩
 ·by_cases e:k=i
  ·subst e
   simp only [Tr.get_set_self] at hk
   obtain ⟨y0,hy,hk⟩:=oM hk
   simp at hk;subst hk
   obtain ⟨y1,hy1⟩:=q.lt k y0 hy
   exact ⟨cs',by simp [Tr.get_set_self,hy1],hc⟩
  ·simp only [Tr.get_set_ne _ e] at hk
   obtain ⟨c',h1,h2⟩:=q.lo i c hk
   exact ⟨c',by simp only [Tr.get_set_ne _ e];exact h1,h2⟩
 ·by_cases e:k=i
  ·subst e
   simp only [Tr.get_set_self] at hk
   obtain ⟨y0,hy,hk⟩:=oM hk
   obtain ⟨y1,hy1⟩:=q.lt k y0 hy
   exact ⟨some cs',by simp [Tr.get_set_self,hy1]⟩
  ·simp only [Tr.get_set_ne _ e] at hk
   obtain ⟨y1,hy1⟩:=q.lt i c hk
   exact ⟨y1,by simp only [Tr.get_set_ne _ e];exact hy1⟩
theorem wt {v:Value} {c:TC} (hc:TM.ofConst v=some c):∃ x,AM.ofConst v=some x∧CR P h Z J c x:=by
 unfold TM.ofConst at hc
 split at hc<;>first | (cases hc;exact ⟨_,rfl,by simp [CR]⟩) | cases hc
theorem xR:∀ {v:List Value} {c:List TC},TM.ofConsts v=some c→∃ x,AM.ofConsts v=some x∧CRs P h Z J c x
 | [],c,hc=>by simp [TM.ofConsts] at hc;subst hc;exact ⟨[],rfl,trivial⟩
 | v::vs,c,hc=>by
  simp only [TM.ofConsts,Option.bind_eq_some_iff] at hc
  obtain ⟨y,hy,ys,hys,hc⟩:=hc
  cases hc
  obtain ⟨x,h1,h2⟩:=wt (P:=P) (h:=h) (Z:=Z) (J:=J) hy
  obtain ⟨xs,h3,h4⟩:=xR hys
  exact ⟨x::xs,by simp [AM.ofConsts,h1,h3],h2,h4⟩
theorem yg {t:TypeId} {z:List TC} (hz:TM.zeroCells P t=some z):∃ x,AM.zeroCells P t=some x∧CRs P h Z J z x:=by
 simp only [TM.zeroCells,Option.bind_eq_some_iff] at hz
 obtain ⟨i,hi,zv,hzv,hz⟩:=hz
 obtain ⟨x,h1,h2⟩:=xR (P:=P) (h:=h) (Z:=Z) (J:=J) hz
 exact ⟨x,by simp [AM.zeroCells,hi,hzv,h1],h2⟩
theorem zL (q:StR P J0 Z0 H0 h0 J Z s a) {x:Operand} {v:TV} (hv:TM.evA s x=some v):∃ y,AM.evA a x=some y∧SR P a.h Z J v y:=by
 cases x with
 | tmp t=>exact q.tm t v hv
 | const c=>
  simp only [TM.evA,Option.bind_eq_some_iff] at hv
  obtain ⟨y,hy,hv⟩:=hv
  cases hv
  obtain ⟨x,h1,h2⟩:=wt (P:=P) (h:=a.h) (Z:=Z) (J:=J) hy
  exact ⟨.v (.sc x),by simp [AM.evA,h1],_,rfl,x,rfl,h2⟩
 | global g=>simp [TM.evA] at hv
 | func f=>simp only [TM.evA] at hv;cases hv;exact ⟨_,rfl,_,rfl,_,rfl,[],rfl,trivial⟩
theorem zK (q:StR P J0 Z0 H0 h0 J Z s a) {x:Operand} {v:TA} (hv:TM.evV s x=some v):∃ y,AM.evV a x=some y∧AR P a.h Z J v y:=by
 simp only [TM.evV,Option.bind_eq_some_iff] at hv
 obtain ⟨w,h1,h2⟩:=hv
 obtain ⟨y,h3,h4⟩:=zL q h1
 cases w<;>simp [TV.val] at h2
 subst h2
 obtain ⟨z,rfl,h5⟩:=h4
 exact ⟨z,by simp [AM.evV,h3,AM.SV.val],h5⟩
theorem yI (q:StR P J0 Z0 H0 h0 J Z s a):∀ {xs:List Operand} {vs:List TA},TM.evVs s xs=some vs→∃ ys,AM.evVs a xs=some ys∧ARs P a.h Z J vs ys
 | [],vs,hv=>by simp [TM.evVs] at hv;subst hv;exact ⟨[],rfl,trivial⟩
 | x::xs,vs,hv=>by
  simp only [TM.evVs,Option.bind_eq_some_iff] at hv
  obtain ⟨v,h1,vs',h2,hv⟩:=hv
  cases hv
  obtain ⟨y,h3,h4⟩:=zK q h1
  obtain ⟨ys,h5,h6⟩:=yI q h2
  exact ⟨y::ys,by simp [AM.evVs,h3,h5],h4,h6⟩
theorem xq (q:StR P J0 Z0 H0 h0 J Z s a):∀ {xs:List (Nat×Operand)} {vs:List (Nat×TA)},TM.evParts s xs=some vs→∃ ys,AM.evParts a xs=some ys∧vs.map Prod.fst=ys.map Prod.fst∧ARs P a.h Z J (vs.map Prod.snd) (ys.map Prod.snd)
 | [],vs,hv=>by simp [TM.evParts] at hv;subst hv;exact ⟨[],rfl,rfl,trivial⟩
 | (i,x)::xs,vs,hv=>by
  simp only [TM.evParts,Option.bind_eq_some_iff] at hv
  obtain ⟨v,h1,vs',h2,hv⟩:=hv
  cases hv
  obtain ⟨y,h3,h4⟩:=zK q h1
  obtain ⟨ys,h5,h6,h7⟩:=xq q h2
  exact ⟨(i,y)::ys,by simp [AM.evParts,h3,h5],by simp [h6],h4,h7⟩
theorem AR.sc {c:TC} {v:AV} (q:AR P h Z J (.sc c) v):∃ x,v=.sc x∧CR P h Z J c x:=q
theorem AR.agg {c:List TC} {v:AV} (q:AR P h Z J (.agg c) v):∃ x,v=.agg x∧CRs P h Z J c x:=q
theorem Ws {l:Leaf} {v:TC} {c:TC→Option R} {x:Sc} (hx:TM.asLeaf l v c=some r) (hc:CR P h Z J v x):c v=some r∧∀ {S:Type} (d:Sc→Option S),AM.asLeaf l x d=d x:=by
 cases l with
 | int k=>simp only [TM.asLeaf] at hx;obtain ⟨n,rfl,h2⟩:=TM.asI_some.1 hx;simp only [CR] at hc;subst hc;exact ⟨h2,fun d=>by simp [AM.asLeaf,AM.asI]⟩
 | bool=>simp only [TM.asLeaf] at hx;obtain ⟨n,rfl,h2⟩:=TM.asB_some.1 hx;simp only [CR] at hc;subst hc;exact ⟨h2,fun d=>by simp [AM.asLeaf,AM.asB]⟩
 | any=>exact ⟨hx,fun d=>rfl⟩
theorem ZZ:∀ {ls:List Leaf} {l:List TC} {c:List TC→Option R} {x:List Sc},TM.asLeaves ls l c=some r→CRs P h Z J l x→c l=some r∧∀ {S:Type} (d:List Sc→Option S),AM.asLeaves ls x d=d x
 | [],l,c,x,hx,hc=>by
  replace hx:=TM.asN_some.1 hx
  obtain ⟨rfl,hx⟩:=hx
  cases x with
  | nil=>exact ⟨hx,fun d=>rfl⟩
  | cons _ _=>simp [CRs] at hc
 | f::fs,l,c,x,hx,hc=>by
  simp only [TM.asLeaves] at hx
  replace hx:=TM.asC_some.1 hx
  obtain ⟨y,ys,rfl,hx⟩:=hx
  cases x with
  | nil=>simp [CRs] at hc
  | cons z zs=>
   simp only [CRs] at hc
   obtain ⟨h1,h2⟩:=Ws (c:=fun y=>TM.asLeaves fs ys fun ys=>c (y::ys)) hx hc.1
   obtain ⟨h3,h4⟩:=ZZ (c:=fun ys=>c (y::ys)) h1 hc.2
   exact ⟨h3,fun d=>by simp only [AM.asLeaves,AM.asC,h2,h4]⟩
theorem Uv {t:TypeId} {v:TA} {c:TA→Option R} {x:AV} (hx:TM.typed1 P t v c=some r) (hc:AR P h Z J v x):c v=some r∧∀ {S:Type} (d:AV→Option S),AM.typed1 P t x d=d x:=by
 unfold TM.typed1 at hx
 rcases cond_some.1 hx with ⟨hg,hx⟩ | ⟨hg,hx⟩
 ·obtain ⟨l,rfl,hx⟩:=TM.asAgg_some.1 hx
  obtain ⟨y,rfl,hc⟩:=hc
  obtain ⟨h1,h2⟩:=ZZ (c:=fun ys=>c (.agg ys)) hx hc
  exact ⟨h1,fun d=>by simp only [AM.typed1,hg,cond_true,AM.asAgg,h2]⟩
 ·obtain ⟨l,rfl,hx⟩:=TM.asSc_some.1 hx
  obtain ⟨y,rfl,hc⟩:=hc
  obtain ⟨h1,h2⟩:=Ws (c:=fun ys=>c (.sc ys)) hx hc
  exact ⟨h1,fun d=>by simp only [AM.typed1,hg,cond_false,AM.asSc,h2]⟩
theorem Vr:∀ {ts:List TypeId} {l:List TA} {c:List TA→Option R} {x:List AV},TM.typedAll P ts l c=some r→ARs P h Z J l x→c l=some r∧∀ {S:Type} (d:List AV→Option S),AM.typedAll P ts x d=d x
 | [],l,c,x,hx,hc=>by
  replace hx:=TM.asN_some.1 hx
  obtain ⟨rfl,hx⟩:=hx
  cases x with
  | nil=>exact ⟨hx,fun d=>rfl⟩
  | cons _ _=>simp [ARs] at hc
 | f::fs,l,c,x,hx,hc=>by
  simp only [TM.typedAll] at hx
  replace hx:=TM.asC_some.1 hx
  obtain ⟨y,ys,rfl,hx⟩:=hx
  cases x with
  | nil=>simp [ARs] at hc
  | cons z zs=>
   simp only [ARs] at hc
   obtain ⟨h1,h2⟩:=Uv (c:=fun y=>TM.typedAll P fs ys fun ys=>c (y::ys)) hx hc.1
   obtain ⟨h3,h4⟩:=Vr (c:=fun ys=>c (y::ys)) h1 hc.2
   exact ⟨h3,fun d=>by simp only [AM.typedAll,AM.asC,h2,h4]⟩
theorem Zu {t:TypeId} {l:List TA} {c:TV→Option R} {x:List AV} (hx:TM.typed P t l c=some r) (hc:ARs P h Z J l x):∃ v y,c v=some r∧SR P h Z J v y∧∀ {S:Type} (d:AM.SV→Option S),AM.typed P t x d=d y:=by
 unfold TM.typed at hx
 split at hx
 ·rename_i ts hu
  obtain ⟨h1,h2⟩:=Vr (c:=fun ys=>guardB (!(Nat.beq ys.length 1)) (c (.t ys))) hx hc
  obtain ⟨hg,h1⟩:=gB.1 h1
  refine ⟨.t l,.t x,h1,⟨x,rfl,hc⟩,fun d=>?_⟩
  simp only [AM.typed,hu,h2]
  rw [← hc.length,hg];rfl
 ·rename_i hu
  replace hx:=TM.asC_some.1 hx
  obtain ⟨y,ys,rfl,hx⟩:=hx
  obtain ⟨rfl,hx⟩:=TM.asN_some.1 hx
  match x,hc with
  | [z],hc=>
   simp only [ARs] at hc
   obtain ⟨h1,h2⟩:=Uv (c:=fun y=>c (.v y)) hx hc.1
   refine ⟨.v y,.v z,h1,⟨z,rfl,hc.1⟩,fun d=>?_⟩
   unfold AM.typed
   split
   ·rename_i ts hu2;exact absurd hu2 (hu ts)
   ·simp only [AM.asC,AM.asN,h2]
theorem drop_take_get {α:Type} {l:List α} {off:Nat} (h:off+1≤l.length):(l.drop off).take 1=[l[off]]:=by
 rw [List.drop_eq_getElem_cons (by omega),List.take_succ_cons,List.take_zero]
theorem Wx (q:StR P J0 Z0 H0 h0 J Z s a) {v:TV} {x:AM.SV} {n:Nat} {c:List TC→Option R} (hx:TM.loadAt s v n c=some r) (hv:SR P a.h Z J v x) :
  ∃ l l',c l=some r∧CRs P a.h Z J l l'∧l'.length=n∧∀ {S:Type} (d:List Sc→Option S),AM.loadAt a x n d=d l':=by
 unfold TM.loadAt at hx
 split at hx
 ·rename_i k off
  replace hx:=oB hx
  obtain ⟨b,h1,hx1⟩:=hx
  replace hx1:=oB hx1
  obtain ⟨cs,rfl,hx2⟩:=hx1
  replace hx2:=xo hx2
  obtain ⟨hle,hx⟩:=hx2
  obtain ⟨cs',h2,h3⟩:=q.lo k cs h1
  simp only [SR] at hv;subst hv
  have hl:=h3.length
  refine ⟨_,_,hx,(h3.drop off).take n,by simp;omega,fun d=>?_⟩
  simp only [AM.loadAt,h2,Option.bind_some,AM.cutK]
  rw [decide_eq_true (by omega)];rfl
 ·rename_i id off
  obtain ⟨y,rfl,z,rfl,je,hj,hjv,rfl⟩:=hv
  split at hx
  ·rename_i e cs ho
   obtain ⟨hle,hx⟩:=xo hx
   obtain ⟨_,cs',h1,h2⟩:=q.hp.obj id _ je (zE ho rfl) hj
   have hl:=h2.length
   refine ⟨_,_,hx,(h2.drop off).take n,by simp;omega,fun d=>?_⟩
   simp only [AM.loadAt,AM.asP,AM.ldNK,h1,Option.bind_some,yr,AM.cutK]
   rw [decide_eq_true (by omega)];rfl
  ·rename_i e cs ho
   obtain ⟨hle,hx⟩:=xo hx
   obtain ⟨_,cs',h1,h2⟩:=q.hp.obj id _ je (zE ho rfl) hj
   have hl:=h2.length
   refine ⟨_,_,hx,(h2.drop off).take n,by simp;omega,fun d=>?_⟩
   simp only [AM.loadAt,AM.asP,AM.ldNK,h1,Option.bind_some,yr,AM.cutK]
   rw [decide_eq_true (by omega)];rfl
  ·cases hx
 ·rename_i t xs i off
  obtain ⟨id,o,ob,cs,rfl,h1,h2,h3,h4,h5,h6⟩:=hv
  obtain ⟨hle,hx⟩:=xo hx
  have hz:=fun x cs (r:DR P a.h Z t x cs)=>r.length
  have hd:=h6.get hz h5
  have hxi:xs.getD i t.dflt=xs[i]:=by simp [List.getD_eq_getElem?_getD,h5]
  rw [hxi] at hle hx
  have hcl:(t.cells xs[i]).length=t.size:=by have:=(hd.cells (J:=J)).length;rw [this];exact hd.length
  have hlt:i*t.size+t.size≤xs.length*t.size:=by have:=Nat.mul_le_mul_right t.size (show i+1≤xs.length by omega);rw [Nat.succ_mul] at this;exact this
  refine ⟨_,_,hx,((hd.cells).drop off).take n,by have:=hd.length;simp at this ⊢;omega,fun d=>?_⟩
  simp only [AM.loadAt,AM.asP,AM.ldNK,h2,Option.bind_some,h3,AM.cutK]
  rw [decide_eq_true (by omega)]
  simp only [guardB,cond_true]
  congr 1
  apply List.ext_getElem?
  intro j
  simp only [List.getElem?_take,List.getElem?_drop]
  by_cases hj:j < n
  ·have a1:off+j < t.size:=by omega
   have a2:i*t.size+(off+j) < xs.length*t.size:=by omega
   simp only [hj,a1,a2,if_true]
   congr 1;omega
  ·simp [hj]
 ·rename_i id i off
  split at hx
  ·rename_i e t xs ho
   obtain ⟨hg,hx⟩:=gB.1 hx
   have hi:=of_decide_eq_true hg
   obtain ⟨hle,hx⟩:=xo hx
   obtain ⟨je,hj,ra⟩:=q.hp.row ho
   obtain ⟨je2,hj2,hv2,rfl⟩:=hv
   rw [hj] at hj2;cases hj2
   rcases ra.at' with ⟨_,rfl⟩ | ⟨_,cs,h1,h2,h3⟩
   ·simp at hi
   ·have hz:=fun x cs (r:DR P a.h Z t x cs)=>r.length
    have hd:=h3.get hz hi
    have hxi:xs.getD i t.dflt=xs[i]:=by simp [List.getD_eq_getElem?_getD,hi]
    rw [hxi] at hle hx
    have hcl:(t.cells xs[i]).length=t.size:=by have:=(hd.cells (J:=J)).length;rw [this];exact hd.length
    have hlt:i*t.size+t.size≤xs.length*t.size:=by have:=Nat.mul_le_mul_right t.size (show i+1≤xs.length by omega);rw [Nat.succ_mul] at this;exact this
    refine ⟨_,_,hx,((hd.cells).drop off).take n,by have:=hd.length;simp at this ⊢;omega,fun d=>?_⟩
    simp only [AM.loadAt,AM.asP,AM.ldNK,h1,Option.bind_some,yr,AM.cutK]
    rw [ra.z,decide_eq_true (by omega)]
    simp only [guardB,cond_true]
    congr 1
    apply List.ext_getElem?
    intro j
    simp only [List.getElem?_take,List.getElem?_drop]
    by_cases hj:j < n
    ·have a1:off+j < t.size:=by omega
     simp only [hj,a1,if_true]
     congr 1;omega
    ·simp [hj]
  ·cases hx
 ·cases hx
theorem load1_of {x:AM.SV} {y:Sc} (hx:AM.loadAt a x 1 some=some [y]) {S:Type} (d:Sc→Option S):AM.load1 a x d=d y:=by
 have key:∀ {cs:List Sc} {off:Nat},AM.cutK cs off 1 some=some [y]→cs[off]?=some y:=by
  intro cs off h1
  obtain ⟨h2,h3⟩:=gB.1 h1
  have h2:=of_decide_eq_true h2
  rw [drop_take_get h2] at h3
  cases h3
  exact List.getElem?_eq_getElem (by omega)
 unfold AM.loadAt at hx
 split at hx
 ·obtain ⟨b,h1,hx⟩:=oB hx
  obtain ⟨cs,rfl,hx⟩:=oB hx
  simp only [AM.load1,h1,Option.bind_some,key hx]
 ·replace hx:=AM.asP_some.1 hx
  obtain ⟨id,off,rfl,hx⟩:=hx
  simp only [AM.ldNK,Option.bind_eq_some_iff] at hx
  obtain ⟨o,h1,cs,h2,hx⟩:=hx
  simp only [AM.load1,AM.asP,AM.ld1,h1,h2,Option.bind_some,key hx]
 ·cases hx
theorem QT (q:StR P J0 Z0 H0 h0 J Z s a) {v:TV} {x:AM.SV} {c:TC→Option R} (hx:TM.load1 s v c=some r) (hv:SR P a.h Z J v x) :
  ∃ l l',c l=some r∧CR P a.h Z J l l'∧∀ {S:Type} (d:Sc→Option S),AM.load1 a x d=d l':=by
 obtain ⟨l,l',h1,h2,h3,h4⟩:=Wx q hx hv
 obtain ⟨y,ys,rfl,h1⟩:=TM.asC_some.1 h1
 obtain ⟨rfl,h1⟩:=TM.asN_some.1 h1
 match l',h2 with
 | [z],h2=>
  simp only [CRs] at h2
  exact ⟨y,z,h1,h2.1,fun d=>load1_of (h4 some) d⟩
theorem splice_splice {α:Type} {cs v:List α} {o p z:Nat} (h1:p+v.length≤z) (h2:o+z≤cs.length):AM.splice cs o (AM.splice ((cs.drop o).take z) p v)=AM.splice cs (o+p) v:=by
 have l1:((cs.drop o).take z).length=z:=by simp;omega
 apply List.ext_getElem?
 intro j
 have l2:(AM.splice ((cs.drop o).take z) p v).length=z:=by rw [xb (by rw [l1];exact h1),l1]
 have g1:=xp (c:=cs) (v:=AM.splice ((cs.drop o).take z) p v) (off:=o) (by rw [l2];exact h2) j
 have g2:=xp (c:=cs) (v:=v) (off:=o+p) (by omega) j
 rw [g1,g2,l2]
 by_cases a1:j < o
 ·rw [if_pos a1,if_pos (by omega)]
 ·rw [if_neg a1]
  by_cases a2:j < o+z
  ·have g3:=xp (c:=(cs.drop o).take z) (v:=v) (off:=p) (by rw [l1];exact h1) (j - o)
   rw [if_pos a2,g3]
   by_cases a3:j - o < p
   ·rw [if_pos a3,if_pos (by omega),List.getElem?_take,if_pos (by omega),List.getElem?_drop];congr 1;omega
   ·rw [if_neg a3]
    by_cases a4:j - o < p+v.length
    ·rw [if_pos a4,if_neg (by omega),if_pos (by omega)];congr 1;omega
    ·rw [if_neg a4,if_neg (by omega),if_neg (by omega),List.getElem?_take,if_pos (by omega),List.getElem?_drop];congr 1;omega
  ·rw [if_neg a2,if_neg (by omega),if_neg (by omega)]
theorem VU {α:Type} {cs v:List α} {o p:Nat} (h:o+p+v.length≤cs.length):(AM.splice cs (o+p) v).drop o=AM.splice (cs.drop o) p v:=by
 apply List.ext_getElem?
 intro j
 rw [List.getElem?_drop,xp h,xp (by simp;omega),List.getElem?_drop]
 by_cases a1:j < p
 ·rw [if_pos (by omega),if_pos a1]
 ·rw [if_neg (by omega),if_neg a1]
  by_cases a2:j < p+v.length
  ·rw [if_pos (by omega),if_pos a2];congr 1;omega
  ·rw [if_neg (by omega),if_neg a2]
theorem storeAt_rel (q:StR P J0 Z0 H0 h0 J Z s a) {v:TV} {x:AM.SV} {l:List TC} {l':List Sc} {c:TS→Option R} (hx:TM.storeAt P s v l c=some r) (hv:SR P a.h Z J v x) (hl:CRs P a.h Z J l l') :
  ∃ s' a' J' Z',c s'=some r∧StR P J0 Z0 H0 h0 J' Z' s' a'∧∀ {S:Type} (d:AM.St→Option S),AM.storeAt a x l' d=d a':=by
 have hll:=hl.length
 unfold TM.storeAt at hx
 split at hx
 ·rename_i k off
  replace hx:=oB hx
  obtain ⟨b,h1,hx1⟩:=hx
  replace hx1:=oB hx1
  obtain ⟨cs,rfl,hx2⟩:=hx1
  replace hx2:=Yj hx2
  obtain ⟨hle,hx⟩:=hx2
  obtain ⟨cs',h2,h3⟩:=q.lo k cs h1
  simp only [SR] at hv;subst hv
  have hc:=h3.length
  rw [Tr.setT_eq] at hx
  refine ⟨_,_,J,Z,hx,q.setLocal h1 (h3.splice off hl),fun d=>?_⟩
  simp only [AM.storeAt,h2,Option.bind_some,AM.putK]
  rw [decide_eq_true (by omega)]
  simp only [guardB,cond_true,Tr.setT_eq]
 ·rename_i id off
  obtain ⟨y,rfl,z,rfl,je,hj,hjv,rfl⟩:=hv
  split at hx
  ·rename_i e cs ho
   obtain ⟨hle,hx⟩:=Yj hx
   have hi:=zE ho rfl
   obtain ⟨_,cs',h1,h2⟩:=q.hp.obj id _ je hi hj
   have hc:=h2.length
   have st:=wc (ao:=.box e (AM.splice cs' off l')) q.hp hi rfl hj hjv (o':=.box e (AM.splice cs off l)) ⟨hjv,_,by rw [List.getElem?_set_self (List.getElem?_eq_some_iff.1 h1).1],by
    have x:Ext a.h Z (a.h.set je.id (.box e (AM.splice cs' off l'))) Z:=⟨fun _ h=>h,fun b hb=>List.getElem?_set_ne fun he=>q.hp.notOwn hb ⟨id,_,je,hi,rfl,hj,hjv,he⟩⟩
    exact CRs.mono x (List.prefix_refl _) _ _ (h2.splice off hl)⟩
   refine ⟨_,_,J,Z,hx,q.mem st,fun d=>?_⟩
   simp only [AM.storeAt,AM.asP,AM.stK,h1,Option.bind_some,AM.putK]
   rw [decide_eq_true (by omega)];rfl
  ·rename_i e cs ho
   obtain ⟨hle,hx⟩:=Yj hx
   have hi:=zE ho rfl
   obtain ⟨_,cs',h1,h2⟩:=q.hp.obj id _ je hi hj
   have hc:=h2.length
   have st:=wc (ao:=.row true e (AM.splice cs' off l')) q.hp hi rfl hj hjv (o':=.crow e (AM.splice cs off l)) ⟨hjv,_,by rw [List.getElem?_set_self (List.getElem?_eq_some_iff.1 h1).1],by
    have x:Ext a.h Z (a.h.set je.id (.row true e (AM.splice cs' off l'))) Z:=⟨fun _ h=>h,fun b hb=>List.getElem?_set_ne fun he=>q.hp.notOwn hb ⟨id,_,je,hi,rfl,hj,hjv,he⟩⟩
    exact CRs.mono x (List.prefix_refl _) _ _ (h2.splice off hl)⟩
   refine ⟨_,_,J,Z,hx,q.mem st,fun d=>?_⟩
   simp only [AM.storeAt,AM.asP,AM.stK,h1,Option.bind_some,AM.putK]
   rw [decide_eq_true (by omega)];rfl
  ·cases hx
 ·rename_i id i off
  obtain ⟨v2,H2,Z2,m,hl2,hx⟩:=WX hx q.hp hl
  split at hx
  ·rename_i e t xs ho
   obtain ⟨hg,hx⟩:=gB.1 hx
   have hi:=of_decide_eq_true hg
   obtain ⟨hle,hx⟩:=Yj hx
   have q2:=q.mem (Mv.step (hr:=q.hp) m)
   obtain ⟨je,hj,ra⟩:=m.hr.row ho
   have hgo:=zE ho rfl
   obtain ⟨je2,hj2,hv2,rfl⟩:=hv
   rw [hj] at hj2;cases hj2
   rcases ra.at' with ⟨_,rfl⟩ | ⟨_,cs,h1,h2,h3⟩
   ·simp at hi
   ·have hz:=fun x cs (r:DR P a.h Z2 t x cs)=>r.length
    have hd:=h3.get hz hi
    have hxi:xs.getD i t.dflt=xs[i]:=by simp [List.getD_eq_getElem?_getD,hi]
    rw [hxi] at hle hx
    have hcl:(t.cells xs[i]).length=t.size:=by have:=(hd.cells (J:=J)).length;rw [this];exact hd.length
    have hlt:i*t.size+t.size≤xs.length*t.size:=by have:=Nat.mul_le_mul_right t.size (show i+1≤xs.length by omega);rw [Nat.succ_mul] at this;exact this
    have hl2l:=hl2.length
    have hcc:=(hd.cells (J:=J)).splice off hl2
    obtain ⟨y,hy,hx⟩:=mk1_some hx hcc
    have hseg:=h3.set hz hi hy
    have e1:=splice_splice (cs:=cs.drop je.off) (v:=l') (o:=i*t.size) (p:=off) (z:=t.size) (by omega) (by simp;omega)
    rw [e1] at hseg
    have e2:=VU (cs:=cs) (v:=l') (o:=je.off) (p:=i*t.size+off) (by omega)
    rw [← e2] at hseg
    have x2:Ext a.h Z2 (a.h.set je.id (.row true e (AM.splice cs (je.off+(i*t.size+off)) l'))) Z2:=⟨fun _ h=>h,fun b hb=>List.getElem?_set_ne fun he=>m.hr.notOwn hb ⟨id,_,je,hgo,rfl,hj,hv2,he⟩⟩
    have st:=wc (ao:=.row true e (AM.splice cs (je.off+(i*t.size+off)) l')) m.hr hgo rfl hj hv2 (o':=.row e t (xs.set i y)) ⟨ra.z,by simp [ra.n],ra.sz,ra.inf,.inr ⟨hv2,_,by rw [List.getElem?_set_self (List.getElem?_eq_some_iff.1 h1).1],by rw [xb (by omega),h2];simp,hseg.mono fun _ _=>DR.mono x2 t⟩⟩
    refine ⟨_,_,J,Z2,hx,q2.mem st,fun d=>?_⟩
    simp only [AM.storeAt,AM.asP,AM.stK,h1,Option.bind_some,AM.putK]
    rw [ra.z,show je.off+i*t.size+off=je.off+(i*t.size+off) by omega,decide_eq_true (by omega)];rfl
  ·cases hx
 ·cases hx
end Go.TM
