/- One operation of the machine's, and the model's (III): each kind of operation but the calls. -/
import Derived.Test.YtpfphfobneehmaaB3
import Derived.Laws.StructEq
import Derived.Laws.Tables
import Derived.ChangeKeysEq
import Derived.Deep.Upon
import Derived.RangeFuncRecord
set_option linter.all false
namespace Go.AM
open Go.RowKit
variable {P : Program} {B : Nat} {Ie : List Loc} {he : AH} {we : World} {I : List Loc} {lam : Nat -> Nat} {s : St} {a : Act} {w : World}
def zH (P:Program) (B:Nat) (Ie:List Loc) (he:AH) (we:World) (o:Oper) (a:Act) (w:World) (s':St):Prop:=
 ∃ v w' I' lam',((execOp a.eval o).run P w=.ok (.value v) w'\/((execOp a.eval o).run P w=.ok .skip w'/\v=undef))/\Rel P B Ie he we I' lam' s' (a.put o.dst v) w'
theorem zl (r:Rel P B Ie he we I lam s a w) {o:Oper} {sv:SV} {v:Value} (h:(execOp a.eval o).run P w=.ok (.value v) w) (hv:SVRel I lam sv v) :
  zH P B Ie he we o a w (setSl s o.dst sv):=⟨v,w,I,lam,.inl h,r.put o.dst hv⟩
theorem sim_move (r:Rel P B Ie he we I lam s a w) {o:Oper} {x:Operand} (ho:o.op=.move x\/o.op=.assign x) {s':St}
  (h:(evA s x).bind (fun v=>some (setSl s o.dst v))=some s'):zH P B Ie he we o a w s':=by
 obtain ⟨v,h1,h2⟩:=oB h
 cases h2
 exact zl r (by rcases ho with ho | ho<;>simp [execOp,ho]) (zn r h1)
theorem YZ {R:Type} {t:Bool} {x y:Option SV} {c:SV->Option R} {r:R} (h:pickB t x y c=some r) :
  ∃ v,c v=some r/\((∃ p q,x=some (.v (.sc (.bool p)))/\y=some (.v (.sc (.bool q)))/\v=.v (.sc (.bool (cond t p q))))\/(t=true/\x=some v)\/(t=false/\y=some v)):=by
 unfold pickB at h
 split at h
 ·exact ⟨_,h,.inl ⟨_,_,rfl,rfl,rfl⟩⟩
 ·rcases cond_some.1 h with ⟨ht,h⟩ | ⟨ht,h⟩
  ·obtain ⟨v,h1,h2⟩:=oB h
   exact ⟨v,h2,.inr (.inl ⟨ht,h1⟩)⟩
  ·obtain ⟨v,h1,h2⟩:=oB h
   exact ⟨v,h2,.inr (.inr ⟨ht,h1⟩)⟩
theorem sim_pick (r:Rel P B Ie he we I lam s a w) {o:Oper} {q x y:Operand} (ho:o.op=.pick q x y) {s':St}
  (h:((evV s q).bind fun v=>asSc v fun v=>asB v fun t=>pickB t (evA s x) (evA s y) fun v=>some (setSl s o.dst v))=some s'):zH P B Ie he we o a w s':=by
 obtain ⟨v,h1,h⟩:=oB h
 replace h:=asSc_some.1 h
 obtain ⟨u,rfl,h⟩:=h
 replace h:=asB_some.1 h
 obtain ⟨t,rfl,h⟩:=h
 replace h:=YZ h
 obtain ⟨v,h2,hh⟩:=h
 obtain rfl:=Option.some.inj h2
 have hq:a.eval q=.bool t:=yC r h1
 refine zl r (v:=if t then a.eval x else a.eval y) (by simp [execOp,ho,asBool,hq]) ?_
 rcases hh with ⟨p,q',hx,hy,hv⟩ | ⟨ht,hx⟩ | ⟨ht,hy⟩
 ·have e1:a.eval x=.bool p:=zn r hx
  have e2:a.eval y=.bool q':=zn r hy
  rw [e1,e2,hv]
  cases t<;>exact rfl
 ·rw [ht];simpa using zn r hx
 ·rw [ht];simpa using zn r hy
theorem Vj (r:Rel P B Ie he we I lam s a w) {o:Oper} {d:Nat} (hd:o.dst=some d) {cs:List Sc} {arr:Array Value} {e:TypeId} {v:Value} {ao:AO} {z tot:Nat} {sv:Sc} {svl:SV} {b:Bool}
  (hx:(execOp a.eval o).run P w=.ok (.value v) (w.alloc (.cells arr e)))
  (hc:ScRels I cs arr.toList)
  (hl:SVRel I (turn lam d w.heap.size) svl v) (hs:ScRel (I++[⟨w.heap.size,0,z,tot⟩]) sv v)
  (ha:ORel P B (I++[⟨w.heap.size,0,z,tot⟩]) ⟨w.heap.size,0,z,tot⟩ (w.alloc (.cells arr e)) ao) {s':St}
  (h:cond b (some (newLocal s d svl cs)) (some (setSl { s with h:=s.h++[ao] } o.dst (.v (.sc sv))))=some s'):zH P B Ie he we o a w s':=by
 rcases cond_some.1 h with ⟨_,h⟩ | ⟨_,h⟩
 ·cases h
  exact ⟨v,_,I,turn lam d w.heap.size,.inl hx,by rw [hd];exact r.newLocal d hc hl⟩
 ·cases h
  exact ⟨v,_,_,lam,.inl hx,(r.newHeap rfl ha).put o.dst hs⟩
theorem box_orel (r:Rel P B Ie he we I lam s a w) {cs:List Sc} {arr:Array Value} {e:TypeId} (hc:ScRels I cs arr.toList) :
  ORel P B (I++[⟨w.heap.size,0,0,0⟩]) ⟨w.heap.size,0,0,0⟩ (w.alloc (.cells arr e)) (.box e cs):=
 ⟨r.kp.size_B r.base,rfl,rfl,arr,heap_alloc_new w _,ScRels.mono (List.prefix_append _ _) _ _ hc⟩
theorem zj {a b:Nat} (h:Nat.beq a b=true):a=b:=Nat.eq_of_beq_eq_true h
theorem sim_alloc (r:Rel P B Ie he we I lam s a w) {o:Oper} {e:TypeId} (ho:o.op=.alloc e) {b:Nat->Bool} {s':St}
  (h:(o.dst.bind fun d=>(zeroCells P e).bind fun z=>guardB (Nat.beq z.length (P.cellsOf e))<|
   cond (b d) (some (newLocal s d (.l d 0) z)) (some (setSl { s with h:=s.h++[.box e z] } o.dst (.v (.sc (.ptr s.h.length 0))))))=some s'):zH P B Ie he we o a w s':=by
 obtain ⟨d,hd,h⟩:=oB h
 obtain ⟨z,hz,h⟩:=oB h
 obtain ⟨_,h⟩:=gB.1 h
 obtain ⟨i,zv,hi,hzv,hr⟩:=zK (I:=I) hz
 refine Vj r hd (v:=.pointer (some ⟨w.heap.size,0,none⟩)) (arr:=zv.cells) (e:=e) ?_ hr ?_ ?_ (box_orel r hr) h
 ·simp [execOp,ho,Instr.alloc,zeroValue,typeInfo,hi,hzv,newVar,newRow]
 ·simp [SVRel,turn]
 ·exact ⟨⟨w.heap.size,0,0,0⟩,by rw [<- r.hp.len,List.getElem?_append_right (Nat.le_refl _)];simp,by simp⟩
theorem sim_box (r:Rel P B Ie he we I lam s a w) {o:Oper} {e:TypeId} {x:Operand} (ho:o.op=.box e x) {b:Nat->Bool} {s':St}
  (h:(o.dst.bind fun d=>(evV s x).bind fun v=>guardB (Nat.beq v.cells.length (P.cellsOf e))<|
   cond (b d) (some (newLocal s d (.l d 0) v.cells)) (some (setSl { s with h:=s.h++[.box e v.cells] } o.dst (.v (.sc (.ptr s.h.length 0))))))=some s'):zH P B Ie he we o a w s':=by
 obtain ⟨d,hd,h⟩:=oB h
 obtain ⟨v,hv,h⟩:=oB h
 obtain ⟨_,h⟩:=gB.1 h
 have hr:=(zm r hv).cells
 refine Vj r hd (v:=.pointer (some ⟨w.heap.size,0,none⟩)) (arr:=(a.eval x).cells) (e:=e) ?_ hr ?_ ?_ (box_orel r hr) h
 ·simp [execOp,ho,Instr.box,newVar,newRow]
 ·simp [SVRel,turn]
 ·exact ⟨⟨w.heap.size,0,0,0⟩,by rw [<- r.hp.len,List.getElem?_append_right (Nat.le_refl _)];simp,by simp⟩
theorem sim_load (r:Rel P B Ie he we I lam s a w) {o:Oper} {t:TypeId} {x:Operand} (ho:o.op=.load t x) {q:SV->Bool} {s':St}
  (h:(guardB (P.underlying t).isSome<|(evA s x).bind fun p=>guardB (q p)<|cond (yo P t) (loadAt s p (P.cellsOf t) fun l=>asLeaves (zN P 8 t) l fun ys=>some (setSl s o.dst (.v (.agg ys))))
   (load1 s p fun y=>asLeaf ((zN P 8 t).getD 0 .any) y fun y=>some (setSl s o.dst (.v (.sc y)))))=some s'):zH P B Ie he we o a w s':=by
 obtain ⟨ht,h⟩:=gB.1 h
 replace h:=oB h
 obtain ⟨p,hp,h⟩:=h
 replace h:=(gB.1 h).2
 obtain ⟨d,hd⟩:=Option.isSome_iff_exists.1 ht
 obtain ⟨i,hi⟩:=yU hd
 have hpr:=zn r hp
 rcases cond_some.1 h with ⟨hg,h⟩ | ⟨hg,h⟩
 ·obtain ⟨l,hl,h⟩:=zW h
  replace h:=zV (c:=fun ys=>some (setSl s o.dst (.v (.agg ys)))) h
  cases h
  obtain ⟨b,off,hv,hn,hc⟩:=Yu r hpr hl
  obtain ⟨vs,hrun,hvs⟩:=UI (P:=P) (w:=w) (ad:=⟨b,off,none⟩) (l:=l) (fun j c hj=>by rw [wM];exact hc j c hj)
  refine zl r (v:=.agg vs.toArray) ?_ ⟨_,rfl,by simpa using hvs⟩
  rw [hn,zp hi] at hrun
  simp [execOp,ho,Instr.loadAt,Instr.sureAddr,hv,loadVar,wo hd,hg,zQ hi,hrun]
 ·obtain ⟨l,hl,h⟩:=yt h
  replace h:=yi (c:=fun y=>some (setSl s o.dst (.v (.sc y)))) h
  cases h
  obtain ⟨b,off,y,hv,hc,hy⟩:=TU r hpr hl
  refine zl r (v:=y) ?_ hy
  simp [execOp,ho,Instr.loadAt,Instr.sureAddr,hv,loadVar,wo hd,hg,hc]
theorem sim_store {A:FAn} (r:Rel P B Ie he we I lam s a w) {o:Oper} {t:TypeId} {x y:Operand} (ho:o.op=.store t x y) {s':St}
  (h:(guardB (P.info? t).isSome<|(evA s x).bind fun p=>(evV s y).bind fun v=>guardB (Nat.beq v.cells.length (P.cellsOf t)&&onlyS A x p)<|storeAt s p v.cells fun s=>some (setSl s o.dst .no))=some s'):zH P B Ie he we o a w s':=by
 obtain ⟨ht,h⟩:=gB.1 h
 obtain ⟨p,hp,h⟩:=oB h
 obtain ⟨v,hv,h⟩:=oB h
 obtain ⟨hn,h⟩:=gB.1 h
 have hn:=(Bool.and_eq_true _ _▸hn).1
 obtain ⟨s1,h1,h⟩:=yH h
 cases h
 obtain ⟨i,hi⟩:=Option.isSome_iff_exists.1 ht
 have hc:=(zm r hv).cells
 obtain ⟨b,off,w',e1,hrun,r'⟩:=store_at r (zn r hp) hc h1
 refine ⟨undef,w',I,lam,.inr ⟨?_,rfl⟩,r'.put o.dst rfl⟩
 have hl:(a.eval y).cells.size=i.size:=by have:=hc.length;have:=zj hn;rw [zp hi] at this;simp at *;omega
 simp [execOp,ho,Instr.storeAt,Instr.sureAddr,e1,storeVar,zQ hi,hl,hrun]
theorem sim_nilCheck (r:Rel P B Ie he we I lam s a w) {o:Oper} {x:Operand} (ho:o.op=.nilCheck x) {s':St}
  (h:((evA s x).bind fun v=>match v with
   | .l k off=>some (setSl s o.dst (.l k off))
   | .v (.sc p)=>asP p fun id off=>some (setSl s o.dst (.v (.sc (.ptr id off))))
   | _=>none)=some s'):zH P B Ie he we o a w s':=by
 obtain ⟨p,hp,h⟩:=oB h
 have hr:=zn r hp
 split at h
 ·cases h
  have e:a.eval x=_:=hr
  exact zl r (by simp [execOp,ho,e]) hr
 ·replace h:=asP_some.1 h
  obtain ⟨i,off,rfl,h⟩:=h
  cases h
  obtain ⟨L,hL,e⟩:=hr
  exact zl r (v:=.pointer (some ⟨L.b,L.o+off,none⟩)) (by simp [execOp,ho,e]) ⟨L,hL,rfl⟩
 ·cases h
variable {P : Program} {B : Nat} {Ie : List Loc} {he : AH} {we : World} {I : List Loc} {lam : Nat -> Nat} {s : St} {a : Act} {w : World}
theorem Qk (off:Nat):∀ (vs:List Value) (k:Nat) (c:Array Value),off+k+vs.length<=c.size->
  ((vs.zipIdx k).foldl (fun cs (p:Value×Nat)=>cs.setIfInBounds (off+p.2) p.1) c).toList=splice c.toList (off+k) vs
 | [],k,c,_=>by simp [splice]
 | v::vs,k,c,h=>by
  simp only [List.zipIdx_cons,List.foldl_cons]
  rw [Qk off vs (k+1) (c.setIfInBounds (off+k) v) (by simp at h ⊢;omega)]
  have e:=list_seg_step c.toList (off+k) v vs (by simp at h ⊢;omega)
  simpa [splice,Array.toList_setIfInBounds,Nat.add_assoc] using e
theorem VU {pl:Nat->Option (Nat×Nat)}:∀ {vs:List (Nat×AV)} {ws:List (Nat×Value)} {z cs:List Sc} {arr:Array Value},
  fillA pl z vs=some cs->ScRels I z arr.toList->vs.map Prod.fst=ws.map Prod.fst->AVRels I (vs.map Prod.snd) (ws.map Prod.snd)->
  ∃ arr',Instr.fill pl arr ws=some arr'/\ScRels I cs arr'.toList
 | [],[],z,cs,arr,h,hz,_,_=>by simp [fillA] at h;subst h;exact ⟨arr,rfl,hz⟩
 | [],_::_,_,_,_,_,_,h,_=>by simp at h
 | _::_,[],_,_,_,_,_,h,_=>by simp at h
 | (i,v)::vs,(j,u)::ws,z,cs,arr,h,hz,hi,hr=>by
  simp only [List.map_cons,List.cons.injEq] at hi
  obtain ⟨rfl,hi⟩:=hi
  simp only [List.map_cons,AVRels] at hr
  obtain ⟨hr1,hr2⟩:=hr
  simp only [fillA,Option.bind_eq_some_iff] at h
  obtain ⟨p,hp,h⟩:=h
  obtain ⟨hn,h⟩:=gB.1 h
  obtain ⟨c,hc,h⟩:=oB h
  obtain ⟨hle,rfl⟩:=wi hc
  have hcell:=hr1.cells
  have hn:=zj hn
  have hzl:=hz.length
  have hcl:=hcell.length
  have hs:u.cells.size=p.2:=by simp at hcl;omega
  have hfold:(u.cells.zipIdx.foldl (fun cs (x:Value×Nat)=>cs.setIfInBounds (p.1+x.2) x.1) arr).toList=splice arr.toList p.1 u.cells.toList:=by
   rw [<- Array.foldl_toList,Array.toList_zipIdx]
   exact Qk p.1 u.cells.toList 0 arr (by simp at hzl ⊢;omega)
  obtain ⟨arr',h1,h2⟩:=VU (arr:=u.cells.zipIdx.foldl (fun cs (x:Value×Nat)=>cs.setIfInBounds (p.1+x.2) x.1) arr) h (by rw [hfold];exact hz.splice _ hcell) hi hr2
  refine ⟨arr',?_,h2⟩
  have hn1:¬ (u.cells.size≠p.2):=by simpa using hs
  have hn2:¬ (p.1+u.cells.size > arr.size):=by simp at hzl;omega
  simp only [Instr.fill,hp]
  rw [if_neg (by simp [hs];rw [<- hs];omega)]
  exact h1
theorem yY (r:Rel P B Ie he we I lam s a w):∀ {xs:List (Nat×Operand)} {vs:List (Nat×AV)},evParts s xs=some vs->
  vs.map Prod.fst=(xs.map fun p=>(p.1,a.eval p.2)).map Prod.fst/\AVRels I (vs.map Prod.snd) ((xs.map fun p=>(p.1,a.eval p.2)).map Prod.snd)
 | [],vs,h=>by simp [evParts] at h;subst h;simp [AVRels]
 | (i,x)::xs,vs,h=>by
  simp only [evParts,Option.bind_eq_some_iff] at h
  obtain ⟨v,h1,vs',h2,h⟩:=h
  cases h
  obtain ⟨e1,e2⟩:=yY r h2
  exact ⟨by simp only [List.map_cons,e1],by simp only [List.map_cons,AVRels];exact ⟨zm r h1,e2⟩⟩
theorem UL:∀ {fs:List Field},(fs.all fun f=>(P.info? f.type).isSome)=true->
  fs.mapM (fun f=>(P.info? f.type).map fun i=>(f.offset,i.size))=some (fs.map fun f=>(f.offset,P.cellsOf f.type))
 | [],_=>rfl
 | f::fs,h=>by
  simp only [List.all_cons,Bool.and_eq_true] at h
  obtain ⟨i,hi⟩:=Option.isSome_iff_exists.1 h.1
  simp [List.mapM_cons,UL h.2,hi,zp hi]
theorem sim_build (r:Rel P B Ie he we I lam s a w) {o:Oper} {t:TypeId} {parts:Array (Nat×Operand)} (ho:o.op=.build t parts) {s':St}
  (h:((zeroCells P t).bind fun z=>(places P t).bind fun pl=>(evParts s parts.toList).bind fun vs=>(fillA pl z vs).bind fun cs=>some (setSl s o.dst (.v (.agg cs))))=some s') :
  zH P B Ie he we o a w s':=by
 simp only [Option.bind_eq_some_iff] at h
 obtain ⟨z,hz,pl,hpl,vs,hvs,cs,hcs,h⟩:=h
 cases h
 obtain ⟨it,zv,hit,hzv,hzr⟩:=zK (I:=I) hz
 obtain ⟨e1,e2⟩:=yY r hvs
 obtain ⟨arr,h1,h2⟩:=VU hcs hzr e1 e2
 refine zl r (v:=.agg arr) ?_ ⟨arr,rfl,h2⟩
 have hb:P.built t (parts.map fun (i,x)=>(i,a.eval x)).toList=some arr:=by
  unfold Program.built
  unfold places at hpl
  split at hpl
  ·rename_i fs hu
   rcases cond_some.1 hpl with ⟨hall,hpl⟩ | ⟨_,hpl⟩
   ·cases hpl
    simp only [hit,hu,hzv,UL hall]
    have e:(fun (x:Nat)=>(fs.toList.map fun (f:Field)=>(f.offset,P.cellsOf f.type)).toArray[x]?)=fun i=>(fs.toList[i]?).map fun (f:Field)=>(f.offset,P.cellsOf f.type):=by
     funext i;simp
    rw [e]
    simpa using h1
   ·cases hpl
  ·rename_i n e hu
   rcases cond_some.1 hpl with ⟨hall,hpl⟩ | ⟨_,hpl⟩
   ·cases hpl
    obtain ⟨ie,hie⟩:=Option.isSome_iff_exists.1 hall
    simp only [hit,hu,hzv,hie]
    rw [zp hie] at h1
    simpa using h1
   ·cases hpl
  ·cases hpl
 simp only [execOp,ho,Sem.run_bind,run_build w t _ arr hb,Result.andThen_ok,Sem.run_pure]
theorem sim_unOp (r:Rel P B Ie he we I lam s a w) {o:Oper} {op:UnOp} {t:TypeId} {x:Operand} (ho:o.op=.unOp op t x) {s':St}
  (h:((evV s x).bind fun x=>(unop op x).bind fun v=>some (setSl s o.dst (.v (.sc v))))=some s'):zH P B Ie he we o a w s':=by
 simp only [Option.bind_eq_some_iff] at h
 obtain ⟨v,hv,u,hu,h⟩:=h
 cases h
 have hr:=zm r hv
 unfold unop at hu
 split at hu
 ·rename_i k n
  cases hu
  have e:a.eval x=.int k n:=hr
  exact zl r (v:=.int k (k.wrap (0 - n))) (by simp [execOp,ho,e,Op.unary,Op.intArith]) rfl
 ·rename_i b
  cases hu
  have e:a.eval x=.bool b:=hr
  exact zl r (v:=.bool (!b)) (by simp [execOp,ho,e,Op.unary]) rfl
 ·cases hu
theorem arith_run {op:BinOp} {k k':IntKind} {x y:Int} {v:Sc} {t:TypeId} (h:arith op k x y=some v) (hk:k=k'\/Vr op=true) (hy:opOk op (.sc (.int k' y))=true) :
  ∃ u,(binOp op t (.int k x) (.int k' y)).run P w=.ok u w/\ScRel I v u:=by
 unfold arith at h
 split at h
 case h_9=>have h1:=hy;simp only [opOk] at h1;cases h;exact ⟨_,by have:=of_decide_eq_true h1;simp [binOp,Op.shift,show ¬ y < 0 by omega],rfl⟩
 case h_10=>have h1:=hy;simp only [opOk] at h1;cases h;exact ⟨_,by have:=of_decide_eq_true h1;simp [binOp,Op.shift,show ¬ y < 0 by omega],rfl⟩
 all_goals (try (obtain rfl:k=k':=by simpa [Vr] using hk))
 case h_4=>have h1:=hy;simp only [opOk] at h1;cases h;exact ⟨_,by have:=of_decide_eq_true h1;simp [binOp,Op.intDiv,this],rfl⟩
 case h_5=>have h1:=hy;simp only [opOk] at h1;cases h;exact ⟨_,by have:=of_decide_eq_true h1;simp [binOp,Op.intDiv,this],rfl⟩
 all_goals first
  | (cases h;refine ⟨_,?_,rfl⟩;simp [binOp,Op.intArith,Op.intBits,Op.intCmp];done)
  | cases h
theorem ZV {t:TypeId} {cs:List Sc} {arr:Array Value} {off:Nat} {v:AV} (ht:(P.underlying t).isSome=true) (hc:ScRels I cs arr.toList) (h:Vu P t cs off=some v) :
  ∃ u,(part t arr off).run P w=.ok u w/\AVRel I v u:=by
 obtain ⟨d,hd⟩:=Option.isSome_iff_exists.1 ht
 obtain ⟨i,hi⟩:=yU hd
 unfold Vu at h
 rcases cond_some.1 h with ⟨hg,h⟩ | ⟨hg,h⟩
 ·cases h
  refine ⟨.agg (arr.extract off (off+i.size)),by simp [part,wo hd,hg,zQ hi],_,rfl,?_⟩
  rw [zp hi]
  have:=(hc.drop off).take i.size
  simpa [Array.toList_extract,List.extract_eq_take_drop] using this
 ·simp only [Option.bind_eq_some_iff] at h
  obtain ⟨x,hx,h⟩:=h
  cases h
  obtain ⟨u,hu,hr⟩:=hc.get hx
  refine ⟨u,?_,hr⟩
  have:arr[off]?=some u:=by simpa using hu
  simp [part,wo hd,hg,this]
variable {P : Program} {B : Nat} {Ie : List Loc} {he : AH} {we : World} {I : List Loc} {lam : Nat -> Nat} {s : St} {a : Act} {w : World}
theorem VS {eq:TypeId->AV->AV->Option Bool} {n:Nat} (heq:∀ t x y b u v,eq t x y=some b->AVRel I x u->AVRel I y v->(Op.equalIn n t u v).run P w=.ok b w)
  (hu:∀ t x y b,eq t x y=some b->(P.underlying t).isSome=true):∀ {fs:List Field} {xs ys:List Sc} {us vs:Array Value} {b:Bool},To P eq fs xs ys=some b->ScRels I xs us.toList->ScRels I ys vs.toList->
  (Op.eqFields n us vs fs).run P w=.ok b w
 | [],xs,ys,us,vs,b,h,_,_=>by simp [To] at h;subst h;simp [Op.eqFields]
 | f::fs,xs,ys,us,vs,b,h,hx,hy=>by
  simp only [To] at h
  rcases cond_some.1 h with ⟨hn,h⟩ | ⟨hn,h⟩
  ·have hn : f.name = "_" := by simpa using hn
   simp only [Op.eqFields,hn,ne_eq,not_true_eq_false,if_false]
   exact VS heq hu h hx hy
  ·have hn : f.name ≠ "_" := by simpa using hn
   simp only [andO,Option.bind_eq_some_iff] at h
   obtain ⟨p,hp,q,hq,c,hc,d,hd,h⟩:=h
   obtain ⟨p',hp1,hp2⟩:=ZV (w:=w) (hu _ _ _ _ hc) hx hp
   obtain ⟨q',hq1,hq2⟩:=ZV (w:=w) (hu _ _ _ _ hc) hy hq
   have hr:=VS heq hu hd hx hy
   cases h
   simp only [Op.eqFields,hn,ne_eq,not_false_eq_true,if_true,Sem.run_bind,hp1,hq1,heq _ _ _ _ _ _ hc hp2 hq2,Result.andThen_ok]
   cases c
   ·simp
   ·simpa using hr
theorem eqV_under {d:Nat} {t:TypeId} {x y:AV} {b:Bool} (h:eqV P d t x y=some b):(P.underlying t).isSome=true:=by
 cases d with
 | zero=>simp [eqV] at h
 | succ d=>
  cases hu:P.underlying t with
  | none=>simp [eqV,hu] at h
  | some u=>rfl
theorem Vn:∀ (d m:Nat) (t:TypeId) (x y:AV) (b:Bool) (u v:Value),eqV P d t x y=some b->AVRel I x u->AVRel I y v->(Op.equalIn (d+m) t u v).run P w=.ok b w
 | 0,_,_,_,_,_,_,_,h,_,_=>by simp [eqV] at h
 | d+1,m,t,x,y,b,u,v,h,hx,hy=>by
  have e:d+1+m=(d+m)+1:=by omega
  rw [e]
  unfold eqV at h
  split at h
  ·rename_i p q hu
   cases h
   have e1:u=.bool p:=hx
   have e2:v=.bool q:=hy
   rw [e1,e2]
   exact run_equalIn_bool w _ t p q hu
  ·rename_i k0 k p k' q hu
   obtain ⟨hk,h⟩:=gB.1 h
   cases h
   have hk:=of_decide_eq_true hk
   subst hk
   have e1:u=.int k p:=hx
   have e2:v=.int k q:=hy
   rw [e1,e2]
   exact run_equalIn_int w _ t k k0 p q hu
  ·rename_i p q hu
   cases h
   have e1:u=.string p:=hx
   have e2:v=.string q:=hy
   rw [e1,e2,run_equalIn_string w _ t p q hu,beq_toListBytes]
  ·rename_i fs xs ys hu
   obtain ⟨hs,h⟩:=gB.1 h
   obtain ⟨us,rfl,hx⟩:=hx
   obtain ⟨vs,rfl,hy⟩:=hy
   have hf:P.fieldsOf t=fs:=by simp [Program.fieldsOf,hu]
   rw [run_equalIn_struct w (d+m) t us vs (by rw [hf];exact hu) (by simpa using hs),hf]
   exact VS (fun t x y b u v h1 h2 h3=>Vn d m t x y b u v h1 h2 h3) (fun t x y b h1=>eqV_under h1) h hx hy
  ·rename_i n el xs ys hu
   replace h:=gB.1 h
   obtain ⟨hel,h⟩:=h
   obtain ⟨us,rfl,hx⟩:=hx
   obtain ⟨vs,rfl,hy⟩:=hy
   obtain ⟨_,hd⟩:=Option.isSome_iff_exists.1 hel
   obtain ⟨ti,hi⟩:=yU hd
   rw [Op.equalIn]
   simp only [Sem.run_bind,run_underlying hu,Result.andThen_ok,run_sizeOf w hi]
   simp only [Std.Legacy.Range.forIn_eq_forIn_range',Std.Legacy.Range.size,Nat.sub_zero,Nat.add_one_sub_one,Nat.div_one]
   rw [<- List.range_eq_range']
   generalize List.range n=is at h
   induction is generalizing b with
   | nil=>simp only [eqIs] at h;cases h;simp
   | cons j is ih=>
    simp only [eqIs,andO,Option.bind_eq_some_iff] at h
    obtain ⟨p,hp,q,hq,c,hc,d',hd',h⟩:=h
    obtain ⟨p',hp1,hp2⟩:=ZV (w:=w) hel hx hp
    obtain ⟨q',hq1,hq2⟩:=ZV (w:=w) hel hy hq
    have hr:=Vn d m el p q c p' q' hc hp2 hq2
    have ih:=ih _ hd'
    cases h
    simp only [List.forIn_cons,Sem.run_bind,hp1,hq1,hr,Result.andThen_ok]
    cases c
    ·simp
    ·simpa using ih
  ·cases h
theorem ZY {w:World} {t e:TypeId} (h:P.underlying t=some (.slice e)) (x:Option Addr) (l c:Nat):(Op.equal t (.slice x l c) (.slice none 0 0)).run P w=.ok x.isNone w:=by
 unfold Op.equal
 rw [show Op.maxDepth=9999+1 from rfl,Op.equalIn]
 simp only [Sem.run_bind,run_underlying h,Result.andThen_ok]
 cases x<;>rfl
theorem QU {w:World} {t e:TypeId} (h:P.underlying t=some (.slice e)) (x:Option Addr) (l c:Nat):(Go.binOp .eql t (.slice x l c) (.slice none 0 0)).run P w=.ok (.bool x.isNone) w:=by
 simp only [Go.binOp]
 simp [ZY h]
theorem QV {w:World} {t e:TypeId} (h:P.underlying t=some (.slice e)) (x:Option Addr) (l c:Nat):(Go.binOp .neq t (.slice x l c) (.slice none 0 0)).run P w=.ok (.bool (!x.isNone)) w:=by
 simp only [Go.binOp]
 simp [ZY h]
theorem sim_binOp (r:Rel P B Ie he we I lam s a w) {o:Oper} {op:BinOp} {t t':TypeId} {x y:Operand} (ho:o.op=.binOp op t x y t') {s':St}
  (h:((evV s x).bind fun x=>(evV s y).bind fun y=>guardB (opOk op y)<|(binop P op t x y).bind fun v=>some (setSl s o.dst (.v (.sc v))))=some s'):zH P B Ie he we o a w s':=by
 simp only [Option.bind_eq_some_iff] at h
 obtain ⟨p,hp,q,hq,h⟩:=h
 replace h:=gB.1 h
 obtain ⟨hok,h⟩:=h
 simp only [Option.bind_eq_some_iff] at h
 obtain ⟨v,hv,h⟩:=h
 cases h
 have r1:=zm r hp
 have r2:=zm r hq
 suffices hh:∃ u,(do eqGuard op t x y (a.eval x) (a.eval y);Go.binOp op t (a.eval x) (a.eval y):Sem Value).run P w=.ok u w/\ScRel I v u by
  obtain ⟨u,h1,h2⟩:=hh
  refine zl r (v:=u) ?_ h2
  simp only [execOp,ho,Sem.run_bind] at h1 ⊢
  rw [h1];rfl
 unfold binop at hv
 split at hv
 ·rename_i xs
  obtain ⟨ya,e2,ha⟩:=r2
  have e0:ya=none:=by cases ya<;>simp at ha ⊢
  subst e0
  have hx:∀ b,nilOf xs=some b->∃ xa l c,a.eval x=.slice xa l c/\xa.isNone=b:=by
   intro b hb
   unfold nilOf at hb
   split at hb
   ·cases hb
    obtain ⟨xa,e1,he⟩:=r1
    exact ⟨xa,0,0,e1,by rw [<- he];cases xa<;>rfl⟩
   ·cases hb
    obtain ⟨L,cap,ad,_,e1,_⟩:=r1
    exact ⟨some ad,_,cap,e1,rfl⟩
   ·cases hb
  split at hv
  ·rename_i ho he hu
   obtain ⟨b,hb,hv⟩:=oB hv
   cases hv
   obtain ⟨xa,l,c,e1,hn⟩:=hx b hb
   rw [e1,e2,eqGuard_at_slice]
   exact ⟨_,by simp [QU hu,hn],rfl⟩
  ·rename_i ho he hu
   obtain ⟨b,hb,hv⟩:=oB hv
   cases hv
   obtain ⟨xa,l,c,e1,hn⟩:=hx b hb
   rw [e1,e2,eqGuard_at_slice]
   exact ⟨_,by simp [QV hu,hn],rfl⟩
  ·cases hv
 ·rename_i k m k' n
  obtain ⟨hk,hv⟩:=gB.1 hv
  have e1:a.eval x=.int k m:=r1
  have e2:a.eval y=.int k' n:=r2
  rw [e1,e2,eqGuard_at_int]
  obtain ⟨u,h1,h2⟩:=arith_run (P:=P) (w:=w) (I:=I) (t:=t) hv (by simpa using hk) hok
  exact ⟨u,by simp [h1],h2⟩
 ·rename_i m n
  have e1:a.eval x=.bool m:=r1
  have e2:a.eval y=.bool n:=r2
  rw [e1,e2,eqGuard_at_bool]
  split at hv
  ·rename_i hu
   cases hv
   exact ⟨_,by simp [run_eql_bool w t m n hu],rfl⟩
  ·rename_i hu
   cases hv
   refine ⟨_,?_,rfl⟩
   simp [binOp,run_equal_bool w t m n hu]
  ·cases hv
 ·rename_i xs ys
  obtain ⟨hg,hv⟩:=gB.1 hv
  have hg:P.eqGuardType P.depth t=false:=by simpa using hg
  obtain ⟨us,e1,h1⟩:=r1
  obtain ⟨vs,e2,h2⟩:=r2
  rw [e1,e2]
  have hgd:=run_eqGuard_agg (P:=P) w op t x y us vs hg
  split at hv
  ·simp only [Option.bind_eq_some_iff] at hv
   obtain ⟨b,hb,hv⟩:=hv
   cases hv
   have:=Vn (P:=P) (w:=w) (I:=I) 9 9991 t _ _ b (.agg us) (.agg vs) hb ⟨us,rfl,h1⟩ ⟨vs,rfl,h2⟩
   refine ⟨_,?_,rfl⟩
   simp only [Sem.run_bind,hgd,Result.andThen_ok,run_eql_struct]
   rw [show (10000:Nat)=9+9991 from rfl,this];rfl
  ·simp only [Option.bind_eq_some_iff] at hv
   obtain ⟨b,hb,hv⟩:=hv
   cases hv
   have:=Vn (P:=P) (w:=w) (I:=I) 9 9991 t _ _ b (.agg us) (.agg vs) hb ⟨us,rfl,h1⟩ ⟨vs,rfl,h2⟩
   refine ⟨_,?_,rfl⟩
   simp only [Sem.run_bind,hgd,Result.andThen_ok,binOp,Op.equal,Op.maxDepth]
   rw [show (10000:Nat)=9+9991 from rfl,this];rfl
  ·cases hv
 ·cases hv
theorem sim_convert (r:Rel P B Ie he we I lam s a w) {o:Oper} {src dst:TypeId} {x:Operand} (ho:o.op=.convert src dst x) {s':St}
  (h:((evV s x).bind fun x=>match P.underlying src,P.underlying dst,x with
   | some (.int _),some (.int k),.sc (.int _ n)=>some (setSl s o.dst (.v (.sc (.int k (k.wrap n)))))
   | _,_,_=>none)=some s'):zH P B Ie he we o a w s':=by
 simp only [Option.bind_eq_some_iff] at h
 obtain ⟨p,hp,h⟩:=h
 have r1:=zm r hp
 split at h
 ·rename_i k0 k k1 n hs hd
  cases h
  have e1:a.eval x=.int k1 n:=r1
  refine zl r (v:=.int k (k.wrap n)) ?_ rfl
  simp [execOp,ho,e1,convert,run_underlying hs,run_underlying hd,Conv.intToInt]
 ·cases h
theorem sim_index (r:Rel P B Ie he we I lam s a w) {o:Oper} {t:TypeId} {x y:Operand} (ho:o.op=.index t x y) {s':St}
  (h:((evV s x).bind fun x=>(evV s y).bind fun i=>match P.underlying t,x,i with
   | some .string,.sc (.str b),.sc (.int _ n)=>guardB (decide (0<=n)) ((b[n.toNat]?).bind fun u=>some (setSl s o.dst (.v (.sc (.int .u8 (u.toNat:Int))))))
   | _,_,_=>none)=some s'):zH P B Ie he we o a w s':=by
 simp only [Option.bind_eq_some_iff] at h
 obtain ⟨p,hp,i,hi,h⟩:=h
 have r1:=zm r hp
 have r2:=zm r hi
 split at h
 ·rename_i b k n hu
  obtain ⟨hn,h⟩:=gB.1 h
  obtain ⟨u,hub,h⟩:=oB h
  cases h
  have e1:a.eval x=.string b:=r1
  have e2:a.eval y=.int k n:=r2
  have hn:0<=n:=by simpa using hn
  refine zl r (v:=.int .u8 (u.toNat:Int)) ?_ rfl
  simp [execOp,ho,e1,e2,Instr.index,asIntOf,run_underlying hu,hn,hub]
 ·cases h
theorem sim_extract (r:Rel P B Ie he we I lam s a w) {o:Oper} {x:Operand} {i:Nat} (ho:o.op=.extract x i) {s':St}
  (h:((evA s x).bind fun v=>match v with
   | .t vs=>(vs[i]?).bind fun v=>some (setSl s o.dst (.v v))
   | _=>none)=some s'):zH P B Ie he we o a w s':=by
 simp only [Option.bind_eq_some_iff] at h
 obtain ⟨p,hp,h⟩:=h
 have r1:=zn r hp
 split at h
 ·rename_i vs
  simp only [Option.bind_eq_some_iff] at h
  obtain ⟨v,hv,h⟩:=h
  cases h
  obtain ⟨arr,e1,h1⟩:=r1
  have:∀ {vs:List AV} {us:List Value},AVRels I vs us->∀ {i:Nat} {v:AV},vs[i]?=some v->∃ u,us[i]?=some u/\AVRel I v u:=by
   intro vs
   induction vs with
   | nil=>intro us _ i v h;simp at h
   | cons x xs ih=>
    intro us hr i v h
    cases us with
    | nil=>exact hr.elim
    | cons y ys=>
     cases i with
     | zero=>simp at h;subst h;exact ⟨y,rfl,hr.1⟩
     | succ i=>simpa using ih hr.2 (by simpa using h)
  obtain ⟨u,hu,hr⟩:=this h1 hv
  have hu:arr[i]?=some u:=by simpa using hu
  exact zl r (v:=u) (by simp [execOp,ho,e1,Instr.extract,hu]) hr
 ·cases h
theorem QW (r:Rel P B Ie he we I lam s a w) {o:Oper} {t:TypeId} {x:Operand} {i:Nat} (ho:o.op=.fieldAddr t x i) {s':St}
  (h:(match P.underlying t with
  | some (.struct fs)=>(fs.toList[i]?).bind fun f=>guardB (!(Nat.beq (P.cellsOf f.type) 0))<|(evA s x).bind fun a=>addAt a f.offset fun v=>some (setSl s o.dst v)
  | _=>none)=some s'):zH P B Ie he we o a w s':=by
 split at h
 ·rename_i fs hu
  simp only [Option.bind_eq_some_iff] at h
  obtain ⟨f,hf,h⟩:=h
  obtain ⟨hz,h⟩:=gB.1 h
  simp only [Option.bind_eq_some_iff] at h
  obtain ⟨p,hp,h⟩:=h
  have r1:=zn r hp
  have hz:P.cellsOf f.type≠0:=by
   intro e;rw [e] at hz;simp at hz
  have hi:∃ it,P.info? f.type=some it:=by
   cases hi:P.info? f.type with
   | none=>simp [Program.cellsOf,hi] at hz
   | some it=>exact ⟨it,rfl⟩
  obtain ⟨it,hi⟩:=hi
  rw [zp hi] at hz
  have hf':fs[i]?=some f:=by simpa using hf
  have key:∀ b off,a.eval x=.pointer (some ⟨b,off,none⟩)->(execOp a.eval o).run P w=.ok (.value (.pointer (some ⟨b,off+f.offset,none⟩))) w:=by
   intro b off e
   simp [execOp,ho,e,Instr.fieldAt,run_underlying hu,hf',Instr.sureAddr,fieldPlace,zQ hi,hz,Addr.add_lit]
  unfold addAt at h
  split at h
  ·rename_i k off
   cases h
   exact zl r (key _ _ r1) rfl
  ·replace h:=asP_some.1 h
   obtain ⟨id,off,rfl,h⟩:=h
   cases h
   obtain ⟨L,hL,e⟩:=r1
   exact zl r (key _ _ e) ⟨L,hL,by rw [Nat.add_assoc]⟩
  ·cases h
 ·cases h
theorem ZT {R:Type} {i:AV} {n:Nat} {c:Nat->Option R} {r:R} (h:idxI i n c=some r):∃ (k:IntKind) (j:Nat),i=.sc (.int k j)/\j < n/\c j=some r:=by
 unfold idxI at h
 split at h
 ·rename_i k z
  obtain ⟨hg,h⟩:=gB.1 h
  simp at hg
  refine ⟨k,z.toNat,?_,by omega,h⟩
  rw [Int.toNat_of_nonneg hg.1]
 ·cases h
theorem QX (r:Rel P B Ie he we I lam s a w) {o:Oper} {t:TypeId} {x y:Operand} (ho:o.op=.indexAddr t x y) {s':St}
  (h:(match P.underlying t with
  | some (.slice e)=>guardB (P.info? e).isSome<|(evV s x).bind fun x=>asSc x fun x=>asS x fun id off len=>(evV s y).bind fun i=>idxI i len fun i=>some (setSl s o.dst (.v (.sc (.ptr id (off+i*P.cellsOf e)))))
  | some (.array n e)=>guardB (P.info? e).isSome<|(evA s x).bind fun a=>(evV s y).bind fun i=>idxI i n fun i=>addAt a (i*P.cellsOf e) fun v=>some (setSl s o.dst v)
  | _=>none)=some s'):zH P B Ie he we o a w s':=by
 split at h
 ·rename_i e hu
  obtain ⟨hie,h⟩:=gB.1 h
  obtain ⟨ie,hie⟩:=Option.isSome_iff_exists.1 hie
  simp only [Option.bind_eq_some_iff] at h
  obtain ⟨p,hp,h⟩:=h
  replace h:=asSc_some.1 h
  obtain ⟨q,rfl,h⟩:=h
  replace h:=asS_some.1 h
  obtain ⟨id,off,len,rfl,h⟩:=h
  simp only [Option.bind_eq_some_iff] at h
  obtain ⟨i,hi,h⟩:=h
  replace h:=ZT h
  obtain ⟨k,j,rfl,hj,h⟩:=h
  cases h
  obtain ⟨L,cap,ad,hL,e1,hc1,hc2,hc3⟩:=yC r hp
  have e2:a.eval y=.int k j:=yC r hi
  have had:=hc2 (by omega)
  subst had
  refine zl r (v:=.pointer (some ⟨L.b,L.o+(off+j*P.cellsOf e),none⟩)) ?_ ⟨L,hL,rfl⟩
  have:(0:Int)<=j/\(j:Int) < len:=⟨by omega,by omega⟩
  simp [execOp,ho,e1,e2,Instr.indexAt,asIntOf,run_underlying hu,hj,zQ hie,Addr.add_lit,zp hie,Nat.add_assoc]
 ·rename_i n e hu
  obtain ⟨hie,h⟩:=gB.1 h
  obtain ⟨ie,hie⟩:=Option.isSome_iff_exists.1 hie
  simp only [Option.bind_eq_some_iff] at h
  obtain ⟨p,hp,i,hi,h⟩:=h
  replace h:=ZT h
  obtain ⟨k,j,rfl,hj,h⟩:=h
  have e2:a.eval y=.int k j:=yC r hi
  have r1:=zn r hp
  have key:∀ b off,a.eval x=.pointer (some ⟨b,off,none⟩)->(execOp a.eval o).run P w=.ok (.value (.pointer (some ⟨b,off+j*P.cellsOf e,none⟩))) w:=by
   intro b off e1
   simp [execOp,ho,e1,e2,Instr.indexAt,asIntOf,run_underlying hu,hj,zQ hie,Addr.add_lit,zp hie,Instr.sureAddr]
  unfold addAt at h
  split at h
  ·cases h
   exact zl r (key _ _ r1) rfl
  ·replace h:=asP_some.1 h
   obtain ⟨id,off,rfl,h⟩:=h
   cases h
   obtain ⟨L,hL,e1⟩:=r1
   exact zl r (key _ _ e1) ⟨L,hL,by rw [Nat.add_assoc]⟩
  ·cases h
 ·cases h
variable {P : Program} {B : Nat} {Ie : List Loc} {he : AH} {we : World} {I : List Loc} {lam : Nat -> Nat} {s : St} {a : Act} {w : World}
theorem AVRels.append:∀ {x y:List AV} {u v:List Value},AVRels I x u->AVRels I y v->AVRels I (x++y) (u++v)
 | [],_,[],_,_,h=>h
 | _::_,_,_::_,_,h,k=>⟨h.1,AVRels.append h.2 k⟩
 | [],_,_::_,_,h,_=>h.elim
 | _::_,_,[],_,h,_=>h.elim
theorem AVRels.shapes:∀ {x:List AV} {u:List Value},AVRels I x u->x.map shapeOf=u.map Zl
 | [],[],_=>rfl
 | _::_,_::_,h=>by simp only [List.map_cons,h.1.shape,AVRels.shapes h.2]
 | [],_::_,h=>h.elim
 | _::_,[],h=>h.elim
theorem AVRels.flat:∀ {x:List AV} {u:List Value},AVRels I x u->ScRels I (x.flatMap AV.cells) (u.flatMap fun v=>v.cells.toList)
 | [],[],_=>by simp [ScRels]
 | _::_,_::_,h=>by simp only [List.flatMap_cons];exact h.1.cells.append (AVRels.flat h.2)
 | [],_::_,h=>h.elim
 | _::_,[],h=>h.elim
theorem yL:∀ {sh:List (Option Nat)} {cs:List Sc} {us:List Value} {vs:List AV},spread sh cs=some vs->us.map Zl=sh->ScRels I cs (us.flatMap fun v=>v.cells.toList)->AVRels I vs us
 | [],[],[],vs,h,_,_=>by simp [spread] at h;subst h;trivial
 | [],_::_,_,_,h,_,_=>by simp [spread] at h
 | [],[],_::_,_,_,h,_=>by simp at h
 | _::_,_,[],_,_,h,_=>by simp at h
 | none::r,cs,u::us,vs,h,hs,hc=>by
  simp only [spread] at h
  replace h:=asC_some.1 h
  obtain ⟨x,xs,rfl,h⟩:=h
  simp only [Option.bind_eq_some_iff] at h
  obtain ⟨ws,hws,h⟩:=h
  cases h
  simp only [List.map_cons,List.cons.injEq] at hs
  have hu:u.cells=#[u]:=by
   have:=hs.1
   cases u<;>first | rfl | simp [Zl] at this
  rw [List.flatMap_cons,hu] at hc
  simp only [List.singleton_append,ScRels] at hc
  exact ⟨hc.1,yL hws hs.2 hc.2⟩
 | some n::r,cs,u::us,vs,h,hs,hc=>by
  simp only [spread] at h
  replace h:=gB.1 h
  obtain ⟨hn,h⟩:=h
  simp only [Option.bind_eq_some_iff] at h
  obtain ⟨ws,hws,h⟩:=h
  cases h
  simp only [List.map_cons,List.cons.injEq] at hs
  obtain ⟨c,rfl,hcn⟩:∃ c:Array Value,u=.agg c/\c.size=n:=by
   have:=hs.1
   cases u<;>simp [Zl] at this
   exact ⟨_,rfl,this⟩
  rw [List.flatMap_cons] at hc
  have hcl:(Value.agg c).cells=c:=rfl
  rw [hcl] at hc
  have h1:=hc.take n
  have h2:=hc.drop n
  have hlen:c.toList.length=n:=by simpa using hcn
  rw [List.take_append_of_le_length (l₁:=c.toList) (by omega),List.take_of_length_le (l:=c.toList) (by omega)] at h1
  rw [List.drop_append_of_le_length (l₁:=c.toList) (by omega),List.drop_of_length_le (l:=c.toList) (by omega),List.nil_append] at h2
  exact ⟨⟨c,rfl,h1⟩,yL hws hs.2 h2⟩
theorem sim_makeFunc (r:Rel P B Ie he we I lam s a w) {o:Oper} {f:FuncId} {first captured:Array Operand} (ho:o.op=.makeFunc (.func f) first captured) {s':St}
  (h:((evVs s first.toList).bind fun p=>(evVs s captured.toList).bind fun q=>
   some (setSl s o.dst (.v (.sc (.fn (.func f) p.length ((p++q).map shapeOf) ((p++q).flatMap AV.cells))))))=some s'):zH P B Ie he we o a w s':=by
 simp only [Option.bind_eq_some_iff] at h
 obtain ⟨p,hp,q,hq,h⟩:=h
 cases h
 have r1:=yn r hp
 have r2:=yn r hq
 have r3:=r1.append r2
 refine zl r (v:=.func (.func f) (first.map a.eval) (captured.map a.eval)) (by simp [execOp,ho,Instr.makeFunc]) ?_
 simp only [SVRel,AVRel,ScRel]
 refine ⟨_,_,rfl,?_,?_,trivial,?_⟩
 ·have:=r1.length;simp at this;simp [this]
 ·rw [r3.shapes];simp
 ·have:=r3.flat;simpa using this
theorem Ya {R:Type} (r:Rel P B Ie he we I lam s a w) {x:Option Operand} {d:Nat} {c:Nat->Option R} {q:R} (h:boundI s x d c=some q) :
  ∃ j:Nat,c j=some q/\((x=none/\j=d)\/∃ y k,x=some y/\a.eval y=.int k (j:Int)):=by
 unfold boundI at h
 split at h
 ·exact ⟨d,h,.inl ⟨rfl,rfl⟩⟩
 ·rename_i y
  simp only [Option.bind_eq_some_iff] at h
  obtain ⟨v,hv,h⟩:=h
  split at h
  ·rename_i k i
   replace h:=gB.1 h
   obtain ⟨hg,h⟩:=h
   have hg:=of_decide_eq_true hg
   have e:a.eval y=.int k i:=yC r hv
   exact ⟨i.toNat,h,.inr ⟨y,k,rfl,by rw [e,Int.toNat_of_nonneg hg]⟩⟩
  ·cases h
theorem wk {v:Value} {k:IntKind} {j y:Nat} (hv:v=.int k (j:Int)) (h:j<=y) (code:BoundsCode):(Instr.sliceBound v y code).run P w=.ok j w:=by
 subst hv
 simp [Instr.sliceBound,asIntOf,h]
theorem YA {b:Bool} {len cap l h m:Nat} {lo hi mx:Option Operand} (hl:(lo=none/\l=0)\/∃ y k,lo=some y/\a.eval y=.int k (l:Int)) (hh:(hi=none/\h=len)\/∃ y k,hi=some y/\a.eval y=.int k (h:Int))
  (hm:(mx=none/\m=h)\/∃ y k,mx=some y/\a.eval y=.int k (m:Int)) (h1:l<=h) (h2:h<=m) (h3:m<=len) (h4:len<=cap) (h5:mx.isNone=true\/hi.isSome=true) :
  ∃ m':Nat,m<=m'/\m'<=cap/\(mx.isSome=true->m'=m)/\(Instr.sliceBounds b len cap (lo.map a.eval) (hi.map a.eval) (mx.map a.eval)).run P w=.ok (l,h,m') w:=by
 rcases hm with ⟨rfl,rfl⟩ | ⟨ym,km,rfl,em⟩
 ·refine ⟨cap,by omega,Nat.le_refl _,fun h=>(by cases h),?_⟩
  rcases hh with ⟨rfl,rfl⟩ | ⟨yh,kh,rfl,eh⟩
  ·rcases hl with ⟨rfl,rfl⟩ | ⟨yl,kl,rfl,el⟩
   ·simp [Instr.sliceBounds]
   ·have:=wk (P:=P) (w:=w) el h1 .sliceB
    simp [Instr.sliceBounds,this]
  ·have b1:=fun code=>wk (P:=P) (w:=w) (y:=cap) eh (by omega) code
   rcases hl with ⟨rfl,rfl⟩ | ⟨yl,kl,rfl,el⟩
   ·cases b<;>simp [Instr.sliceBounds,b1]
   ·have:=wk (P:=P) (w:=w) el h1 .sliceB
    cases b<;>simp [Instr.sliceBounds,b1,this]
 ·refine ⟨m,Nat.le_refl _,by omega,fun _=>rfl,?_⟩
  have b0:=fun code=>wk (P:=P) (w:=w) (y:=cap) em (by omega) code
  rcases hh with ⟨rfl,rfl⟩ | ⟨yh,kh,rfl,eh⟩
  ·simp at h5
  ·have b1:=fun code=>wk (P:=P) (w:=w) (y:=m) eh (by omega) code
   rcases hl with ⟨rfl,rfl⟩ | ⟨yl,kl,rfl,el⟩
   ·cases b<;>simp [Instr.sliceBounds,b0,b1]
   ·have:=wk (P:=P) (w:=w) el h1 .slice3C
    cases b<;>simp [Instr.sliceBounds,b0,b1,this]
theorem VH {R:Type} {e:TypeId} {z:Nat} {x:Sc} {lo hi mx:Option Operand} {c:Sc->Option R} {q:R} (r:Rel P B Ie he we I lam s a w) (h:sliceS s e z x lo hi mx c=some q) :
  ∃ l g m:Nat,((lo=none/\l=0)\/∃ y k,lo=some y/\a.eval y=.int k (l:Int))/\((hi=none/\g=slLen x)\/∃ y k,hi=some y/\a.eval y=.int k (g:Int))/\
   ((mx=none/\m=g)\/∃ y k,mx=some y/\a.eval y=.int k (m:Int))/\l<=g/\g<=m/\m<=slLen x/\(mx.isNone=true\/hi.isSome=true)/\rowOk s.h e x=true/\
   (mx0 mx=true->m=0)/\c (cond (mx0 mx) (emptied x) (subS x l g z))=some q:=by
 unfold sliceS at h
 obtain ⟨l,h,hl⟩:=Ya r h
 obtain ⟨hh,h,hhh⟩:=Ya r h
 obtain ⟨m,h,hm⟩:=Ya r h
 replace h:=gB.1 h
 obtain ⟨hg,h⟩:=h
 simp only [Bool.and_eq_true,decide_eq_true_eq,Bool.or_eq_true] at hg
 refine ⟨l,hh,m,hl,hhh,hm,hg.1.1.1.2,hg.1.1.2,hg.1.2,hg.2,hg.1.1.1.1,fun h0=>?_,h⟩
 unfold mx0 at h0
 split at h0
 ·rename_i k n
  rcases hm with ⟨hm,_⟩ | ⟨y,k',hm,he⟩
  ·cases hm
  ·cases hm
   simp only [Act.eval] at he
   cases he
   simpa using Nat.eq_of_beq_eq_true h0
 ·cases h0
theorem part_loc (r:Rel P B Ie he we I lam s a w) {e:TypeId} {id off len cap l m h:Nat} {L:Loc} {ad:Addr} (hL:I[id]?=some L) (hrow:rowOk s.h e (.sl id off len)=true)
  (hc1:cap≠0->ad=⟨L.b,L.o+off,none⟩) (hc2:L.z≠0->off+cap*L.z<=L.tot) (h1:l<=h) (h2:h<=m) (h3:m<=cap) :
  ScRel I (.sl id (off+l*P.cellsOf e) (h - l)) (.slice (some (if m=l then ad else ad.add (l*P.cellsOf e))) (h - l) (m - l)):=by
 refine ⟨L,m - l,_,hL,rfl,by omega,fun hne=>?_,fun hz=>?_⟩
 ·rw [if_neg (by omega),hc1 (by omega),Addr.add_lit,Nat.add_assoc]
 ·have hze:L.z=P.cellsOf e:=by
   have hlt:id < s.h.length:=by rw [<- r.hp.len];exact (List.getElem?_eq_some_iff.1 hL).1
   have ho:=List.getElem?_eq_getElem hlt
   have hob:=r.hp.obj id _ L ho hL
   simp only [rowOk,ho] at hrow
   split at hrow
   ·rename_i _ e' _ he'
    have he':=Option.some.inj he'
    rw [he'] at hob
    have:=zj hrow
    subst this
    exact hob.2.1
   ·rename_i _ e' _ he'
    have he':=Option.some.inj he'
    rw [he'] at hob
    exact absurd hob.1 hz
   ·rename_i e' _ he'
    have he':=Option.some.inj he'
    rw [he'] at hob
    exact absurd hob.2.1 hz
   ·cases hrow
  have:=hc2 hz
  rw [<- hze,Nat.add_assoc,<- Nat.add_mul]
  refine Nat.le_trans (Nat.add_le_add_left (Nat.mul_le_mul_right _ ?_) _) this
  omega
theorem sim_slice (r:Rel P B Ie he we I lam s a w) {o:Oper} {t:TypeId} {x:Operand} {lo hi mx:Option Operand} (ho:o.op=.slice t x lo hi mx) {s':St}
  (h:(match P.underlying t with
  | some (.slice e)=>guardB (P.info? e).isSome<|(evV s x).bind fun x=>asSc x fun x=>sliceS s e (P.cellsOf e) x lo hi mx fun v=>some (setSl s o.dst (.v (.sc v)))
  | some (.array n e)=>guardB (P.info? e).isSome<|(evV s x).bind fun x=>asSc x fun x=>asP x fun id off=>guardB (boxOk s.h id)<|sliceS s e (P.cellsOf e) (.sl id off n) lo hi mx fun v=>some (setSl s o.dst (.v (.sc v)))
  | _=>none)=some s'):zH P B Ie he we o a w s':=by
 split at h
 ·rename_i e hu
  replace h:=gB.1 h
  obtain ⟨hie,h⟩:=h
  obtain ⟨ie,hie⟩:=Option.isSome_iff_exists.1 hie
  simp only [Option.bind_eq_some_iff] at h
  obtain ⟨p,hp,h⟩:=h
  replace h:=asSc_some.1 h
  obtain ⟨q,rfl,h⟩:=h
  have rq:=yC r hp
  obtain ⟨l,hh,m,hl,hhh,hm,h1,h2,h3,h5,hrow,hm0,h⟩:=VH r h
  cases h
  cases q<;>(try (simp [rowOk] at hrow;done))
  ·rename_i id off len
   obtain ⟨L,cap,ad,hL,e1,hc0,hc1,hc2⟩:=rq
   obtain ⟨m',hm1,hm2,hme,hrun⟩:=YA (P:=P) (w:=w) (b:=true) (len:=len) (cap:=cap) hl hhh hm h1 h2 h3 hc0 h5
   have hpart:=part_loc r hL hrow hc1 hc2 h1 (Nat.le_trans h2 hm1) hm2
   refine zl r (v:=.slice (some (if m'=l then ad else ad.add (l*P.cellsOf e))) (hh - l) (m' - l)) ?_ (by
    cases hz:mx0 mx with
    | false=>exact hpart
    | true=>
     have e0:=hm0 hz
     have hs:mx.isSome=true:=by cases mx<;>simp [mx0] at hz ⊢
     have e5:=hme hs
     obtain rfl:l=0:=by omega
     obtain rfl:hh=0:=by omega
     obtain rfl:m'=0:=by omega
     exact ⟨_,rfl,rfl⟩)
   have hopt:(if m'=l then some ad else (some ad).map (·.add (l*ie.size)))=some (if m'=l then ad else ad.add (l*P.cellsOf e)):=by
    rw [zp hie];split<;>rfl
   simp only [execOp,ho,e1,Instr.sliceAt,Sem.run_bind,run_underlying hu,Result.andThen_ok,Instr.slice,hrun,zQ hie,Sem.run_pure,hopt]
  ·obtain ⟨na,e1,hna⟩:=rq
   simp only [slLen] at h3 hhh
   obtain rfl:l=0:=by omega
   obtain rfl:hh=0:=by omega
   obtain rfl:m=0:=by omega
   obtain ⟨m',hm1,hm2,hme,hrun⟩:=YA (P:=P) (w:=w) (b:=true) (len:=0) (cap:=0) hl hhh hm h1 h2 h3 (Nat.le_refl 0) h5
   obtain rfl:m'=0:=by omega
   refine zl r (v:=.slice na 0 0) ?_ (by cases mx0 mx<;>exact ⟨na,rfl,hna⟩)
   simp only [execOp,ho,e1,Instr.sliceAt,Sem.run_bind,run_underlying hu,Result.andThen_ok,Instr.slice,hrun,zQ hie,Sem.run_pure,if_true]
 ·rename_i n e hu
  replace h:=gB.1 h
  obtain ⟨hie,h⟩:=h
  obtain ⟨ie,hie⟩:=Option.isSome_iff_exists.1 hie
  simp only [Option.bind_eq_some_iff] at h
  obtain ⟨p,hp,h⟩:=h
  replace h:=asSc_some.1 h
  obtain ⟨q,rfl,h⟩:=h
  replace h:=asP_some.1 h
  obtain ⟨id,off,rfl,h⟩:=h
  obtain ⟨L,hL,e1⟩:=yC r hp
  replace h:=gB.1 h
  obtain ⟨hbox,h⟩:=h
  obtain ⟨l,hh,m,hl,hhh,hm,h1,h2,h3,h5,hrow,hm0,h⟩:=VH r h
  cases h
  simp only [slLen] at h3 hhh
  have hz:L.z=0:=by
   have hlt:id < s.h.length:=by rw [<- r.hp.len];exact (List.getElem?_eq_some_iff.1 hL).1
   have hoo:=List.getElem?_eq_getElem hlt
   have hob:=r.hp.obj id _ L hoo hL
   simp only [boxOk,hoo] at hbox
   split at hbox
   ·rename_i _ e' _ he'
    have he':=Option.some.inj he'
    rw [he'] at hob
    exact hob.1
   ·rename_i e' _ he'
    have he':=Option.some.inj he'
    rw [he'] at hob
    exact hob.2.1
   ·cases hbox
  obtain ⟨m',hm1,hm2,hme,hrun⟩:=YA (P:=P) (w:=w) (b:=false) (len:=n) (cap:=n) hl hhh hm h1 h2 h3 (Nat.le_refl n) h5
  have hpart:=part_loc (len:=n) (cap:=n) (ad:=⟨L.b,L.o+off,none⟩) r hL hrow (fun _=>rfl) (fun hne=>absurd hz hne) h1 (Nat.le_trans h2 hm1) hm2
  refine zl r (v:=.slice (some (if m'=l then (⟨L.b,L.o+off,none⟩:Addr) else (⟨L.b,L.o+off,none⟩:Addr).add (l*P.cellsOf e))) (hh - l) (m' - l)) ?_ (by
   cases hz:mx0 mx with
   | false=>exact hpart
   | true=>
    have e0:=hm0 hz
    have hs:mx.isSome=true:=by cases mx<;>simp [mx0] at hz ⊢
    have e5:=hme hs
    obtain rfl:l=0:=by omega
    obtain rfl:hh=0:=by omega
    obtain rfl:m'=0:=by omega
    exact ⟨_,rfl,rfl⟩)
  simp only [execOp,ho,e1,Instr.sliceAt,Sem.run_bind,run_underlying hu,Result.andThen_ok,Instr.sureAddr,hrun,zQ hie,Sem.run_pure,zp hie]
 ·cases h
variable {P : Program} {B : Nat} {Ie : List Loc} {he : AH} {we : World} {I : List Loc} {lam : Nat -> Nat} {s : St} {a : Act} {w : World}
theorem wH (n:Nat) (z:List Sc):(rep n z).length=n*z.length:=by simp [rep]
theorem rep_get {n:Nat} {z:List Sc} {j:Nat} (h:j < n*z.length):(rep n z)[j]?=z[j % z.length]?:=by
 have hz:0 < z.length:=by
  rcases Nat.eq_zero_or_pos z.length with e | e
  ·rw [e] at h;simp at h
  ·exact e
 induction n generalizing j with
 | zero=>simp at h
 | succ n ih=>
  simp only [rep,List.replicate_succ,List.flatten_cons]
  by_cases hj:j < z.length
  ·rw [List.getElem?_append_left hj,Nat.mod_eq_of_lt hj]
  ·have hj:z.length<=j:=by omega
   rw [List.getElem?_append_right hj]
   have:=ih (j:=j - z.length) (by rw [Nat.succ_mul] at h;omega)
   simp only [rep] at this
   rw [this,Nat.mod_eq_sub_mod hj]
theorem made_rel {z:List Sc} {zs:Array Value} (hz:ScRels I z zs.toList) (n m:Nat) (h:n*z.length<=m):∀ (j:Nat) c,(rep n z)[j]?=some c->∃ v,(madeCells zs m)[0+j]?=some v/\ScRel I c v:=by
 intro j c hj
 have hl:=hz.length
 have hlt:=(List.getElem?_eq_some_iff.1 hj).1
 rw [wH] at hlt
 rw [rep_get hlt] at hj
 obtain ⟨v,hv,hr⟩:=hz.get hj
 refine ⟨v,?_,hr⟩
 have hm:j < m:=by omega
 simp at hl
 have hv':zs[j % zs.size]?=some v:=by rw [<- hl];simpa using hv
 rw [Nat.zero_add,madeCells,Array.getElem?_map,Array.getElem?_range,if_pos hm,Option.map_some]
 congr 1
 rw [getElem!_def,hv']
theorem QY (r:Rel P B Ie he we I lam s a w) {o:Oper} {t:TypeId} {x y:Operand} (ho:o.op=.makeSlice t x y) {s':St}
  (h:((elemOf P t).bind fun e=>(zeroCells P e).bind fun z=>(evV s x).bind fun l=>(evV s y).bind fun m=>match l,m with
  | .sc (.int .i64 l),.sc (.int .i64 m)=>guardB (Nat.beq z.length (P.cellsOf e)&&decide (P.bytesOf e<=8192)&&decide (0<=l)&&decide (l<=m)&&decide (m<=most))<|
    some (setSl { s with h:=s.h++[.row true e (rep l.toNat z)] } o.dst (.v (.sc (.sl s.h.length 0 l.toNat))))
  | _,_=>none)=some s'):zH P B Ie he we o a w s':=by
 simp only [Option.bind_eq_some_iff] at h
 obtain ⟨e,he',z,hz,l,hl,m,hm,h⟩:=h
 split at h
 ·rename_i l m
  replace h:=gB.1 h
  obtain ⟨hg,h⟩:=h
  cases h
  simp only [Bool.and_eq_true,decide_eq_true_eq] at hg
  obtain ⟨⟨⟨⟨g1,g2⟩,g3⟩,g4⟩,g5⟩:=hg
  have g1:=zj g1
  have hu:P.underlying t=some (.slice e):=by
   unfold elemOf at he'
   split at he'
   ·rename_i e' hu;cases he';exact hu
   ·cases he'
  obtain ⟨ie,zv,hie,hzv,hzr⟩:=zK (I:=I) hz
  have e1:a.eval x=.int .i64 l:=yC r hl
  have e2:a.eval y=.int .i64 m:=yC r hm
  rw [Wy hie] at g2
  rw [zp hie] at g1
  simp only [most] at g5
  have hb:(ie.bytes:Int)*m<=281474976710656:=by
   have h1:(ie.bytes:Int)<=8192:=by omega
   have h2:(ie.bytes:Int)*m<=8192*m:=Int.mul_le_mul_of_nonneg_right h1 (by omega)
   omega
  have hrun:=run_make (P:=P) w t e ie zv hu hie hzv .i64 .i64 l m g3 g4 hb (by omega)
  have hnh:=r.newHeap (o:=.row true e (rep l.toNat z)) (O:=.cells (madeCells zv.cells (m.toNat*ie.size)) e) (L:=⟨w.heap.size,0,P.cellsOf e,m.toNat*ie.size⟩) rfl ?_
  ·refine ⟨.slice (some ⟨w.heap.size,0,none⟩) l.toNat m.toNat,_,_,lam,.inl ?_,hnh.put o.dst ?_⟩
   ·simp only [execOp,ho,e1,e2,Sem.run_bind,hrun,Result.andThen_ok,Sem.run_pure]
   ·refine ⟨⟨w.heap.size,0,P.cellsOf e,m.toNat*ie.size⟩,m.toNat,_,by rw [<- r.hp.len,List.getElem?_append_right (Nat.le_refl _)];simp,rfl,by omega,fun _=>rfl,fun _=>?_⟩
    rw [zp hie];simp
  ·refine ⟨r.kp.size_B r.base,rfl,_,heap_alloc_new w _,by simp [size_madeCells],?_,made_rel (hzr.mono (List.prefix_append _ _)) _ _ ?_⟩
   ·rw [wH,g1];exact Nat.mul_le_mul_right _ (by omega)
   ·rw [g1];exact Nat.mul_le_mul_right _ (by omega)
 ·cases h
theorem WI {pl:Nat->Option (Nat×Nat)}:∀ {vs:List (Nat×AV)} {z cs:List Sc},fillA pl z vs=some cs->cs.length=z.length
 | [],z,cs,h=>by simp [fillA] at h;rw [h]
 | (i,v)::vs,z,cs,h=>by
  simp only [fillA,Option.bind_eq_some_iff] at h
  obtain ⟨p,_,h⟩:=h
  replace h:=gB.1 h
  obtain ⟨_,h⟩:=h
  obtain ⟨c,hc,h⟩:=oB h
  obtain ⟨hle,rfl⟩:=wi hc
  rw [WI h,yI hle]
theorem TL (r:Rel P B Ie he we I lam s a w) {o:Oper} {t:TypeId} {n:Nat} {parts:Array (Nat×Operand)} (ho:o.op=.buildSlice t n parts) {b:Nat->Bool} {s':St}
  (h:(o.dst.bind fun d=>(elemOf P t).bind fun e=>(zeroCells P e).bind fun z=>guardB (Nat.beq z.length (P.cellsOf e)&&decide (n*z.length<=1000000))<|
   (evParts s parts.toList).bind fun vs=>(fillA (fun i=>some (i*P.cellsOf e,P.cellsOf e)) (rep n z) vs).bind fun cs=>
   cond (b d) (some (newLocal s d (.s d n) cs)) (some (setSl { s with h:=s.h++[.row true e cs] } o.dst (.v (.sc (.sl s.h.length 0 n))))))=some s'):zH P B Ie he we o a w s':=by
 obtain ⟨d,hd,h⟩:=oB h
 obtain ⟨e,he',h⟩:=oB h
 obtain ⟨z,hz,h⟩:=oB h
 replace h:=gB.1 h
 obtain ⟨hg,h⟩:=h
 simp only [Bool.and_eq_true,decide_eq_true_eq] at hg
 obtain ⟨vs,hvs,h⟩:=oB h
 obtain ⟨cs,hcs,h⟩:=oB h
 have g1:=zj hg.1
 have hu:P.underlying t=some (.slice e):=by
  unfold elemOf at he'
  split at he'
  ·rename_i e' hu;cases he';exact hu
  ·cases he'
 obtain ⟨ie,zv,hie,hzv,hzr⟩:=zK (I:=I) hz
 have hcell:=zp hie
 rw [hcell] at g1
 have hm:ScRels I (rep n z) (madeCells (if n*ie.size=0 then #[] else zv.cells) (n*ie.size)).toList:=by
  refine ScRels.of_get (by simp [wH,size_madeCells,g1]) fun i x y hx hy=>?_
  have hlt:=(List.getElem?_eq_some_iff.1 hx).1
  rw [wH,g1] at hlt
  obtain ⟨v,hv,hr⟩:=made_rel hzr n (n*ie.size) (by rw [g1];exact Nat.le_refl _) i x hx
  rw [if_neg (by omega)] at hy
  have hy:(madeCells zv.cells (n*ie.size))[i]?=some y:=by simpa using hy
  rw [Nat.zero_add,hy] at hv
  cases hv;exact hr
 obtain ⟨e1,e2⟩:=yY r hvs
 obtain ⟨arr,h1,h2⟩:=VU hcs hm e1 e2
 have hlen:arr.size=n*ie.size:=by
  have e3:=h2.length
  have e4:=WI hcs
  rw [wH,g1] at e4
  simp at e3;omega
 have h24:¬ (n*ie.size > 16777216):=by rw [<- g1];omega
 refine Vj r hd (v:=.slice (some ⟨w.heap.size,0,none⟩) n n) (arr:=arr) (e:=e) (z:=P.cellsOf e) (tot:=arr.size) ?_ h2 ?_ ?_ ?_ h
 ·rw [hcell] at h1
  have hp:(parts.map fun (x:Nat×Operand)=>(x.1,a.eval x.2)).toList=parts.toList.map fun p=>(p.1,a.eval p.2):=by simp
  by_cases h0:n*ie.size=0
  ·rw [if_pos h0] at h1
   simp only [h0] at h1
   simp only [execOp,ho,Sem.run_bind,Instr.buildSlice,run_underlying hu,Result.andThen_ok,zQ hie,h0,if_true,Sem.run_pure]
   simp only [hp]
   have h1':Instr.fill (fun i=>some (i*ie.size,ie.size)) #[] (parts.toList.map fun p=>(p.1,a.eval p.2))=some arr:=by
    rw [<- h1];simp [madeCells,Array.range_zero']
   simp [h1',newRow,Array.range_zero']
  ·rw [if_neg h0] at h1
   simp only [madeCells] at h1
   simp only [execOp,ho,Sem.run_bind,Instr.buildSlice,run_underlying hu,Result.andThen_ok,zQ hie,h0,if_false]
   rw [if_neg h24]
   simp [h1,newRow,zeroValue,typeInfo,hie,hzv]
 ·simp [SVRel,turn]
 ·exact ⟨⟨w.heap.size,0,P.cellsOf e,arr.size⟩,n,⟨w.heap.size,0,none⟩,by rw [<- r.hp.len,List.getElem?_append_right (Nat.le_refl _)];simp,rfl,Nat.le_refl _,fun _=>rfl,fun _=>by rw [hcell,hlen];simp⟩
 ·refine ⟨r.kp.size_B r.base,rfl,arr,heap_alloc_new w _,by simp,by have:=h2.length;simp at this;show cs.length<=arr.size;omega,fun j c hj=>?_⟩
  obtain ⟨v,hv,hr⟩:=(h2.mono (List.prefix_append I [_])).get hj
  exact ⟨v,by rw [Nat.zero_add];simpa using hv,hr⟩
theorem lenA_run {sv:SV} {v:Value} (hv:SVRel I lam sv v) {R:Type} {c:Nat->Option R} {q:R} (h:lenA sv c=some q) :
  ∃ n cap base,v=.slice base n cap/\n<=cap/\c n=some q:=by
 unfold lenA at h
 split at h
 ·rename_i k n
  exact ⟨n,n,_,hv,Nat.le_refl _,h⟩
 ·rename_i x
  replace h:=gB.1 h
  obtain ⟨hg,h⟩:=h
  cases x<;>(try (simp [isSl] at hg;done))
  ·obtain ⟨L,cap,ad,hL,e1,h0,_⟩:=hv
   exact ⟨_,cap,_,e1,h0,h⟩
  ·obtain ⟨na,e1,_⟩:=hv
   exact ⟨0,0,_,e1,Nat.le_refl _,h⟩
 ·cases h
theorem VX {f:AV->AV->Option AV} {g:Value->Value->Sem Value} (hfg:∀ x y z u v,f x y=some z->AVRel I x u->AVRel I y v->∃ t,(g u v).run P w=.ok t w/\AVRel I z t) :
  ∀ {ys:List AV} {vs:List Value} {x z:AV} {u:Value},foldO f x ys=some z->AVRel I x u->AVRels I ys vs->∃ t,(vs.foldlM g u).run P w=.ok t w/\AVRel I z t
 | [],[],x,z,u,h,hx,_=>by simp [foldO] at h;subst h;exact ⟨u,rfl,hx⟩
 | [],_::_,_,_,_,_,_,h=>h.elim
 | _::_,[],_,_,_,_,_,h=>h.elim
 | y::ys,v::vs,x,z,u,h,hx,hy=>by
  simp only [foldO,Option.bind_eq_some_iff] at h
  obtain ⟨m,hm,h⟩:=h
  obtain ⟨t,ht,hmt⟩:=hfg _ _ _ _ _ hm hx hy.1
  obtain ⟨t',ht',hz⟩:=VX hfg h hmt hy.2
  exact ⟨t',by simp only [List.foldlM_cons,Sem.run_bind,ht,Result.andThen_ok,ht'],hz⟩
theorem TF (x y z:AV) (u v:Value) (h:mx2 x y=some z) (hx:AVRel I x u) (hy:AVRel I y v):∃ t,(Builtin.max2 u v).run P w=.ok t w/\AVRel I z t:=by
 unfold mx2 at h
 split at h
 ·rename_i k m k' n
  replace h:=gB.1 h
  obtain ⟨hk,h⟩:=h
  replace hk:=of_decide_eq_true hk
  subst hk
  cases h
  have e1:u=.int k m:=hx
  have e2:v=.int k n:=hy
  subst e1;subst e2
  exact ⟨.int k (if n > m then n else m),by simp [Builtin.max2],rfl⟩
 ·cases h
theorem TE (x y z:AV) (u v:Value) (h:mn2 x y=some z) (hx:AVRel I x u) (hy:AVRel I y v):∃ t,(Builtin.min2 u v).run P w=.ok t w/\AVRel I z t:=by
 unfold mn2 at h
 split at h
 ·rename_i k m k' n
  replace h:=gB.1 h
  obtain ⟨hk,h⟩:=h
  replace hk:=of_decide_eq_true hk
  subst hk
  cases h
  have e1:u=.int k m:=hx
  have e2:v=.int k n:=hy
  subst e1;subst e2
  exact ⟨.int k (if n < m then n else m),by simp [Builtin.min2],rfl⟩
 ·cases h
variable {P : Program} {B : Nat} {Ie : List Loc} {he : AH} {we : World} {I : List Loc} {lam : Nat -> Nat} {s : St} {a : Act} {w : World}
theorem slice_cells (r:Rel P B Ie he we I lam s a w) {id off m:Nat} {L:Loc} {new:List Sc} (hL:I[id]?=some L) (h:ldN s.h id off m=some new) :
  new.length=m/\∃ news:List Value,ScRels I new news/\∀ (j:Nat) u,news[j]?=some u->w.cell? ((⟨L.b,L.o+off,none⟩:Addr).add j)=some u:=by
 have hload:loadAt s (.v (.sc (.ptr id off))) m some=some new:=by simp [wE,asP,h]
 have hsv:SVRel I lam (.v (.sc (.ptr id off))) (.pointer (some ⟨L.b,L.o+off,none⟩)):=⟨L,hL,rfl⟩
 obtain ⟨b,o,e,hl,hc⟩:=Yu r hsv hload
 cases e
 let f:Nat->Value:=fun j=>(w.cell? ⟨L.b,L.o+off+j,none⟩).getD undef
 have hf:∀ (j:Nat) c,new[j]?=some c->w.cell? ⟨L.b,L.o+off+j,none⟩=some (f j)/\ScRel I c (f j):=by
  intro j c hj
  obtain ⟨x,hx,hr⟩:=hc j c hj
  simp only [f,hx,Option.getD_some];exact ⟨trivial,hr⟩
 refine ⟨hl,(List.range new.length).map f,ScRels.of_get (by simp) fun i x y hx hy=>?_,fun j u hu=>?_⟩
 ·have hi:=(List.getElem?_eq_some_iff.1 hx).1
  simp only [List.getElem?_map,List.getElem?_range hi,Option.map_some] at hy
  cases hy
  exact (hf i x hx).2
 ·rw [wM]
  have hj:j < new.length:=by have:=(List.getElem?_eq_some_iff.1 hu).1;simpa using this
  simp only [List.getElem?_map,List.getElem?_range hj,Option.map_some] at hu
  cases hu
  exact (hf j _ (List.getElem?_eq_getElem hj)).1
theorem src_rel (r:Rel P B Ie he we I lam s a w) {sv:SV} {v:Value} (hv:SVRel I lam sv v) {R:Type} {c:Nat->Option R} {q:R} (hl:lenA sv c=some q) :
  ∃ n,c n=some q/\(∀ w':World,(Builtin.lenOf v).run P w'=.ok n w')/\∀ (m z:Nat) {R':Type} {c':List Sc->Option R'} {q':R'},m<=n->firstA s sv m z c'=some q'->
   ∃ (new:List Sc) (news:List Value),c' new=some q'/\ScRels I new news/\news.length=m*z/\(Builtin.firstCells z m v).run P w=.ok news.toArray w/\(Builtin.firstCells z m v).run P w.drew=.ok news.toArray w.drew:=by
 unfold lenA at hl
 split at hl
 ·rename_i k n
  have e1:v=.slice (some ⟨lam k,0,none⟩) n n:=hv
  subst e1
  refine ⟨n,hl,fun _=>rfl,fun m z R' c' q' hm h=>?_⟩
  simp only [yJ,Option.bind_eq_some_iff] at h
  obtain ⟨b,hb,cs,rfl,new,hnew,h⟩:=h
  obtain ⟨hle,rfl⟩:=VR hnew
  obtain ⟨_,⟨arr,e,hg,hc⟩,_⟩:=r.lo.cells k cs hb
  have hcl:=hc.length
  refine ⟨_,arr.toList.take (m*z),h,by simpa using hc.take (m*z),by simp at hcl ⊢;omega,?_,?_⟩
  ·refine run_firstCells_some w z m _ n n _ (by simp at hcl ⊢;omega) fun j u hu=>?_
   rw [wM,Nat.zero_add,yW hg]
   rw [List.getElem?_take] at hu
   split at hu
   ·simpa using hu
   ·cases hu
  ·refine run_firstCells_some w.drew z m _ n n _ (by simp at hcl ⊢;omega) fun j u hu=>?_
   rw [wM,Nat.zero_add]
   show w.cell? _=_
   rw [yW hg]
   rw [List.getElem?_take] at hu
   split at hu
   ·simpa using hu
   ·cases hu
 ·rename_i x
  replace hl:=gB.1 hl
  obtain ⟨hg,hl⟩:=hl
  cases x<;>(try (simp [isSl] at hg;done))
  ·rename_i id off len
   obtain ⟨L,cap,ad,hL,e1,h0,h1,h2⟩:=hv
   subst e1
   refine ⟨len,hl,fun _=>rfl,fun m z R' c' q' hm h=>?_⟩
   simp only [yJ] at h
   cases m with
   | zero=>
    replace h:=gB.1 h
    obtain ⟨_,h⟩:=h
    refine ⟨[],[],h,by simp [ScRels],by simp,?_,?_⟩
    ·exact run_firstCells_some w z 0 _ len cap [] (by simp) fun j u hu=>by simp at hu
    ·exact run_firstCells_some w.drew z 0 _ len cap [] (by simp) fun j u hu=>by simp at hu
   | succ m=>
    replace h:=asS_some.1 h
    obtain ⟨i',o',n',he1,h⟩:=h
    cases he1
    obtain ⟨new,hnew,h⟩:=oB h
    obtain ⟨hln,news,hr,hc⟩:=slice_cells r hL hnew
    have had:=h1 (by omega)
    subst had
    refine ⟨new,news,h,hr,by rw [<- hr.length];exact hln,?_,?_⟩
    ·exact run_firstCells_some w z (m+1) _ len cap news (by rw [<- hr.length];exact hln) hc
    ·exact run_firstCells_some w.drew z (m+1) _ len cap news (by rw [<- hr.length];exact hln) hc
  ·obtain ⟨na,e1,_⟩:=hv
   subst e1
   refine ⟨0,hl,fun _=>rfl,fun m z R' c' q' hm h=>?_⟩
   obtain rfl:m=0:=by omega
   simp only [yJ] at h
   replace h:=gB.1 h
   obtain ⟨_,h⟩:=h
   cases na with
   | none=>exact ⟨[],[],h,by simp [ScRels],by simp,run_firstCells_none w z 0 0 0,run_firstCells_none w.drew z 0 0 0⟩
   | some ad=>exact ⟨[],[],h,by simp [ScRels],by simp,run_firstCells_some w z 0 ad 0 0 [] (by simp) fun j u hu=>by simp at hu,run_firstCells_some w.drew z 0 ad 0 0 [] (by simp) fun j u hu=>by simp at hu⟩
 ·cases hl
theorem Uf {t tx ty e e':TypeId} {i:TypeInfo} (ht:P.underlying t=some (.slice e)) (hk:P.underlying tx=some (.slice e')) (hi:P.info? e=some i) {b off sLen sCap:Nat} {x:Value} {n:Nat} {news:List Value}
  (hlen:(Builtin.lenOf x).run P w=.ok n w) (hcells:(Builtin.firstCells i.size n x).run P w=.ok news.toArray w) (hroom:sLen+n<=sCap) {w':World} (hst:(storeCells ⟨b,off+sLen*i.size,none⟩ news).run P w=.ok () w') :
  (Builtin.append_ #[t,tx] ty #[.slice (some ⟨b,off,none⟩) sLen sCap,x]).run P w=.ok (.slice (some ⟨b,off,none⟩) (sLen+n) sCap) w':=by
 simp [Builtin.append_,run_underlying ht,run_underlying hk,sizeOf,typeInfo,hi,hlen,hroom,hcells,Addr.add_lit,hst]
theorem le_grownCap (w:World) (need old:Nat) (e:TypeId):need<=grownCap w need old e:=by
 simp only [grownCap,Question.cut];omega
theorem Yb {t e:TypeId} (h:elemOf P t=some e):P.underlying t=some (.slice e):=by
 unfold elemOf at h
 split at h
 ·rename_i e' hu;cases h;exact hu
 ·cases h
theorem Ql (r:Rel P B Ie he we I lam s a w) {e:TypeId} {ie:TypeInfo} {zv:Value} {base:Option Addr} {sLen sCap n:Nat} {old new:List Sc} {olds news:List Value} {t tx ty e':TypeId} {x:Value} {d:Option Tmp}
  (ht:P.underlying t=some (.slice e)) (hk:P.underlying tx=some (.slice e')) (hie:P.info? e=some ie) (hzv:ie.zero=some zv) (hzs:zv.cells.size=ie.size)
  (hby:ie.bytes<=8192) (hm:sLen+n<=most) (hgr:sCap < sLen+n) (hsl:old.length=sLen*ie.size)
  (hlen:∀ w':World,(Builtin.lenOf x).run P w'=.ok n w') (hc1:(Builtin.firstCells ie.size n x).run P w=.ok news.toArray w) (hc2:(Builtin.firstCells ie.size n x).run P w.drew=.ok news.toArray w.drew) (hnl:news.length=n*ie.size)
  (hold:(Builtin.firstCells ie.size sLen (.slice base sLen sCap)).run P w.drew=.ok olds.toArray w.drew) (hor:ScRels I old olds) (hnr:ScRels I new news) :
  ∃ v w' I',(Builtin.append_ #[t,tx] ty #[.slice base sLen sCap,x]).run P w=.ok v w'/\Rel P B Ie he we I' lam (setSl { s with h:=s.h++[.row true e (old++new)] } d (.v (.sc (.sl s.h.length 0 (sLen+n))))) (a.put d v) w':=by
 have hsrc:Src P ie.size tx x n news w:=⟨.inl ⟨e',hk⟩,hlen,hc1,hc2,hnl,hnr.ones⟩
 simp only [most] at hm
 have hfit:Builtin.nextslicecap (sLen+n) sCap*ie.bytes<=281474976710656:=by
  have h1:=nextslicecap_le hgr
  have h2:Builtin.nextslicecap (sLen+n) sCap*ie.bytes<=(2*(sLen+n))*8192:=Nat.mul_le_mul h1 hby
  omega
 have hrun:=run_append_grow_src (P:=P) w t tx ty e ie zv ht hie hzv base sLen sCap olds hold x n news hsrc hgr (by omega) hfit
 generalize hcap:grownCap w (sLen+n) sCap e=cap at hrun
 have hge:sLen+n<=cap:=by rw [<- hcap];exact le_grownCap w _ _ e
 have hol:=hor.length
 have hnl':=hnr.length
 generalize harr:((olds++news).toArray++Builtin.zeroCells zv.cells (cap - (sLen+n)))=arr at hrun
 have hsz:arr.size=cap*ie.size:=by
  rw [<- harr]
  simp only [Array.size_append,List.size_toArray,List.length_append,size_zeroCells,hzs]
  rw [<- hol,hsl,hnl,<- Nat.add_mul,<- Nat.add_mul]
  congr 1;omega
 have hcell:P.cellsOf e=ie.size:=zp hie
 have hnh:=r.drew.newHeap (o:=.row true e (old++new)) (O:=.cells arr e) (L:=⟨w.heap.size,0,P.cellsOf e,arr.size⟩) rfl ?_
 ·refine ⟨_,_,_,hrun,hnh.put d ?_⟩
  refine ⟨⟨w.heap.size,0,P.cellsOf e,arr.size⟩,cap,_,by rw [<- r.hp.len,List.getElem?_append_right (Nat.le_refl _)];simp,rfl,hge,fun _=>rfl,fun _=>by rw [hcell,hsz];simp⟩
 ·refine ⟨r.kp.size_B r.base,rfl,arr,heap_alloc_new w.drew _,by simp,?_,fun j c hj=>?_⟩
  ·show (old++new).length<=arr.size
   rw [hsz,List.length_append,hsl,hnl',hnl,<- Nat.add_mul]
   exact Nat.mul_le_mul_right _ hge
  ·obtain ⟨v,hv,hr⟩:=((hor.append hnr).mono (List.prefix_append I [_])).get hj
   refine ⟨v,?_,hr⟩
   have hlt:=(List.getElem?_eq_some_iff.1 hv).1
   rw [Nat.zero_add,<- harr,Array.getElem?_append_left (by simpa using hlt)]
   simpa using hv
theorem sim_append {A:FAn} (r:Rel P B Ie he we I lam s a w) {o:Oper} {t t2:TypeId} {x y:Operand} (ho:o.op=.call { callee:=.builtin .append,args:=#[x,y],argTypes:=#[t,t2] }) {s':St}
  (h:((elemOf P t).bind fun e=>(zeroCells P e).bind fun z=>guardB ((elemOf P t2).isSome&&decide (P.bytesOf e<=8192)&&Nat.beq z.length (P.cellsOf e))<|
   (evA s x).bind fun xv=>ontoK A x xv fun xs=>(evA s y).bind fun a=>lenA a fun n=>firstA s a n (P.cellsOf e) fun new=>
    appendS s.h e (P.cellsOf e) xs new n fun v h=>some (setSl { s with h:=h } o.dst (.v (.sc v))))=some s'):zH P B Ie he we o a w s':=by
 obtain ⟨e,he',h⟩:=oB h
 obtain ⟨z,hz,h⟩:=oB h
 replace h:=gB.1 h
 obtain ⟨hg,h⟩:=h
 simp only [Bool.and_eq_true,decide_eq_true_eq] at hg
 obtain ⟨⟨g1,g2⟩,g3⟩:=hg
 obtain ⟨e2,he2⟩:=Option.isSome_iff_exists.1 g1
 have hu:=Yb he'
 have hk:=Yb he2
 obtain ⟨ie,zv,hie,hzv,hzr⟩:=zK (I:=I) hz
 have hcell:P.cellsOf e=ie.size:=zp hie
 have hzs:zv.cells.size=ie.size:=by have:=hzr.length;have g3:=zj g3;simp at this;omega
 rw [Wy hie] at g2
 rw [hcell] at h
 obtain ⟨xv,hx,h⟩:=oB h
 have hx':∃ xs,ScRel I xs (a.eval x)/\((evA s y).bind fun a=>lenA a fun n=>firstA s a n ie.size fun new=>
    appendS s.h e ie.size xs new n fun v h=>some (setSl { s with h:=h } o.dst (.v (.sc v))))=some s':=by
  have rv:=zn r hx
  rcases Zz h with ⟨_,k,_,_,e0,h'⟩ | ⟨xs,e0,h'⟩
  ·subst e0;exact ⟨.nils true,⟨_,rv,rfl⟩,h'⟩
  ·subst e0;exact ⟨xs,rv,h'⟩
 clear h
 obtain ⟨xs,rx,h⟩:=hx'
 obtain ⟨sy,hy,h⟩:=oB h
 obtain ⟨n,h,hlen,hfirst⟩:=src_rel r (zn r hy) h
 obtain ⟨new,news,h,hnr,hnl,hc1,hc2⟩:=hfirst n ie.size (Nat.le_refl n) h
 have exec:∀ {v w'},(Builtin.append_ #[t,t2] o.type #[a.eval x,a.eval y]).run P w=.ok v w'->(execOp a.eval o).run P w=.ok (.value v) w':=by
  intro v w' hr
  simp [execOp,ho,resolve,invoke,builtin,hr]
 cases n with
 | zero => -- nothing is appended
  simp only [appendS] at h
  replace h:=gB.1 h
  obtain ⟨hsl,h⟩:=h
  cases h
  have hnews:news=[]:=List.eq_nil_of_length_eq_zero (by simpa using hnl)
  subst hnews
  have hsrc:Src P ie.size t2 (a.eval y) 0 [] w:=⟨.inl ⟨e2,hk⟩,hlen,hc1,hc2,by simp,fun _ h=>by cases h⟩
  cases xs<;>(try (simp [isSl] at hsl;done))
  ·obtain ⟨L,cap,ad,hL,e1,h0,h1,h2⟩:=rx
   have hrun:=run_append_nothing (P:=P) w t t2 o.type e ie hu hie (some ad) _ cap h0 (a.eval y) hsrc
   rw [<- e1] at hrun
   exact ⟨_,w,I,lam,.inl (exec hrun),r.put o.dst ⟨L,cap,ad,hL,e1,h0,h1,h2⟩⟩
  ·obtain ⟨na,e1,hna⟩:=rx
   have hrun:=run_append_nothing (P:=P) w t t2 o.type e ie hu hie na 0 0 (Nat.le_refl 0) (a.eval y) hsrc
   rw [<- e1] at hrun
   exact ⟨_,w,I,lam,.inl (exec hrun),r.put o.dst ⟨na,e1,hna⟩⟩
 | succ n=>
  cases xs with
  | nils eb => -- onto nothing
   simp only [appendS] at h
   replace h:=gB.1 h
   obtain ⟨hm,h⟩:=h
   have hm:=of_decide_eq_true hm
   obtain ⟨na,e1,hna⟩:=rx
   obtain ⟨v,w',I',hrun,r'⟩:=Ql (d:=o.dst) (ty:=o.type) (base:=na) (sLen:=0) (sCap:=0) (n:=n+1) (old:=[]) (olds:=[]) r hu hk hie hzv hzs g2 (by omega) (by omega) (by simp) hlen hc1 hc2 hnl
    (by cases na with
     | none=>exact run_firstCells_none w.drew ie.size 0 0 0
     | some ad=>exact run_firstCells_some w.drew ie.size 0 ad 0 0 [] (by simp) fun j u hu=>by simp at hu) (by simp [ScRels]) hnr
   rw [<- e1] at hrun
   cases h
   refine ⟨v,w',I',lam,.inl (exec hrun),?_⟩
   simpa using r'
  | sl id off len => -- onto a row
   simp only [appendS] at h
   obtain ⟨ob,hob,h⟩:=oB h
   split at h
   ·rename_i e3 cs
    replace h:=gB.1 h
    obtain ⟨hg,h⟩:=h
    simp only [Bool.and_eq_true,decide_eq_true_eq] at hg
    obtain ⟨⟨k1,k2⟩,k3⟩:=hg
    have k1:=zj k1
    subst k1
    have k2:=zj k2
    obtain ⟨L,cap,ad,hL,e1,h0,h1,h2⟩:=rx
    have hor:=r.hp.obj id _ L hob hL
    obtain ⟨b0,b1,arr,b2,b3,b4,b5⟩:=hor
    rw [hcell] at b1
    cases h
    by_cases hroom:len+(n+1)<=cap
    ·-- in place
     have had:=h1 (by omega)
     subst had
     have hcz:off+cap*ie.size<=L.tot:=by
      by_cases hz0:ie.size=0
      ·rw [hz0];rw [hz0] at k2;simp at k2 ⊢;omega
      ·have:=h2 (by omega);rw [b1] at this;exact this
     have hsum:len*ie.size+(n+1)*ie.size<=cap*ie.size:=by rw [<- Nat.add_mul];exact Nat.mul_le_mul_right _ hroom
     have hst:=run_storeCells_at P L.b (L.o+off+len*ie.size) e news 0 arr w b2 (by omega) hnr.ones
     have hrun:=Uf (ty:=o.type) hu hk hie (hlen w) hc1 hroom hst
     rw [<- e1] at hrun
     have hnl2:=hnr.length
     have hsp:(arr.toList.take (L.o+off+len*ie.size+0)++news++arr.toList.drop (L.o+off+len*ie.size+0+news.length)).toArray=(splice arr.toList (L.o+off+len*ie.size) news).toArray:=rfl
     have hle2:(L.o+off+len*ie.size)+news.length<=arr.toList.length:=by simp;omega
     have hre:=r.reown (o':=.row true e (cs.drop off++new)) (L':=⟨L.b,L.o+off,P.cellsOf e,L.tot - off⟩) (arr':=(arr.toList.take (L.o+off+len*ie.size+0)++news++arr.toList.drop (L.o+off+len*ie.size+0+news.length)).toArray) hob hL rfl rfl ?_
     ·refine ⟨_,_,_,lam,.inl (exec hrun),hre.put o.dst ?_⟩
      refine ⟨⟨L.b,L.o+off,P.cellsOf e,L.tot - off⟩,cap,_,by rw [<- r.hp.len,List.getElem?_append_right (Nat.le_refl _)];simp,rfl,hroom,fun _=>rfl,fun _=>?_⟩
      show 0+cap*P.cellsOf e<=L.tot - off
      rw [hcell];omega
     ·refine ⟨b0,rfl,_,setRow_heap w _ arr _ e (0,0) b2,?_,?_,fun j c hj=>?_⟩
      ·rw [hsp];simp only [List.size_toArray,yI hle2];simp;omega
      ·show (cs.drop off++new).length<=L.tot - off
       simp;omega
      ·rw [hsp,List.getElem?_toArray,yV hle2]
       show ∃ v,(if L.o+off+j < L.o+off+len*ie.size then arr.toList[L.o+off+j]? else if L.o+off+j < L.o+off+len*ie.size+news.length then news[L.o+off+j - (L.o+off+len*ie.size)]? else arr.toList[L.o+off+j]?)=some v/\_
       by_cases hj2:j < len*ie.size
       ·rw [List.getElem?_append_left (by simp;omega),List.getElem?_drop] at hj
        obtain ⟨v,hv,hr⟩:=b5 _ c hj
        rw [if_pos (by omega)]
        exact ⟨v,by rw [<- Nat.add_assoc] at hv;simpa using hv,ScRel.mono (List.prefix_append _ _) _ _ hr⟩
       ·rw [List.getElem?_append_right (by simp;omega)] at hj
        obtain ⟨v,hv,hr⟩:=hnr.get hj
        have hlt:=(List.getElem?_eq_some_iff.1 hv).1
        rw [if_neg (by omega),if_pos (by simp at hlt;omega)]
        refine ⟨v,?_,ScRel.mono (List.prefix_append _ _) _ _ hr⟩
        rw [<- hv];congr 1;simp;omega
    ·-- it grows
     have hold:∃ olds,(Builtin.firstCells ie.size len (.slice (some ad) len cap)).run P w.drew=.ok olds.toArray w.drew/\ScRels I (cs.drop off) olds:=by
      by_cases hl0:len=0
      ·subst hl0
       refine ⟨[],run_firstCells_some w.drew ie.size 0 ad 0 cap [] (by simp) fun j u hu=>by simp at hu,?_⟩
       rw [List.drop_of_length_le (by simp at k2;omega)]
       simp [ScRels]
      ·have had:=h1 (by omega)
       subst had
       refine ⟨(arr.toList.drop (L.o+off)).take (len*ie.size),run_firstCells_some w.drew ie.size len _ len cap _ (by simp;omega) fun j u hu=>?_,?_⟩
       ·rw [wM]
        show w.cell? _=_
        rw [yW b2]
        rw [List.getElem?_take] at hu
        split at hu
        ·rw [List.getElem?_drop] at hu;simpa using hu
        ·cases hu
       ·refine ScRels.of_get (by simp;omega) fun i x y hx hy=>?_
        rw [List.getElem?_drop] at hx
        obtain ⟨v,hv,hr⟩:=b5 _ x hx
        rw [List.getElem?_take] at hy
        split at hy
        ·rw [List.getElem?_drop] at hy
         have hy:arr[L.o+off+i]?=some y:=by simpa using hy
         rw [<- Nat.add_assoc,hy] at hv
         cases hv;exact hr
        ·cases hy
     obtain ⟨olds,hold,hor⟩:=hold
     have hkill:=r.kill id
     obtain ⟨v,w',I',hrun,r'⟩:=Ql (d:=o.dst) (ty:=o.type) (base:=some ad) (sLen:=len) (sCap:=cap) (n:=n+1) hkill hu hk hie hzv hzs g2 k3 (by omega) (by simp;omega) hlen hc1 hc2 hnl hold hor hnr
     rw [<- e1] at hrun
     refine ⟨v,w',I',lam,.inl (exec hrun),?_⟩
     simpa using r'
   ·cases h
  | _=>simp [appendS] at h
variable {P : Program} {B : Nat} {Ie : List Loc} {he : AH} {we : World} {I : List Loc} {lam : Nat -> Nat} {s : St} {a : Act} {w : World}
theorem xz {o:Oper} {b:Builtin} {args:Array Operand} {ts:Array TypeId} (ho:o.op=.call { callee:=.builtin b,args:=args,argTypes:=ts }) :
  execOp a.eval o=builtin b ts o.type (args.map fun | .const _=>true | _=>false) (args.map a.eval):=by
 simp [execOp,ho,resolve,invoke]
 rfl
theorem sim_copy (r:Rel P B Ie he we I lam s a w) {o:Oper} {t t2:TypeId} {x y:Operand} (ho:o.op=.call { callee:=.builtin .copy,args:=#[x,y],argTypes:=#[t,t2] }) {s':St}
  (h:((elemOf P t).bind fun e=>guardB ((elemOf P t2).isSome&&(P.info? e).isSome)<|(evV s x).bind fun xv=>asSc xv fun xs=>(evA s y).bind fun a=>lenA a fun n=>guardB (isSl xs)<|
   firstA s a (min n (slLen xs)) (P.cellsOf e) fun new=>
    cond (Nat.beq (min n (slLen xs)) 0) (some (setSl s o.dst (.v (.sc (.int .i64 0))))) (asS xs fun id off _=>(st s.h id off new).bind fun h=>some (setSl { s with h:=h } o.dst (.v (.sc (.int .i64 (min n (slLen xs):Nat)))))))=some s') :
  zH P B Ie he we o a w s':=by
 obtain ⟨e,he',h⟩:=oB h
 replace h:=gB.1 h
 obtain ⟨hg,h⟩:=h
 simp only [Bool.and_eq_true] at hg
 have hu:=Yb he'
 obtain ⟨ie,hie⟩:=Option.isSome_iff_exists.1 hg.2
 have hcell:P.cellsOf e=ie.size:=zp hie
 rw [hcell] at h
 obtain ⟨xv,hx,h⟩:=oB h
 replace h:=asSc_some.1 h
 obtain ⟨xs,rfl,h⟩:=h
 obtain ⟨sy,hy,h⟩:=oB h
 have rx:=yC r hx
 obtain ⟨n,h,hlen,hfirst⟩:=src_rel r (zn r hy) h
 replace h:=gB.1 h
 obtain ⟨hsl,h⟩:=h
 obtain ⟨new,news,h,hnr,hnl,hc1,hc2⟩:=hfirst (min n (slLen xs)) ie.size (Nat.min_le_left _ _) h
 have hd:∃ base cap,a.eval x=.slice base (slLen xs) cap:=by
  cases xs<;>(try (simp [isSl] at hsl;done))
  ·obtain ⟨L,cap,ad,hL,e1,_⟩:=rx
   exact ⟨_,_,e1⟩
  ·obtain ⟨na,e1,_⟩:=rx
   exact ⟨_,_,e1⟩
 obtain ⟨base,cap,e1⟩:=hd
 have exec:∀ {w'},(match base with | some ad=>storeCells ad news | none=>pure ()).run P w=.ok () w'->(execOp a.eval o).run P w=.ok (.value (.int .i64 (min n (slLen xs):Nat))) w':=by
  intro w' hr
  rw [xz ho]
  have hm:Nat.min n (slLen xs)=min n (slLen xs):=rfl
  cases base with
  | none=>simp at hr;subst hr;simp [builtin,Builtin.copy_,run_underlying hu,e1,hlen,zQ hie,hm,hc1,goInt]
  | some ad=>simp at hr;simp [builtin,Builtin.copy_,run_underlying hu,e1,hlen,zQ hie,hm,hc1,goInt,hr]
 rcases cond_some.1 h with ⟨h0,h⟩ | ⟨h0,h⟩
 ·have h0:=zj h0
  cases h
  have hnews:news=[]:=List.eq_nil_of_length_eq_zero (by rw [hnl,h0];simp)
  subst hnews
  have:=exec (w':=w) (by cases base<;>simp [storeCells])
  rw [h0] at this
  exact zl r this rfl
 ·replace h:=asS_some.1 h
  obtain ⟨id,off,len,rfl,h⟩:=h
  obtain ⟨h',hst,h⟩:=oB h
  cases h
  obtain ⟨L,cap',ad,hL,e2,k0,k1,_⟩:=rx
  rw [e1] at e2
  cases e2
  have hne:min n (slLen (.sl id off len))≠0:=by intro hz;rw [hz] at h0;simp at h0
  have had:=k1 (by have:=Nat.min_le_right n (slLen (.sl id off len));simp only [slLen] at *;omega)
  subst had
  obtain ⟨w',hw,r'⟩:=QJ r hst hnr hL
  exact ⟨_,w',I,lam,.inl (exec hw),r'.put o.dst rfl⟩
theorem sim_builtin {A:FAn} (r:Rel P B Ie he we I lam s a w) {o:Oper} {b:Builtin} {args:Array Operand} {ts:Array TypeId} (ho:o.op=.call { callee:=.builtin b,args:=args,argTypes:=ts }) {s':St}
  (h:builtinK P A b ts.toList args.toList s (fun v s=>some (setSl s o.dst v))=some s'):zH P B Ie he we o a w s':=by
 unfold builtinK at h
 split at h
 ·-- len
  rename_i ty x hts hargs
  have hts:ts=#[ty]:=by cases ts;simp at hts;subst hts;rfl
  have hargs:args=#[x]:=by cases args;simp at hargs;subst hargs;rfl
  subst hts;subst hargs
  split at h
  ·rename_i e hu
   obtain ⟨v,hv,h⟩:=oB h
   obtain ⟨n,cap,base,e1,_,h⟩:=lenA_run (zn r hv) h
   cases h
   refine zl r (v:=.int .i64 n) ?_ rfl
   rw [xz ho]
   simp [builtin,Builtin.len_,run_underlying hu,e1,goInt]
  ·rename_i n e hu
   cases h
   refine zl r (v:=.int .i64 n) ?_ rfl
   rw [xz ho]
   simp [builtin,Builtin.len_,run_underlying hu,goInt]
  ·cases h
 ·-- max
  rename_i x xs hargs
  simp only [Option.bind_eq_some_iff] at h
  obtain ⟨v,hv,vs,hvs,z,hz,h⟩:=h
  cases h
  obtain ⟨t,ht,hr⟩:=VX (P:=P) (w:=w) (fun x y z u v=>TF x y z u v) hz (zm r hv) (yn r hvs)
  refine zl r (v:=t) ?_ hr
  rw [xz ho]
  have e:(args.map a.eval).toList=a.eval x::xs.map a.eval:=by simp [hargs]
  simp only [builtin,Builtin.max_,e,Sem.run_bind,ht,Result.andThen_ok,Sem.run_pure]
 ·-- min
  rename_i x xs hargs
  simp only [Option.bind_eq_some_iff] at h
  obtain ⟨v,hv,vs,hvs,z,hz,h⟩:=h
  cases h
  obtain ⟨t,ht,hr⟩:=VX (P:=P) (w:=w) (fun x y z u v=>TE x y z u v) hz (zm r hv) (yn r hvs)
  refine zl r (v:=t) ?_ hr
  rw [xz ho]
  have e:(args.map a.eval).toList=a.eval x::xs.map a.eval:=by simp [hargs]
  simp only [builtin,Builtin.min_,e,Sem.run_bind,ht,Result.andThen_ok,Sem.run_pure]
 ·-- append
  rename_i ty ty2 x y hts hargs
  have hts:ts=#[ty,ty2]:=by cases ts;simp at hts;subst hts;rfl
  have hargs:args=#[x,y]:=by cases args;simp at hargs;subst hargs;rfl
  subst hts;subst hargs
  exact sim_append r ho h
 ·-- copy
  rename_i ty ty2 x y hts hargs
  have hts:ts=#[ty,ty2]:=by cases ts;simp at hts;subst hts;rfl
  have hargs:args=#[x,y]:=by cases args;simp at hargs;subst hargs;rfl
  subst hts;subst hargs
  simp only [Tb] at h
  exact sim_copy r ho h
 ·cases h
def WT:Op->Bool
 | .call { callee:=.value _,.. }=>true
 | _=>false
theorem op_sim {A:FAn} {ev:Ev} (r:Rel P B Ie he we I lam s a w) {o:Oper} (hc:WT o.op=false) {s':St} (h:evOp P A ev o s some=some s'):zH P B Ie he we o a w s':=by
 unfold evOp at h
 simp only [setK_eq,newLocalK_eq] at h
 split at h
 case h_1 x ho=>exact sim_move r (.inl ho) h
 case h_2 x ho=>exact sim_move r (.inr ho) h
 case h_3 q x y ho=>exact sim_pick r ho h
 case h_4 e ho=>exact sim_alloc r ho (b:=fun d=>A.loc.contains d) h
 case h_5 e x ho=>exact sim_box r ho (b:=fun d=>A.loc.contains d) h
 case h_6 t parts ho=>exact sim_build r ho h
 case h_7 t n parts ho=>exact TL r ho (b:=fun d=>A.loc.contains d) h
 case h_8 t x ho=>exact sim_load r ho h
 case h_9 t x y ho=>exact sim_store r ho h
 case h_10 x ho=>exact sim_nilCheck r ho h
 case h_11 op t x y t' ho=>exact sim_binOp r ho h
 case h_12 op t x ho=>exact sim_unOp r ho h
 case h_13 src dst x ho=>exact sim_convert r ho h
 case h_14 f first captured ho=>exact sim_makeFunc r ho h
 case h_15 t l m ho=>exact QY r ho h
 case h_16 t x lo hi mx ho=>exact sim_slice r ho h
 case h_17 t x i ho=>exact QW r ho h
 case h_18 t x i ho=>exact QX r ho h
 case h_19 x i ho=>exact sim_extract r ho h
 case h_20 b args ts ho=>exact sim_builtin r ho h
 case h_21 f args ts ho=>rw [ho] at hc;simp [WT] at hc
 case h_22 t x i ho=>exact sim_index r ho h
 case h_23=>cases h
variable {P : Program} {B : Nat} {Ie : List Loc} {he : AH} {we : World} {I : List Loc} {lam : Nat -> Nat} {s : St} {a : Act} {w : World}
def FW (ro:Option Nat):Fence:={ fn:=fun _=>True,depth:=none,alive:=false,round:=ro }
def RetRel (I:List Loc) (rs:List AV) (v:Value):Prop:=∃ arr:Array Value,AVRels I rs arr.toList/\v=if h:arr.size=1 then arr[0] else .tuple arr
def wL (P:Program) (B:Nat) (I:List Loc) (h:AH) (w:World) (rs:List AV) (h':AH):Ending->World->Prop
 | .returned v,w'=>∃ I',RetRel I' rs v/\HRel P B I' h' w'/\Keeps B I h w I' h' w'
 | _,_=>False
def EvFOk (P:Program) (B:Nat) (ev:Ev):Prop:=
 ∀ g args h rs h',ev (.func g) args h=some (rs,h')->∀ I w vals,AVRels I args vals->HRel P B I h w->B<=w.heap.size->
  (∃ fn,P.funcs[g]?=some fn/\fn.body.isSome=true)/\CallsIn (FW none) 0 P g vals.toArray w (wL P B I h w rs h')
def EvYOk (P:Program) (B:Nat) (ev:Ev):Prop:=
 ∀ id args h rs h',ev (.yield id) args h=some (rs,h')->∀ I w vals L,AVRels I args vals->HRel P B I h w->B<=w.heap.size->I[id]?=some L->
  ∃ r:Loop,w.heap[L.b]?=some (.loop r)/\vals.length=r.params.size/\RoundIn (FW none) 0 P L.b r.fn ((r.params.zip vals.toArray).foldl (fun tmps (t,a)=>tmps.setIfInBounds t a) r.tmps) r.assign r.body w (wL P B I h w rs h')
def Zn (P:Program) (B:Nat) (ev:Ev):Prop:=EvFOk P B ev/\EvYOk P B ev
def wX (P:Program) (B:Nat) (A:FAn):Prop:=
 ∀ g args p,A.orc g args=some p->p.1=true->∀ w vals,AVRels [] args vals->B<=w.heap.size->
  (∃ fn,P.funcs[g]?=some fn/\fn.body.isSome=true)/\∃ h',CallsIn (FW none) 0 P g vals.toArray w (wL P B [] [] w p.2 h')
def yc (P : Program) : Bool := P.funcs.all fun fn => !(fn.name == "runtime.NumGoroutine")
theorem Rel.call (r:Rel P B Ie he we I lam s a w) {I':List Loc} {h':AH} {w':World} (hh:HRel P B I' h' w') (k:Keeps B I s.h w I' h' w') :
  Rel P B Ie he we I' lam { s with h:=h' } a w':=by
 refine ⟨fun i v hv=>let ⟨x,hx,hr⟩:=r.tm i v hv;⟨x,hx,hr.mono k.pre⟩,⟨fun j cs hj=>?_,r.lo.apart⟩,hh,r.kp.trans k,r.base,r.df.old fun b hb hd=>k.foot b hb fun ho=>OwnB.noDf r.hp ho hd⟩
 obtain ⟨h1,⟨arr,e,h2,h3⟩,h4⟩:=r.lo.cells j cs hj
 have hlt:=(Array.getElem?_eq_some_iff.1 h2).1
 refine ⟨h1,⟨arr,e,(k.foot _ hlt h4).trans h2,ScRels.mono k.pre _ _ h3⟩,fun ho=>?_⟩
 rcases k.fresh _ ho with hw | hw
 ·exact h4 hw
 ·omega
theorem not_ownB_nil {I:List Loc} {b:Nat}:¬ OwnB I [] b:=by
 rintro ⟨i,o,L,h1,_⟩;simp at h1
theorem Rel.callIso (r:Rel P B Ie he we I lam s a w) {I':List Loc} {h':AH} {w':World} (k:Keeps B [] [] w I' h' w'):Rel P B Ie he we I lam s a w':=by
 have hk:∀ b,b < w.heap.size->w'.heap[b]?=w.heap[b]?:=fun b hb=>k.foot b hb not_ownB_nil
 have hh:HRel P B I s.h w':=by
  refine ⟨r.hp.len,fun i o L h1 h2=>?_,r.hp.uniq⟩
  have hob:=r.hp.obj i o L h1 h2
  have hB:=r.kp.size_B r.base
  cases o with
  | row own e cs=>
   cases own with
   | false=>exact hob.mono (List.prefix_refl _) (hk _ (by have:=ORel.ro hob;omega))
   | true=>exact hob.mono (List.prefix_refl _) (hk _ (ORel.lt rfl hob).2)
  | box e cs=>exact hob.mono (List.prefix_refl _) (hk _ (ORel.lt rfl hob).2)
  | dead=>trivial
  | loop l=>exact hob.mono (List.prefix_refl _) (hk _ (ORel.lt rfl hob).2)
 exact r.call hh ⟨List.prefix_refl _,k.bel,k.size,fun b hb _=>hk b hb,fun b hb=>.inl hb⟩
theorem bare_rel:∀ {c:Sc} {v:Value} {I J:List Loc},c.bare=true->ScRel I c v->ScRel J c v:=by
 intro c v I J hb h
 cases c<;>try (first | exact h | (simp [Sc.bare] at hb;done))
 rename_i f nf sh cs
 cases cs with
 | nil=>
  obtain ⟨p,q,h1,h2,h3,h0,h4⟩:=h
  have hf:∃ n,f=.func n:=by cases f<;>first | exact ⟨_,rfl⟩ | simp [Sc.bare] at hb
  obtain ⟨n,rfl⟩:=hf
  refine ⟨p,q,h1,h2,h3,trivial,?_⟩
  generalize ((p++q).toList.flatMap fun x=>x.cells.toList)=l at h4 ⊢
  cases l with
  | nil=>simp [ScRels]
  | cons y ys=>simp [ScRels] at h4
 | cons x xs=>simp [Sc.bare] at hb
theorem TY:∀ {c:List Sc} {v:List Value} {I J:List Loc},c.all Sc.bare=true->ScRels I c v->ScRels J c v
 | [],[],_,_,_,_=>by simp [ScRels]
 | x::xs,v::vs,I,J,hb,h=>by
  simp only [List.all_cons,Bool.and_eq_true] at hb
  simp only [ScRels] at h ⊢
  exact ⟨bare_rel hb.1 h.1,TY hb.2 h.2⟩
 | [],_::_,_,_,_,h=>by simp [ScRels] at h
 | _::_,[],_,_,_,h=>by simp [ScRels] at h
theorem bareA_rel {c:AV} {v:Value} {I J:List Loc} (hb:c.bare=true) (h:AVRel I c v):AVRel J c v:=by
 cases c with
 | sc s=>simp [AV.bare,AV.cells] at hb;exact bare_rel hb h
 | agg cs=>obtain ⟨arr,h1,h2⟩:=h;exact ⟨arr,h1,TY hb h2⟩
theorem wv:∀ {c:List AV} {v:List Value} {I J:List Loc},c.all AV.bare=true->AVRels I c v->AVRels J c v
 | [],[],_,_,_,_=>trivial
 | x::xs,v::vs,I,J,hb,h=>by
  simp only [List.all_cons,Bool.and_eq_true] at hb
  exact ⟨bareA_rel hb.1 h.1,wv hb.2 h.2⟩
 | [],_::_,_,_,_,h=>h.elim
 | _::_,[],_,_,_,h=>h.elim
theorem Zm {R:Type} {t:TypeId} {rs:List AV} {c:SV->Option R} {x:R} (h:typed P t rs c=some x) {v:Value} (hr:RetRel I rs v) :
  ∃ sv,c sv=some x/\SVRel I lam sv v:=by
 obtain ⟨arr,ha,hv⟩:=hr
 unfold typed at h
 split at h
 ·rename_i ts _
  replace h:=Zt (c:=fun ys=>guardB (!(Nat.beq ys.length 1)) (c (.t ys))) h
  obtain ⟨hg,h⟩:=gB.1 h
  refine ⟨.t rs,h,arr,?_,ha⟩
  have hl:=ha.length
  rw [dif_neg] at hv
  ·exact hv
  ·intro h1
   have:rs.length=1:=by rw [hl];simpa using h1
   rw [this] at hg;simp at hg
 ·obtain ⟨y,ys,rfl,h⟩:=asC_some.1 h
  obtain ⟨rfl,h⟩:=asN_some.1 h
  replace h:=Zb (c:=fun y=>c (.v y)) h
  refine ⟨_,h,?_⟩
  obtain ⟨l⟩:=arr
  match l,ha with
  | [u],⟨h1,_⟩=>simp at hv;subst hv;exact h1
theorem AVRels.append':∀ {x y:List AV} {u v:List Value},AVRels I x u->AVRels I y v->AVRels I (x++y) (u++v)
 | [],_,[],_,_,h=>h
 | _::_,_,_::_,_,⟨h1,h2⟩,h=>⟨h1,AVRels.append' h2 h⟩
 | [],_,_::_,_,h,_=>h.elim
 | _::_,_,[],_,h,_=>h.elim
theorem AVRels.take' (n:Nat):∀ {x:List AV} {u:List Value},AVRels I x u->AVRels I (x.take n) (u.take n):=by
 induction n with
 | zero=>intro x u _;trivial
 | succ n ih=>
  intro x u h
  match x,u,h with
  | [],[],_=>trivial
  | _::_,_::_,⟨h1,h2⟩=>exact ⟨h1,ih h2⟩
theorem AVRels.drop' (n:Nat):∀ {x:List AV} {u:List Value},AVRels I x u->AVRels I (x.drop n) (u.drop n):=by
 induction n with
 | zero=>intro x u h;exact h
 | succ n ih=>
  intro x u h
  match x,u,h with
  | [],[],_=>trivial
  | _::_,_::_,⟨_,h2⟩=>exact ih h2
abbrev wr (P:Program) (B:Nat) (Ie:List Loc) (he:AH) (we:World) (a:Act) (s':St) (next:Act->World->Prop):Prop:=
 ∀ I' lam' a' w',Rel P B Ie he we I' lam' s' a' w'->a'.defers=a.defers->next a' w'
theorem Wm {ro:Option Nat} {n:Nat} {f:FuncId} {args:Array Value} {R:Ending->World->Prop} (h:CallsIn (FW none) n P f args w R):CallsIn (FW ro) n P f args w R:=h
theorem call_sim {A:FAn} {ev:Ev} (hN:yc P=true) (hor:wX P B A) (hev:Zn P B ev) (r:Rel P B Ie he we I lam s a w) {o:Oper} {f:Operand} {args:Array Operand} {ts:Array TypeId} (ho:o.op=.call { callee:=.value f,args:=args,argTypes:=ts }) {s':St}
  (h:((evV s f).bind fun f=>asSc f fun f=>asF f fun g nf sh cs=>(evVs s args.toList).bind fun as=>
   (spread sh cs).bind fun vs=>callK A ev g (vs.take nf++as++vs.drop nf) s.h fun rs h=>typed P o.type rs fun v=>some (setSl { s with h:=h } o.dst v))=some s')
  {ro:Option Nat} {next:Act->World->Prop} {Q:Exit->Act->World->Prop} (hn:wr P B Ie he we a s' next):o.wpIn (FW ro) 0 P a w next Q:=by
 replace h:=oB h
 obtain ⟨fv,hf,h⟩:=h
 replace h:=asSc_some.1 h
 obtain ⟨fs,rfl,h⟩:=h
 replace h:=asF_some.1 h
 obtain ⟨g,nf,sh,cs,rfl,h⟩:=h
 replace h:=oB h
 obtain ⟨as,has,h⟩:=h
 replace h:=oB h
 obtain ⟨vs,hvs,h⟩:=h
 have rf:=yC r hf
 obtain ⟨first,cap,ef,hnf,hsh,hfi,hcs⟩:=rf
 have ras:=yn r has
 have rvs:=yL (us:=(first++cap).toList) hvs hsh hcs
 have rfirst:AVRels I (vs.take nf) first.toList:=by
  have:=AVRels.take' nf rvs
  rw [Array.toList_append,List.take_left' (by simpa using hnf)] at this
  exact this
 have rcap:AVRels I (vs.drop nf) cap.toList:=by
  have:=AVRels.drop' nf rvs
  rw [Array.toList_append,List.drop_left' (by simpa using hnf)] at this
  exact this
 have rall:AVRels I (vs.take nf++as++vs.drop nf) (first.toList++args.toList.map a.eval++cap.toList):=(rfirst.append' ras).append' rcap
 have hB:=r.kp.size_B r.base
 have exec:∀ n,g=.func n->(∃ fn,P.funcs[n]?=some fn/\fn.body.isSome=true)->
   (o.semAt (FW ro).round a.eval).run P w=.ok (.enter n ((first++args.map a.eval++cap))) w:=by
  rintro n rfl ⟨fn,hfn,hbody⟩
  rw [Oper.semAt_eq _ _ _ (by rw [ho];intro c hc;cases hc)]
  have hname : (fn.name == "runtime.NumGoroutine") = false := by
   have hm:fn∈P.funcs:=Array.mem_of_getElem? hfn
   have:=Array.all_eq_true_iff_forall_mem.1 hN fn hm
   simpa using this
  have hb2:fn.body≠none:=by intro hb;simp [hb] at hbody
  have hname2 : fn.name ≠ "runtime.NumGoroutine" := by simpa using hname
  have ef':a.eval f=Value.func (.func n) first cap:=ef
  simp [execOp,ho,resolve,ef',Deferred.ofValue,invoke,callFunc,hfn,hname2,hb2]
 have tail:∀ rs h2,typed P o.type rs (fun v=>some (setSl { s with h:=h2 } o.dst v))=some s'->∀ I' v w',RetRel I' rs v->Rel P B Ie he we I' lam { s with h:=h2 } a w'->next (a.put o.dst v) w':=by
  intro rs h2 ht I' v w' hr rr
  obtain ⟨sv,hs,hsv⟩:=Zm (lam:=lam) ht hr
  cases hs
  exact hn I' lam _ w' (rr.put o.dst hsv) (Zy _ _ _)
 have fin:∀ n,g=.func n->∀ (R:Ending->World->Prop),(∃ fn,P.funcs[n]?=some fn/\fn.body.isSome=true)->CallsIn (FW none) 0 P n (first.toList++args.toList.map a.eval++cap.toList).toArray w R->
   (∀ e w',R e w'->match e with | .returned v=>next (a.put o.dst v) w' | _=>False)->o.wpIn (FW ro) 0 P a w next Q:=by
  intro n hg R hfn hc hR
  refine ⟨fun _ _=>trivial,?_⟩
  rw [exec n hg hfn,Oper.uponIn_enter]
  refine ⟨fun hd=>by simp [FW] at hd,CallsIn.mono (R:=R) ?_ fun e w' hr=>?_⟩
  ·have e1:(first.toList++args.toList.map a.eval++cap.toList).toArray=first++args.map a.eval++cap:=by simp
   rw [e1] at hc
   exact Wm hc
  ·have:=hR e w' hr
   cases e<;>first | exact this | exact this.elim
 unfold callK at h
 split at h
 ·rename_i n
  replace h:=(gB.1 h).2
  rcases cond_some.1 h with ⟨hi,h⟩ | ⟨_,h⟩
  ·simp only [Bool.and_eq_true] at hi
   split at h
   ·rename_i p hor1
    replace h:=gB.1 h
    obtain ⟨hp1,h⟩:=h
    replace h:=gB.1 h
    obtain ⟨hb,h⟩:=h
    obtain ⟨hfn,h2,hc⟩:=hor n _ _ hor1 hp1 w _ (wv hi.2 rall) hB
    refine fin n rfl _ hfn hc fun e w' hr=>?_
    cases e with
    | returned v=>
     obtain ⟨I',⟨arr,h1,h2⟩,_,hk⟩:=hr
     exact tail p.2 s.h h I v w' ⟨arr,wv hb h1,h2⟩ (r.callIso hk)
    | panicked c=>exact hr
    | outgrown=>exact hr
   obtain ⟨⟨rs,h2⟩,hev1,h⟩:=oB h
   obtain ⟨hb,h⟩:=gB.1 h
   obtain ⟨hfn,hc⟩:=hev.1 n _ _ _ _ hev1 [] w _ (wv hi.2 rall) ⟨rfl,fun i o L h1=>by simp at h1,fun i j o o' L L' h1=>by simp at h1⟩ hB
   refine fin n rfl _ hfn hc fun e w' hr=>?_
   cases e with
   | returned v=>
    obtain ⟨I',⟨arr,h1,h2⟩,_,hk⟩:=hr
    exact tail rs s.h h I v w' ⟨arr,wv hb h1,h2⟩ (r.callIso hk)
   | panicked c=>exact hr
   | outgrown=>exact hr
  ·obtain ⟨⟨rs,h2⟩,hev1,h⟩:=oB h
   obtain ⟨hfn,hc⟩:=hev.1 n _ _ _ _ hev1 I w _ rall r.hp hB
   refine fin n rfl _ hfn hc fun e w' hr=>?_
   cases e with
   | returned v=>
    obtain ⟨I',h1,h2',hk⟩:=hr
    exact tail rs h2 h I' v w' h1 (r.call h2' hk)
   | panicked c=>exact hr
   | outgrown=>exact hr
 ·rename_i id
  replace h:=(gB.1 h).2
  obtain ⟨⟨rs,h2⟩,hev1,h⟩:=oB h
  have hid:id < I.length:=hfi.1
  have hcap:cap=#[]:=hfi.2
  subst hcap
  have hL:=List.getElem?_eq_getElem hid
  obtain ⟨rr,hg,hsz,hround⟩:=hev.2 id _ _ _ _ hev1 I w _ _ rall r.hp hB hL
  have ef':a.eval f=Value.func (.yield I[id].b) first #[]:=by rw [ef];simp only [YJ,hL,Option.map_some,Option.getD_some]
  refine ⟨fun _ _=>trivial,?_⟩
  have e1:(first.toList++args.toList.map a.eval++(#[]:Array Value).toList).toArray=first++args.map a.eval:=by simp
  rw [e1] at hround
  have hsz2:(first++args.map a.eval).size=rr.params.size:=by rw [<- hsz,<- e1];simp
  have exec2:(o.semAt (FW ro).round a.eval).run P w=.ok (.round I[id].b rr.fn ((rr.params.zip (first++args.map a.eval)).foldl (fun tmps (t,a)=>tmps.setIfInBounds t a) rr.tmps) rr.assign rr.body) w:=by
   rw [Oper.semAt_eq _ _ _ (by rw [ho];intro c hc;cases hc)]
   simp only [execOp,ho,resolve,ef',Deferred.ofValue,invoke,callFunc,Sem.run_bind,Sem.run_pure,Result.andThen_ok,run_yield hg hsz2,pure_bind]
  rw [exec2,Oper.uponIn_round]
  refine ⟨fun hd=>by simp [FW] at hd,RoundIn.mono (R:=wL P B I s.h w rs h2) hround fun e w' hr=>?_⟩
  cases e with
  | returned v=>
   obtain ⟨I',h1,h2',hk⟩:=hr
   exact tail rs h2 h I' v w' h1 (r.call h2' hk)
  | panicked c=>exact hr.elim
  | outgrown=>exact hr.elim
 ·cases h
theorem op_in {A:FAn} {ev:Ev} (hN:yc P=true) (hor:wX P B A) (hev:Zn P B ev) (r:Rel P B Ie he we I lam s a w) {o:Oper} {s':St} (h:evOp P A ev o s some=some s')
  {ro:Option Nat} {next:Act->World->Prop} {Q:Exit->Act->World->Prop} (hn:wr P B Ie he we a s' next):o.wpIn (FW ro) 0 P a w next Q:=by
 cases hc:WT o.op with
 | false=>
  obtain ⟨v,w',I',lam',hx,hr⟩:=op_sim r hc h
  have hd:∀ c,o.op≠.defer c:=by
   intro c hd
   rcases hx with hx | ⟨hx,_⟩
   ·unfold evOp at h;rw [hd] at h;cases h
   ·unfold evOp at h;rw [hd] at h;cases h
  refine ⟨fun _ _=>trivial,?_⟩
  rw [Oper.semAt_eq _ _ _ hd]
  rcases hx with hx | ⟨hx,rfl⟩
  ·rw [hx];exact hn _ _ _ _ hr (Zy _ _ _)
  ·rw [hx];exact hn _ _ _ _ hr (Zy _ _ _)
 | true=>
  unfold WT at hc
  split at hc
  ·rename_i f args ts ho
   unfold evOp at h
   simp only [setK_eq,newLocalK_eq] at h
   rw [ho] at h
   exact call_sim hN hor hev r ho h hn
  ·cases hc
variable {P : Program} {A : FAn} {ev : Ev}
inductive Cl where
 | pure
 | read
 | mem
 | loc
 | new
 deriving DecidableEq
def zb (A:FAn) (o:Oper):Cl:=
 match o.op with
 | .move _ | .assign _ | .pick _ _ _ | .build _ _ | .nilCheck _ | .binOp _ _ _ _ _ | .unOp _ _ _ | .convert _ _ _ | .makeFunc _ _ _ | .fieldAddr _ _ _ | .indexAddr _ _ _ | .extract _ _ | .index _ _ _=>.pure
 | .load _ (.tmp d)=>cond (A.loc.contains d) .pure .read
 | .load _ _ | .slice _ _ _ _ _=>.read
 | .call { callee:=.builtin b,.. }=>match b with | .len | .max | .min=>.pure | _=>.mem
 | .alloc _ | .box _ _ | .buildSlice _ _ _=>match o.dst with | some d=>cond (A.loc.contains d) .new .mem | none=>.mem
 | .store _ _ _=>.loc
 | _=>.mem
theorem yy {s:St} {d:Option Tmp} {x:SV} {y:Operand} (h:∀ t,d=some t->y≠.tmp t):evA (setSl s d x) y=evA s y:=by
 cases d with
 | none=>rfl
 | some d=>
  cases y with
  | tmp t=>
   have:d≠t:=fun e=>h d rfl (by rw [e])
   simp [evA,setSl,Tr.get_set_ne _ this]
  | _=>rfl
theorem zw {s:St} {d:Option Tmp} {x:SV} {y:Operand} (h:∀ t,d=some t->y≠.tmp t):evV (setSl s d x) y=evV s y:=by
 simp only [evV,yy h]
theorem wO {s:St} {d:Option Tmp} {x:SV}:∀ {ys:List Operand},(∀ y∈ys,∀ t,d=some t->y≠.tmp t)->evVs (setSl s d x) ys=evVs s ys
 | [],_=>rfl
 | y::ys,h=>by simp only [evVs,zw (h y (List.mem_cons_self ..)),wO fun z hz=>h z (List.mem_cons_of_mem _ hz)]
theorem wY {s:St} {d:Option Tmp} {x:SV}:∀ {ys:List (Nat×Operand)},(∀ y∈ys,∀ t,d=some t->y.2≠.tmp t)->evParts (setSl s d x) ys=evParts s ys
 | [],_=>rfl
 | (i,y)::ys,h=>by simp only [evParts,zw (h (i,y) (List.mem_cons_self ..)),wY fun z hz=>h z (List.mem_cons_of_mem _ hz)]
theorem zC {s:St} {d e:Option Tmp} {x y:SV} (h:∀ t,d=some t->e≠some t):setSl (setSl s d x) e y=setSl (setSl s e y) d x:=by
 cases d with
 | none=>rfl
 | some d=>
  cases e with
  | none=>rfl
  | some e=>
   have:d≠e:=fun he=>h d rfl (by rw [he])
   simp only [setSl,Tr.set_comm this]
theorem zA (s:St) (d:Option Tmp) (v:SV) (h:AH):setSl { s with h:=h } d v={ setSl s d v with h:=h }:=by cases d<;>rfl
@[simp] theorem zf (s:St) (d:Option Tmp) (v:SV):(setSl s d v).h=s.h:=by cases d<;>rfl
@[simp] theorem xH (s:St) (d:Option Tmp) (v:SV):(setSl s d v).lo=s.lo:=by cases d<;>rfl
theorem xZ (s:St) (h:AH) (x:Operand):evA { s with h:=h } x=evA s x:=by cases x<;>rfl
theorem wb (s:St) (h:AH) (x:Operand):evV { s with h:=h } x=evV s x:=by simp only [evV,xZ]
theorem Uv (s:St) (h:AH):∀ (x:List Operand),evVs { s with h:=h } x=evVs s x
 | []=>rfl
 | x::xs=>by simp only [evVs,wb,Uv s h xs]
theorem WF (s:St) (h:AH):∀ (x:List (Nat×Operand)),evParts { s with h:=h } x=evParts s x
 | []=>rfl
 | (i,x)::xs=>by simp only [evParts,wb,WF s h xs]
theorem Yy {R:Type} {s:St} {d:Option Tmp} {x:SV} {y:Option Operand} (h:∀ z,y=some z->∀ t,d=some t->z≠.tmp t) {n:Nat} {c:Nat->Option R}:boundI (setSl s d x) y n c=boundI s y n c:=by
 cases y with
 | none=>rfl
 | some z=>simp only [boundI,zw (h z rfl)]
theorem loadAt_set {R:Type} {s:St} {d:Option Tmp} {x:SV} {a:SV} {n:Nat} {c:List Sc->Option R}:loadAt (setSl s d x) a n c=loadAt s a n c:=by
 unfold loadAt;simp only [xH,zf]
theorem load1_set {R:Type} {s:St} {d:Option Tmp} {x:SV} {a:SV} {c:Sc->Option R}:load1 (setSl s d x) a c=load1 s a c:=by
 unfold load1;simp only [xH,zf]
theorem Uw {R:Type} {s:St} {d:Option Tmp} {x:SV} {a:SV} {n z:Nat} {c:List Sc->Option R}:firstA (setSl s d x) a n z c=firstA s a n z c:=by
 unfold firstA;simp only [xH,zf]
theorem sliceS_set {R:Type} {s:St} {d:Option Tmp} {x:SV} {e:TypeId} {z:Nat} {v:Sc} {lo hi mx:Option Operand} (h1:∀ z,lo=some z->∀ t,d=some t->z≠.tmp t) (h2:∀ z,hi=some z->∀ t,d=some t->z≠.tmp t) (h3:∀ z,mx=some z->∀ t,d=some t->z≠.tmp t)
  {c:Sc->Option R}:sliceS (setSl s d x) e z v lo hi mx c=sliceS s e z v lo hi mx c:=by
 simp only [sliceS,Yy h1,Yy h2,Yy h3,zf]
variable {P : Program} {A : FAn} {ev : Ev}
def Ui (d:Option Tmp) (y:Operand):Prop:=∀ t,d=some t->y≠.tmp t
theorem builtinK_set {R:Type} {s:St} {d:Option Tmp} {x:SV} {b:Builtin} {ts:List TypeId} {args:List Operand} (h:∀ y∈args,Ui d y) {c:SV->St->Option R} :
  builtinK P A b ts args (setSl s d x) c=builtinK P A b ts args s fun v s'=>c v (setSl s' d x):=by
 unfold builtinK
 split
 ·rename_i y
  split
  ·simp only [yy (h y (by simp))]
  ·rfl
  ·rfl
 ·rename_i y r
  simp only [zw (h y (by simp)),wO (ys:=r) fun z hz=>h z (by simp [hz])]
 ·rename_i y r
  simp only [zw (h y (by simp)),wO (ys:=r) fun z hz=>h z (by simp [hz])]
 ·rename_i y z
  simp only [yy (h y (by simp)),yy (h z (by simp)),Uw,zf,<- zA]
 ·rename_i y z
  simp only [zw (h y (by simp)),yy (h z (by simp)),Uw,zf,<- zA]
 ·rfl
theorem newLocal_set {s:St} {d:Option Tmp} {x a:SV} {d':Tmp} {z:List Sc} (hd:∀ t,d=some t->some d'≠some t) (hk:killL d' x=x):newLocal (setSl s d x) d' a z=setSl (newLocal s d' a z) d x:=by
 cases d with
 | none=>rfl
 | some t=>
  have:t≠d':=fun e=>hd t rfl (by rw [e])
  simp only [newLocal,setSl,Tr.map_set,hk,Tr.set_comm this]
theorem evOp_set {R:Type} {s:St} {d:Option Tmp} {x:SV} {o:Oper} (hc:zb A o≠.loc) (h:∀ y∈o.op.operands,Ui d y) (hd:∀ t,d=some t->o.dst≠some t) (hk:zb A o=.new->∀ d',o.dst=some d'->killL d' x=x) {c:St->Option R} :
  evOp P A ev o (setSl s d x) c=evOp P A ev o s fun s'=>c (setSl s' d x):=by
 have hnew:∀ d',zb A o=.new->o.dst=some d'->∀ (s:St) a z,newLocal (setSl s d x) d' a z=setSl (newLocal s d' a z) d x:=
  fun d' hn hdst s a z=>newLocal_set (fun t ht=>by have:=hd t ht;rwa [hdst] at this) (hk hn d' hdst)
 have comm:∀ (s:St) v,setSl (setSl s d x) o.dst v=setSl (setSl s o.dst v) d x:=fun s v=>zC hd
 have hh:∀ (H:AH),{ setSl s d x with h:=H }=setSl { s with h:=H } d x:=fun H=>(zA s d x H).symm
 unfold evOp
 simp only [setK_eq,newLocalK_eq]
 unfold zb at hc
 split
 case h_1 y ho=>rw [ho] at h;simp only [Op.operands] at h;simp only [yy (h y (by simp)),comm]
 case h_2 y ho=>rw [ho] at h;simp only [Op.operands] at h;simp only [yy (h y (by simp)),comm]
 case h_3 q y z ho=>rw [ho] at h;simp only [Op.operands] at h;simp only [zw (h q (by simp)),yy (h y (by simp)),yy (h z (by simp)),comm]
 case h_4 e ho=>
  rw [ho] at hc
  cases hdst:o.dst with
  | none=>rfl
  | some d'=>
   rw [hdst] at comm
   cases hl:A.loc.contains d' with
   | true=>
    have hnl:=hnew d' (by simp only [zb,ho,hdst,hl,cond_true]) hdst
    simp only [Option.bind_some,hl,cond_true,hnl]
   | false=>
    simp only [Option.bind_some,hl,cond_false,zf,hh,comm]
 case h_5 e y ho=>
  rw [ho] at hc h
  simp only [Op.operands] at h
  cases hdst:o.dst with
  | none=>rfl
  | some d'=>
   rw [hdst] at comm
   cases hl:A.loc.contains d' with
   | true=>
    have hnl:=hnew d' (by simp only [zb,ho,hdst,hl,cond_true]) hdst
    simp only [Option.bind_some,hl,cond_true,hnl,zw (h y (by simp))]
   | false=>
    simp only [Option.bind_some,hl,cond_false,zf,hh,comm,zw (h y (by simp))]
 case h_6 t ps ho=>
  rw [ho] at h;simp only [Op.operands] at h
  simp only [wY (ys:=ps.toList) (fun y hy=>h y.2 (by simp only [List.mem_toArray,List.mem_map];exact ⟨y,hy,rfl⟩)),comm]
 case h_7 t n ps ho=>
  rw [ho] at hc h
  simp only [Op.operands] at h
  cases hdst:o.dst with
  | none=>rfl
  | some d'=>
   rw [hdst] at comm
   cases hl:A.loc.contains d' with
   | true=>
    have hnl:=hnew d' (by simp only [zb,ho,hdst,hl,cond_true]) hdst
    simp only [Option.bind_some,hl,cond_true,hnl,wY (ys:=ps.toList) (fun y hy=>h y.2 (by simp only [List.mem_toArray,List.mem_map];exact ⟨y,hy,rfl⟩))]
   | false=>
    simp only [Option.bind_some,hl,cond_false,zf,hh,comm,wY (ys:=ps.toList) (fun y hy=>h y.2 (by simp only [List.mem_toArray,List.mem_map];exact ⟨y,hy,rfl⟩))]
 case h_8 t y ho=>rw [ho] at h;simp only [zf,Op.operands] at h;simp only [yy (h y (by simp)),loadAt_set,load1_set,comm,zf]
 case h_9 t y z ho=>rw [ho] at hc;simp at hc
 case h_10 y ho=>rw [ho] at h;simp only [Op.operands] at h;simp only [yy (h y (by simp)),comm]
 case h_11 op t y z t' ho=>rw [ho] at h;simp only [Op.operands] at h;simp only [zw (h y (by simp)),zw (h z (by simp)),comm]
 case h_12 op t y ho=>rw [ho] at h;simp only [Op.operands] at h;simp only [zw (h y (by simp)),comm]
 case h_13 src dst y ho=>rw [ho] at h;simp only [Op.operands] at h;simp only [zw (h y (by simp)),comm]
 case h_14 f first captured ho=>
  rw [ho] at h;simp only [Op.operands] at h
  simp only [wO (ys:=first.toList) (fun y hy=>h y (by simp only [Array.mem_append];exact .inl (by simpa using hy))),wO (ys:=captured.toList) (fun y hy=>h y (by simp only [Array.mem_append];exact .inr (by simpa using hy))),comm]
 case h_15 t l m ho=>rw [ho] at h;simp only [Op.operands] at h;simp only [zw (h l (by simp)),zw (h m (by simp)),zf,hh,comm]
 case h_16 t y lo hi mx ho=>
  rw [ho] at h;simp only [Op.operands] at h
  have h1:∀ z,lo=some z->Ui d z:=fun z hz=>h z (by subst hz;simp)
  have h2:∀ z,hi=some z->Ui d z:=fun z hz=>h z (by subst hz;simp)
  have h3:∀ z,mx=some z->Ui d z:=fun z hz=>h z (by subst hz;simp)
  simp only [zw (h y (by simp)),sliceS_set h1 h2 h3,zf,comm]
 case h_17 t y i ho=>rw [ho] at h;simp only [Op.operands] at h;simp only [yy (h y (by simp)),comm]
 case h_18 t y i ho=>rw [ho] at h;simp only [Op.operands] at h;simp only [yy (h y (by simp)),zw (h y (by simp)),zw (h i (by simp)),comm]
 case h_19 y i ho=>rw [ho] at h;simp only [Op.operands] at h;simp only [yy (h y (by simp)),comm]
 case h_20 b args ts ho=>
  rw [ho] at h;simp only [Op.operands,Call.operands] at h
  rw [builtinK_set fun y hy=>h y (by simpa using hy)]
  simp only [comm]
 case h_21 f args ts ho=>
  rw [ho] at h;simp only [Op.operands,Call.operands] at h
  simp only [zw (h f (by simp)),wO (ys:=args.toList) (fun y hy=>h y (by simp only [Array.mem_append];simp;right;simpa using hy)),zf,hh,comm]
 case h_22 t y i ho=>rw [ho] at h;simp only [Op.operands] at h;simp only [zw (h y (by simp)),zw (h i (by simp)),comm]
 case h_23=>rfl
end Go.AM
