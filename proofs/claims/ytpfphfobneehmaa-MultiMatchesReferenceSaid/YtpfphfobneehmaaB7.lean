/- Where two lists are made whose order is open: the regions. -/
import Derived.Test.YtpfphfobneehmaaB6
import Derived.LoopNIn
import Derived.ProofKit
set_option linter.all false
namespace Go.AM
open Go.RowKit
variable {P : Program} {A : FAn} {ev : Ev} {B : Nat} {Ie : List Loc} {he : AH} {we : World} {I : List Loc} {lam : Nat -> Nat} {s t : St} {a : Act} {w : World} {ops : Array Oper}
def YO (A:FAn) (o:Oper):Bool:=match o.op with
 | .call { callee:=.value (.func n),args,.. }=>(A.fr.any fun p=>Nat.beq p.1 n&&Nat.beq p.2 args.size)&&!(A.iso.contains n)
 | _=>false
def isBd (o:Oper):Bool:=match o.op with | .build _ _=>true | _=>false
def WU (A:FAn) (o:Oper):Bool:=YO A o||isBd o
def zD (A:FAn) (o:Oper):Bool:=o.guard.isNone&&(WU A o||match o.op with
 | .move _ | .assign _ | .makeSlice _ _ _ | .load _ _ | .store _ _ _ | .fieldAddr _ _ _=>true
 | .call { callee:=.builtin .len,.. }=>true
 | .alloc _ | .buildSlice _ _ _ | .box _ _=>(match o.dst with | some d=>!(A.loc.contains d) | none=>false)
 | _=>false)
def xC (o:Oper):Bool:=match o.op with | .makeSlice _ _ _ | .alloc _ | .buildSlice _ _ _ | .box _ _=>true | _=>false
def isSt (o:Oper):Bool:=match o.op with | .store _ _ _=>true | _=>false
def twin (A:FAn) (ops:Array Oper) (x y:Oper):Bool:=WB A ops x y||(xC x&&xC y&&x.apart ops y)||(xC x&&isSt y&&x.apart ops y)||(YO A x&&xC y&&x.apart ops y)
def dOk (A:FAn) (ops:Array Oper):Bool:=dOk0 A ops||(ops.toList.all (zD A)&&xW (twin A ops) A ops (masks ops.toList []) 0 ops.toList)
theorem yO {o:Oper} (h:zD A o=true):o.guard=none/\(WU A o=true\/(∃ x,o.op=.move x\/o.op=.assign x)\/xC o=true\/(∃ t x,o.op=.load t x)\/(∃ t x y,o.op=.store t x y)\/(∃ t x i,o.op=.fieldAddr t x i)\/∃ args ts,o.op=.call { callee:=.builtin .len,args:=args,argTypes:=ts }):=by
 unfold zD at h
 rw [Bool.and_eq_true_iff,Bool.or_eq_true] at h
 refine ⟨by simpa using h.1,?_⟩
 rcases h.2 with h | h
 ·exact .inl h
 right
 split at h
 ·rename_i x ho;exact .inl ⟨x,.inl ho⟩
 ·rename_i x ho;exact .inl ⟨x,.inr ho⟩
 ·rename_i ho;right;left;unfold xC;rw [ho]
 ·rename_i ty x ho;exact .inr (.inr (.inl ⟨ty,x,ho⟩))
 ·rename_i ty x y ho;exact .inr (.inr (.inr (.inl ⟨ty,x,y,ho⟩)))
 ·rename_i ty x i ho;exact .inr (.inr (.inr (.inr (.inl ⟨ty,x,i,ho⟩))))
 ·rename_i args ts ho;exact .inr (.inr (.inr (.inr (.inr ⟨args,ts,ho⟩))))
 ·rename_i ho;right;left;unfold xC;rw [ho]
 ·rename_i ho;right;left;unfold xC;rw [ho]
 ·rename_i ho;right;left;unfold xC;rw [ho]
 ·cases h
theorem yw {o:Oper} (hg:o.guard=none) (s:St):za P A ev ops o s=evOp P A ev o s some:=by unfold za;rw [hg]
theorem Tu {o:Oper} (h:YO A o=true):∃ n args ts,o.op=.call { callee:=.value (.func n),args:=args,argTypes:=ts }/\(A.fr.any fun p=>Nat.beq p.1 n&&Nat.beq p.2 args.size)=true/\A.iso.contains n=false:=by
 unfold YO at h
 split at h
 ·rename_i n args ts ho
  rw [Bool.and_eq_true_iff] at h
  exact ⟨n,args,ts,ho,h.1,by simpa using h.2⟩
 ·cases h
theorem simple_call {o:Oper} (h:zD A o=true) (hf:YO A o≠true):WT o.op=false:=by
 obtain ⟨_,h | ⟨x,h | h⟩ | h | ⟨t,x,h⟩ | ⟨t,x,y,h⟩ | ⟨t,x,i,h⟩ | ⟨a,t,h⟩⟩:=yO h
 ·unfold WU at h
  rcases Bool.or_eq_true_iff.1 h with h | h
  ·exact absurd h hf
  ·unfold isBd at h;split at h<;>first | (rename_i h';rw [h'];rfl) | cases h
 ·rw [h];rfl
 ·rw [h];rfl
 ·unfold xC at h;split at h<;>first | (rename_i h';rw [h'];rfl) | cases h
 ·rw [h];rfl
 ·rw [h];rfl
 ·rw [h];rfl
 ·rw [h];rfl
theorem xP {o:Oper} (h:zD A o=true) (ho:(∃ e,o.op=.alloc e)\/(∃ t n ps,o.op=.buildSlice t n ps)\/∃ e x,o.op=.box e x):∃ d,o.dst=some d/\A.loc.contains d=false:=by
 unfold zD at h
 rw [Bool.and_eq_true_iff] at h
 have hf:WU A o=false:=by unfold WU YO isBd;rcases ho with ⟨e,ho⟩ | ⟨t,n,ps,ho⟩ | ⟨e,x,ho⟩<;>rw [ho]<;>rfl
 have h:=h.2
 rw [hf,Bool.false_or] at h
 cases hd:o.dst with
 | none=>rcases ho with ⟨e,ho⟩ | ⟨t,n,ps,ho⟩ | ⟨e,x,ho⟩<;>rw [ho,hd] at h<;>cases h
 | some d=>rcases ho with ⟨e,ho⟩ | ⟨t,n,ps,ho⟩ | ⟨e,x,ho⟩<;>rw [ho,hd] at h<;>exact ⟨d,rfl,by simpa using h⟩
theorem Qv {o:Oper} (hg:o.guard=none) {x:Operand} (ho:o.op=.move x\/o.op=.assign x) (s:St):za P A ev ops o s=(evA s x).bind fun v=>some (setSl s o.dst v):=by
 unfold za
 rw [hg]
 unfold evOp
 rcases ho with ho | ho<;>rw [ho]<;>simp only [setK_eq]
theorem SV.ren_id (v:SV):v.ren (fun i=>i)=v:=by
 cases v with
 | v a=>rw [SV.ren,AV.ren_id]
 | t vs=>rw [SV.ren,AV.renL_id]
 | _=>rfl
theorem AO.ren_id (o:AO):o.ren (fun i=>i)=o:=by
 cases o with
 | row w e cs=>rw [AO.ren,Sc.renL_id]
 | box e cs=>rw [AO.ren,Sc.renL_id]
 | dead=>rfl
 | loop l=>rw [AO.ren,Tr.map_id' fun i v _=>SV.ren_id v]
theorem Vc {f:Nat->Nat} {s s2:St}:∀ {ps:List (Nat×Operand)},(∀ y∈ps,evV s2 y.2=(evV s y.2).map (AV.ren f))->evParts s2 ps=(evParts s ps).map fun vs=>vs.map fun p=>(p.1,p.2.ren f)
 | [],_=>rfl
 | (i,x)::r,h=>by
  simp only [evParts]
  rw [h (i,x) (List.mem_cons_self ..),Vc fun y hy=>h y (List.mem_cons_of_mem _ hy)]
  cases evV s x with
  | none=>rfl
  | some v=>cases evParts s r<;>rfl
theorem VV {f:Nat->Nat} {pl:Nat->Option (Nat×Nat)}:∀ {vs:List (Nat×AV)} {c:List Sc},fillA pl (Sc.renL f c) (vs.map fun p=>(p.1,p.2.ren f))=(fillA pl c vs).map (Sc.renL f)
 | [],c=>rfl
 | (i,v)::r,c=>by
  simp only [fillA,List.map_cons]
  cases pl i with
  | none=>rfl
  | some p=>
   simp only [Option.bind_some,Zf,zY]
   cases Nat.beq v.cells.length p.2 with
   | false=>rfl
   | true=>
    simp only [guardB,cond_true]
    have e:put (Sc.renL f c) p.1 (Sc.renL f v.cells)=(put c p.1 v.cells).map (Sc.renL f):=by
     unfold put
     rw [zY,zY]
     cases decide (p.1+v.cells.length<=c.length) with
     | false=>rfl
     | true=>simp only [guardB,cond_true,Option.map_some,Wh]
    rw [e]
    cases put c p.1 v.cells with
    | none=>rfl
    | some c2=>simp only [Option.map_some,Option.bind_some];exact VV
theorem xr {o:Oper} (hs:zD A o=true) (hm:xC o=true) {s t:St} (h:za P A ev ops o s=some t) :
  ∃ (O:AO) (v:Nat->SV),(∀ f n,(v n).ren f=v (f n))/\t=setSl { s with h:=s.h++[O] } o.dst (v s.h.length)/\
   ∀ (f:Nat->Nat) (s2:St),(∀ y∈o.op.operands,evV s2 y=(evV s y).map (AV.ren f))->za P A ev ops o s2=some (setSl { s2 with h:=s2.h++[O.ren f] } o.dst (v s2.h.length)):=by
 have hg:=(yO hs).1
 rw [yw hg] at h
 unfold xC at hm
 split at hm
 ·rename_i ty lo mo ho
  unfold evOp at h
  rw [ho] at h
  simp only [setK_eq] at h
  obtain ⟨e,he',h⟩:=oB h
  obtain ⟨z,hz,h⟩:=oB h
  obtain ⟨lv,hl,h1⟩:=oB h
  obtain ⟨mv,hmv,h2⟩:=oB h1
  clear h h1
  have h:=h2
  clear h2
  split at h
  ·rename_i l m
   obtain ⟨hgd,h⟩:=gB.1 h
   cases h
   refine ⟨.row true e (rep l.toNat z),fun n=>.v (.sc (.sl n 0 l.toNat)),fun f n=>rfl,rfl,fun f s2 g=>?_⟩
   rw [yw hg]
   unfold evOp
   rw [ho]
   simp only [setK_eq,he',hz,Option.bind_some]
   rw [g lo (by rw [ho];simp [Op.operands]),g mo (by rw [ho];simp [Op.operands]),hl,hmv]
   simp only [Option.bind_some,Option.map_some,AV.ren,Sc.ren,hgd,guardB,cond_true,AO.ren,TI (xo hz)]
  ·cases h
 ·rename_i e ho
  obtain ⟨d,hd,hloc⟩:=xP hs (.inl ⟨e,ho⟩)
  unfold evOp at h
  rw [ho] at h
  simp only [setK_eq,hd,Option.bind_some] at h
  obtain ⟨z,hz,h⟩:=oB h
  obtain ⟨hgd,h⟩:=gB.1 h
  rw [hloc,cond_false] at h
  cases h
  refine ⟨.box e z,fun n=>.v (.sc (.ptr n 0)),fun f n=>rfl,by rw [hd],fun f s2 _=>?_⟩
  rw [yw hg]
  unfold evOp
  rw [ho]
  simp only [setK_eq,hd,Option.bind_some,hz,hgd,guardB,cond_true,hloc,cond_false,AO.ren,xo hz]
 ·rename_i ty n ps ho
  obtain ⟨d,hd,hloc⟩:=xP hs (.inr (.inl ⟨ty,n,ps,ho⟩))
  unfold evOp at h
  rw [ho] at h
  simp only [setK_eq,hd,Option.bind_some] at h
  obtain ⟨e,he',h⟩:=oB h
  obtain ⟨z,hz,h⟩:=oB h
  obtain ⟨hgd,h⟩:=gB.1 h
  obtain ⟨vs,hvs,h⟩:=oB h
  obtain ⟨cs,hcs,h⟩:=oB h
  rw [hloc,cond_false] at h
  cases h
  refine ⟨.row true e cs,fun m=>.v (.sc (.sl m 0 n)),fun f m=>rfl,by rw [hd],fun f s2 g=>?_⟩
  rw [yw hg]
  unfold evOp
  rw [ho]
  have hp:=Vc (f:=f) (s:=s) (s2:=s2) (ps:=ps.toList) fun y hy=>g y.2 (by
   rw [ho];simp only [Op.operands,List.mem_toArray,List.mem_map];exact ⟨y,hy,rfl⟩)
  have hfl:=VV (f:=f) (pl:=fun i=>some (i*P.cellsOf e,P.cellsOf e)) (vs:=vs) (c:=rep n z)
  rw [TI (xo hz),hcs] at hfl
  simp only [setK_eq,hd,Option.bind_some,he',hz,hgd,guardB,cond_true,hp,hvs,Option.map_some,hfl,hloc,cond_false,AO.ren]
 ·rename_i e x ho
  obtain ⟨d,hd,hloc⟩:=xP hs (.inr (.inr ⟨e,x,ho⟩))
  unfold evOp at h
  rw [ho] at h
  simp only [setK_eq,hd,Option.bind_some] at h
  obtain ⟨v,hv,h⟩:=oB h
  obtain ⟨hgd,h⟩:=gB.1 h
  rw [hloc,cond_false] at h
  cases h
  refine ⟨.box e v.cells,fun n=>.v (.sc (.ptr n 0)),fun f n=>rfl,by rw [hd],fun f s2 g=>?_⟩
  rw [yw hg]
  unfold evOp
  rw [ho]
  simp only [setK_eq,hd,Option.bind_some]
  rw [g x (by rw [ho];simp [Op.operands]),hv]
  simp only [Option.map_some,Option.bind_some,Zf,zY,hgd,guardB,cond_true,hloc,cond_false,AO.ren]
 ·cases hm
theorem Th {t:TypeId} {v:AV} {R:Type} {c:AV->Option R} {r:R} (h:typed1 P t v c=some r):∃ v',c v'=some r/\∀ (f:Nat->Nat) {S:Type} (d:AV->Option S),typed1 P t (v.ren f) d=d (v'.ren f):=by
 unfold typed1 at h ⊢
 rcases cond_some.1 h with ⟨g,h⟩ | ⟨g,h⟩
 ·cases v with
  | sc x=>cases h
  | agg l=>
   simp only [asAgg] at h
   have h4:=zV (c:=fun ys=>c (.agg ys)) h
   refine ⟨_,h4,fun f S d=>?_⟩
   rw [g,cond_true]
   simp only [AV.ren,asAgg]
   rw [wu h]
 ·cases v with
  | agg l=>cases h
  | sc x=>
   simp only [asSc] at h
   have h4:=yi (c:=fun y=>c (.sc y)) h
   refine ⟨_,h4,fun f S d=>?_⟩
   rw [g,cond_false]
   simp only [AV.ren,asSc]
   rw [Zx h]
theorem Vm:∀ {ts:List TypeId} {l:List AV} {R:Type} {c:List AV->Option R} {r:R},typedAll P ts l c=some r->∃ l',c l'=some r/\∀ (f:Nat->Nat) {S:Type} (d:List AV->Option S),typedAll P ts (l.map (AV.ren f)) d=d (l'.map (AV.ren f))
 | [],l,R,c,r,h=>by
  simp only [typedAll] at h
  obtain ⟨rfl,h⟩:=asN_some.1 h
  exact ⟨[],h,fun f S d=>rfl⟩
 | t::ts,l,R,c,r,h=>by
  simp only [typedAll] at h
  replace h:=asC_some.1 h
  obtain ⟨x,xs,rfl,h⟩:=h
  obtain ⟨v',h1,k1⟩:=Th h
  obtain ⟨l',h2,k2⟩:=Vm h1
  refine ⟨v'::l',h2,fun f S d=>?_⟩
  simp only [typedAll,List.map_cons,asC]
  rw [k1,k2]
theorem typed_ren {t:TypeId} {vs:List AV} {R:Type} {c:SV->Option R} {r:R} (h:typed P t vs c=some r):∃ v,c v=some r/\∀ (f:Nat->Nat) {S:Type} (d:SV->Option S),typed P t (vs.map (AV.ren f)) d=d (v.ren f):=by
 unfold typed at h ⊢
 split at h
 ·obtain ⟨l',h1,k1⟩:=Vm h
  obtain ⟨g,h1⟩:=gB.1 h1
  refine ⟨_,h1,fun f S d=>?_⟩
  rw [k1,List.length_map,g]
  rfl
 ·replace h:=asC_some.1 h
  obtain ⟨x,xs,rfl,h⟩:=h
  replace h:=asN_some.1 h
  obtain ⟨rfl,h⟩:=h
  obtain ⟨v',h1,k1⟩:=Th h
  refine ⟨_,h1,fun f S d=>?_⟩
  simp only [List.map_cons,List.map_nil,asC,asN]
  rw [k1]
  rfl
theorem evVs_ren {f:Nat->Nat} {s s2:St}:∀ {ys:List Operand},(∀ y∈ys,evV s2 y=(evV s y).map (AV.ren f))->evVs s2 ys=(evVs s ys).map (List.map (AV.ren f))
 | [],_=>rfl
 | y::ys,h=>by
  simp only [evVs]
  rw [h y (List.mem_cons_self ..),evVs_ren fun z hz=>h z (List.mem_cons_of_mem _ hz)]
  cases evV s y with
  | none=>rfl
  | some v=>cases evVs s ys<;>rfl
theorem evVs_len {s:St}:∀ {ys:List Operand} {as:List AV},evVs s ys=some as->as.length=ys.length
 | [],as,h=>by cases h;rfl
 | y::ys,as,h=>by
  simp only [evVs] at h
  obtain ⟨v,_,h⟩:=oB h
  obtain ⟨vs,h2,h⟩:=oB h
  cases h
  simp only [List.length_cons,evVs_len h2]
theorem fr_form (hro:zR A ev) {o:Oper} (hg:o.guard=none) (hf:YO A o=true) {s t:St} (h:za P A ev ops o s=some t) :
  ∃ v,t=setSl s o.dst v/\∀ (f:Nat->Nat) (s2:St),(∀ y∈o.op.operands,evV s2 y=(evV s y).map (AV.ren f))->za P A ev ops o s2=some (setSl s2 o.dst (v.ren f)):=by
 obtain ⟨n,args,ts,ho,hfr,hiso⟩:=Tu hf
 rw [yw hg,xp ho] at h
 obtain ⟨⟨v,h'⟩,hv,h⟩:=oB h
 cases h
 unfold xY at hv
 simp only [evV,evA,Option.bind_some,SV.val,asSc,asF,spread,List.take_nil,List.drop_nil,List.nil_append,List.append_nil] at hv
 obtain ⟨as,has,hv⟩:=oB hv
 unfold callK at hv
 simp only [hiso,Bool.false_and,cond_false] at hv
 obtain ⟨hrov,hv⟩:=gB.1 hv
 obtain ⟨⟨rs,h1⟩,hev,hv⟩:=oB hv
 obtain ⟨v',hv',kv⟩:=typed_ren hv
 cases hv'
 obtain ⟨e1,e2⟩:=hro.2.1 n args.size hfr as s.h rs _ (by rw [evVs_len has];simp) hev
 subst e1
 refine ⟨v,rfl,fun f s2 g=>?_⟩
 rw [yw hg,xp ho]
 unfold xY
 simp only [evV,evA,Option.bind_some,SV.val,asSc,asF,spread,List.take_nil,List.drop_nil,List.nil_append,List.append_nil]
 have hvs:=evVs_ren (f:=f) (s:=s) (s2:=s2) (ys:=args.toList) fun y hy=>g y (by
  rw [ho];simp only [Op.operands,Call.operands];simp only [Array.mem_append,Array.mem_toList_iff] at hy ⊢;first | exact .inr hy | exact hy)
 rw [hvs,has]
 simp only [Option.map_some,Option.bind_some]
 unfold callK
 simp only [hiso,Bool.false_and,cond_false,hrov,guardB,cond_true]
 rw [e2 f s2.h,Option.bind_some,kv]
 rfl
theorem eq_form (hro:zR A ev) {o:Oper} (hg:o.guard=none) (hf:WU A o=true) {s t:St} (h:za P A ev ops o s=some t) :
  ∃ v,t=setSl s o.dst v/\∀ (f:Nat->Nat) (s2:St),(∀ y∈o.op.operands,evV s2 y=(evV s y).map (AV.ren f))->za P A ev ops o s2=some (setSl s2 o.dst (v.ren f)):=by
 unfold WU at hf
 rcases Bool.or_eq_true_iff.1 hf with hf | hf
 ·exact fr_form hro hg hf h
 unfold isBd at hf
 split at hf
 case h_2=>cases hf
 rename_i ty ps ho
 rw [yw hg] at h
 unfold evOp at h
 rw [ho] at h
 simp only [setK_eq] at h
 obtain ⟨z,hz,h⟩:=oB h
 obtain ⟨pl,hpl,h⟩:=oB h
 obtain ⟨vs,hvs,h⟩:=oB h
 obtain ⟨cs,hcs,h⟩:=oB h
 cases h
 refine ⟨.v (.agg cs),rfl,fun f s2 g=>?_⟩
 rw [yw hg]
 unfold evOp
 rw [ho]
 have hp:=Vc (f:=f) (s:=s) (s2:=s2) (ps:=ps.toList) fun y hy=>g y.2 (by
  rw [ho];simp only [Op.operands,List.mem_toArray,List.mem_map];exact ⟨y,hy,rfl⟩)
 have hfl:=VV (f:=f) (pl:=pl) (vs:=vs) (c:=z)
 rw [xo hz,hcs] at hfl
 simp only [setK_eq,Option.bind_some,hz,hpl,hp,hvs,Option.map_some,hfl]
 rfl
theorem one_ren (hro:zR A ev) {o:Oper} (ho:zD A o=true) {q:Nat} (hq:q+1 < s.h.length) (h:za P A ev ops o s=some t):za P A ev ops o (St.ren q s)=some (St.ren q t)/\s.h.length<=t.h.length:=by
 obtain ⟨hg,hk | ⟨x,hk⟩ | hk | ⟨t,x,hk⟩ | ⟨t,x,y,hk⟩ | ⟨t,x,i,hk⟩ | ⟨a,t,hk⟩⟩:=yO ho
 ·obtain ⟨v,rfl,hall⟩:=eq_form hro hg hk h
  rw [hall (tr q) (St.ren q s) fun y _=>Tq q s y,yp]
  exact ⟨rfl,by simp⟩
 ·rw [Qv hg hk] at h ⊢
  obtain ⟨v,hv,h⟩:=oB h
  cases h
  rw [ZA,hv,yp]
  exact ⟨rfl,by simp⟩
 ·obtain ⟨O,v,hv,ht,hall⟩:=xr ho hk h
  rw [hall (tr q) (St.ren q s) fun y _=>Tq q s y,ht,yp,push_ren hq,hv,tr_gt hq]
  rw [show (St.ren q s).h.length=s.h.length by simp [St.ren,xL]]
  exact ⟨rfl,by simp⟩
 ·rw [yw hg] at h ⊢;exact op_ren_load hk hq h
 ·rw [yw hg] at h ⊢;exact op_ren_store hk hq h
 ·rw [yw hg] at h ⊢;exact Vb hk h
 ·rw [yw hg] at h ⊢;exact UU hk h
theorem one_grow (hro:zR A ev) {o:Oper} (ho:zD A o=true) (h:za P A ev ops o s=some t):s.h.length<=t.h.length:=by
 obtain ⟨hg,hk | ⟨x,hk⟩ | hk | ⟨t,x,hk⟩ | ⟨t,x,y,hk⟩ | ⟨t,x,i,hk⟩ | ⟨a,t,hk⟩⟩:=yO ho
 ·obtain ⟨v,rfl,hall⟩:=eq_form hro hg hk h
  simp
 ·rw [Qv hg hk] at h
  obtain ⟨v,hv,h⟩:=oB h
  cases h;simp
 ·obtain ⟨O,v,hv,ht,hall⟩:=xr ho hk h
  rw [ht];simp
 ·rw [yw hg] at h;exact grow_load hk h
 ·rw [yw hg] at h;exact grow_store hk h
 ·rw [yw hg] at h;exact (Vb (q:=0) hk h).2
 ·rw [yw hg] at h;exact (UU (q:=0) hk h).2
theorem Tw (hro:zR A ev) (hall:∀ (j:Nat) o,ops[j]?=some o->zD A o=true) {q:Nat}:∀ (l:List Nat) {s t:St},q+1 < s.h.length->zq P A ev ops l s=some t->zq P A ev ops l (St.ren q s)=some (St.ren q t)/\s.h.length<=t.h.length
 | [],s,t,hq,h=>by cases h;exact ⟨rfl,Nat.le_refl _⟩
 | i::l,s,t,hq,h=>by
  cases hi:ops[i]? with
  | none=>
   have e:∀ u:St,zq P A ev ops (i::l) u=zq P A ev ops l u:=fun u=>by simp [zq,hi]
   rw [e] at h ⊢
   exact Tw hro hall l hq h
  | some o=>
   rw [zG hi] at h ⊢
   obtain ⟨s1,h1,h⟩:=oB h
   obtain ⟨e1,e2⟩:=one_ren hro (hall i o hi) hq h1
   have hq1:q+1 < s1.h.length:=by omega
   obtain ⟨e3,e4⟩:=Tw hro hall l hq1 h
   rw [e1]
   exact ⟨e3,by omega⟩
def RW (P:Program) (B:Nat) (s:St):Prop:=∃ (Ie:List Loc) (he:AH) (we:World) (I:List Loc) (lam:Nat->Nat) (a:Act) (w:World),Rel P B Ie he we I lam s a w
theorem RW.wf (h:RW P B s):Wf s:=by
 obtain ⟨_,_,_,_,_,_,_,r⟩:=h
 exact r.wf
theorem rw_simple (hev:Zn P B ev) {o:Oper} (ho:zD A o=true) (hw:RW P B s) (h:za P A ev ops o s=some t):RW P B t:=by
 obtain ⟨Ie,he,we,I,lam,a,w,r⟩:=hw
 rw [yw (yO ho).1] at h
 by_cases hf:YO A o=true
 ·obtain ⟨n,args,ts,hop,_,hiso⟩:=Tu hf
  rw [xp hop] at h
  obtain ⟨⟨v,h'⟩,hv,h⟩:=oB h
  cases h
  unfold xY at hv
  simp only [evV,evA,Option.bind_some,SV.val,asSc,asF,spread,List.take_nil,List.drop_nil,List.nil_append,List.append_nil] at hv
  obtain ⟨as,has,hv⟩:=oB hv
  unfold callK at hv
  simp only [hiso,Bool.false_and,cond_false] at hv
  replace hv:=(gB.1 hv).2
  obtain ⟨⟨rs,h1⟩,hev1,hv⟩:=oB hv
  obtain ⟨_,hc⟩:=hev.1 n _ _ _ _ hev1 I w _ (yn r has) r.hp (r.kp.size_B r.base)
  obtain ⟨e,w',_,hR,_⟩:=hc.2 [] (by simp [Fence.room,FW])
  cases e with
  | returned v0=>
   obtain ⟨I',g1,g2,hk⟩:=hR
   have rr:=r.call g2 hk
   obtain ⟨sv,hs,hsv⟩:=Zm (lam:=lam) hv g1
   cases hs
   exact ⟨Ie,he,we,I',lam,a.put o.dst v0,w',rr.put o.dst hsv⟩
  | panicked c=>exact hR.elim
  | outgrown=>exact hR.elim
 ·obtain ⟨v,w',I',lam',_,r'⟩:=op_sim r (simple_call ho hf) h
  exact ⟨Ie,he,we,I',lam',_,w',r'⟩
theorem ZL {s:St} {h:AH} {d:Option Tmp} {v:SV} {x:Operand} (hx:∀ t,d=some t->x≠.tmp t):evV (setSl { s with h:=h } d v) x=evV s x:=by rw [zw hx,wb]
theorem yK {x y:Oper} {t:Tmp} (h:t ∉ y.looksAt ops) {z:Operand} (hz:z∈y.op.operands):z≠.tmp t:=by
 rintro rfl
 exact h (List.mem_append_left _ (List.mem_filterMap.2 ⟨.tmp t,by simpa using hz,rfl⟩))
theorem evV_wf {s:St} (hw:Wf s) {q:Nat} (hq:s.h.length<=q) (x:Operand):(evV s x).map (AV.ren (tr q))=evV s x:=by
 unfold evV
 cases x with
 | tmp d=>
  simp only [evA]
  cases hd:s.sl.get d with
  | none=>rfl
  | some v=>
   have:=hw.sl q hq d v hd
   cases v with
   | v a=>
    have e:a.ren (tr q)=a:=by
     have h2:SV.v (a.ren (tr q))=SV.v a:=this
     cases h2':a.ren (tr q) with
     | sc x=>rw [h2'] at h2;cases h2;rfl
     | agg l=>rw [h2'] at h2;cases h2;rfl
    simp only [Option.bind_some,SV.val,Option.map_some,e]
   | _=>rfl
 | const v=>
  simp only [evA]
  cases hc:ofConst v with
  | none=>rfl
  | some x=>simp only [Option.bind_some,SV.val,Option.map_some,AV.ren,Za hc]
 | func f=>rfl
 | global g=>rfl
theorem ZK {s s2:St} {x:Operand} (h:evV s2 x=evV s x):evV s2 x=(evV s x).map (AV.ren fun i=>i):=by
 rw [h]
 cases evV s x with
 | none=>rfl
 | some v=>rw [Option.map_some,AV.ren_id]
theorem push_inj {s:St} {d:Option Tmp} {v w:SV} {O O':AO} (h:setSl { s with h:=s.h++[O] } d v=setSl { s with h:=s.h++[O'] } d w):O=O':=by
 have:=congrArg St.h h
 simp only [zf] at this
 simpa using this
theorem swap_mk {x y:Oper} (sx:zD A x=true) (sy:zD A y=true) (mx:xC x=true) (my:xC y=true) (hap:x.apart ops y=true) (hw:Wf s) {s1 s2:St}
  (h1:za P A ev ops x s=some s1) (h2:za P A ev ops y s1=some s2):∃ t,za P A ev ops y s=some t/\za P A ev ops x t=some (St.ren s.h.length s2):=by
 obtain ⟨a1,a2,a3⟩:=Oper.apart_spec hap
 obtain ⟨Ox,vx,wx,rfl,ax⟩:=xr sx mx h1
 have hy0:∃ t,za P A ev ops y s=some t:=by
  obtain ⟨O,v,_,_,k⟩:=xr sy my h2
  exact ⟨_,k (fun i=>i) s fun z hz=>ZK (ZL fun t ht=>yK (x:=x) (a1 t ht) hz).symm⟩
 obtain ⟨t0,ht0⟩:=hy0
 obtain ⟨Oy,vy,wy,rfl,ay⟩:=xr sy my ht0
 have ox:Ox.ren (tr s.h.length)=Ox:=by
  have:=ax (tr s.h.length) s fun z _=>(evV_wf hw (Nat.le_refl _) z).symm
  rw [h1] at this
  exact (push_inj (Option.some.inj this)).symm
 have oy:Oy.ren (tr s.h.length)=Oy:=by
  have:=ay (tr s.h.length) s fun z _=>(evV_wf hw (Nat.le_refl _) z).symm
  rw [ht0] at this
  exact (push_inj (Option.some.inj this)).symm
 have e2:=ay (fun i=>i) (setSl { s with h:=s.h++[Ox] } x.dst (vx s.h.length)) fun z hz=>ZK (ZL fun t ht=>yK (x:=x) (a1 t ht) hz)
 rw [AO.ren_id] at e2
 rw [e2] at h2
 cases h2
 refine ⟨_,ht0,?_⟩
 rw [ax (fun i=>i) _ fun z hz=>ZK (ZL fun t ht=>yK (x:=y) (a3 t ht) hz),AO.ren_id]
 have hslots:s.sl.map (SV.ren (tr s.h.length))=s.sl:=Tr.map_id' fun i v hv=>hw.sl _ (Nat.le_refl _) i v hv
 have hlos:s.lo.map (Option.map (Sc.renL (tr s.h.length)))=s.lo:=Tr.map_id' fun i v hv=>hw.lo _ (Nat.le_refl _) i v hv
 have hobjs:s.h.map (AO.ren (tr s.h.length))=s.h:=by
  apply List.ext_getElem?
  intro i
  rw [List.getElem?_map]
  cases hi:s.h[i]? with
  | none=>rfl
  | some o=>rw [Option.map_some,hw.h _ (Nat.le_refl _) o (List.mem_of_getElem? hi)]
 have tl:tr s.h.length s.h.length=s.h.length+1:=by unfold tr;rw [if_pos rfl]
 have tl2:tr s.h.length (s.h.length+1)=s.h.length:=by unfold tr;rw [if_neg (by omega),if_pos rfl]
 have lhs:∀ (d e:Option Tmp) (u v:SV) (H1 H2:AH),setSl { setSl { s with h:=H1 } d u with h:=H2 } e v=setSl (setSl { s with h:=H2 } d u) e v:=fun d e u v H1 H2=>by cases d<;>cases e<;>rfl
 have rhs:∀ (d e:Option Tmp) (u v:SV) (H1 H2:AH),St.ren s.h.length (setSl { setSl { s with h:=H1 } d u with h:=H2 } e v)=setSl (setSl (St.ren s.h.length { s with h:=H2 }) d (u.ren (tr s.h.length))) e (v.ren (tr s.h.length)):=fun d e u v H1 H2=>by rw [lhs,yp,yp]
 have base:St.ren s.h.length { s with h:=s.h++[Ox]++[Oy] }={ s with h:=s.h++[Oy]++[Ox] }:=by
  simp only [St.ren,hslots,hlos,sw_last,List.map_append,hobjs,List.map_cons,List.map_nil,ox,oy]
 rw [rhs,lhs]
 simp only [zf]
 rw [base]
 simp only [wx,wy,List.length_append,List.length_cons,List.length_nil,Nat.zero_add,tl,tl2]
 rw [zC (fun t ht=>fun h=>a2 t h ht)]
theorem swap_st {x y:Oper} (sx:zD A x=true) (sy:zD A y=true) (mx:xC x=true) (my:isSt y=true) (hap:x.apart ops y=true) (hw:RW P B s) {s1 s2:St}
  (h1:za P A ev ops x s=some s1) (h2:za P A ev ops y s1=some s2):∃ t,za P A ev ops y s=some t/\za P A ev ops x t=some s2:=by
 obtain ⟨a1,a2,a3⟩:=Oper.apart_spec hap
 obtain ⟨Ox,vx,wx,rfl,ax⟩:=xr sx mx h1
 have hg:=(yO sy).1
 rw [yw hg] at h2 ⊢
 unfold isSt at my
 split at my
 case h_2=>cases my
 rename_i ty p v ho
 unfold evOp at h2 ⊢
 rw [ho] at h2 ⊢
 simp only [setK_eq] at h2 ⊢
 have ea:evA (setSl { s with h:=s.h++[Ox] } x.dst (vx s.h.length)) p=evA s p:=by
  rw [yy fun t ht=>yK (x:=x) (a1 t ht) (by rw [ho];simp [Op.operands])];cases p<;>rfl
 have ev':evV (setSl { s with h:=s.h++[Ox] } x.dst (vx s.h.length)) v=evV s v:=ZL fun t ht=>yK (x:=x) (a1 t ht) (by rw [ho];simp [Op.operands])
 rw [ea,ev'] at h2
 obtain ⟨g1,h2⟩:=gB.1 h2
 obtain ⟨sv,k1,h2⟩:=oB h2
 obtain ⟨av,k2,h2⟩:=oB h2
 obtain ⟨g2,h2⟩:=gB.1 h2
 obtain ⟨s',k3,h2⟩:=yH h2
 cases h2
 rw [g1,k1,k2,Option.bind_some,Option.bind_some,g2]
 simp only [guardB,cond_true]
 have key:∃ u,storeAt s sv av.cells some=some u/\s'=setSl { u with h:=u.h++[Ox] } x.dst (vx s.h.length)/\u.h.length=s.h.length/\u.sl=s.sl:=by
  have e0:=VI (s:={ s with h:=s.h++[Ox] }) (d:=x.dst) (x:=vx s.h.length) (a:=sv) (v:=av.cells)
  rw [e0] at k3
  obtain ⟨u1,k4,rfl⟩:=oM k3
  have keep:∀ {cs:List Sc} {off:Nat} {S:Type} {c:List Sc->Option S} {x:S},putK cs off av.cells c=some x->∃ l,(∀ {T:Type} (d:List Sc->Option T),putK cs off av.cells d=d l)/\c l=some x:=by
   intro cs off S c x h
   unfold putK at h ⊢
   obtain ⟨h1,h2⟩:=gB.1 h
   exact ⟨_,fun d=>by rw [h1];rfl,h2⟩
  unfold storeAt at k4 ⊢
  split at k4
  ·obtain ⟨b,q1,q2⟩:=oB k4
   obtain ⟨cs,rfl,q3⟩:=oB q2
   obtain ⟨l,q4,q5⟩:=keep q3
   rw [Tr.setT_eq] at q5
   cases q5
   refine ⟨{ s with lo:=s.lo.set _ (some l) },?_,rfl,rfl,rfl⟩
   have q1':s.lo.get _=_:=q1
   simp only [q1',Option.bind_some,q4,Tr.setT_eq]
  ·rename_i pp
   unfold asP at k4 ⊢
   split at k4
   case h_2=>cases k4
   rename_i id off _
   unfold stK at k4 ⊢
   obtain ⟨o,q1,q2⟩:=oB k4
   have hid:id < s.h.length:=by
    obtain ⟨Ie,he,we,I,lam,a,w,r⟩:=hw
    have hr:=zn r k1
    rw [<- r.hp.len]
    obtain ⟨L,hL,_⟩:=hr
    exact (List.getElem?_eq_some_iff.1 hL).1
   have q1:(s.h++[Ox])[id]?=some o:=q1
   rw [List.getElem?_append_left hid] at q1
   have hset:∀ o',(s.h++[Ox]).set id o'=s.h.set id o'++[Ox]:=fun o'=>by rw [List.set_append_left _ _ hid]
   simp only [q1,Option.bind_some]
   split at q2
   ·obtain ⟨l,q4,q5⟩:=keep q2
    cases q5
    refine ⟨_,q4 _,?_,by simp,rfl⟩
    rw [show ({ s with h:=s.h++[Ox] }:St).h=s.h++[Ox] from rfl,hset]
   ·obtain ⟨l,q4,q5⟩:=keep q2
    cases q5
    refine ⟨_,q4 _,?_,by simp,rfl⟩
    rw [show ({ s with h:=s.h++[Ox] }:St).h=s.h++[Ox] from rfl,hset]
   ·cases q2
  ·cases k4
 obtain ⟨u,k4,rfl,k5,k6⟩:=key
 have e0:=yQ (fun s'=>some (setSl s' y.dst .no)) s sv av.cells some
 simp only [Option.bind_some] at e0
 rw [<- e0,k4,Option.bind_some]
 refine ⟨_,rfl,?_⟩
 rw [ax (fun i=>i) _ fun z hz=>ZK (by
  rw [zw fun t ht=>yK (x:=y) (a3 t ht) hz]
  unfold evV evA
  rw [k6]),AO.ren_id]
 simp only [zf]
 rw [k5]
 have sw2:∀ (d e:Option Tmp) (p q:SV) (H:AH),(∀ t,d=some t->e≠some t)->setSl { setSl u d p with h:=H } e q=setSl (setSl { u with h:=H } e q) d p:=fun d e p q H hne=>by
  have:{ setSl u d p with h:=H }=setSl { u with h:=H } d p:=by cases d<;>rfl
  rw [this,zC (fun t ht=>hne t ht)]
 rw [sw2 _ _ _ _ _ (fun t ht h=>a2 t h ht)]
theorem swap_fr (hro:zR A ev) {x y:Oper} (sx:zD A x=true) (sy:zD A y=true) (fx:YO A x=true) (my:xC y=true) (hap:x.apart ops y=true) {s1 s2:St}
  (h1:za P A ev ops x s=some s1) (h2:za P A ev ops y s1=some s2):∃ t,za P A ev ops y s=some t/\za P A ev ops x t=some s2:=by
 obtain ⟨a1,a2,a3⟩:=Oper.apart_spec hap
 obtain ⟨v,rfl,ax⟩:=fr_form hro (yO sx).1 fx h1
 have hy0:∃ t,za P A ev ops y s=some t:=by
  obtain ⟨O,w,_,_,k⟩:=xr sy my h2
  exact ⟨_,k (fun i=>i) s fun z hz=>ZK (zw fun t ht=>yK (x:=x) (a1 t ht) hz).symm⟩
 obtain ⟨t0,ht0⟩:=hy0
 obtain ⟨Oy,vy,wy,rfl,ay⟩:=xr sy my ht0
 have e2:=ay (fun i=>i) (setSl s x.dst v) fun z hz=>ZK (zw fun t ht=>yK (x:=x) (a1 t ht) hz)
 rw [AO.ren_id] at e2
 rw [e2] at h2
 cases h2
 refine ⟨_,ht0,?_⟩
 rw [ax (fun i=>i) _ fun z hz=>ZK (ZL fun t ht=>yK (x:=y) (a3 t ht) hz),SV.ren_id]
 have e:∀ (d:Option Tmp),({ setSl s d v with h:=(setSl s d v).h++[Oy] }:St)=setSl { s with h:=s.h++[Oy] } d v:=fun d=>by cases d<;>rfl
 rw [e,zf,zC (fun t ht=>fun h=>a2 t h ht)]
theorem bubbleT (hev:Zn P B ev) (hro:zR A ev) (hall:∀ (j:Nat) o,ops[j]?=some o->zD A o=true) {n i:Nat} {o:Oper} (hi:ops[i]?=some o) {r2:List Nat} {s':St}:∀ {r1:List Nat} {s:St},RW P B s->n<=s.h.length->(∀ k∈r1,∃ x,ops[k]?=some x/\twin A ops x o=true)->zq P A ev ops (r1++i::r2) s=some s'->
  ∃ t s'',za P A ev ops o s=some t/\zq P A ev ops (r1++r2) t=some s''/\Rn n s'' s'
 | [],s,_,_,_,h=>by
  rw [List.nil_append,zG hi] at h
  obtain ⟨t,h1,h2⟩:=oB h
  exact ⟨t,s',h1,h2,.refl _⟩
 | k::r1,s,hw,hn,hk,h=>by
  obtain ⟨x,hx,hc⟩:=hk k (List.mem_cons_self ..)
  rw [List.cons_append,zG hx] at h
  obtain ⟨s1,h1,h⟩:=oB h
  have hw1:=rw_simple hev (hall k x hx) hw h1
  have hl1:=one_grow hro (hall k x hx) h1
  obtain ⟨t1,s'',ht1,h,hr⟩:=bubbleT (n:=n) hev hro hall hi hw1 (Nat.le_trans hn hl1) (fun k hk'=>hk k (List.mem_cons_of_mem _ hk')) h
  have notNew:∀ z,zD A z=true->zb A z≠.new:=fun z hz=>by
   obtain ⟨_,hu | ⟨u,hu | hu⟩ | hu | ⟨t,u,hu⟩ | ⟨t,u,y,hu⟩ | ⟨t,u,i,hu⟩ | ⟨a,t,hu⟩⟩:=yO hz
   ·unfold WU at hu
    rcases Bool.or_eq_true_iff.1 hu with hu | hu
    ·obtain ⟨_,_,_,hu,_⟩:=Tu hu
     unfold zb;rw [hu];intro hh;cases hh
    ·unfold isBd at hu
     split at hu
     ·rename_i hb;unfold zb;rw [hb];intro hh;cases hh
     ·cases hu
   ·unfold zb;rw [hu];intro hh;cases hh
   ·unfold zb;rw [hu];intro hh;cases hh
   ·unfold xC at hu
    split at hu
    ·rename_i hz;unfold zb;rw [hz];intro hh;cases hh
    ·rename_i e ho
     obtain ⟨d,hd,hl⟩:=xP hz (.inl ⟨e,ho⟩)
     unfold zb;rw [ho];simp only [hd,hl,cond_false];intro hh;cases hh
    ·rename_i ty n ps ho
     obtain ⟨d,hd,hl⟩:=xP hz (.inr (.inl ⟨ty,n,ps,ho⟩))
     unfold zb;rw [ho];simp only [hd,hl,cond_false];intro hh;cases hh
    ·rename_i e x ho
     obtain ⟨d,hd,hl⟩:=xP hz (.inr (.inr ⟨e,x,ho⟩))
     unfold zb;rw [ho];simp only [hd,hl,cond_false];intro hh;cases hh
    ·cases hu
   ·intro hh;rcases Vq (A:=A) (o:=z) (by unfold Yf;rw [hu]) with h | h<;>rw [h] at hh<;>cases hh
   ·unfold zb;rw [hu];intro hh;cases hh
   ·unfold zb;rw [hu];intro hh;cases hh
   ·unfold zb;rw [hu];intro hh;cases hh
  unfold twin at hc
  rw [Bool.or_eq_true,Bool.or_eq_true,Bool.or_eq_true] at hc
  rcases hc with ((hc | hc) | hc) | hc
  ·obtain ⟨t,ht,hxt⟩:=swap hro hc (fun hn=>absurd hn (notNew x (hall k x hx))) (fun hn=>absurd hn (notNew o (hall i o hi))) h1 ht1
   refine ⟨t,s'',ht,?_,hr⟩
   rw [List.cons_append,zG hx,hxt]
   exact h
  ·rw [Bool.and_eq_true,Bool.and_eq_true] at hc
   obtain ⟨⟨mx,my⟩,hap⟩:=hc
   obtain ⟨t,ht,hxt⟩:=swap_mk (hall k x hx) (hall i o hi) mx my hap hw.wf h1 ht1
   have hlen:s.h.length+1 < t1.h.length:=by
    obtain ⟨_,_,_,e1,_⟩:=xr (hall k x hx) mx h1
    obtain ⟨_,_,_,e2,_⟩:=xr (hall i o hi) my ht1
    rw [e2,e1];simp
   obtain ⟨g1,g2⟩:=Tw hro hall (r1++r2) hlen h
   refine ⟨t,St.ren s.h.length s'',ht,?_,.step _ hn (by omega) hr⟩
   rw [List.cons_append,zG hx,hxt]
   exact g1
  ·rw [Bool.and_eq_true,Bool.and_eq_true] at hc
   obtain ⟨⟨mx,my⟩,hap⟩:=hc
   obtain ⟨t,ht,hxt⟩:=swap_st (hall k x hx) (hall i o hi) mx my hap hw h1 ht1
   refine ⟨t,s'',ht,?_,hr⟩
   rw [List.cons_append,zG hx,hxt]
   exact h
  ·rw [Bool.and_eq_true,Bool.and_eq_true] at hc
   obtain ⟨⟨mx,my⟩,hap⟩:=hc
   obtain ⟨t,ht,hxt⟩:=swap_fr hro (hall k x hx) (hall i o hi) mx my hap h1 ht1
   refine ⟨t,s'',ht,?_,hr⟩
   rw [List.cons_append,zG hx,hxt]
   exact h
theorem any_in (hN:yc P=true) (hor:wX P B A) (hev:Zn P B ev) (hro:zR A ev) (hd:dOk A ops=true) {ro:Option Nat} {Q:Exit->Act->World->Prop} (fuel:Nat) {L:Array Bool} {I:List Loc} {lam:Nat->Nat} {s:St} {a:Act} {w:World}
  (r:Rel P B Ie he we I lam s a w) (hfr:Zc A ops (rem ops L) s) (hL:wq ops L) (hs:L.size=ops.size) (hf:(rem ops L).length<=fuel) {s':St} (h:zq P A ev ops (rem ops L) s=some s') (hn:wr P B Ie he we a s' (Q .normal)):wpAnyIn (FW ro) 0 P .any ops Q fuel L a w:=by
 unfold dOk at hd
 rw [Bool.or_eq_true] at hd
 rcases hd with hd | hd
 ·exact any_in0 hN hor hev hro hd fuel r hfr hL hs hf h hn
 rw [Bool.and_eq_true] at hd
 obtain ⟨hd1,hM⟩:=hd
 have hall:∀ (j:Nat) o,ops[j]?=some o->zD A o=true:=fun j o ho=>List.all_eq_true.1 hd1 o (by rw [Array.mem_toList_iff];exact Array.mem_of_getElem? ho)
 have noReady:∀ {L:Array Bool},wq ops L->L.size=ops.size->Region.ready .any ops L=[]->rem ops L=[]:=by
  intro L hL hs hr
  cases hrem:rem ops L with
  | nil=>rfl
  | cons i r=>
   exfalso
   have hi:i∈rem ops L:=by rw [hrem];simp
   obtain ⟨hlt,hl⟩:=mem_rem.1 hi
   have ho:ops[i]?=some ops[i]:=Array.getElem?_eq_getElem hlt
   have hready:i∈Region.ready .any ops L:=mem_ready.2 ⟨_,ho,hl,fun e he=>by
    obtain ⟨h1,_,_⟩:=xN hM (j:=i) (o:=ops[i]) (by simpa using ho)
    have hei:=h1 e he
    rw [Nat.zero_add] at hei
    have:e ∉ rem ops L:=by
     intro hm
     have hp:=xM (ops:=ops) L
     rw [hrem] at hp hm
     rcases List.mem_cons.1 hm with rfl | hm
     ·omega
     ·have:=List.rel_of_pairwise_cons hp hm;omega
    have hnl:¬ (e < ops.size/\L.getD e true=false):=fun h=>this (mem_rem.2 h)
    have hes:e < ops.size:=by omega
    have:L.getD e true=true:=by cases hh:L.getD e true with
     | true=>rfl
     | false=>exact absurd ⟨hes,hh⟩ hnl
    simp only [Array.getD_eq_getD_getElem?] at this ⊢
    rw [Array.getElem?_eq_getElem (by omega)] at this ⊢
    exact this⟩
   rw [hr] at hready;simp at hready
 suffices key:∀ (n:Nat),Ie.length<=n->∀ (fuel:Nat) {L:Array Bool} {I:List Loc} {lam:Nat->Nat} {s:St} {a:Act} {w:World},Rel P B Ie he we I lam s a w->n<=s.h.length->wq ops L->L.size=ops.size->(rem ops L).length<=fuel->∀ {s':St},zq P A ev ops (rem ops L) s=some s'->
   wr P B Ie he we a s' (Q .normal)->wpAnyIn (FW ro) 0 P .any ops Q fuel L a w by
  have hle:Ie.length<=s.h.length:=by have:=r.kp.pre.length_le;rw [r.hp.len] at this;exact this
  exact key s.h.length hle fuel r (Nat.le_refl _) hL hs hf h hn
 clear hfr hL hs hf h hn r s' s a w I lam L fuel
 intro n hIe fuel
 induction fuel with
 | zero=>
  intro L I lam s a w r _ hL hs hf s' h hn
  have hrem:rem ops L=[]:=List.eq_nil_of_length_eq_zero (by omega)
  rw [hrem] at h;cases h
  refine ⟨?_,hn _ _ _ _ r rfl⟩
  cases hr:Region.ready .any ops L with
  | nil=>rfl
  | cons i l=>
   have:i∈Region.ready .any ops L:=by rw [hr];simp
   obtain ⟨o,ho,hl,_⟩:=mem_ready.1 this
   have:i∈rem ops L:=mem_rem.2 ⟨(Array.getElem?_eq_some_iff.1 ho).1,hl⟩
   rw [hrem] at this;simp at this
 | succ fuel ih=>
  intro L I lam s a w r hns hL hs hf s' h hn
  refine ⟨fun hr=>?_,fun i hi=>?_⟩
  ·rw [noReady hL hs hr] at h;cases h
   exact hn _ _ _ _ r rfl
  ·obtain ⟨o,ho,hl,hes⟩:=mem_ready.1 hi
   have hm:i∈rem ops L:=mem_rem.2 ⟨(Array.getElem?_eq_some_iff.1 ho).1,hl⟩
   obtain ⟨r1,r2,hr⟩:=List.append_of_mem hm
   have hp:=xM (ops:=ops) L
   rw [hr] at hp
   obtain ⟨_,_,hp3⟩:=List.pairwise_append.1 hp
   have hcomm:∀ k∈r1,∃ x,ops[k]?=some x/\twin A ops x o=true:=by
    intro k hk
    have hlt:=hp3 k hk i (by simp)
    obtain ⟨_,_,h3⟩:=xN hM (j:=i) (o:=o) (by simpa using ho)
    rw [Nat.zero_add] at h3
    rcases h3 k hlt with h3 | h3
    ·exfalso
     have hkl:=Wn hM hL hs i o ho hes k h3
     have hkr:k∈rem ops L:=by rw [hr];simp [hk]
     have hkr2:=(mem_rem.1 hkr).2
     have hks:=(mem_rem.1 hkr).1
     simp only [Array.getD_eq_getD_getElem?] at hkl hkr2
     rw [Array.getElem?_eq_getElem (by omega)] at hkl hkr2
     simp at hkl hkr2
     rw [hkl] at hkr2;cases hkr2
    ·exact h3
   rw [hr] at h
   obtain ⟨t,s'',ht,h,hrn⟩:=bubbleT (n:=n) hev hro hall ho ⟨_,_,_,_,_,_,_,r⟩ hns hcomm h
   have hlt:=one_grow hro (hall i o ho) ht
   refine one_in hN hor hev r ho ht fun I' lam' a' w' r' hd'=>?_
   have hrs:=rem_set hs hr
   refine ih r' (by omega) (Uq hL ho hes) (by simp [hs]) ?_ (s':=s'') (by rw [hrs];exact h) fun I2 l2 a2 w2 r2 hd2=>?_
   ·rw [hrs]
    have hlen:(rem ops L).length=r1.length+(r2.length+1):=by rw [hr];simp
    simp only [List.length_append]
    omega
   ·obtain ⟨I3,r3⟩:=hrn.rel hIe r2
    exact hn I3 l2 a2 w2 r3 (hd2.trans hd')
variable {P : Program} {A : FAn} {ev : Ev} {B : Nat} {Ie : List Loc} {he : AH} {we : World} {I : List Loc} {lam : Nat -> Nat} {s : St} {a : Act} {w : World} {ops : Array Oper}
theorem Ux:∀ {l:List Oper},flat l=true->∀ o∈l,zb A o≠.loc/\zb A o≠.new
 | [],_,o,ho=>by simp at ho
 | x::l,h,o,ho=>by
  simp only [flat,Bool.and_eq_true] at h
  rcases List.mem_cons.1 ho with rfl | ho
  ·have h1:=h.1
   unfold zb
   split at h1
   ·cases h1
   ·cases h1
   ·cases h1
   ·cases h1
   ·rename_i n1 n2 n3 n4
    split<;>first | (rename_i d _;cases A.loc.contains d<;>simp) | simp
    ·split<;>simp
    all_goals (rename_i heq;first | exact absurd heq (n1 _) | exact absurd heq (n2 _ _) | exact absurd heq (n3 _ _ _) | exact absurd heq (n4 _ _ _))
  ·exact Ux h.2 o ho
theorem Ua:∀ {l:List Nat} {s s':St},(∀ i∈l,∀ o,ops[i]?=some o->zb A o≠.loc/\zb A o≠.new)->zq P A ev ops l s=some s'->s'.lo=s.lo/\(∀ d,(∀ o∈ops.toList,o.dst≠some d)->s'.sl.get d=s.sl.get d)/\∀ d,(∃ x,s.sl.get d=some x)->∃ x,s'.sl.get d=some x
 | [],s,s',_,h=>by cases h;exact ⟨rfl,fun _ _=>rfl,fun _ h=>h⟩
 | i::l,s,s',hc,h=>by
  simp only [zq] at h
  cases hi:ops[i]? with
  | none=>rw [hi] at h;exact Ua (fun i hi=>hc i (List.mem_cons_of_mem _ hi)) h
  | some o=>
   rw [hi] at h
   obtain ⟨s1,h1,h⟩:=oB h
   obtain ⟨e1,e2,e4⟩:=Ua (fun i hi=>hc i (List.mem_cons_of_mem _ hi)) h
   obtain ⟨⟨v,H,e3,_⟩,_⟩:=yb (hc i (List.mem_cons_self ..) o hi).1 (hc i (List.mem_cons_self ..) o hi).2 h1
   have key:∀ d,(∃ x,s.sl.get d=some x)->∃ x,s1.sl.get d=some x:=by
    intro d hd
    rw [e3]
    cases hdst:o.dst with
    | none=>exact hd
    | some d'=>
     simp only [setSl]
     by_cases e:d'=d
     ·subst e;rw [Tr.get_set_self];obtain ⟨x,hx⟩:=hd;exact ⟨v,by rw [hx];rfl⟩
     ·rw [Tr.get_set_ne _ e];exact hd
   refine ⟨by rw [e1,e3];simp,fun d hd=>?_,fun d hd=>e4 d (key d hd)⟩
   rw [e2 d hd,e3]
   have:o.dst≠some d:=hd o (by rw [Array.mem_toList_iff];exact Array.mem_of_getElem? hi)
   cases hdst:o.dst with
   | none=>rfl
   | some d'=>simp only [setSl];rw [Tr.get_set_ne _ (fun e=>this (by rw [hdst,e]))]
theorem Uy:∀ (l:List Oper) (s:St),(forget s l).lo=s.lo/\(forget s l).h=s.h/\∀ (d:Nat) v,(forget s l).sl.get d=some v->(∃ x,s.sl.get d=some x)/\(v=.u\/(s.sl.get d=some v/\∀ o∈l,o.dst≠some d))
 | [],s=>⟨rfl,rfl,fun d v h=>⟨⟨v,h⟩,.inr ⟨h,by simp⟩⟩⟩
 | o::l,s=>by
  obtain ⟨h1,h2,h4⟩:=Uy l (setSl s o.dst .u)
  refine ⟨by simp only [forget,h1,xH],by simp only [forget,h2,zf],fun d v hv=>?_⟩
  obtain ⟨⟨x,hx⟩,h4⟩:=h4 d v hv
  have hex:∃ x,s.sl.get d=some x:=by
   cases hd:o.dst with
   | none=>rw [hd] at hx;exact ⟨x,hx⟩
   | some d'=>
    rw [hd] at hx
    simp only [setSl] at hx
    by_cases e:d'=d
    ·subst e;rw [Tr.get_set_self] at hx;obtain ⟨y,hy,_⟩:=oM hx;exact ⟨y,hy⟩
    ·rw [Tr.get_set_ne _ e] at hx;exact ⟨x,hx⟩
  refine ⟨hex,?_⟩
  rcases h4 with h | ⟨h,h5⟩
  ·exact .inl h
  ·cases hd:o.dst with
   | none=>rw [hd] at h;refine .inr ⟨h,fun o' ho'=>?_⟩;rcases List.mem_cons.1 ho' with rfl | ho';simp [hd];exact h5 o' ho'
   | some d'=>
    rw [hd] at h
    by_cases e:d'=d
    ·subst e
     simp only [setSl,Tr.get_set_self] at h
     obtain ⟨y,_,hy⟩:=oM h
     exact .inl hy.symm
    ·simp only [setSl,Tr.get_set_ne _ e] at h
     refine .inr ⟨h,fun o' ho'=>?_⟩
     rcases List.mem_cons.1 ho' with rfl | ho'
     ·rw [hd];simpa using e
     ·exact h5 o' ho'
theorem Rel.loose (r:Rel P B Ie he we I lam s a w) {s':St} (hs:∀ (d:Nat) v,s'.sl.get d=some v->(∃ x,s.sl.get d=some x)/\(v=.u\/s.sl.get d=some v)) (hlo:∀ (k:Nat) cs,s'.lo.get k=some (some cs)->s.lo.get k=some (some cs)) (hh:s'.h=s.h) :
  Rel P B Ie he we I lam s' a w:=by
 refine ⟨fun i v hv=>?_,⟨fun k cs hk=>?_,fun k k' cs cs' h1 h2=>r.lo.apart k k' cs cs' (hlo _ _ h1) (hlo _ _ h2)⟩,by rw [hh];exact r.hp,by rw [hh];exact r.kp,r.base,r.df⟩
 ·obtain ⟨⟨x,hx⟩,h⟩:=hs i v hv
  obtain ⟨y,hy,hr⟩:=r.tm i x hx
  rcases h with rfl | h
  ·exact ⟨y,hy,trivial⟩
  ·exact r.tm i v h
 ·rw [hh];exact r.lo.cells k cs (hlo k cs hk)
theorem Qn {R:Type} {x:R} {full:St} {c:St->Option R}:∀ {spec:List (Tmp×TypeId)} {vs:List AV} {s0:St},Yn full spec=some vs->Yl P spec vs s0 c=some x->(∀ (d:Nat) v,s0.sl.get d=some v->(∃ x,full.sl.get d=some x)/\(v=.u\/full.sl.get d=some v))->
  ∃ s1,c s1=some x/\s1.lo=s0.lo/\s1.h=s0.h/\∀ (d:Nat) v,s1.sl.get d=some v->(∃ x,full.sl.get d=some x)/\(v=.u\/full.sl.get d=some v)
 | [],vs,s0,hp,h,hs=>by
  simp only [Yn] at hp;cases hp
  simp only [Yl] at h
  exact ⟨s0,(asN_some.1 h).2,rfl,rfl,hs⟩
 | (d,t)::spec,vs,s0,hp,h,hs=>by
  simp only [Yn,Option.bind_eq_some_iff] at hp
  obtain ⟨sv,hsv,av,hav,vs',hvs',hp⟩:=hp
  cases hp
  simp only [Yl] at h
  obtain ⟨y,ys,he,h⟩:=asC_some.1 h
  cases he
  replace h:=Zb (c:=fun v=>Yl P spec vs' { s0 with sl:=s0.sl.set d (.v v) } c) h
  have hsv':sv=.v av:=by cases sv<;>simp [SV.val] at hav;rw [hav]
  subst hsv'
  obtain ⟨s1,h1,h2,h3,h5⟩:=Qn (s0:={ s0 with sl:=s0.sl.set d (.v av) }) hvs' h (fun d' v hv=>by
   by_cases e:d=d'
   ·subst e
    simp only [Tr.get_set_self] at hv
    obtain ⟨z,_,hz⟩:=oM hv
    subst hz;exact ⟨⟨_,hsv⟩,.inr hsv⟩
   ·simp only [Tr.get_set_ne _ e] at hv;exact hs d' v hv)
  exact ⟨s1,h1,h2,h3,h5⟩
theorem closed_none:wq ops (Array.replicate ops.size false):=by
 intro j o ho hl
 have hlt:=(Array.getElem?_eq_some_iff.1 ho).1
 simp [Array.getD_eq_getD_getElem?,hlt] at hl
theorem rem_all:rem ops (Array.replicate ops.size false)=List.range ops.size:=by
 unfold rem
 rw [List.filter_eq_self]
 intro i hi
 have:=List.mem_range.1 hi
 simp [Array.getD_eq_getD_getElem?,this]
theorem freshAll_of {s:St} (h:freshAll A ops s=true) (l:List Nat):Zc A ops l s:=by
 intro j _ o ho hn d hd
 have h1:=List.all_eq_true.1 h o (by rw [Array.mem_toList_iff];exact Array.mem_of_getElem? ho)
 have key:∀ (hl:A.loc.contains d=true),(!(A.loc.contains d)||s.sl.all fun v=>!(isRef d v))=true->yj d s:=by
  intro hl hh i v hv
  rw [hl] at hh
  simp only [Bool.not_true,Bool.false_or] at hh
  have:=Tr.all_get hh hv
  simpa using this
 unfold zb at hn
 split at hn<;>first | cases hn | skip
 all_goals first
  | (rename_i ho'
     rw [ho'] at h1
     simp only [hd] at h1 hn
     have hl:A.loc.contains d=true:=by cases hl:A.loc.contains d<;>rw [hl] at hn<;>first | rfl | cases hn
     exact key hl h1)
  | (split at hn<;>cases hn)
  | (rename_i d' _;cases hl:A.loc.contains d'<;>rw [hl] at hn<;>cases hn)
theorem xD {α:Type} (f:α->α) (t:Tr α):∀ (l:List Nat) (u:Tr α),(∀ d v,u.get d=some v->(∃ x,t.get d=some x)/\((∃ x,v=f x)\/t.get d=some v))->
  ∀ d v,(l.foldl (fun u i=>match t.get i with | some v=>u.set i v | none=>u) u).get d=some v->(∃ x,t.get d=some x)/\((∃ x,v=f x)\/t.get d=some v)
 | [],u,hu=>hu
 | i::l,u,hu=>by
  rw [List.foldl_cons]
  refine xD f t l _ ?_
  cases hi:t.get i with
  | none=>exact hu
  | some y=>
   intro d v hv
   by_cases e:i=d
   ·subst e
    simp only [Tr.get_set_self] at hv
    obtain ⟨z,_,hz⟩:=oM hv
    subst hz
    exact ⟨⟨_,hi⟩,.inr hi⟩
   ·simp only [Tr.get_set_ne _ e] at hv;exact hu d v hv
theorem WZ (A:FAn) (id:Nat) (r:Rel P B Ie he we I lam s a w):Rel P B Ie he we I lam (maskR A id s) a w:=by
 unfold maskR
 split
 ·exact r
 ·rename_i p _
  refine r.loose (fun d v hv=>?_) (fun k cs hk=>hk) rfl
  obtain ⟨h1,h2⟩:=xD (fun _=>.u) s.sl p _ (fun d v hv=>by
   rw [Tr.get_map] at hv
   obtain ⟨y,hy,rfl⟩:=oM hv
   exact ⟨⟨y,hy⟩,.inl ⟨y,rfl⟩⟩) d v hv
  refine ⟨h1,?_⟩
  rcases h2 with ⟨_,h2⟩ | h2
  ·exact .inl h2
  ·exact .inr h2
theorem region_in (hN:yc P=true) (hm:P.follows .mixedOrders=true) (hor:wX P B A) (hev:Zn P B ev) (hro:zR A ev) {id:Nat} {draw:Bool} (r:Rel P B Ie he we I lam s a w) {R:Type} {x:R} {c:St->Option R} (h:evRegion P A ev dOk id ops draw s c=some x) {ro:Option Nat} {Q:Exit->Act->World->Prop}
  (hn:∀ s',c s'=some x->wr P B Ie he we a s' (Q .normal)):(Code.region id ops draw).wpIn (FW ro) 0 P Q a w:=by
 unfold evRegion at h
 obtain ⟨hd,h⟩:=gB.1 h
 have key:∀ s1,zq P A ev ops (List.range ops.size) s=some s1->wr P B Ie he we a s1 (Q .normal)->(Code.region id ops draw).wpIn (FW ro) 0 P Q a w:=by
  intro s1 h1 hn1
  cases draw with
  | false=>exact wpIn_region (idx_in hN hor hev _ r h1 hn1)
  | true=>
   refine wpIn_region_any hm ?_
   simp only [Bool.not_true,Bool.false_or,Bool.and_eq_true] at hd
   exact any_in hN hor hev hro hd.1 ops.size r.drew (freshAll_of hd.2 _) closed_none (by simp) (by rw [rem_all];simp) (by rw [rem_all];exact h1) hn1
 split at h
 ·rw [yX] at h
  obtain ⟨s1,h1,h⟩:=oB h
  exact key s1 h1 fun I' lam' a' w' r' hd'=>hn _ h I' lam' a' w' (WZ A id r') hd'
 ·rename_i q spec _
  obtain ⟨hf,h⟩:=gB.1 h
  obtain ⟨⟨vs,H⟩,h1,h⟩:=oB h
  rw [yX] at h1
  replace h1:=oB h1
  obtain ⟨s1,h1,h2⟩:=h1
  obtain ⟨vs',hp,h2⟩:=oB h2
  cases h2
  obtain ⟨e1,e2,e4⟩:=Ua (fun i hi o ho=>Ux hf o (by rw [Array.mem_toList_iff];exact Array.mem_of_getElem? ho)) h1
  obtain ⟨f1,f2,f4⟩:=Uy ops.toList s
  obtain ⟨s2,g1,g2,g3,g5⟩:=Qn (s0:={ forget s ops.toList with h:=s1.h }) hp h (fun d v hv=>by
   obtain ⟨hx,h4⟩:=f4 d v hv
   refine ⟨e4 d hx,?_⟩
   rcases h4 with h | ⟨h,h5⟩
   ·exact .inl h
   ·exact .inr ((e2 d h5).trans h))
  refine key s1 h1 fun I' lam' a' w' r' hd'=>hn s2 g1 I' lam' a' w' (r'.loose g5 (fun k cs hk=>?_) ?_) hd'
  ·rw [g2] at hk
   simp only [f1] at hk
   rw [e1];exact hk
  ·rw [g3]
variable {P : Program} {B : Nat} {Ie : List Loc} {he : AH} {we : World} {I : List Loc} {lam : Nat -> Nat} {s : St} {a : Act} {w : World}
theorem Wx {w0:World} (h:Below B w0 w) {b:Nat} (hb:B<=b) (o:Obj):Below B w0 (w.putObj b o):=
 h.trans ⟨rfl,rfl,rfl,by rw [World.putObj_size];exact Nat.le_refl _,fun k hk=>World.putObj_heap_other (by omega)⟩
theorem Rel.putOwn (r:Rel P B Ie he we I lam s a w) {i:Nat} {o o':AO} {L:Loc} {O:Obj} (hi:s.h[i]?=some o) (hL:I[i]?=some L) (ho:o.own=true) (ho':o'.own=true)
  (hr:ORel P B I L (w.putObj L.b O) o') :
  Rel P B Ie he we I lam { s with h:=s.h.set i o' } a (w.putObj L.b O):=by
 have hown:OwnB I s.h L.b:=⟨i,o,L,hi,ho,hL,rfl⟩
 have hlt:=OwnB.lt r.hp hown
 have get:∀ (j:Nat) (o2:AO),(s.h.set i o')[j]?=some o2->(i=j/\o2=o')\/(i≠j/\s.h[j]?=some o2):=by
  intro j o2 hj
  by_cases e1:i=j
  ·subst e1
   rw [List.getElem?_set_self (List.getElem?_eq_some_iff.1 hi).1] at hj
   exact .inl ⟨rfl,(Option.some.inj hj).symm⟩
  ·rw [List.getElem?_set_ne e1] at hj;exact .inr ⟨e1,hj⟩
 have own2:∀ b,OwnB I (s.h.set i o') b->OwnB I s.h b:=by
  rintro b ⟨j,o2,L2,h1,h2,h3,rfl⟩
  rcases get j o2 h1 with ⟨rfl,rfl⟩ | ⟨_,h1⟩
  ·rw [hL] at h3;cases h3;exact hown
  ·exact ⟨j,o2,L2,h1,h2,h3,rfl⟩
 refine ⟨r.tm,⟨fun k cs hk=>?_,r.lo.apart⟩,⟨by simp [r.hp.len],fun j o2 L2 h1 h2=>?_,fun j k o1 o2 L1 L2 h1 h2 w1 w2 k1 k2 he=>?_⟩,
  r.kp.trans ⟨List.prefix_refl _,Wx (Below.refl B w) hlt.1 O,by rw [World.putObj_size];exact Nat.le_refl _,fun b hb hn=>World.putObj_heap_other fun hE=>hn (hE▸hown),fun b hb=>.inl (own2 b hb)⟩,r.base,r.df.old fun b _ hd=>World.putObj_heap_other fun he=>OwnB.noDf r.hp hown (by rw [<- he];exact hd)⟩
 ·obtain ⟨h1,⟨arr2,e2,h2,h3⟩,h4⟩:=r.lo.cells k cs hk
  exact ⟨h1,⟨arr2,e2,(World.putObj_heap_other (fun (hE:lam k=L.b)=>h4 (by rw [hE];exact hown))).trans h2,h3⟩,fun hw=>h4 (own2 _ hw)⟩
 ·rcases get j o2 h1 with ⟨rfl,rfl⟩ | ⟨hne,h1⟩
  ·rw [hL] at h2;cases h2;exact hr
  ·have hob:=r.hp.obj j o2 L2 h1 h2
   have hb:o2.own=true->L2.b≠L.b:=fun hw hE=>hne (r.hp.uniq i j o o2 L L2 hi h1 ho hw hL h2 hE.symm)
   cases o2 with
   | row own e' cs2=>
    cases own with
    | false=>exact hob.mono (List.prefix_refl _) (World.putObj_heap_other (by have:=ORel.ro hob;omega))
    | true=>exact hob.mono (List.prefix_refl _) (World.putObj_heap_other (hb rfl))
   | box e' cs2=>exact hob.mono (List.prefix_refl _) (World.putObj_heap_other (hb rfl))
   | dead=>trivial
   | loop l=>exact hob.mono (List.prefix_refl _) (World.putObj_heap_other (hb rfl))
 ·rcases get j o1 h1 with ⟨e1,_⟩ | ⟨n1,g1⟩<;>rcases get k o2 h2 with ⟨e2,_⟩ | ⟨n2,g2⟩
  ·exact e1.symm.trans e2
  ·subst e1;rw [hL] at k1;cases k1
   exact r.hp.uniq i k o o2 L L2 hi g2 ho w2 hL k2 he
  ·subst e2;rw [hL] at k2;cases k2
   exact r.hp.uniq j i o1 o L1 L g1 hi w1 ho k1 hL he
  ·exact r.hp.uniq j k o1 o2 L1 L2 g1 g2 w1 w2 k1 k2 he
theorem Rel.putNo (r:Rel P B Ie he we I lam s a w) {b:Nat} {O:Obj} (hb:we.heap.size<=b) (hno:¬ OwnB I s.h b) (hc:∀ arr e z,w.heap[b]?≠some (.cells arr e z)) {a':Act} (ht:a'.tmps=a.tmps)
  (hd:Df we.heap.size a' (w.putObj b O)):Rel P B Ie he we I lam s a' (w.putObj b O):=by
 have hB:B<=b:=Nat.le_trans r.base hb
 refine ⟨fun i v hv=>by rw [ht];exact r.tm i v hv,⟨fun k cs hk=>?_,r.lo.apart⟩,⟨r.hp.len,fun j o2 L2 h1 h2=>?_,r.hp.uniq⟩,
  ⟨r.kp.pre,Wx r.kp.bel hB O,by rw [World.putObj_size];exact r.kp.size,fun c hc1 hn=>(World.putObj_heap_other (by omega)).trans (r.kp.foot c hc1 hn),r.kp.fresh⟩,r.base,hd⟩
 ·obtain ⟨h1,⟨arr2,e2,h2,h3⟩,h4⟩:=r.lo.cells k cs hk
  exact ⟨h1,⟨arr2,e2,(World.putObj_heap_other (fun (hE:lam k=b)=>hc _ _ _ (by rw [<- hE];exact h2))).trans h2,h3⟩,h4⟩
 ·have hob:=r.hp.obj j o2 L2 h1 h2
  have hne:o2.own=true->L2.b≠b:=fun hw hE=>hno ⟨j,o2,L2,h1,hw,h2,hE⟩
  cases o2 with
  | row own e' cs2=>
   cases own with
   | false=>exact hob.mono (List.prefix_refl _) (World.putObj_heap_other (by have:=ORel.ro hob;omega))
   | true=>exact hob.mono (List.prefix_refl _) (World.putObj_heap_other (hne rfl))
  | box e' cs2=>exact hob.mono (List.prefix_refl _) (World.putObj_heap_other (hne rfl))
  | dead=>trivial
  | loop l=>exact hob.mono (List.prefix_refl _) (World.putObj_heap_other (hne rfl))
variable {P : Program} {A : FAn} {ev : Ev} {B : Nat} {Ie : List Loc} {he : AH} {we : World} {I : List Loc} {lam : Nat -> Nat} {s : St} {a : Act} {w : World} {ops : Array Oper}
def Ex.to:Ex->Exit
 | .normal=>.normal
 | .exit i=>.exit i
 | .ret=>.ret
def noG (Q:Exit->Act->World->Prop):Exit->Act->World->Prop
 | .goto _,_,_=>False
 | e,a,w=>Q e a w
theorem wpIn_scope {F:Fence} {n:Nat} {Q:Exit->Act->World->Prop} {c:Code} (h:c.wpIn F n P (noG Q) a w):(Code.scope c).wpIn F n P Q a w:=by
 intro b k cs hro hb hr
 have h0:(lone (b.atR a (.code (.scope c)::k)) cs w).fenced P F:=fenced_calm hb hr rfl
 have s0:step P (lone (b.atR a (.code (.scope c)::k)) cs w)=.next (lone (b.atR a (.code c::.inScope c::k)) cs w):=step_lone_go (by simp [stepG,stepG.exec,Frame.atR])
 obtain ⟨e,a₁,w₁,hq,harr⟩:=h b (.inScope c::k) cs hro hb hr
 cases e with
 | normal=>exact ⟨.normal,a₁,w₁,hq,.head h0 s0 (StepsIn.trans harr (.one (fenced_calm hb hr rfl) (step_lone_go (by simp [stepG,stepG.exec,Frame.atR]))))⟩
 | exit id'=>
  have hx:exitTo id' (.inScope c::k)=exitTo id' k:=by simp [exitTo]
  exact ⟨.exit id',a₁,w₁,hq,fun k' hk=>.head h0 s0 (harr.1 k' (by rw [hx];exact hk)),
   fun hr' hk=>let ⟨k₁,h1,h2⟩:=harr.2 hr' (by rw [hx];exact hk);⟨k₁,h1,.head h0 s0 h2⟩⟩
 | goto l=>exact hq.elim
 | ret=>exact ⟨_,a₁,w₁,hq,.of_steps (.one h0 s0) harr⟩
 | panic ch=>exact ⟨_,a₁,w₁,hq,.of_steps (.one h0 s0) harr⟩
 | outgrown=>exact ⟨_,a₁,w₁,hq,.of_steps (.one h0 s0) harr⟩
theorem wF (A:FAn) (blk:Nat) (r:Rel P B Ie he we I lam s a w):Rel P B Ie he we I lam (maskAt A blk s) a w:=by
 unfold maskAt
 split
 ·exact r
 ·rename_i p q _
  refine r.loose (fun d v hv=>?_) (fun k cs hk=>?_) rfl
  ·obtain ⟨h1,h2⟩:=xD (fun _=>.u) s.sl p _ (fun d v hv=>by
    rw [Tr.get_map] at hv
    obtain ⟨y,hy,rfl⟩:=oM hv
    exact ⟨⟨y,hy⟩,.inl ⟨y,rfl⟩⟩) d v hv
   refine ⟨h1,?_⟩
   rcases h2 with ⟨_,h2⟩ | h2
   ·exact .inl h2
   ·exact .inr h2
  ·obtain ⟨h1,h2⟩:=xD (fun _=>none) s.lo q _ (fun d v hv=>by
    rw [Tr.get_map] at hv
    obtain ⟨y,hy,rfl⟩:=oM hv
    exact ⟨⟨y,hy⟩,.inl ⟨y,rfl⟩⟩) k (some cs) hk
   rcases h2 with ⟨_,h2⟩ | h2
   ·cases h2
   ·exact h2
abbrev ContOk (P:Program) (B:Nat) (Ie:List Loc) (he:AH) (we:World) {R:Type} (x:R) (c:Ex->St->Option R) (Q:Exit->Act->World->Prop):Prop:=
 ∀ e s',c e s'=some x->∀ I' lam' a' w',Rel P B Ie he we I' lam' s' a' w'->Q e.to a' w'
theorem range_in (hN:yc P=true) (hev:Zn P B ev) {R:Type} {x:R} {g:Operand} {ps:Array Tmp} {assign body:Code} {K:Ex->St->Option R}
  (h:rangeK A ev g ps assign body s K=some x) (r:Rel P B Ie he we I lam s a w) {Q:Exit->Act->World->Prop} (hq:ContOk P B Ie he we x K Q):(Code.rangeFunc g ps assign body).wpIn (FW none) 0 P Q a w:=by
 unfold rangeK at h
 obtain ⟨fv,hf,h⟩:=oB h
 obtain ⟨fs,rfl,h⟩:=asSc_some.1 h
 obtain ⟨f,nf,sh,cs,rfl,h⟩:=asF_some.1 h
 obtain ⟨vs,hvs,h⟩:=oB h
 obtain ⟨hg,h⟩:=gB.1 h
 simp only [Bool.and_eq_true] at hg
 have hfn:∃ n,f=.func n:=by cases f<;>first | exact ⟨_,rfl⟩ | (have:=hg.2;cases this)
 obtain ⟨n,rfl⟩:=hfn
 obtain ⟨first,cap,ef,hnf,hsh,_,hcs⟩:=yC r hf
 have ef:a.eval g=.func (.func n) first cap:=ef
 have rvs:=yL (us:=(first++cap).toList) hvs hsh hcs
 have rfirst:AVRels I (vs.take nf) first.toList:=by
  have:=AVRels.take' nf rvs
  rw [Array.toList_append,List.take_left' (by simpa using hnf)] at this
  exact this
 have rcap:AVRels I (vs.drop nf) cap.toList:=by
  have:=AVRels.drop' nf rvs
  rw [Array.toList_append,List.drop_left' (by simpa using hnf)] at this
  exact this
 unfold callK at h
 simp only at h
 replace h:=(gB.1 h).2
 rcases cond_some.1 h with ⟨hi,_⟩ | ⟨_,h⟩
 ·simp [AV.bare,AV.cells,Sc.bare] at hi
 obtain ⟨⟨rs,h2⟩,hev1,h⟩:=oB h
 simp only at h
 have hB:=r.kp.size_B r.base
 intro b k cs' hro hb hr
 refine wpIn_rangeFunc (Q:=Q) (fun fn _=>?_) b k cs' hro hb hr
 let D:=w.heap.size
 let rec0:Loop:={ state:=.ready,pending:=none,fn,tmps:=a.tmps,params:=ps,assign,body,defers:=D }
 let w1:World:=w.alloc (.deferred (some []))
 let w2:World:=w1.alloc (.loop rec0)
 let L:Loc:=⟨D+1,0,0,0⟩
 let lp:ALoop:=⟨0,none,A.self,s.sl.map noLoc,ps.toList,assign,body⟩
 have r0:Rel P B Ie he we I lam s a w1:=r.allocOnly _
 have hs1:w1.heap.size=D+1:=by simp [w1,D]
 have hpre:I <+: I++[L]:=List.prefix_append _ _
 have r1:Rel P B Ie he we (I++[L]) lam { s with h:=s.h++[.loop lp] } a w2:=by
  refine r0.newHeap (L:=L) hs1.symm ⟨show B<=D+1 by have:B<=D:=hB;omega,rec0,?_,rfl,rfl,rfl,rfl,rfl,fun i v hv=>?_⟩
  ·show w2.heap[D+1]?=_
   rw [<- hs1];exact World.alloc_heap_new _ _
  ·have hv:(s.sl.map noLoc).get i=some v:=hv
   rw [Tr.get_map] at hv
   obtain ⟨u,hu,rfl⟩:=oM hv
   obtain ⟨y,hy,hrel⟩:=r.tm i u hu
   refine ⟨y,hy,?_,by cases u<;>rfl⟩
   cases u<;>first | trivial | exact SVRel.mono hpre hrel
 have hid:I.length=s.h.length:=r.hp.len
 have hL1:(I++[L])[s.h.length]?=some L:=by rw [<- hid];simp
 have ry:AVRel (I++[L]) (.sc (.fn (.yield s.h.length) 0 [] [])) (.func (.yield L.b) #[] #[]):=by
  refine ⟨#[],#[],?_,rfl,rfl,⟨by rw [List.length_append,<- hid];simp,rfl⟩,by simp [ScRels]⟩
  simp only [YJ,hL1,Option.map_some,Option.getD_some]
 have rall:AVRels (I++[L]) (vs.take nf++[.sc (.fn (.yield s.h.length) 0 [] [])]++vs.drop nf) (first.toList++[.func (.yield L.b) #[] #[]]++cap.toList):=
  ((AVRels.mono hpre rfirst).append' (show AVRels _ [_] [_] from ⟨ry,trivial⟩)).append' (AVRels.mono hpre rcap)
 have hB2:B<=w2.heap.size:=r1.kp.size_B r1.base
 obtain ⟨⟨fnn,hfnn,hbody⟩,hcall⟩:=hev.1 n _ _ _ _ hev1 (I++[L]) w2 _ rall r1.hp hB2
 have hname2 : fnn.name ≠ "runtime.NumGoroutine" := by
  have hm:fnn∈P.funcs:=Array.mem_of_getElem? hfnn
  have:=Array.all_eq_true_iff_forall_mem.1 hN fnn hm
  simpa using this
 have hb2:fnn.body≠none:=by intro hb;simp [hb] at hbody
 refine ⟨D+1,[{ target:=.collected D,args:=#[] }],w2,{ target:=.fn (.func n) cap,args:=first++#[.func (.yield (D+1)) #[] #[]] },w2,n,first++#[.func (.yield (D+1)) #[] #[]]++cap,w2,run_enterLoop_outer ..,?_,fun _ _=>trivial,?_,fun hd=>by simp [FW] at hd,?_⟩
 ·have ec:a.eval (.const (.func (.yield (D+1)) #[] #[]))=.func (.yield (D+1)) #[] #[]:=rfl
  simp [resolve,rangeCall,ef,ec,Deferred.ofValue]
 ·simp [invoke,callFunc,hfnn,hname2,hb2]
 ·have e1:(first.toList++[Value.func (.yield L.b) #[] #[]]++cap.toList).toArray=first++#[.func (.yield (D+1)) #[] #[]]++cap:=by simp [L]
  rw [e1] at hcall
  refine CallsIn.mono (R:=wL P B (I++[L]) (s.h++[.loop lp]) w2 rs h2) (Wm hcall) fun e w3 hpost=>?_
  cases e with
  | panicked c=>exact hpost.elim
  | outgrown=>exact hpost.elim
  | returned v=>
   obtain ⟨I',_,hh,hk⟩:=hpost
   have r2:Rel P B Ie he we I' lam { s with h:=h2 } a w3:=r1.call hh hk
   have hL':I'[s.h.length]?=some L:=zu hk.pre hL1
   unfold rangeEnd at h
   split at h
   case h_2=>cases h
   rename_i l2 hl2
   obtain ⟨hst,h⟩:=gB.1 h
   obtain ⟨_,r3,g1,g2,g3,_⟩:=r2.hp.obj _ _ L hl2 hL'
   have hbusy:r3.state≠.busy:=by
    rw [g2]
    intro e
    have:l2.st=1:=by
     revert e
     match l2.st with
     | 0=>intro e;cases e
     | 1=>intro _;rfl
     | 2=>intro e;cases e
     | n+3=>intro e;cases e
    rw [this] at hst;cases hst
   have r4:Rel P B Ie he we I' lam { s with h:=h2.set s.h.length .dead } a w3:=r2.kill _
   have hD:w3.heap[D]?=some (.deferred (some [])):=by
    have h0:w2.heap[D]?=some (.deferred (some [])):=by
     have:w1.heap[D]?=some (.deferred (some [])):=World.alloc_heap_new _ _
     exact (Below.heap_alloc w1 _ D (by rw [hs1];omega)).trans this
    exact (hk.foot D (by simp [w2,w1,D];omega) fun ho=>OwnB.noDf r1.hp ho h0).trans h0
   have hEs:we.heap.size<=D:=r.kp.size
   let w4:=w3.putObj (D+1) (.loop { r3 with state:=.exhausted })
   have r5:Rel P B Ie he we I' lam { s with h:=h2.set s.h.length .dead } { a with defers:=[{ target:=.collected D,args:=#[] }]++a.defers } w4:=by
    refine r4.putNo (b:=D+1) (by omega) ?_ (fun arr e z hc=>by rw [show w3.heap[D+1]?=_ from g1] at hc;cases hc) rfl ?_
    ·rintro ⟨i,o,L2,k1,k2,k3,k4⟩
     by_cases e:s.h.length=i
     ·subst e
      rw [List.getElem?_set_self'] at k1
      obtain ⟨y,_,hy⟩:=oM k1
      subst hy;simp [AO.own] at k2
     ·rw [List.getElem?_set_ne e] at k1
      exact e (r2.hp.uniq _ i _ o L L2 hl2 k1 rfl k2 hL' k3 k4.symm)
    ·obtain ⟨bs,d1,d2,d3⟩:=r4.df
     have d0:∀ c∈bs,c < D:=by
      obtain ⟨bs',e1,_,e3⟩:=r.df
      have:bs=bs':=by
       have e:=d1.symm.trans e1
       exact (List.map_inj_right (fun x y hxy=>by cases hxy;rfl)).1 e
      subst this
      intro c hc
      exact (Array.getElem?_eq_some_iff.1 (e3 c hc).2).1
     refine ⟨D::bs,by rw [d1];rfl,List.nodup_cons.2 ⟨fun hc=>by have:=d0 D hc;omega,d2⟩,fun c hc=>?_⟩
     rcases List.mem_cons.1 hc with rfl | hc
     ·exact ⟨hEs,(World.putObj_heap_other (by omega)).trans hD⟩
     ·have:=d0 c hc
      exact ⟨(d3 c hc).1,(World.putObj_heap_other (by omega)).trans (d3 c hc).2⟩
   refine ⟨r3.pending,w4,run_endLoop g1 hbusy,?_⟩
   rw [g3]
   split at h
   ·rename_i hp;rw [hp];exact hq .normal _ h _ _ _ _ r5
   ·rename_i i hp;rw [hp];exact wpIn_exit (hq (.exit i) _ h _ _ _ _ r5)
   ·rename_i hp;rw [hp];exact wpIn_ret (hq .ret _ h _ _ _ _ r5)
   ·cases h
theorem Tk (hN:yc P=true) (hm:P.follows .mixedOrders=true) (hor:wX P B A) (hev:Zn P B ev) (hro:zR A ev) {k:Nat} {ro:Option Nat} {R:Type} {x:R}:∀ (c:Code) (blk:Nat) (_:ro=none\/zo c=true) {I:List Loc} {lam:Nat->Nat} {s:St} {a:Act} {w:World} {K:Ex->St->Option R},
  evCode P A ev dOk k c blk s K=some x->Rel P B Ie he we I lam s a w->∀ {Q:Exit->Act->World->Prop},ContOk P B Ie he we x K Q->c.wpIn (FW ro) 0 P Q a w:=by
 intro c
 induction c with
 | skip=>intro blk _ I lam s a w K h r Q hq;exact wpIn_skip (hq _ _ h _ _ _ _ r)
 | label l=>intro blk _ I lam s a w K h r Q hq;exact wpIn_label (hq _ _ h _ _ _ _ r)
 | exit i=>intro blk _ I lam s a w K h r Q hq;exact wpIn_exit (hq _ _ h _ _ _ _ r)
 | ret=>intro blk _ I lam s a w K h r Q hq;exact wpIn_ret (hq _ _ h _ _ _ _ r)
 | region id ops draw=>
  intro blk _ I lam s a w K h r Q hq
  simp only [evCode] at h
  exact region_in hN hm hor hev hro r h fun s' hs I' lam' a' w' r' _=>hq .normal s' hs I' lam' a' w' r'
 | seq c1 c2 ih1 ih2=>
  intro blk hr0 I lam s a w K h r Q hq
  simp only [evCode] at h
  have n1:ro=none\/zo c1=true:=hr0.imp_right fun h=>by simp only [zo,Bool.and_eq_true] at h;exact h.1
  have n2:ro=none\/zo c2=true:=hr0.imp_right fun h=>by simp only [zo,Bool.and_eq_true] at h;exact h.2
  refine wpIn_seq (ih1 blk n1 h r fun e s' hs I' lam' a' w' r'=>?_)
  cases e with
  | normal=>exact ih2 blk n2 hs r' hq
  | exit i=>exact hq _ s' hs I' lam' a' w' r'
  | ret=>exact hq _ s' hs I' lam' a' w' r'
 | cond q c1 c2 ih1 ih2=>
  intro blk hr0 I lam s a w K h r Q hq
  simp only [evCode] at h
  have n1:ro=none\/zo c1=true:=hr0.imp_right fun h=>by simp only [zo,Bool.and_eq_true] at h;exact h.1
  have n2:ro=none\/zo c2=true:=hr0.imp_right fun h=>by simp only [zo,Bool.and_eq_true] at h;exact h.2
  obtain ⟨v,hv,h⟩:=oB h
  obtain ⟨u,rfl,h⟩:=asSc_some.1 h
  obtain ⟨t,rfl,h⟩:=asB_some.1 h
  have e:a.eval q=.bool t:=yC r hv
  rcases cond_some.1 h with ⟨rfl,h⟩ | ⟨rfl,h⟩
  ·exact wpIn_cond_true e (ih1 blk n1 h r hq)
  ·exact wpIn_cond_false e (ih2 blk n2 h r hq)
 | block id c ih=>
  intro blk hr0 I lam s a w K h r Q hq
  simp only [evCode] at h
  refine wpIn_block (ih id (hr0.imp_right fun h=>h) h r fun e s' hs I' lam' a' w' r'=>?_)
  cases e with
  | normal=>exact hq .normal s' hs I' lam' a' w' r'
  | exit i=>
   simp only [kBlock] at hs
   simp only [Ex.to,Exit.inBlock]
   rcases cond_some.1 hs with ⟨hi,hs⟩ | ⟨hi,hs⟩
   ·rw [if_pos (Nat.eq_of_beq_eq_true hi)];exact hq .normal s' hs I' lam' a' w' r'
   ·rw [if_neg (fun e=>by subst e;simp at hi)];exact hq (.exit i) s' hs I' lam' a' w' r'
  | ret=>exact hq .ret s' hs I' lam' a' w' r'
 | loop c ih=>
  intro blk hr0 I lam s a w K h r Q hq
  simp only [evCode] at h
  refine wpIn_loop_rounds k ?_
  have key:∀ (n:Nat) {I:List Loc} {lam:Nat->Nat} {s:St} {a':Act} {w:World},loopN (maskAt A blk) (evCode P A ev dOk k c blk) K n s=some x->Rel P B Ie he we I lam s a' w->Code.roundsIn (FW ro) 0 P c Q n a' w:=by
   intro n
   induction n with
   | zero=>intro I lam s a' w h;cases h
   | succ n ihn=>
    intro I lam s a' w h r
    rw [roundsIn_succ]
    simp only [loopN] at h
    refine ih blk (hr0.imp_right fun h=>h) h (wF A blk r) fun e s' hs I' lam' a2 w' r'=>?_
    cases e with
    | normal=>exact ihn hs r'
    | exit i=>exact hq (.exit i) s' hs I' lam' a2 w' r'
    | ret=>exact hq .ret s' hs I' lam' a2 w' r'
  exact key k h r
 | rangeFunc f ps c1 c2 _ _=>
  intro blk hr0 I lam s a w K h r Q hq
  rcases hr0 with rfl | hr0
  ·simp only [evCode] at h
   exact range_in hN hev h r hq
  ·cases hr0
 | scope c ih=>
  intro blk hr0 I lam s a w K h r Q hq
  simp only [evCode] at h
  refine wpIn_scope (ih blk (hr0.imp_right fun h=>h) h r fun e s' hs I' lam' a' w' r'=>?_)
  cases e with
  | normal=>exact hq .normal s' hs I' lam' a' w' r'
  | exit i=>exact hq (.exit i) s' hs I' lam' a' w' r'
  | ret=>exact hq .ret s' hs I' lam' a' w' r'
 | goto l=>intro blk _ I lam s a w K h;simp [evCode] at h
 | refuse y=>intro blk _ I lam s a w K h;simp [evCode] at h
def TJ (tmps:Array Value):ResultVar->Sem Value
 | .tmp t=>pure (tmps.getD t undef)
 | .cell a t=>do loadVar t (<- asAddr (tmps.getD a undef))
theorem results_eq (fn:Func) (tmps:Array Value):results fn tmps=(do
  let vs <- fn.results.mapM (TJ tmps)
  pure (if h:vs.size=1 then vs[0] else .tuple vs)):=by
 have e:(fun v=>match v with | ResultVar.tmp t=>(pure (tmps.getD t undef):Sem Value) | .cell a t=>do loadVar t (<- asAddr (tmps.getD a undef)))=TJ tmps:=by
  funext v;cases v<;>rfl
 unfold results
 rw [<- e]
 rfl
theorem Vf (r:Rel P B Ie he we I lam s a w) {R:Type} {x:R}:∀ {l:List ResultVar} {c:List AV->Option R},resOf P s l c=some x->
  ∃ rs us,c rs=some x/\AVRels I rs us/\(l.mapM (TJ a.tmps)).run P w=.ok us w
 | [],c,h=>⟨[],[],h,trivial,by simp⟩
 | .tmp t::l,c,h=>by
  simp only [resOf] at h
  obtain ⟨sv,hsv,h⟩:=oB h
  obtain ⟨av,hav,h⟩:=oB h
  obtain ⟨rs,us,h1,h2,h3⟩:=Vf r h
  obtain ⟨y,hy,hr⟩:=r.tm t sv hsv
  have hsv':sv=.v av:=by cases sv<;>simp [SV.val] at hav;rw [hav]
  subst hsv'
  refine ⟨av::rs,y::us,h1,⟨hr,h2⟩,?_⟩
  rw [List.mapM_cons]
  simp [TJ,Array.getD_eq_getD_getElem?,hy,h3]
 | .cell p t::l,c,h=>by
  simp only [resOf] at h
  obtain ⟨hu,h⟩:=gB.1 h
  obtain ⟨d,hd⟩:=Option.isSome_iff_exists.1 hu
  obtain ⟨i,hi⟩:=yU hd
  obtain ⟨sv,hsv,h⟩:=oB h
  obtain ⟨y,hy,hr⟩:=r.tm p sv hsv
  have fin:∀ (av:AV) (v:Value) (ad:Addr),y=.pointer (some ad)->AVRel I av v->(loadVar t ad).run P w=.ok v w->resOf P s l (fun vs=>c (av::vs))=some x->
    ∃ rs us,c rs=some x/\AVRels I rs us/\((ResultVar.cell p t::l).mapM (TJ a.tmps)).run P w=.ok us w:=by
   intro av v ad ey hrel hrun h
   obtain ⟨rs,us,h1,h2,h3⟩:=Vf r h
   refine ⟨av::rs,v::us,h1,⟨hrel,h2⟩,?_⟩
   rw [List.mapM_cons]
   have ea:asAddr (a.tmps[p]?.getD undef)=pure ad:=by simp [hy,ey,asAddr]
   simp [TJ,ea,hrun,h3]
  rcases cond_some.1 h with ⟨hg,h⟩ | ⟨hg,h⟩
  ·obtain ⟨cs,hl,h⟩:=zW h
   obtain ⟨b,off,ey,hn,hc⟩:=Yu r hr hl
   obtain ⟨vs,hrun,hvs⟩:=UI (P:=P) (w:=w) (ad:=⟨b,off,none⟩) (l:=cs) (fun j c hj=>by rw [wM];exact hc j c hj)
   rw [hn,zp hi] at hrun
   exact fin (.agg cs) (.agg vs.toArray) _ ey ⟨_,rfl,by simpa using hvs⟩ (by simp [loadVar,wo hd,hg,zQ hi,hrun]) h
  ·obtain ⟨u,hl,h⟩:=yt h
   obtain ⟨b,off,v,ey,hc,hv⟩:=TU r hr hl
   exact fin (.sc u) v _ ey hv (by simp [loadVar,wo hd,hg,hc]) h
theorem WC {args:List AV} {vals:List Value} (hr:AVRels I args vals) {h:AH} (hp:HRel P B I h w) (hB:B<=w.heap.size) (fn:Func) :
  Rel P B I h w I (fun _=>0) (enterSt fn args h) { tmps:=vals.toArray++Array.replicate (fn.ntmps - vals.toArray.size) undef,defers:=[] } w:=by
 have hl:=hr.length
 have get:∀ {x:List AV} {v:List Value},AVRels I x v->∀ (i:Nat) (y:AV),x[i]?=some y->∃ u,v[i]?=some u/\AVRel I y u:=by
  intro x
  induction x with
  | nil=>intro v _ i y h;simp at h
  | cons x xs ih=>
   intro v h i y hy
   match v,h with
   | u::us,⟨h1,h2⟩=>
    cases i with
    | zero=>simp at hy;subst hy;exact ⟨u,rfl,h1⟩
    | succ i=>simpa using ih h2 i y (by simpa using hy)
 refine ⟨fun i v hv=>?_,⟨fun k cs hk=>?_,fun k k' cs cs' hk=>?_⟩,hp,Keeps.refl ..,hB,[],rfl,List.nodup_nil,fun _ h=>by cases h⟩
 ·simp only [enterSt] at hv
  replace hv:=Tr.ofL_get _ _ _ _ hv
  rcases Nat.lt_or_ge i args.length with hi | hi
  ·rw [List.getElem?_append_left (by simpa using hi),List.getElem?_map] at hv
   obtain ⟨y,hy,rfl⟩:=oM hv
   obtain ⟨u,hu,hru⟩:=get hr i y hy
   refine ⟨u,?_,hru⟩
   rw [Array.getElem?_append_left (by simpa [<- hl] using hi)]
   simpa using hu
  ·rw [List.getElem?_append_right (by simpa using hi),List.getElem?_replicate] at hv
   split at hv
   ·rename_i hlt
    cases hv
    refine ⟨undef,?_,rfl⟩
    rw [Array.getElem?_append_right (by simpa [<- hl] using hi),Array.getElem?_replicate,if_pos]
    simpa [<- hl] using hlt
   ·cases hv
 ·simp only [enterSt] at hk;replace hk:=Tr.ofL_get _ _ _ _ hk;simp only [List.getElem?_replicate] at hk;split at hk<;>cases hk
 ·simp only [enterSt] at hk;replace hk:=Tr.ofL_get _ _ _ _ hk;simp only [List.getElem?_replicate] at hk;split at hk<;>cases hk
theorem WW {fn:Func} {R:Ending->World->Prop}:∀ (bs:List Nat) {w:World} {a:Act},Rel P B Ie he we I lam s a w->a.defers=bs.map (fun b=>{ target:=.collected b,args:=#[] })->
  (∀ {a':Act} {w':World},a'.tmps=a.tmps->Rel P B Ie he we I lam s a' w'->∃ v,(results fn a.tmps).run P w'=.ok v w'/\R (.returned v) w')->LeavesInM (FW none) 0 P fn a.tmps R (bs.map (fun b=>{ target:=.collected b,args:=#[] })) .returning w
 | [],w,a,r,_,h=>h rfl r
 | b::bs,w,a,r,hd,h=>by
  obtain ⟨bs',d1,d2,d3⟩:=r.df
  have:bs'=b::bs:=by
   have e:=hd.symm.trans d1
   exact ((List.map_inj_right (fun x y hxy=>by cases hxy;rfl)).1 e).symm
  subst this
  have h1:=d3 b (List.mem_cons_self ..)
  refine ⟨(by simp),.inl ⟨b,w.putObj b (.deferred none),rfl,run_takeDeferred h1.2,?_⟩⟩
  have hn:=List.nodup_cons.1 d2
  have r':Rel P B Ie he we I lam s { a with defers:=bs.map (fun b=>{ target:=.collected b,args:=#[] }) } (w.putObj b (.deferred none)):=by
   refine r.putNo h1.1 (fun ho=>OwnB.noDf r.hp ho h1.2) (fun arr e z hc=>by rw [h1.2] at hc;cases hc) rfl ⟨bs,rfl,hn.2,fun c hc=>?_⟩
   have h2:=d3 c (List.mem_cons_of_mem _ hc)
   exact ⟨h2.1,(World.putObj_heap_other (fun e=>hn.1 (by rw [<- e];exact hc))).trans h2.2⟩
  exact WW bs (a:={ a with defers:=bs.map (fun b=>{ target:=.collected b,args:=#[] }) }) r' rfl fun ht hr=>h ht hr
theorem round_tm {I:List Loc}:∀ {ps:List Tmp} {args:List AV} {vals:List Value},AVRels I args vals->∀ {t:Tr SV} {tmps:Array Value},(∀ (i:Nat) v,t.get i=some v->∃ x,tmps[i]?=some x/\SVRel I lam v x)->
  ∀ (i:Nat) v,((ps.zip args).foldl (fun t p=>t.set p.1 (.v p.2)) t).get i=some v->∃ x,((ps.zip vals).foldl (fun tmps p=>tmps.setIfInBounds p.1 p.2) tmps)[i]?=some x/\SVRel I lam v x
 | [],_,_,_,t,tmps,h=>h
 | _::_,[],[],_,t,tmps,h=>h
 | p::ps,x::args,y::vals,⟨h1,h2⟩,t,tmps,h=>by
  simp only [List.zip_cons_cons,List.foldl_cons]
  refine round_tm h2 fun i v hv=>?_
  by_cases e:p=i
  ·subst e
   rw [Tr.get_set_self] at hv
   obtain ⟨u,hu,rfl⟩:=oM hv
   obtain ⟨z,hz,_⟩:=h p u hu
   have hlt:=(Array.getElem?_eq_some_iff.1 hz).1
   exact ⟨y,by simp [hlt],h1⟩
  ·rw [Tr.get_set_ne _ e] at hv
   obtain ⟨z,hz,hr⟩:=h i v hv
   exact ⟨z,by rw [Array.getElem?_setIfInBounds_ne e];exact hz,hr⟩
 | _::_,[],_::_,h,_,_,_=>h.elim
 | _::_,_::_,[],h,_,_,_=>h.elim
theorem evF_ok (hN:yc P=true) (hm:P.follows .mixedOrders=true) (An:FuncId->FAn) (hor:∀ f,wX P B (An f)) (hro:∀ f k,zR (An f) (evF P An dOk k)):∀ k,Zn P B (evF P An dOk k)
 | 0=>⟨fun g args h rs h' he=>by simp [evF] at he,fun g args h rs h' he=>by simp [evF] at he⟩
 | k+1=>by
  refine ⟨fun g args h rs h' he I w vals hr hp hB=>?_,fun id args h rs h' he I w vals L hr hp hB hL=>?_⟩
  ·simp only [evF] at he
   obtain ⟨fn,hfn,he⟩:=oB he
   obtain ⟨code,hcode,he⟩:=oB he
   obtain ⟨_,he⟩:=gB.1 he
   refine ⟨⟨fn,hfn,by rw [hcode];rfl⟩,callsIn_of_wp_marks hfn hcode trivial ?_⟩
   refine Tk (ro:=none) hN hm (hor g) (evF_ok hN hm An hor hro k) (hro g k) code 0 (.inl rfl) he (WC hr hp hB fn) fun e s' hs I' lam' a' w' r'=>?_
   have fin:∀ e,(e=Exit.normal\/e=.ret)->(resOf P s' fn.results.toList fun vs=>some (vs,s'.h))=some (rs,h')->bodyPostM (FW none) 0 P fn (wL P B I h w rs h') e a' w':=by
    intro e he2 hres
    obtain ⟨bs,hbs,_⟩:=r'.df
    have hl:LeavesInM (FW none) 0 P fn a'.tmps (wL P B I h w rs h') a'.defers .returning w':=by
     rw [hbs]
     refine WW bs r' hbs fun {a2 w2} ht r2=>?_
     obtain ⟨rs',us,h1,h2,h3⟩:=Vf r2 hres
     cases h1
     rw [ht] at h3
     have hrun:(results fn a'.tmps).run P w2=.ok (if h:us.toArray.size=1 then us.toArray[0] else .tuple us.toArray) w2:=by
      rw [results_eq,Array.mapM_eq_mapM_toList]
      simp only [Sem.run_bind,map_eq_pure_bind,bind_assoc,h3,Result.andThen_ok,Sem.run_pure]
     exact ⟨_,hrun,I',⟨us.toArray,by simpa using h2,rfl⟩,r2.hp,r2.kp⟩
    rcases he2 with rfl | rfl<;>exact hl
   cases e with
   | normal=>exact fin _ (.inl rfl) hs
   | exit i=>cases hs
   | ret=>exact fin _ (.inr rfl) hs
  ·simp only [evF] at he
   split at he
   case h_2=>cases he
   rename_i l hl
   obtain ⟨hg,he⟩:=gB.1 he
   simp only [Bool.and_eq_true] at hg
   obtain ⟨⟨g0,g1⟩,g2⟩:=hg
   have hob:=hp.obj id _ L hl hL
   obtain ⟨_,r0,k1,k2,k3,k4,k5,k6,k7⟩:=hob
   have hlen:vals.length=r0.params.size:=by
    have h1:=Nat.eq_of_beq_eq_true g0
    rw [<- hr.length,h1,<- k4];simp
   refine ⟨r0,k1,hlen,?_⟩
   have hA:=hor l.fn
   have hR:=hro l.fn k
   have hE:=evF_ok hN hm An hor hro k
   have rin:Rel P B I h w I (fun _=>0) (roundSt l args h) { tmps:=(r0.params.zip vals.toArray).foldl (fun tmps (t,a)=>tmps.setIfInBounds t a) r0.tmps,defers:=[] } w:=by
    refine ⟨fun i v hv=>?_,⟨fun k cs hk=>?_,fun k k' cs cs' hk=>?_⟩,hp,Keeps.refl ..,hB,[],rfl,List.nodup_nil,fun _ h=>by cases h⟩
    ·have:=round_tm (lam:=fun _=>0) (ps:=l.params) hr (t:=l.sl) (tmps:=r0.tmps) (fun i v hv=>let ⟨x,hx,hr,_⟩:=k7 i v hv;⟨x,hx,hr⟩) i v hv
     obtain ⟨x,hx,hr⟩:=this
     refine ⟨x,?_,hr⟩
     rw [<- k4] at hx
     rw [<- Array.foldl_toList,Array.toList_zip]
     exact hx
    ·simp only [roundSt] at hk;rw [Tr.get_map] at hk;obtain ⟨_,_,hk⟩:=oM hk;cases hk
    ·simp only [roundSt] at hk;rw [Tr.get_map] at hk;obtain ⟨_,_,hk⟩:=oM hk;cases hk
   refine roundIn_of_wpIn (F:=FW none) trivial ?_
   rw [k5]
   refine Tk (ro:=some L.b) hN hm hA hE hR l.assign 0 (.inr g1) he rin fun e s1 hs I1 lam1 a1 w1 r1=>?_
   unfold kBegin at hs
   split at hs
   case h_2=>cases hs
   rename_i l1 hl1
   obtain ⟨hst,hs⟩:=gB.1 hs
   have hL1:I1[id]?=some L:=zu r1.kp.pre hL
   obtain ⟨m0,r2,m1,m2,m3,m4,m5,m6,m7⟩:=r1.hp.obj id _ L hl1 hL1
   have hst:=Nat.eq_of_beq_eq_true hst
   refine ⟨_,run_beginRound m1 (by rw [m2,hst];rfl),?_⟩
   have rb:Rel P B I h w I1 lam1 { s1 with h:=s1.h.set id (.loop { l1 with st:=1 }) } a1 (w1.putObj L.b (.loop { r2 with state:=.busy })):=by
    have hlt:=(Array.getElem?_eq_some_iff.1 m1).1
    exact r1.putOwn hl1 hL1 rfl rfl ⟨m0,_,World.putObj_heap_same hlt,rfl,m3,m4,m5,m6,m7⟩
   rw [k6]
   refine Tk (ro:=some L.b) hN hm hA hE hR l.body 0 (.inr g2) hs rb fun e s3 hs I3 lam3 a3 w3 r3=>?_
   unfold kRound at hs
   split at hs
   case h_2=>cases hs
   rename_i l3 hl3
   have hL3:I3[id]?=some L:=zu r3.kp.pre hL
   obtain ⟨m0,r4,m1,m2,m3,m4,m5,m6,m7⟩:=r3.hp.obj id _ L hl3 hL3
   have hlt:=(Array.getElem?_eq_some_iff.1 m1).1
   cases e with
   | normal=>
    cases hs
    have rb:=r3.putOwn (o':=.loop { l3 with st:=0,pend:=none }) (O:=.loop { r4 with state:=.ready,pending:=none }) hl3 hL3 rfl rfl ⟨m0,_,World.putObj_heap_same hlt,rfl,rfl,m4,m5,m6,m7⟩
    exact ⟨_,_,run_endRound none m1,I3,⟨#[.bool true],⟨rfl,trivial⟩,rfl⟩,rb.hp,rb.kp⟩
   | exit i=>
    cases hs
    have rb:=r3.putOwn (o':=.loop { l3 with st:=2,pend:=some (.exit i) }) (O:=.loop { r4 with state:=.done,pending:=some (.exit i) }) hl3 hL3 rfl rfl ⟨m0,_,World.putObj_heap_same hlt,rfl,rfl,m4,m5,m6,m7⟩
    exact ⟨_,_,run_endRound (some (.exit i)) m1,I3,⟨#[.bool false],⟨rfl,trivial⟩,rfl⟩,rb.hp,rb.kp⟩
   | ret=>
    cases hs
    have rb:=r3.putOwn (o':=.loop { l3 with st:=2,pend:=some .ret }) (O:=.loop { r4 with state:=.done,pending:=some .ret }) hl3 hL3 rfl rfl ⟨m0,_,World.putObj_heap_same hlt,rfl,rfl,m4,m5,m6,m7⟩
    exact ⟨_,_,run_endRound (some .ret) m1,I3,⟨#[.bool false],⟨rfl,trivial⟩,rfl⟩,rb.hp,rb.kp⟩
end Go.AM
namespace Go.AM
open Go.RowKit Go.ChangeShapes
section
variable {H : Type} {enc : TypeId × Value -> H} {P : Program}
theorem Wr (hl:laidOutB P=true) {W W':World} {sp:Nat->Bool} (hb:Below W.heap.size W W'):∀ {ts:List TypeId} {vs:List Value} {ds:List (DataW H)} {ps:List MemPlace},
  (ts.all fun t=>P.readableRec t&&decide (t < P.types.size))=true->DataW.TrodAll enc P W 0 (fun _=>true) true ts vs ds ps->(∀ p∈ps,p.block < W.heap.size)->(∀ p∈ps,sp p.block=true)->DataW.TrodAll enc P W' 0 sp true ts vs ds ps
 | [],[],[],ps,_,h,_,_=>h
 | t::ts,v::vs,d::ds,ps,ht,h,hp,hs=>by
  obtain ⟨p,q,h1,h2,rfl⟩:=h
  simp only [List.all_cons,Bool.and_eq_true,decide_eq_true_eq] at ht
  exact ⟨p,q,WideElems.Trod_stays hl ht.1.1 ht.1.2 h1 (fun x hx=>hb.same (hp x (List.mem_append_left _ hx))) (fun x hx=>hs x (List.mem_append_left _ hx)),
   Wr hl hb ht.2 h2 (fun x hx=>hp x (List.mem_append_right _ hx)) (fun x hx=>hs x (List.mem_append_right _ hx)),rfl⟩
 | [],_::_,_,_,_,h,_,_=>h.elim
 | [],[],_::_,_,_,h,_,_=>h.elim
 | _::_,[],_,_,_,h,_,_=>h.elim
 | _::_,_::_,[],_,_,h,_,_=>h.elim
theorem law_post (hl:laidOutB P=true) {f:Func} {s:ChangeSpec} {tb:TypeId} (hr:f.resultTypes=#[tb]) (htb:P.underlying tb=some .bool) (hv:s.vars=[])
  (hp:(f.params.toList.all fun t=>P.readableRec t&&decide (t < P.types.size))=true)
  {W W':World} {args:Array Value} {ds gs:List (DataW H)} {before:List MemPlace} (hW:DataW.Whole enc P f.params.toList s.vars false W args.toList ds gs before)
  (hs:s.fn H (ds++gs)={ results:=[.lit (.bool true)],args:=ds }) (hb:Below W.heap.size W W'):s.post enc P f false true false false W args (.bool true) W':=by
 have hlt:=hW.lt
 have hW0:=hW
 obtain ⟨p,q,hA,hV,rfl,_,_⟩:=hW0
 rw [hv] at hV
 obtain ⟨rfl,rfl⟩:=trodVars_none hV
 refine ⟨ds,[],p++[],[],p,[],hW,?_,?_,?_,hb.frame _,fun h=>by cases h⟩
 ·rw [hs,hr]
  simp only [Value.resultList]
  exact trodAll_mk1 ⟨1,by simp [DataW.trod,Value.cells,htb]⟩
 ·rw [hs]
  exact Wr hl hb hp hA (fun x hx=>hlt x (by simpa using hx)) (fun x hx=>by simpa using hlt x (by simpa using hx))
 ·rw [hv,hs];rfl
end
theorem law_in {H:Type} {enc:TypeId×Value->H} {C:Checked} {os:Os} {f:FuncId} {fn:Func} {s:ChangeSpec} {conds:List PathCond} {tb:TypeId}
  (own:ownKnob C.prog.godebug=none) (started:os.Started) (noInit:C.prog.inits.idxOf? f=none) (hfn:C.prog.funcs[f]?=some fn)
  (witness:∃ (w:World) (tape:Tape) (i:Input),w.os=os/\(w.forCall tape i).Shaped C.prog/\i.vars=[]/\Input.okWide C.prog (w.forCall tape i) .any w.heap.size f i/\
   s.pre6 enc C.prog fn conds false (w.forCall tape i).memory i.args/\Assume.holds {} C.prog (lone (Frame.enter C.prog f i.args .normal) [] (w.forCall tape i)))
  (hl:laidOutB C.prog=true) (hr:fn.resultTypes=#[tb]) (htb:C.prog.underlying tb=some .bool) (hv:s.vars=[])
  (hp:(fn.params.toList.all fun t=>C.prog.readableRec t&&decide (t < C.prog.types.size))=true)
  (hN:yc C.prog=true) (hm:C.prog.follows .mixedOrders=true) (An:FuncId->FAn) (hor:∀ B f,wX C.prog B (An f)) (hro:∀ f k,zR (An f) (evF C.prog An dOk k))
  (run:∀ (W:World) (base:Nat) (args:Array Value) (ds:List (DataW H)) (before:List MemPlace),
   (∀ (j:Nat) t v,fn.params[j]?=some t->args[j]?=some v->Value.okWide C.prog W .any base t v)->
   DataW.TrodAll enc C.prog W 0 (fun _=>true) true fn.params.toList args.toList ds before->(∀ p∈before,p.block < W.heap.size)->
   s.fn H ds={ results:=[.lit (.bool true)],args:=ds }/\
   ∃ (I:List Loc) (avs:List AV) (h h':AH) (k:Nat),AVRels I avs args.toList/\HRel C.prog W.heap.size I h W/\evF C.prog An dOk k (.func f) avs h=some ([.sc (.bool true)],h')) :
  ReturnsInHanded {} C os f .any (s.pre6 enc C.prog fn conds false) (s.post enc C.prog fn false true false false):=by
 refine returnsInHanded_of_change own started noInit hfn witness ?_
 intro W base args ds gs before hval hW _ _
 have hlt:=hW.lt
 have hW0:=hW
 obtain ⟨p,q,hA,hV,rfl,_,_⟩:=hW0
 rw [hv] at hV
 obtain ⟨rfl,rfl⟩:=trodVars_none hV
 obtain ⟨hs,I,avs,h,h',k,hr1,hp1,hev⟩:=run W base args ds p hval hA (fun x hx=>hlt x (by simpa using hx))
 have hc:=callsIn_wide.1 (((evF_ok (B:=W.heap.size) hN hm An (hor _) hro k).1 f avs h _ _ hev I W args.toList hr1 hp1 (Nat.le_refl _)).2)
 have e:args.toList.toArray=args:=by simp
 rw [e] at hc
 refine hc.mono fun e W' he=>?_
 cases e with
 | returned v=>
  obtain ⟨I',⟨arr,ha,hv'⟩,_,hk⟩:=he
  have hvb:v=.bool true:=by
   obtain ⟨l⟩:=arr
   match l,ha with
   | [u],⟨h1,_⟩=>
    have h1':u=.bool true:=h1
    simp at hv';rw [hv',h1']
  subst hvb
  exact ⟨_,rfl,law_post hl hr htb hv hp hW (by rw [List.append_nil];exact hs) hk.bel⟩
 | panicked c=>exact he.elim
 | outgrown=>exact he.elim
end Go.AM
namespace Go.AM
open Go.RowKit
abbrev Tab:=List (FuncId×(List AV->Option (Bool×List AV)))
def mkAn (base:List (FuncId×FAn)) (tab:Tab):FuncId->FAn:=fun f=>
 let A:=((base.find? fun p=>Nat.beq p.1 f).map (·.2)).getD {}
 { loc:=A.loc,keep:=A.keep,rj:=A.rj,iso:=tab.map (·.1),orc:=fun n as=>(tab.find? fun p=>Nat.beq p.1 n).bind fun p=>p.2 as }
def NewOk (P:Program) (An:FuncId->FAn):Tab->Prop
 | []=>True
 | p::r=>(∀ as q,p.2 as=some q->q.1=true->∃ k h',evF P An dOk k (.func p.1) as []=some (q.2,h'))/\NewOk P An r
end Go.AM
namespace Go.TM
open Go Go.AM
noncomputable section
abbrev wI (x:Int):Int:=IntKind.wrap IntKind.i64 x
abbrev wU (x:Int):Int:=IntKind.wrap IntKind.u64 x
structure Mt (α:Type) where
 F:Type->Type
 E:Type
 app:(R:Type)->F R->E->R
 fill:E->α
 get:α->Option E
 ok:∀ v e,get v=some e->v=fill e
def mK {α:Type} (a:α) (b:α->Bool) (h:∀ v,b v=true->v=a):Mt α:=
 ⟨fun R=>R,Unit,fun _ f _=>f,fun _=>a,fun v=>cond (b v) (some ()) none,fun v e g=>by
  cases hb:b v with
  | true=>exact h v hb
  | false=>rw [hb] at g;cases g⟩
def mNo {α:Type} (a:α):Mt α:=⟨fun R=>R,Unit,fun _ f _=>f,fun _=>a,fun _=>none,fun _ _ g=>nomatch g⟩
def Yg {α β:Type} (M:Mt α) (f:α->β) (g:β->Option α) (h:∀ b a,g b=some a->b=f a):Mt β:=
 ⟨M.F,M.E,M.app,fun e=>f (M.fill e),fun v=>(g v).bind M.get,fun v e q=>by
  cases hg:g v with
  | none=>rw [hg] at q;cases q
  | some a=>rw [hg] at q;rw [h v a hg,M.ok a e q]⟩
def mH {α β:Type} (f:α->β) (g:β->Option α) (h:∀ b a,g b=some a->b=f a):Mt β:=
 ⟨fun R=>α->R,α,fun _ k e=>k e,f,g,h⟩
def mP {α β γ:Type} (A:Mt α) (B:Mt β) (f:α->β->γ) (g:γ->Option (α×β)) (h:∀ v a b,g v=some (a,b)->v=f a b):Mt γ:=
 ⟨fun R=>A.F (B.F R),A.E×B.E,fun R f e=>B.app R (A.app _ f e.1) e.2,fun e=>f (A.fill e.1) (B.fill e.2),
  fun v=>(g v).bind fun p=>(A.get p.1).bind fun a=>(B.get p.2).bind fun b=>some (a,b),fun v e q=>by
   obtain ⟨p,h0,q⟩:=oB q
   obtain ⟨a,h1,q⟩:=oB q
   obtain ⟨b,h2,q⟩:=oB q
   cases q
   rw [h v p.1 p.2 h0,A.ok _ a h1,B.ok _ b h2]⟩
def mLs {α:Type} (m:α->Mt α):List α->Mt (List α)
 | []=>mK [] (fun l=>l.isEmpty) (fun v h=>by cases v<;>simp_all)
 | x::r=>mP (m x) (mLs m r) .cons (fun v=>match v with | []=>none | x::r=>some (x,r)) (fun v a b h=>by cases v<;>simp_all)
def Uu (t t':Ty) (xs:List t'.T):Option (List t.T):=if h:t'=t then some (h▸xs) else none
theorem YE {t t':Ty} {xs:List t'.T} {ys:List t.T} (h:Uu t t' xs=some ys):∃ e:t'=t,ys=e▸xs:=by
 unfold Uu at h
 by_cases e:t'=t
 ·subst e;simp at h;exact ⟨rfl,h.symm⟩
 ·simp [e] at h
theorem ifS {α:Type} {p:Prop} [Decidable p] {o:Option α} {a:α} (h:(if p then o else none)=some a):p/\o=some a:=by
 by_cases q:p<;>simp_all
def nH:Nat:=1000003
def TD (i:Nat):Mt Nat:=cond (Nat.beq i nH) (mH id some (fun _ _ h=>by simp_all)) (mK i (fun j=>Nat.beq j i) (fun v h=>by simp_all))
def mC0 (q:List TC->Mt (List TC)):TC->Mt TC
 | .bool _=>mH .bool (fun v=>match v with | .bool b=>some b | _=>none) (fun v a h=>by cases v<;>simp_all)
 | .int k _=>mH (.int k) (fun v=>match v with | .int k' n=>if k'=k then some n else none | _=>none) (fun v a h=>by cases v<;>simp_all)
 | .str _=>mH .str (fun v=>match v with | .str b=>some b | _=>none) (fun v a h=>by cases v<;>simp_all)
 | .d e t _=>mH (.d e t) (fun v=>match v with | .d e' t' xs=>if e'=e then Uu t t' xs else none | _=>none) (fun v a h=>by
   cases v<;>first | (cases h;done) | skip
   obtain ⟨q,h⟩:=ifS h
   obtain ⟨r,rfl⟩:=YE h;subst r;rw [q])
 | .nil=>mK .nil (fun v=>match v with | .nil=>true | _=>false) (fun v h=>by cases v<;>simp_all)
 | .g i=>mK (.g i) (fun v=>match v with | .g j=>Nat.beq j i | _=>false) (fun v h=>by cases v<;>simp_all)
 | .ptr i o=>mK (.ptr i o) (fun v=>match v with | .ptr j p=>decide (j=i/\p=o) | _=>false) (fun v h=>by cases v<;>simp_all)
 | .sl i a b=>mP (TD a) (TD b) (.sl i) (fun v=>match v with | .sl j a b=>if j=i then some (a,b) else none | _=>none) (fun v a b h=>by cases v<;>simp_all)
 | .sc i a b=>mP (TD a) (TD b) (.sc i) (fun v=>match v with | .sc j a b=>if j=i then some (a,b) else none | _=>none) (fun v a b h=>by cases v<;>simp_all)
 | .fn f nf sh cells=>Yg (q cells) (.fn f nf sh) (fun v=>match v with | .fn g n s cs=>if g=f/\n=nf/\s=sh then some cs else none | _=>none) (fun v a h=>by cases v<;>simp_all)
 | .nilp=>mK .nilp (fun v=>match v with | .nilp=>true | _=>false) (fun v h=>by cases v<;>simp_all)
 | .nilf=>mK .nilf (fun v=>match v with | .nilf=>true | _=>false) (fun v h=>by cases v<;>simp_all)
 | .nili=>mK .nili (fun v=>match v with | .nili=>true | _=>false) (fun v h=>by cases v<;>simp_all)
 | .yl i=>mK (.yl i) (fun v=>match v with | .yl j=>Nat.beq j i | _=>false) (fun v h=>by cases v<;>simp_all)
def mC:TC->Mt TC:=mC0 (mLs (mC0 fun l=>mNo l))
def mA:TA->Mt TA
 | .sc c=>Yg (mC c) .sc (fun v=>match v with | .sc c=>some c | _=>none) (fun v a h=>by cases v<;>simp_all)
 | .agg l=>Yg (mLs mC l) .agg (fun v=>match v with | .agg c=>some c | _=>none) (fun v a h=>by cases v<;>simp_all)
def mV:TV->Mt TV
 | .v a=>Yg (mA a) .v (fun v=>match v with | .v c=>some c | _=>none) (fun v a h=>by cases v<;>simp_all)
 | .no=>mK .no (fun v=>match v with | .no=>true | _=>false) (fun v h=>by cases v<;>simp_all)
 | .t l=>Yg (mLs mA l) .t (fun v=>match v with | .t c=>some c | _=>none) (fun v a h=>by cases v<;>simp_all)
 | .l a b=>mK (.l a b) (fun v=>match v with | .l x y=>decide (x=a/\y=b) | _=>false) (fun v h=>by cases v<;>simp_all)
 | .s a b=>mK (.s a b) (fun v=>match v with | .s x y=>decide (x=a/\y=b) | _=>false) (fun v h=>by cases v<;>simp_all)
 | .p a i n=>Yg (TD i) (fun i=>.p a i n) (fun v=>match v with | .p b j m=>if b=a/\m=n then some j else none | _=>none) (fun v a h=>by cases v<;>simp_all)
 | .e t _ i n=>mP (mH (α:=List t.T) id some (fun _ _ h=>by simp_all)) (TD i) (fun l i=>.e t l i n) (fun v=>match v with | .e t' xs j m=>if m=n then (Uu t t' xs).map fun l=>(l,j) else none | _=>none) (fun v a b h=>by
   cases v<;>first | (cases h;done) | skip
   obtain ⟨q,h⟩:=ifS h
   obtain ⟨l,h1,h⟩:=oM h
   obtain ⟨r,rfl⟩:=YE h1;subst r;cases h;rw [q])
 | x=>mNo x
def mN {β:Type} (m:β->Mt β) (p:Nat×β):Mt (Nat×β):=
 Yg (m p.2) (Prod.mk p.1) (fun q=>if q.1=p.1 then some q.2 else none) (fun q a h=>by cases q;simp_all)
def mO:TO->Mt TO
 | .row e t _=>mH (.row e t) (fun v=>match v with | .row e' t' xs=>if e'=e then Uu t t' xs else none | _=>none) (fun v a h=>by
   cases v<;>first | (cases h;done) | skip
   obtain ⟨q,h⟩:=ifS h
   obtain ⟨r,rfl⟩:=YE h;subst r;rw [q])
 | .crow e l=>Yg (mLs mC l) (.crow e) (fun v=>match v with | .crow e' c=>if e'=e then some c else none | _=>none) (fun v a h=>by cases v<;>simp_all)
 | .box e l=>Yg (mLs mC l) (.box e) (fun v=>match v with | .box e' c=>if e'=e then some c else none | _=>none) (fun v a h=>by cases v<;>simp_all)
 | .dead=>mK .dead (fun v=>match v with | .dead=>true | _=>false) (fun v h=>by cases v<;>simp_all)
 | .loop a b c d e l=>Yg (mLs (mN mV) l) (.loop a b c d e) (fun v=>match v with | .loop a' b' c' d' e' c0=>if a'=a/\b'=b/\c'=c/\d'=d/\e'=e then some c0 else none | _=>none) (fun v a h=>by cases v<;>simp_all)
def mS (s:CS):Mt CS:=mP (mLs (mN mV) s.sl) (mP (mLs (mN (mLs mC)) s.lo) (mLs mO s.h) Prod.mk some (fun v a b h=>by simp_all)) (fun a b=>⟨a,b.1,b.2,s.n0,false⟩)
 (fun v=>if v.n0=s.n0/\v.w=false then some (v.sl,v.lo,v.h) else none) (fun v a b h=>by cases v;cases b;simp_all)
def tq {α R:Type} (M:Mt α) (K:M.F (Option R)) (v:α):Option R:=(M.get v).bind fun e=>M.app _ K e
def mAO (l:List TA) (g:List TO):Mt (List TA×List TO):=mP (mLs mA l) (mLs mO g) Prod.mk some (fun v a b h=>by simp_all)
abbrev y1 {ρ A B:Type} [Inhabited ρ] (o:Option ρ) (F:ρ->A×B):List (Bool×A×B):=[(ok o,(F (val o)).1,(F (val o)).2)]
abbrev y2 {σ ρ A B:Type} [Inhabited σ] [Inhabited ρ] (o:Option (σ ⊕ ρ)) (F:σ ⊕ ρ->A×B):List (Bool×A×B):=(isL o,(F (.inl (zx o))).1,(F (.inl (zx o))).2)::y1 (zB o) fun r=>F (.inr r)
abbrev y3 {τ σ ρ A B:Type} [Inhabited τ] [Inhabited σ] [Inhabited ρ] (o:Option (τ ⊕ (σ ⊕ ρ))) (F:τ ⊕ (σ ⊕ ρ)->A×B):List (Bool×A×B):=(isL o,(F (.inl (zx o))).1,(F (.inl (zx o))).2)::y2 (zB o) fun r=>F (.inr r)
abbrev y4 {υ τ σ ρ A B:Type} [Inhabited υ] [Inhabited τ] [Inhabited σ] [Inhabited ρ] (o:Option (υ ⊕ (τ ⊕ (σ ⊕ ρ)))) (F:υ ⊕ (τ ⊕ (σ ⊕ ρ))->A×B):List (Bool×A×B):=(isL o,(F (.inl (zx o))).1,(F (.inl (zx o))).2)::y3 (zB o) fun r=>F (.inr r)
def WO {A B:Type} (l:Option (List (Bool×A×B))) (Q:A->B->Prop):Prop:=∀ a,l=some a->∀ x∈a,x.1=true->Q x.2.1 x.2.2
theorem w0 {A B:Type} {Q:A->B->Prop}:WO (some []) Q:=fun a h=>by cases h;simp
theorem w1 {ρ A B:Type} [Inhabited ρ] {o:Option ρ} {F:ρ->A×B} {Q:A->B->Prop} (h:∀ {r},o=some r->Q (F r).1 (F r).2):WO (some (y1 o F)) Q:=fun a e=>by
 cases e;intro x hx h1;simp at hx;subst hx;exact h (ok_val h1)
theorem w2 {σ ρ A B:Type} [Inhabited σ] [Inhabited ρ] {o:Option (σ ⊕ ρ)} {F:σ ⊕ ρ->A×B} {Q:A->B->Prop} (h:∀ {r},o=some r->Q (F r).1 (F r).2):WO (some (y2 o F)) Q:=fun a e=>by
 cases e;intro x hx h1
 rcases List.mem_cons.1 hx with rfl | hx
 ·exact h (Tx h1)
 ·exact w1 (o:=zB o) (F:=fun r=>F (.inr r)) (Q:=Q) (fun {r} q=>h (VY q)) _ rfl x hx h1
theorem w3 {τ σ ρ A B:Type} [Inhabited τ] [Inhabited σ] [Inhabited ρ] {o:Option (τ ⊕ (σ ⊕ ρ))} {F:τ ⊕ (σ ⊕ ρ)->A×B} {Q:A->B->Prop} (h:∀ {r},o=some r->Q (F r).1 (F r).2):WO (some (y3 o F)) Q:=fun a e=>by
 cases e;intro x hx h1
 rcases List.mem_cons.1 hx with rfl | hx
 ·exact h (Tx h1)
 ·exact w2 (o:=zB o) (F:=fun r=>F (.inr r)) (Q:=Q) (fun {r} q=>h (VY q)) _ rfl x hx h1
theorem w4 {υ τ σ ρ A B:Type} [Inhabited υ] [Inhabited τ] [Inhabited σ] [Inhabited ρ] {o:Option (υ ⊕ (τ ⊕ (σ ⊕ ρ)))} {F:υ ⊕ (τ ⊕ (σ ⊕ ρ))->A×B} {Q:A->B->Prop} (h:∀ {r},o=some r->Q (F r).1 (F r).2):WO (some (y4 o F)) Q:=fun a e=>by
 cases e;intro x hx h1
 rcases List.mem_cons.1 hx with rfl | hx
 ·exact h (Tx h1)
 ·exact w3 (o:=zB o) (F:=fun r=>F (.inr r)) (Q:=Q) (fun {r} q=>h (VY q)) _ rfl x hx h1
theorem pk_mem {alts:List (Bool×Ex×CS)} {e:Ex} {s:CS}:xm alts (fun e s=>some (e,s))=some (e,s)->∃ x∈alts,x.1=true/\x.2=(e,s):=by
 induction alts with
 | nil=>intro h;cases h
 | cons y l ih=>
  obtain ⟨b,e0,s0⟩:=y
  intro h
  cases b with
  | true=>cases h;exact ⟨_,List.mem_cons_self ..,rfl,rfl⟩
  | false=>obtain ⟨x,hx,q⟩:=ih h;exact ⟨x,List.mem_cons_of_mem _ hx,q⟩
theorem pr_mem {alts:List (Bool×List TA×TH)} {e:List TA} {s:TH}:wp alts (fun e s=>some (e,s))=some (e,s)->∃ x∈alts,x.1=true/\x.2=(e,s):=by
 induction alts with
 | nil=>intro h;cases h
 | cons y l ih=>
  obtain ⟨b,e0,s0⟩:=y
  intro h
  cases b with
  | true=>cases h;exact ⟨_,List.mem_cons_self ..,rfl,rfl⟩
  | false=>obtain ⟨x,hx,q⟩:=ih h;exact ⟨x,List.mem_cons_of_mem _ hx,q⟩
theorem zd {ρ σ:Type} {c:Bool} {a b:Option ρ} {a' b':Option σ} {r:ρ} {y:σ} (h1:a=some r->a'=some y) (h2:b=some r->b'=some y):cond c a b=some r->cond c a' b'=some y:=by
 cases c
 ·exact h2
 ·exact h1
theorem zc {ρ σ:Type} {c:Bool} {a b:Option σ} {a' b':Option ρ} {f:ρ->Option σ} (h1:a=a'.bind f) (h2:b=b'.bind f):cond c a b=(cond c a' b').bind f:=by
 cases c
 ·exact h2
 ·exact h1
theorem zz {ρ σ:Type} {c:Bool} {a b:Option ρ} {a' b':Option σ} {r:ρ} {y:σ} (h1:c=true->a=some r->a'=some y) (h2:c=false->b=some r->b'=some y):cond c a b=some r->cond c a' b'=some y:=by
 cases c
 ·exact h2 rfl
 ·exact h1 rfl
theorem gT {G:Prop} {σ:Type} {c:Bool} {a b:Option σ} {y:Option σ} (h:c=true) (h1:G->a=y):G->cond c a b=y:=by rw [h];exact h1
theorem gF {G:Prop} {σ:Type} {c:Bool} {a b:Option σ} {y:Option σ} (h:c=false) (h1:G->b=y):G->cond c a b=y:=by rw [h];exact h1
theorem Yi {ρ σ:Type} {c:Bool} {a b:Option σ} {a' b':Option ρ} {f:ρ->Option σ} (h1:c=true->a=a'.bind f) (h2:c=false->b=b'.bind f):cond c a b=(cond c a' b').bind f:=by
 cases c
 ·exact h2 rfl
 ·exact h1 rfl
theorem bT {σ:Type} {c:Bool} {a b y:Option σ} (h:c=true) (h1:a=y):cond c a b=y:=by rw [h];exact h1
theorem nX {ρ σ:Type} {r:ρ} {y:Option σ} {z:σ}:(none:Option ρ)=some r->y=some z:=nofun
theorem sX {ρ σ:Type} {F:ρ->σ} {a r:ρ} (h:some a=some r):some (F a)=some (F r):=by cases h;rfl
theorem nB {ρ σ:Type} {f:ρ->Option σ}:none=none.bind f:=rfl
theorem sB {ρ σ:Type} {f:ρ->Option σ} {a:ρ}:f a=(some a).bind f:=rfl
abbrev sm {ρ σ:Type} (f:ρ->σ):ρ->Option σ:=fun r=>some (f r)
theorem bD {ρ σ:Type} {o:Option ρ} {F:ρ->σ} {r:ρ} (h:o=some r):o.bind (sm F)=some (F r):=by rw [h];rfl
abbrev ob {α β:Type} [Inhabited α] (o:Option α) (f:α->Option β):Option β:=cond (ok o) (f (val o)) none
abbrev ck {β:Type} (i n:Int) (b:Option β):Option β:=cond (decide (0<=i)) (cond (decide (i < n)) b none) none
def itL {α:Type} (z:α) (g:α->α):Nat->α
 | 0=>z
 | n+1=>g (itL z g n)
theorem zE {ρ σ:Type} {e:Option σ} {g:ρ->σ} {v:Option ρ} (T:(ρ->Option σ)->Option σ) (h:e=T (sm g)) (hT:∀ K,T K=v.bind K):e=v.bind (sm g):=h.trans (hT _)
end
structure Lv (P:Program) (base:List (FuncId×TAn)) where
 o:Yt
 t:Zu
 ok:TnOk P (zT base o t) (mkA base) dOk
noncomputable section
variable {P : Program} {base : List (FuncId × TAn)}
abbrev Lv.n (S:Lv P base):FuncId->TAn:=zT base S.o S.t
abbrev fE (S:Lv P base) (f:FuncId) (a:List TA) (h:TH):Option (List TA×TH):=fnBody P (S.n f) (TM.evF P S.n dOk 40) dOk 40 f a h
abbrev yE (S:Lv P base) (a:List TA) (h:TH):Option (List TA×TH):=evY P S.n (TM.evF P S.n dOk 40) dOk 40 a h
abbrev cA (P:Program) (base:List (FuncId×TAn)) (f key:Nat):Code:=codeAt P (zT base [] [] f) f key
abbrev lE (S:Lv P base) (f b k n:Nat) (s:CS):Option (Ex×CS):=UJ P (S.n f) (TM.evF P S.n dOk (k+40)) dOk (k+40) (cA P base f (8*b)) b (8*b) n s
abbrev pE (S:Lv P base) (f key b k:Nat) (s:CS):Option (Ex×CS):=QD P (S.n f) (TM.evF P S.n dOk (k+40)) dOk (k+40) (cA P base f key) b key s fun e s=>some (e,s)
theorem lS {S:Lv P base} {f blk k n m:Nat} {s:CS} {ρ:Type} {o:Option ρ} {r:ρ} {y:Ex×CS} (b:Option (Ex×CS)) (h1:Uc P (S.n f) (TM.evF P S.n dOk (k+40)) dOk (k+40) (cA P base f (8*blk)) blk (8*blk) s (lE S f blk k (n+m)) (fun e s=>some (e,s))=b) (h2:o=some r->b=some y) (h:o=some r):lE S f blk k (n+1+m) s=some y:=by
 rw [<- h2 h,<- h1,show n+1+m=n+m+1 by omega];exact loop_step ..
theorem lP {S:Lv P base} {f key blk k:Nat} {s:CS} {ρ:Type} {o:Option ρ} {r:ρ} {y:Ex×CS} (b:Option (Ex×CS)) (h1:pE S f key blk k s=b) (h2:o=some r->b=some y) (h:o=some r):pE S f key blk k s=some y:=h1.trans (h2 h)
def Lv.fn (S:Lv P base) (f:FuncId) (l:List TA) (g:List TO) (K:(mAO l g).F (Option (List (Bool×List TA×TH)))) (hf:Nat.beq f YF=false) (h:∀ e,WO ((mAO l g).app _ K e) fun a b=>fE S f ((mAO l g).fill e).1 ((mAO l g).fill e).2=some (a,b)):Lv P base:=
 ⟨(f,fun a H=>tq (mAO l g) K (a,H))::S.o,S.t,tn_orc S.ok S.ok (p:=(f,fun a H=>tq (mAO l g) K (a,H))) (by
  intro al H q hq rs H2 h2
  obtain ⟨e,he,hq⟩:=oB hq
  obtain ⟨x,hx,h3,h4⟩:=pr_mem h2
  have hh:=h e q hq x hx h3
  rw [<- (mAO l g).ok _ _ he,h4] at hh
  exact ⟨41,(fn_eq hf).trans hh⟩)⟩
def Lv.yf (S:Lv P base) (l:List TA) (g:List TO) (K:(mAO l g).F (Option (List (Bool×List TA×TH)))) (h:∀ e,WO ((mAO l g).app _ K e) fun a b=>yE S ((mAO l g).fill e).1 ((mAO l g).fill e).2=some (a,b)):Lv P base:=
 ⟨(YF,fun a H=>tq (mAO l g) K (a,H))::S.o,S.t,tn_orc S.ok S.ok (p:=(YF,fun a H=>tq (mAO l g) K (a,H))) (by
  intro al H q hq rs H2 h2
  obtain ⟨e,he,hq⟩:=oB hq
  obtain ⟨x,hx,h3,h4⟩:=pr_mem h2
  have hh:=h e q hq x hx h3
  rw [<- (mAO l g).ok _ _ he,h4] at hh
  exact ⟨41,fnY_eq.trans hh⟩)⟩
def Lv.lp (S:Lv P base) (f b:Nat) (s:CS) (K:(mS s).F (Option (List (Bool×Ex×CS)))) (hp:Ym P (S.n f) f (8*b)=some (.loop (cA P base f (8*b)),b)) (h:∀ e,WO ((mS s).app _ K e) fun a t=>lE S f b FU (FU+40) ((mS s).fill e)=some (a,t)):Lv P base:=
 ⟨S.o,((f,8*b),tq (mS s) K)::S.t,tn_tell S.ok S.ok (p:=((f,8*b),tq (mS s) K)) ⟨_,_,hp,by
  intro S' alts e t hq h2
  obtain ⟨e',he,hq⟩:=oB hq
  obtain ⟨x,hx,h3,h4⟩:=pk_mem h2
  have hh:=h e' alts hq x hx h3
  rw [<- (mS s).ok _ _ he,h4] at hh
  exact ⟨FU+40,(evPiece_loop (by rw [Nat.mul_mod_right];rfl)).trans hh⟩⟩⟩
def Lv.pc (S:Lv P base) (f key b:Nat) (s:CS) (K:(mS s).F (Option (List (Bool×Ex×CS)))) (hp:Ym P (S.n f) f key=some (cA P base f key,b)) (hk:Nat.beq (key % 8) 0=false) (h:∀ e,WO ((mS s).app _ K e) fun a t=>pE S f key b 0 ((mS s).fill e)=some (a,t)):Lv P base:=
 ⟨S.o,((f,key),tq (mS s) K)::S.t,tn_tell S.ok S.ok (p:=((f,key),tq (mS s) K)) ⟨_,_,hp,by
  intro S' alts e t hq h2
  obtain ⟨e',he,hq⟩:=oB hq
  obtain ⟨x,hx,h3,h4⟩:=pk_mem h2
  have hh:=h e' alts hq x hx h3
  rw [<- (mS s).ok _ _ he,h4] at hh
  exact ⟨0+40,(evPiece_code hk).trans hh⟩⟩⟩
end
end Go.TM
namespace Go.AM
open Go.RowKit
variable {P : Program} {A : FAn} {ev : Ev} {s t : St} {ops : Array Oper}
theorem fr_idx (hl:ops.toList.all (WM A)=true):∀ {l:List Nat} {s t:St},xw A s->zq P A ev ops l s=some t->Frs A s t (zq P A ev ops l)
 | [],s,t,hs,h=>by cases h;exact ⟨rfl,hs,fun _ _=>rfl⟩
 | i::l,s,t,hs,h=>by
  cases hi:ops[i]? with
  | none=>
   have e:∀ s,zq P A ev ops (i::l) s=zq P A ev ops l s:=fun s=>by simp [zq,hi]
   rw [e] at h
   obtain ⟨k1,k2,k3⟩:=fr_idx hl hs h
   exact ⟨k1,k2,fun f h2=>by rw [e];exact k3 f h2⟩
  | some o=>
   rw [zG hi] at h
   obtain ⟨s1,h1,h⟩:=oB h
   have ho:=List.all_eq_true.1 hl o (by rw [Array.mem_toList_iff];exact Array.mem_of_getElem? hi)
   have hg:o.guard=none:=by unfold WM at ho;simpa using (Bool.and_eq_true_iff.1 ho).1
   have one:∀ s,za P A ev ops o s=evOp P A ev o s some:=fun s=>by unfold za;rw [hg]
   rw [one] at h1
   obtain ⟨k1,k2,k3⟩:=fr_op ho hs h1
   obtain ⟨j1,j2,j3⟩:=fr_idx hl k2 h
   exact ⟨j1.trans k1,j2,fun f h2=>by rw [zG hi,one,show evOp P A ev o (St.fr f h2 s) some=some (St.fr f h2 s1) from k3 f h2];exact j3 f h2⟩
def wP (A:FAn):Code->Bool
 | .region _ ops d=>!d&&ops.toList.all (WM A)
 | .seq a b=>wP A a&&wP A b
 | .skip | .ret=>true
 | _=>false
noncomputable def kf (t:Tr SV) (u:Tr SV) (i:Nat):Tr SV:=match t.get i with
 | some v=>u.set i v
 | none=>u
theorem keepT_eq (g:SV->SV) (t:Tr SV) (l:List Nat):keepT g t l=l.foldl (kf t) (t.map g):=by
 unfold keepT
 congr 1
 funext u i
 unfold kf
 cases t.get i<;>rfl
theorem TB {t u:Tr SV} {i:Nat} {v:SV} (h:t.get i=some v):kf t u i=u.set i v:=by unfold kf;rw [h]
theorem Tz {t u:Tr SV} {i:Nat} (h:t.get i=none):kf t u i=u:=by unfold kf;rw [h]
theorem keep_fr {f:Nat->Nat}:∀ (l:List Nat) (t u:Tr SV),(l.foldl (kf t) u).map (SV.ren f)=l.foldl (kf (t.map (SV.ren f))) (u.map (SV.ren f))
 | [],t,u=>rfl
 | i::l,t,u=>by
  simp only [List.foldl_cons]
  rw [keep_fr l t]
  congr 1
  cases h:t.get i with
  | none=>rw [Tz h,Tz (by rw [Tr.get_map,h];rfl)]
  | some v=>rw [TB h,TB (v:=v.ren f) (by rw [Tr.get_map,h];rfl),Tr.map_set]
theorem mask_fr {id:Nat} {s:St} {f:Nat->Nat} {h2:AH}:maskR A id (St.fr f h2 s)=St.fr f h2 (maskR A id s):=by
 unfold maskR
 split
 ·rfl
 ·simp only [St.fr,keepT_eq]
  congr 1
  rw [keep_fr,Tr.map_map,Tr.map_map]
  rfl
theorem keep_get:∀ (l:List Nat) (t u:Tr SV) (i:Nat) (v:SV),(l.foldl (kf t) u).get i=some v->t.get i=some v\/u.get i=some v
 | [],t,u,i,v,h=>.inr h
 | j::l,t,u,i,v,h=>by
  simp only [List.foldl_cons] at h
  rcases keep_get l t _ i v h with h | h
  ·exact .inl h
  ·cases hj:t.get j with
   | none=>rw [Tz hj] at h;exact .inr h
   | some w=>
    rw [TB hj] at h
    by_cases e:j=i
    ·subst e
     rw [Tr.get_set_self] at h
     obtain ⟨_,_,e2⟩:=oM h
     exact .inl (by rw [hj,e2])
    ·rw [Tr.get_set_ne _ e] at h;exact .inr h
theorem locS_mask {id:Nat} (hs:xw A s):xw A (maskR A id s):=by
 intro d hd v hv
 unfold maskR at hv
 split at hv
 ·exact hs d hd v hv
 ·simp only [keepT_eq] at hv
  rcases keep_get _ _ _ _ _ hv with h | h
  ·exact hs d hd v h
  ·rw [Tr.get_map] at h
   obtain ⟨_,_,rfl⟩:=oM h
   rfl
theorem Tt {dOk:FAn->Array Oper->Bool} (hj:A.rj=[]) {k:Nat} {R:Type} {x:R}:∀ (c:Code) (blk:Nat) {s:St} {K:Ex->St->Option R},wP A c=true->xw A s->evCode P A ev dOk k c blk s K=some x->
  ∃ e t,K e t=some x/\t.h=s.h/\xw A t/\∀ (f:Nat->Nat) (h2:AH) (K2:Ex->St->Option R),evCode P A ev dOk k c blk (St.fr f h2 s) K2=K2 e (St.fr f h2 t)
 | .skip,_,s,K,_,hs,h=>⟨_,_,h,rfl,hs,fun _ _ _=>rfl⟩
 | .ret,_,s,K,_,hs,h=>⟨_,_,h,rfl,hs,fun _ _ _=>rfl⟩
 | .region id ops draw,_,s,K,hl,hs,h=>by
  unfold wP at hl
  obtain ⟨hd,hl⟩:=Bool.and_eq_true_iff.1 hl
  unfold evCode evRegion at h
  obtain ⟨_,h⟩:=gB.1 h
  rw [hj] at h
  simp only [List.find?_nil] at h
  rw [yX] at h
  obtain ⟨t,ht,h⟩:=oB h
  obtain ⟨k1,k2,k3⟩:=fr_idx hl hs ht
  have e:(maskR A id t).h=t.h:=by unfold maskR;split<;>rfl
  refine ⟨_,_,h,e.trans k1,locS_mask k2,fun f h2 K2=>?_⟩
  unfold evCode evRegion
  rw [hd,hj]
  simp only [List.find?_nil,Bool.true_or,guardB,cond_true]
  rw [yX,k3 f h2,Option.bind_some,mask_fr]
 | .seq a b,blk,s,K,hl,hs,h=>by
  unfold wP at hl
  obtain ⟨ha,hb⟩:=Bool.and_eq_true_iff.1 hl
  unfold evCode at h
  obtain ⟨e,t,h,ht,k2,k3⟩:=Tt hj a blk ha hs h
  unfold kSeq at h
  split at h
  ·obtain ⟨e2,t2,h,ht2,j2,j3⟩:=Tt hj b blk hb k2 h
   refine ⟨e2,t2,h,ht2.trans ht,j2,fun f h2 K2=>?_⟩
   unfold evCode
   rw [k3]
   exact j3 f h2 K2
  ·rename_i hne
   refine ⟨_,_,h,ht,k2,fun f h2 K2=>?_⟩
   unfold evCode
   rw [k3]
   unfold kSeq
   split
   ·exact absurd rfl hne
   ·rfl
 | .label _,_,_,_,hl,_,_=>by cases hl
 | .exit _,_,_,_,hl,_,_=>by cases hl
 | .cond _ _ _,_,_,_,hl,_,_=>by cases hl
 | .block _ _,_,_,_,hl,_,_=>by cases hl
 | .loop _,_,_,_,hl,_,_=>by cases hl
 | .rangeFunc _ _ _ _,_,_,_,hl,_,_=>by cases hl
theorem Zi {α β:Type} (g:α->β):∀ (l:List α),(Tr.evens l).map g=Tr.evens (l.map g)
 | []=>rfl
 | [x]=>rfl
 | x::y::r=>by simp only [Tr.evens,List.map_cons];rw [Zi g r]
theorem ZP {α β:Type} (g:α->β):∀ (l:List α),(Tr.odds l).map g=Tr.odds (l.map g)
 | []=>rfl
 | [x]=>rfl
 | x::y::r=>by simp only [Tr.odds,List.map_cons];rw [ZP g r]
theorem wW {α β:Type} (g:α->β):∀ (n:Nat) (l:List α),(Tr.ofL n l).map g=Tr.ofL n (l.map g)
 | _,[]=>by unfold Tr.ofL;rfl
 | 0,v::_=>rfl
 | d+1,x::r=>by
  show Tr.node ((Tr.ofL d (Tr.evens (x::r))).map g) ((Tr.ofL d (Tr.odds (x::r))).map g)=_
  rw [wW g d,wW g d,Zi,ZP]
  rfl
theorem enter_fr {fn:Func} {args:List AV} {h h2:AH} {f:Nat->Nat}:St.fr f h2 (enterSt fn args h)=enterSt fn (args.map (AV.ren f)) h2:=by
 unfold enterSt St.fr
 simp only [wW,List.map_append,List.map_map,List.map_replicate,List.length_map]
 rfl
theorem locS_enter {fn:Func} {args:List AV} {h:AH} (hl:A.loc.all (fun d=>decide (args.length<=d))=true):xw A (enterSt fn args h):=by
 intro d hd v hv
 have hle:args.length<=d:=of_decide_eq_true (List.all_eq_true.1 hl d (by simpa using hd))
 have hg:=Tr.ofL_get _ _ _ _ hv
 rw [List.getElem?_append_right (by simpa using hle)] at hg
 have:=List.mem_of_getElem? hg
 rw [(List.mem_replicate.1 this).2];rfl
def freeRes (A:FAn):ResultVar->Bool
 | .tmp _=>true
 | .cell a _=>A.loc.contains a
theorem Uz {R:Type}:∀ {l:List ResultVar} {c:List AV->Option R} {r:R},l.all (freeRes A)=true->xw A t->resOf P t l c=some r->∃ vs,c vs=some r/\∀ (f:Nat->Nat) (h2:AH) (c2:List AV->Option R),resOf P (St.fr f h2 t) l c2=c2 (vs.map (AV.ren f))
 | [],c,r,_,_,h=>⟨[],h,fun _ _ _=>rfl⟩
 | .tmp d::l,c,r,hl,hs,h=>by
  simp only [List.all_cons,Bool.and_eq_true] at hl
  simp only [resOf] at h
  obtain ⟨v,h1,h⟩:=oB h
  obtain ⟨a,h2,h⟩:=oB h
  obtain ⟨vs,h3,h4⟩:=Uz hl.2 hs h
  refine ⟨a::vs,h3,fun f hh c2=>?_⟩
  have e:(v.ren f).val=some (a.ren f):=by cases v<;>first | (cases h2;rfl) | cases h2
  simp only [resOf]
  rw [show (St.fr f hh t).sl.get d=some (v.ren f) by show (t.sl.map _).get d=_;rw [Tr.get_map,h1];rfl,Option.bind_some,e,Option.bind_some,h4]
  rfl
 | .cell a ty::l,c,r,hl,hs,h=>by
  simp only [List.all_cons,Bool.and_eq_true] at hl
  simp only [resOf] at h
  obtain ⟨g1,h⟩:=gB.1 h
  obtain ⟨v,h1,h⟩:=oB h
  have hv:=hs a hl.1 v h1
  have get:∀ (f:Nat->Nat) (hh:AH),(St.fr f hh t).sl.get a=some (v.ren f):=fun f hh=>by show (t.sl.map _).get a=_;rw [Tr.get_map,h1];rfl
  replace h:=cond_some.1 h
  rcases h with ⟨g2,h⟩ | ⟨g2,h⟩
  ·replace h:=zW h
   obtain ⟨cs,k1,h⟩:=h
   have hlv:∃ k off,v=.l k off:=by
    cases v<;>first | exact ⟨_,_,rfl⟩ | (cases hv;done) | (unfold loadAt at k1;cases k1)
   obtain ⟨k,off,rfl⟩:=hlv
   obtain ⟨vs,h3,h4⟩:=Uz hl.2 hs h
   refine ⟨.agg cs::vs,h3,fun f hh c2=>?_⟩
   simp only [resOf]
   rw [g1,get,g2]
   simp only [guardB,cond_true,Option.bind_some,SV.ren]
   have e0:=xc (fun l'=>resOf P (St.fr f hh t) l fun vs=>c2 (.agg l'::vs)) (St.fr f hh t) (.l k off) (P.cellsOf ty) some
   simp only [Option.bind_some] at e0
   rw [<- e0,fr_load k1 f hh,Option.bind_some,h4]
   rfl
  ·replace h:=yt h
   obtain ⟨x,k1,h⟩:=h
   have hlv:∃ k off,v=.l k off:=by
    cases v<;>first | exact ⟨_,_,rfl⟩ | (cases hv;done) | (unfold load1 at k1;cases k1)
   obtain ⟨k,off,rfl⟩:=hlv
   obtain ⟨vs,h3,h4⟩:=Uz hl.2 hs h
   refine ⟨.sc x::vs,h3,fun f hh c2=>?_⟩
   simp only [resOf]
   rw [g1,get,g2]
   simp only [guardB,cond_true,cond_false,Option.bind_some,SV.ren]
   have e0:=xl (fun x=>resOf P (St.fr f hh t) l fun vs=>c2 (.sc x::vs)) (St.fr f hh t) (.l k off) some
   simp only [Option.bind_some] at e0
   rw [<- e0,fr_load1 k1 f hh,Option.bind_some,h4]
   rfl
def frOk (P:Program) (An:FuncId->FAn) (f:FuncId):Bool:=(An f).fr.all fun p=>match P.funcs[p.1]? with
 | some fn=>(match fn.body with | some c=>wP (An p.1) c | none=>true)&&fn.results.toList.all (freeRes (An p.1))&&(An p.1).loc.all fun d=>decide (p.2<=d)
 | none=>true
theorem fr_ev {dOk:FAn->Array Oper->Bool} {An:FuncId->FAn} (hj:∀ f,(An f).rj=[]) (h:∀ f,frOk P An f=true):∀ k f,FrEv (An f) (evF P An dOk k)
 | 0,f=>fun n m _ as h rs h' _ he=>by cases he
 | k+1,f=>fun n m hn as h0 rs h' ha he=>by
  simp only [evF] at he
  obtain ⟨fn,hfn,he⟩:=oB he
  obtain ⟨code,hcode,he⟩:=oB he
  obtain ⟨hg,he⟩:=gB.1 he
  obtain ⟨p,hp,hq⟩:=List.any_eq_true.1 hn
  simp only [Bool.and_eq_true] at hq
  have e1:p.1=n:=Nat.eq_of_beq_eq_true hq.1
  have e2:p.2=m:=Nat.eq_of_beq_eq_true hq.2
  have h1:=List.all_eq_true.1 (show (An f).fr.all _=true from h f) p hp
  rw [e1,hfn] at h1
  simp only [hcode,Bool.and_eq_true,e2] at h1
  obtain ⟨⟨c1,c2⟩,c3⟩:=h1
  rw [<- ha] at c3
  obtain ⟨e,t,hk,ht,k2,k3⟩:=Tt (hj n) code 0 c1 (locS_enter c3) he
  have fin:∀ {e:Ex},e=.normal\/e=.ret->kFin P fn e t=some (rs,h')->h'=h0/\∀ (f:Nat->Nat) (h2:AH),kFin P fn e (St.fr f h2 t)=some (rs.map (AV.ren f),h2):=by
   intro e hee hk
   have e3:∀ t,kFin P fn e t=resOf P t fn.results.toList fun vs=>some (vs,t.h):=fun t=>by rcases hee with rfl | rfl<;>rfl
   rw [e3] at hk
   obtain ⟨vs,hv,hr⟩:=Uz c2 k2 hk
   cases hv
   exact ⟨ht,fun f h2=>by rw [e3,hr];rfl⟩
  have all:h'=h0/\∀ (f:Nat->Nat) (h2:AH),kFin P fn e (St.fr f h2 t)=some (rs.map (AV.ren f),h2):=by
   cases e with
   | normal=>exact fin (.inl rfl) hk
   | ret=>exact fin (.inr rfl) hk
   | exit i=>cases hk
  refine ⟨all.1,fun f h2=>?_⟩
  simp only [evF,hfn,hcode,Option.bind_some,List.length_map,hg,guardB,cond_true]
  rw [<- enter_fr,k3]
  exact all.2 f h2
end Go.AM
