/- Functions that write into what they have laid themselves alone. -/
import Derived.Test.YtpfphfobneehmaaB7
set_option linter.all false
namespace Go.AM
open Go.RowKit
variable {P : Program} {A : FAn} {ev : Ev} {ops : Array Oper} {o : Oper} {s t : St}
def frS (m:Nat):Sc->Prop
 | .sl id _ _=>m<=id
 | .ptr id _=>m<=id
 | _=>True
def frA (m:Nat) (a:AV):Prop:=∀ c∈a.cells,frS m c
def frV (m:Nat):SV->Prop
 | .v a=>frA m a
 | _=>True
structure Fr (A:FAn) (h0:AH) (s:St):Prop where
 hp:h0 <+: s.h
 sl:∀ d,A.fsh.contains d=true->∀ v,s.sl.get d=some v->frV h0.length v
 lo:∀ k,A.fsl.contains k=true->∀ cs,s.lo.get k=some (some cs)->∀ c∈cs,frS h0.length c
def Yd (A:FAn):Operand->Bool
 | .tmp d=>A.fsh.contains d
 | .const _=>true
 | .func _=>true
 | .global _=>false
def wG (A:FAn) (o:Oper):Bool:=match o.dst with | some d=>!(A.fsh.contains d) | none=>true
variable {h0 : AH}
theorem US {m:Nat} {v:Value} {x:Sc} (h:ofConst v=some x):frS m x:=by
 unfold ofConst at h
 split at h<;>first | (cases h;trivial) | cases h
theorem VF {m:Nat}:∀ {l:List Value} {z:List Sc},ofConsts l=some z->∀ c∈z,frS m c
 | [],z,h=>by cases h;intro c hc;cases hc
 | v::r,z,h=>by
  simp only [ofConsts] at h
  replace h:=oB h
  obtain ⟨x,hx,h⟩:=h
  replace h:=oB h
  obtain ⟨xs,hxs,h⟩:=h
  cases h
  intro c hc
  rcases List.mem_cons.1 hc with rfl | hc
  ·exact US hx
  ·exact VF hxs c hc
theorem zero_fr {m:Nat} {e:TypeId} {z:List Sc} (h:zeroCells P e=some z):∀ c∈z,frS m c:=by
 unfold zeroCells at h
 replace h:=oB h
 obtain ⟨i,_,h⟩:=h
 replace h:=oB h
 obtain ⟨v,_,h⟩:=h
 exact VF h
theorem xO {m:Nat} {c:Sc} (h:frS m c):frV m (.v (.sc c)):=fun x hx=>by
 rw [show (AV.sc c).cells=[c] from rfl,List.mem_singleton] at hx;rw [hx];exact h
theorem fr_sc {m:Nat} {c:Sc} (h:frV m (.v (.sc c))):frS m c:=h c (by rw [show (AV.sc c).cells=[c] from rfl];exact List.mem_singleton.2 rfl)
theorem xT (hi:Fr A h0 s) {x:Operand} (hx:Yd A x=true) {v:SV} (h:evA s x=some v):frV h0.length v:=by
 cases x with
 | tmp d=>exact hi.sl d hx v h
 | const c=>
  simp only [evA] at h
  replace h:=oB h
  obtain ⟨y,hy,h⟩:=h
  cases h
  exact xO (US hy)
 | func f=>cases h;exact xO trivial
 | global _=>cases hx
theorem WH (hi:Fr A h0 s) {x:Operand} (hx:Yd A x=true) {v:AV} (h:evV s x=some v):frA h0.length v:=by
 unfold evV at h
 replace h:=oB h
 obtain ⟨a,ha,h⟩:=h
 have:=xT hi hx ha
 cases a<;>first | cases h
 exact this
theorem Fr.set (hi:Fr A h0 s) {d:Option Tmp} {v:SV} (hv:∀ t,d=some t->A.fsh.contains t=true->frV h0.length v):Fr A h0 (setSl s d v):=by
 refine ⟨by rw [zf];exact hi.hp,fun e he w hw=>?_,fun k hk cs hc=>hi.lo k hk cs (by rwa [xH] at hc)⟩
 cases d with
 | none=>exact hi.sl e he w hw
 | some d=>
  simp only [setSl] at hw
  by_cases c:d=e
  ·subst c
   rw [Tr.get_set_self] at hw
   obtain ⟨_,_,rfl⟩:=oM hw
   exact hv d rfl he
  ·rw [Tr.get_set_ne _ c] at hw;exact hi.sl e he w hw
theorem Fr.setN (hi:Fr A h0 s) (hn:wG A o=true) {v:SV}:Fr A h0 (setSl s o.dst v):=
 hi.set fun t ht hf=>by unfold wG at hn;rw [ht] at hn;simp only [hf] at hn;cases hn
theorem Fr.heap (hi:Fr A h0 s) {h:AH} (hp:h0 <+: h):Fr A h0 { s with h:=h }:=⟨hp,hi.sl,hi.lo⟩
theorem Fr.local (hi:Fr A h0 s) {d:Tmp} {a:SV} {z:List Sc} (ha:frV h0.length a) (hz:A.fsl.contains d=true->∀ c∈z,frS h0.length c):Fr A h0 (newLocal s d a z):=by
 refine ⟨hi.hp,fun e he w hw=>?_,fun k hk cs hc=>?_⟩
 ·simp only [newLocal] at hw
  by_cases c:d=e
  ·subst c
   rw [Tr.get_set_self] at hw
   obtain ⟨_,_,rfl⟩:=oM hw
   exact ha
  ·rw [Tr.get_set_ne _ c,Tr.get_map] at hw
   obtain ⟨y,hy,rfl⟩:=oM hw
   have:=hi.sl e he y hy
   unfold killL
   split
   ·cases Nat.beq _ _<;>trivial
   ·cases Nat.beq _ _<;>trivial
   ·exact this
 ·simp only [newLocal] at hc
  by_cases c:d=k
  ·subst c
   rw [Tr.get_set_self] at hc
   obtain ⟨_,_,e⟩:=oM hc
   cases e
   exact hz hk
  ·rw [Tr.get_set_ne _ c] at hc;exact hi.lo k hk cs hc
theorem Wa {h0 h:AH} {id:Nat} {x:AO} (hp:h0 <+: h) (hi:h0.length<=id):h0 <+: h.set id x:=by
 obtain ⟨r,rfl⟩:=hp
 rw [List.set_append,if_neg (by omega)]
 exact List.prefix_append _ _
theorem UW {h0 h:AH} (hp:h0 <+: h):h0.length<=h.length:=hp.length_le
theorem st_fr {h0 h h':AH} {id off:Nat} {v:List Sc} (hp:h0 <+: h) (hi:h0.length<=id) (hs:st h id off v=some h'):h0 <+: h':=by
 unfold st at hs
 replace hs:=oB hs
 obtain ⟨ob,_,hs⟩:=hs
 split at hs
 ·obtain ⟨c',_,hs⟩:=oB hs
  cases hs;exact Wa hp hi
 ·obtain ⟨c',_,hs⟩:=oB hs
  cases hs;exact Wa hp hi
 ·cases hs
def Yk (A:FAn) (o:Oper):Bool:=
 match o.op with
 | .makeSlice _ _ _ | .alloc _=>true
 | .box _ x=>(match o.dst with | some d=>!(A.loc.contains d)||(!(A.fsl.contains d)||Yd A x) | none=>true)
 | .buildSlice _ _ _=>(match o.dst with | some d=>!(A.loc.contains d)||!(A.fsl.contains d) | none=>true)
 | .store _ a x=>(match rootOf A a with | some k=>!(A.fsl.contains k)||Yd A x | none=>(match a with | .tmp d=>A.fsh.contains d&&A.hst.contains d | _=>false))
 | .load _ x=>wG A o||(match rootOf A x with | some k=>A.fsl.contains k | none=>false)
 | .move x | .assign x=>wG A o||Yd A x
 | .pick _ a b=>wG A o||(Yd A a&&Yd A b)
 | .slice _ x _ _ _=>wG A o||Yd A x
 | .indexAddr _ x _ | .fieldAddr _ x _ | .nilCheck x=>wG A o||Yd A x
 | .build _ _ | .binOp _ _ _ _ _ | .unOp _ _ _ | .convert _ _ _ | .makeFunc _ _ _ | .extract _ _ | .index _ _ _=>wG A o
 | .call { callee:=.builtin .append,args,.. }=>(match args.toList with | [x,_]=>Yd A x | _=>false)
 | .call { callee:=.builtin .len,.. } | .call { callee:=.builtin .max,.. } | .call { callee:=.builtin .min,.. }=>wG A o
 | .call { callee:=.value (.func n),.. }=>wG A o&&(A.ro.contains n||A.gr.contains n)
 | .call { callee:=.value _,.. }=>wG A o&&(A.rov||A.grv)
 | .panic _=>true
 | _=>false
theorem call_fr (hr:zR A ev) {f:Operand} {args:Array Operand} {ts:Array TypeId} (ho:o.op=.call { callee:=.value f,args:=args,argTypes:=ts }) (hn:wG A o=true)
  (hg:(∃ n,f=.func n/\(A.ro.contains n||A.gr.contains n)=true)\/(A.rov||A.grv)=true) (hi:Fr A h0 s) (h:evOp P A ev o s some=some t):Fr A h0 t:=by
 rw [xp ho] at h
 replace h:=oB h
 obtain ⟨⟨v,h'⟩,hq,h⟩:=h
 cases h
 refine Fr.setN (hi.heap ?_) hn
 unfold xY at hq
 replace hq:=oB hq
 obtain ⟨fv,hfv,hq⟩:=hq
 replace hq:=asSc_some.1 hq
 obtain ⟨fs,rfl,hq⟩:=hq
 replace hq:=asF_some.1 hq
 obtain ⟨g,nf,sh,cs,rfl,hq⟩:=hq
 replace hq:=oB hq
 obtain ⟨as,has,hq⟩:=hq
 replace hq:=oB hq
 obtain ⟨vs,hvs,hq⟩:=hq
 have ty:∀ {rs:List AV} {h1:AH},(typed P o.type rs fun v=>some (v,h1))=some (v,h')->h'=h1:=by
  intro rs h1 hq
  have e:=xQ (fun v:SV=>some (v,h1)) P o.type rs some
  simp only [Option.bind_some] at e
  rw [<- e] at hq
  replace hq:=oB hq
  obtain ⟨_,_,hq⟩:=hq
  cases hq;rfl
 have key:∀ n,g=.func n->okv A n=true->(A.ro.contains n||A.gr.contains n)=true:=by
  intro n hgn hok
  rcases hg with ⟨m,rfl,hm⟩ | hg
  ·have:evV s (.func m)=some (.sc (.fn (.func m) 0 [] [])):=rfl
   rw [this] at hfv
   cases hfv
   cases hgn
   exact hm
  ·unfold okv at hok
   obtain ⟨h1,h2⟩:=Bool.and_eq_true_iff.1 hok
   cases hrv:A.rov with
   | true=>rw [hrv] at h1;simp at h1;simp [h1]
   | false=>
    rw [hrv] at hg
    simp at hg
    rw [hg] at h2
    simp at h2
    rcases h2 with h2 | h2<;>simp [h2]
 unfold callK at hq
 split at hq
 ·rename_i n
  replace hq:=gB.1 hq
  obtain ⟨hok,hq⟩:=hq
  have hk:=key n rfl hok
  rcases cond_some.1 hq with ⟨_,hq⟩ | ⟨_,hq⟩
  ·split at hq
   ·rw [ty (gB.1 (gB.1 hq).2).2];exact hi.hp
   ·obtain ⟨p,_,hq⟩:=oB hq
    rw [ty (gB.1 hq).2];exact hi.hp
  ·obtain ⟨⟨rs,h1⟩,hp,hq⟩:=oB hq
   rw [ty hq]
   rcases Bool.or_eq_true_iff.1 hk with hk | hk
   ·rw [hr.1 n hk _ _ _ _ hp];exact hi.hp
   ·exact hi.hp.trans (hr.2.2 n hk _ _ _ _ hp)
 ·obtain ⟨hok,_⟩:=gB.1 hq
  exfalso
  rcases hg with ⟨m,rfl,_⟩ | hg
  ·have:evV s (.func m)=some (.sc (.fn (.func m) 0 [] [])):=rfl
   rw [this] at hfv;cases hfv
  ·unfold oky at hok
   cases h1:A.rov<;>cases h2:A.grv<;>rw [h1,h2] at hok hg<;>simp at hok hg
 ·cases hq
theorem loadAt_fr {sv:SV} {n:Nat} {l:List Sc} {k off:Nat} (hi:Fr A h0 s) (hk:A.fsl.contains k=true) (he:sv=.l k off) (h:loadAt s sv n some=some l):∀ c∈l,frS h0.length c:=by
 subst he
 rw [wE] at h
 replace h:=oB h
 obtain ⟨b,hb,h⟩:=h
 replace h:=oB h
 obtain ⟨cs,hcs,h⟩:=h
 replace h:=oB h
 obtain ⟨l',hl,h⟩:=h
 cases h
 subst hcs
 unfold cut at hl
 replace hl:=gB.1 hl
 obtain ⟨_,hl⟩:=hl
 cases hl
 exact fun c hc=>hi.lo k hk cs hb c (List.mem_of_mem_drop (List.mem_of_mem_take hc))
theorem Yz {R:Type} {x:Option Operand} {d:Nat} {c:Nat->Option R} {q:R} (h:boundI s x d c=some q):∃ j,c j=some q:=by
 unfold boundI at h
 split at h
 ·exact ⟨_,h⟩
 ·replace h:=oB h
  obtain ⟨v,_,h⟩:=h
  split at h
  ·exact ⟨_,(gB.1 h).2⟩
  ·cases h
theorem Ta {R:Type} {e:TypeId} {z:Nat} {x:Sc} {lo hi mx:Option Operand} {c:Sc->Option R} {q:R} {m:Nat} (hx:frS m x) (h:sliceS s e z x lo hi mx c=some q):∃ v,frS m v/\c v=some q:=by
 unfold sliceS at h
 obtain ⟨l,h⟩:=Yz h
 obtain ⟨g,h⟩:=Yz h
 obtain ⟨n,h⟩:=Yz h
 replace h:=(gB.1 h).2
 refine ⟨_,?_,h⟩
 cases mx0 mx with
 | true=>
  simp only [cond_true]
  cases x<;>trivial
 | false=>
  simp only [cond_false]
  cases x<;>first | exact hx | trivial
theorem TT {R:Type} {a:SV} {n:Nat} {c:SV->Option R} {q:R} {m:Nat} (ha:frV m a) (h:addAt a n c=some q):∃ v,frV m v/\c v=some q:=by
 unfold addAt at h
 split at h
 ·refine ⟨_,?_,h⟩;trivial
 ·rename_i p
  obtain ⟨id,off,rfl,h⟩:=asP_some.1 h
  refine ⟨_,?_,h⟩
  exact xO (show m<=id from fr_sc ha)
 ·cases h
theorem lenA_val {R:Type} {a:SV} {c:Nat->Option R} {q:R} (h:lenA a c=some q):∃ n,c n=some q:=by
 unfold lenA at h
 split at h
 ·exact ⟨_,h⟩
 ·exact ⟨_,(gB.1 h).2⟩
 ·cases h
theorem firstA_val {R:Type} {a:SV} {n z:Nat} {c:List Sc->Option R} {q:R} (h:firstA s a n z c=some q):∃ l,c l=some q:=by
 unfold firstA at h
 split at h
 ·replace h:=oB h
  obtain ⟨b,_,h⟩:=h
  replace h:=oB h
  obtain ⟨cs,_,h⟩:=h
  unfold cutK at h
  exact ⟨_,(gB.1 h).2⟩
 ·split at h
  ·exact ⟨_,(gB.1 h).2⟩
  ·obtain ⟨id,off,_,rfl,h⟩:=asS_some.1 h
   unfold ldNK at h
   replace h:=oB h
   obtain ⟨b,_,h⟩:=h
   replace h:=oB h
   obtain ⟨cs,_,h⟩:=h
   unfold cutK at h
   exact ⟨_,(gB.1 h).2⟩
 ·cases h
theorem appendS_val {R:Type} {h1:AH} {e:TypeId} {z:Nat} {x:Sc} {new:List Sc} {n:Nat} {c:Sc->AH->Option R} {q:R} (hp:h0 <+: h1) (hx:frS h0.length x) (h:appendS h1 e z x new n c=some q):∃ v h2,frS h0.length v/\h0 <+: h2/\c v h2=some q:=by
 have hlen:=UW hp
 unfold appendS at h
 split at h
 ·exact ⟨_,_,hx,hp,(gB.1 h).2⟩
 ·split at h
  ·refine ⟨_,_,?_,hp.trans (List.prefix_append _ _),(gB.1 h).2⟩
   exact hlen
  ·replace h:=oB h
   obtain ⟨ob,_,h⟩:=h
   split at h
   ·refine ⟨_,_,?_,(Wa hp hx).trans (List.prefix_append _ _),(gB.1 h).2⟩
    exact hlen
   ·cases h
  ·cases h
theorem UC (hr:zR A ev) (hl:Yk A o=true) (hi:Fr A h0 s) (h:evOp P A ev o s some=some t):Fr A h0 t:=by
 have hlen:=UW hi.hp
 have push:∀ {d:Option Tmp} {v:SV} {O:AO},frV h0.length v->Fr A h0 (setSl { s with h:=s.h++[O] } d v):=fun {d v O} hv=>(hi.heap (hi.hp.trans (List.prefix_append _ _))).set fun _ _ _=>hv
 have pure:wG A o=true->(zb A o=.pure\/zb A o=.read)->Fr A h0 t:=by
  intro hn hc
  have n1:zb A o≠.loc:=by rcases hc with h | h<;>rw [h]<;>intro e<;>cases e
  have n2:zb A o≠.new:=by rcases hc with h | h<;>rw [h]<;>intro e<;>cases e
  have h1:za P A ev #[] { o with guard:=none } s=some t:=h
  have hc':zb A { o with guard:=none }=.pure\/zb A { o with guard:=none }=.read:=hc
  obtain ⟨⟨v,H,e,_⟩,k⟩:=yb (o:={ o with guard:=none }) n1 n2 h1
  have hh:t.h=s.h:=k (by simpa using hc')
  have e':H=s.h:=by rw [e,zf] at hh;exact hh
  rw [e,e']
  exact hi.setN (o:=o) hn
 unfold Yk at hl
 split at hl
 ·rename_i ty lo mo ho
  unfold evOp at h
  rw [ho] at h
  simp only [setK_eq] at h
  replace h:=oB h
  obtain ⟨e,_,h⟩:=h
  replace h:=oB h
  obtain ⟨z,hz,h⟩:=h
  replace h:=oB h
  obtain ⟨l,_,h⟩:=h
  replace h:=oB h
  obtain ⟨m,_,h⟩:=h
  split at h
  ·obtain ⟨_,h⟩:=gB.1 h
   cases h;exact push (xO hlen)
  ·cases h
 ·rename_i e ho
  unfold evOp at h
  rw [ho] at h
  simp only [setK_eq,newLocalK_eq] at h
  replace h:=oB h
  obtain ⟨d,hd,h⟩:=h
  replace h:=oB h
  obtain ⟨z,hz,h⟩:=h
  replace h:=gB.1 h
  obtain ⟨_,h⟩:=h
  rcases cond_some.1 h with ⟨_,h⟩ | ⟨_,h⟩
  ·cases h;exact hi.local trivial fun _=>zero_fr hz
  ·cases h;exact push (xO hlen)
 ·rename_i e x ho
  unfold evOp at h
  rw [ho] at h
  simp only [setK_eq,newLocalK_eq] at h
  replace h:=oB h
  obtain ⟨d,hd,h⟩:=h
  replace h:=oB h
  obtain ⟨v,hv,h⟩:=h
  replace h:=gB.1 h
  obtain ⟨_,h⟩:=h
  rcases cond_some.1 h with ⟨hloc,h⟩ | ⟨_,h⟩
  ·cases h
   refine hi.local trivial fun hk=>?_
   rw [hd] at hl
   simp only [hloc,hk,Bool.not_true,Bool.false_or] at hl
   exact WH hi hl hv
  ·cases h;exact push (xO hlen)
 ·rename_i ty n ps ho
  unfold evOp at h
  rw [ho] at h
  simp only [setK_eq,newLocalK_eq] at h
  replace h:=oB h
  obtain ⟨d,hd,h⟩:=h
  replace h:=oB h
  obtain ⟨e,_,h⟩:=h
  replace h:=oB h
  obtain ⟨z,hz,h⟩:=h
  replace h:=gB.1 h
  obtain ⟨_,h⟩:=h
  replace h:=oB h
  obtain ⟨vs,_,h⟩:=h
  replace h:=oB h
  obtain ⟨cs,_,h⟩:=h
  rcases cond_some.1 h with ⟨hloc,h⟩ | ⟨_,h⟩
  ·cases h
   refine hi.local trivial fun hk=>?_
   rw [hd] at hl
   simp only [hloc,hk,Bool.not_true,Bool.or_self] at hl
   cases hl
  ·cases h;exact push (xO hlen)
 ·rename_i ty a x ho
  unfold evOp at h
  rw [ho] at h
  replace h:=gB.1 h
  obtain ⟨_,h⟩:=h
  replace h:=oB h
  obtain ⟨av,hav,h⟩:=h
  replace h:=oB h
  obtain ⟨v,hv,h⟩:=h
  replace h:=gB.1 h
  obtain ⟨hg,h⟩:=h
  replace h:=yH h
  obtain ⟨s1,hs1,h⟩:=h
  rw [setK_eq] at h
  cases h
  refine Fr.set ?_ fun _ _ _=>trivial
  have hs:=(Bool.and_eq_true_iff.1 hg).2
  unfold onlyS at hs
  obtain ⟨oH,oR⟩:=Bool.and_eq_true_iff.1 hs
  rw [zZ] at hs1
  cases hroot:rootOf A a with
  | some k=>
   rw [hroot] at hl
   unfold onlyR at oR
   rw [hroot] at oR
   simp only at oR hl
   split at oR
   ·rename_i k' off
    have hkk:k=k':=Nat.eq_of_beq_eq_true oR
    subst hkk
    simp only at hs1
    replace hs1:=oB hs1
    obtain ⟨b,hb,hs1⟩:=hs1
    replace hs1:=oB hs1
    obtain ⟨cs,hcs,hs1⟩:=hs1
    replace hs1:=oB hs1
    obtain ⟨cs',hput,hs1⟩:=hs1
    cases hs1
    subst hcs
    refine ⟨hi.hp,hi.sl,fun k2 hk2 c2 hc2=>?_⟩
    by_cases ek:k=k2
    ·subst ek
     simp only at hc2
     rw [Tr.get_set_self] at hc2
     obtain ⟨_,_,e⟩:=oM hc2
     cases e
     simp only [hk2,Bool.not_true,Bool.false_or] at hl
     have hvf:=WH hi hl hv
     unfold put at hput
     replace hput:=gB.1 hput
     obtain ⟨_,hput⟩:=hput
     cases hput
     intro c hc
     unfold splice at hc
     rcases List.mem_append.1 hc with hc | hc
     ·rcases List.mem_append.1 hc with hc | hc
      ·exact hi.lo k hk2 cs hb c (List.mem_of_mem_take hc)
      ·exact hvf c hc
     ·exact hi.lo k hk2 cs hb c (List.mem_of_mem_drop hc)
    ·simp only at hc2
     rw [Tr.get_set_ne _ ek] at hc2
     exact hi.lo k2 hk2 c2 hc2
   ·cases oR
  | none=>
   rw [hroot] at hl
   simp only at hl
   split at hl
   ·rename_i d
    obtain ⟨hd1,hd2⟩:=Bool.and_eq_true_iff.1 hl
    have hfr:frV h0.length av:=xT hi (x:=.tmp d) hd1 hav
    unfold onlyH at oH
    simp only [hd2,Bool.not_true,Bool.false_or] at oH
    split at oH
    ·rename_i a'
     split at hs1
     ·rename_i k off e;cases e
     ·rename_i p e
      cases e
      replace hs1:=asP_some.1 hs1
      obtain ⟨id,off,rfl,hs1⟩:=hs1
      replace hs1:=oB hs1
      obtain ⟨h',hst,hs1⟩:=hs1
      cases hs1
      exact hi.heap (st_fr hi.hp (fr_sc hfr) hst)
     ·cases hs1
    ·cases oH
   ·cases hl
 ·rename_i ty x ho
  by_cases hn:wG A o=true
  ·refine pure hn ?_
   unfold zb
   rw [ho]
   cases x with
   | tmp d=>
    simp only
    cases A.loc.contains d with
    | true=>exact .inl rfl
    | false=>exact .inr rfl
   | _=>exact .inr rfl
  ·simp only [Bool.eq_false_iff.2 hn,Bool.false_or] at hl
   cases hroot:rootOf A x with
   | none=>rw [hroot] at hl;cases hl
   | some k=>
    rw [hroot] at hl
    simp only at hl
    unfold evOp at h
    rw [ho] at h
    replace h:=gB.1 h
    obtain ⟨_,h⟩:=h
    replace h:=oB h
    obtain ⟨a,ha,h⟩:=h
    replace h:=gB.1 h
    obtain ⟨hg,h⟩:=h
    have hx:=(Bool.and_eq_true_iff.1 hg).2
    unfold onlyX at hx
    have oR:=(Bool.and_eq_true_iff.1 (Bool.and_eq_true_iff.1 hx).1).2
    unfold onlyR at oR
    rw [hroot] at oR
    simp only at oR
    split at oR
    ·rename_i k' off
     have hkk:k=k':=Nat.eq_of_beq_eq_true oR
     subst hkk
     rcases cond_some.1 h with ⟨_,h⟩ | ⟨_,h⟩
     ·obtain ⟨l,hl2,h⟩:=zW h
      have hh:=zV h
      rw [setK_eq] at hh
      cases hh
      exact hi.set fun _ _ _=>loadAt_fr hi hl rfl hl2
     ·obtain ⟨c,hc,h⟩:=yt h
      have hh:=yi h
      rw [setK_eq] at hh
      cases hh
      refine hi.set fun _ _ _=>xO ?_
      unfold load1 at hc
      simp only at hc
      replace hc:=oB hc
      obtain ⟨b,hb,hc⟩:=hc
      replace hc:=oB hc
      obtain ⟨cs,hcs,hc⟩:=hc
      replace hc:=oB hc
      obtain ⟨y,hy,hc⟩:=hc
      cases hc
      subst hcs
      exact hi.lo k hl cs hb _ (List.mem_of_getElem? hy)
    ·cases oR
 ·rename_i x ho
  rcases Bool.or_eq_true_iff.1 hl with hn | hx
  ·exact pure hn (by unfold zb;rw [ho];exact .inl rfl)
  ·unfold evOp at h
   rw [ho] at h
   simp only [setK_eq] at h
   replace h:=oB h
   obtain ⟨v,hv,h⟩:=h
   cases h;exact hi.set fun _ _ _=>xT hi hx hv
 ·rename_i x ho
  rcases Bool.or_eq_true_iff.1 hl with hn | hx
  ·exact pure hn (by unfold zb;rw [ho];exact .inl rfl)
  ·unfold evOp at h
   rw [ho] at h
   simp only [setK_eq] at h
   replace h:=oB h
   obtain ⟨v,hv,h⟩:=h
   cases h;exact hi.set fun _ _ _=>xT hi hx hv
 ·rename_i q a b ho
  rcases Bool.or_eq_true_iff.1 hl with hn | hx
  ·exact pure hn (by unfold zb;rw [ho];exact .inl rfl)
  ·obtain ⟨ha,hb⟩:=Bool.and_eq_true_iff.1 hx
   unfold evOp at h
   rw [ho] at h
   simp only [setK_eq] at h
   replace h:=oB h
   obtain ⟨v,hv,h⟩:=h
   replace h:=asSc_some.1 h
   obtain ⟨v,rfl,h⟩:=h
   replace h:=asB_some.1 h
   obtain ⟨v,rfl,h⟩:=h
   replace h:=YZ h
   obtain ⟨w,h,hw⟩:=h
   cases h
   refine hi.set fun _ _ _=>?_
   rcases hw with ⟨_,_,_,_,rfl⟩ | ⟨_,hw⟩ | ⟨_,hw⟩
   ·exact xO trivial
   ·exact xT hi ha hw
   ·exact xT hi hb hw
 ·rename_i ty x lo hh mx ho
  rcases Bool.or_eq_true_iff.1 hl with hn | hx
  ·exact pure hn (by unfold zb;rw [ho];exact .inr rfl)
  ·unfold evOp at h
   rw [ho] at h
   simp only [setK_eq] at h
   split at h
   ·replace h:=gB.1 h
    obtain ⟨_,h⟩:=h
    replace h:=oB h
    obtain ⟨v,hv,h⟩:=h
    replace h:=asSc_some.1 h
    obtain ⟨v,rfl,h⟩:=h
    obtain ⟨w,hw,h⟩:=Ta (m:=h0.length) (WH hi hx hv v (List.mem_singleton.2 rfl)) h
    cases h;exact hi.set fun _ _ _=>xO hw
   ·replace h:=gB.1 h
    obtain ⟨_,h⟩:=h
    replace h:=oB h
    obtain ⟨v,hv,h⟩:=h
    replace h:=asSc_some.1 h
    obtain ⟨v,rfl,h⟩:=h
    replace h:=asP_some.1 h
    obtain ⟨id,off,rfl,h⟩:=h
    replace h:=gB.1 h
    obtain ⟨_,h⟩:=h
    have hid:h0.length<=id:=WH hi hx hv (.ptr id off) (List.mem_singleton.2 rfl)
    obtain ⟨w,hw,h⟩:=Ta (m:=h0.length) (show frS h0.length (.sl id off _) from hid) h
    cases h;exact hi.set fun _ _ _=>xO hw
   ·cases h
 ·rename_i ty x i ho
  rcases Bool.or_eq_true_iff.1 hl with hn | hx
  ·exact pure hn (by unfold zb;rw [ho];exact .inl rfl)
  ·unfold evOp at h
   rw [ho] at h
   simp only [setK_eq] at h
   split at h
   ·replace h:=gB.1 h
    obtain ⟨_,h⟩:=h
    replace h:=oB h
    obtain ⟨v,hv,h⟩:=h
    replace h:=asSc_some.1 h
    obtain ⟨v,rfl,h⟩:=h
    replace h:=asS_some.1 h
    obtain ⟨id,off,len,rfl,h⟩:=h
    have hid:h0.length<=id:=WH hi hx hv (.sl id off len) (List.mem_singleton.2 rfl)
    replace h:=oB h
    obtain ⟨j,hj,h⟩:=h
    obtain ⟨_,_,_,_,h⟩:=ZT h
    cases h;exact hi.set fun _ _ _=>xO hid
   ·replace h:=gB.1 h
    obtain ⟨_,h⟩:=h
    replace h:=oB h
    obtain ⟨v,hv,h⟩:=h
    replace h:=oB h
    obtain ⟨j,hj,h⟩:=h
    obtain ⟨_,_,_,_,h⟩:=ZT h
    obtain ⟨w,hw,h⟩:=TT (xT hi hx hv) h
    cases h;exact hi.set fun _ _ _=>hw
   ·cases h
 ·rename_i ty x i ho
  rcases Bool.or_eq_true_iff.1 hl with hn | hx
  ·exact pure hn (by unfold zb;rw [ho];exact .inl rfl)
  ·unfold evOp at h
   rw [ho] at h
   simp only [setK_eq] at h
   split at h
   ·replace h:=oB h
    obtain ⟨f,_,h⟩:=h
    replace h:=gB.1 h
    obtain ⟨_,h⟩:=h
    replace h:=oB h
    obtain ⟨v,hv,h⟩:=h
    obtain ⟨w,hw,h⟩:=TT (xT hi hx hv) h
    cases h;exact hi.set fun _ _ _=>hw
   ·cases h
 ·rename_i x ho
  rcases Bool.or_eq_true_iff.1 hl with hn | hx
  ·exact pure hn (by unfold zb;rw [ho];exact .inl rfl)
  ·unfold evOp at h
   rw [ho] at h
   simp only [setK_eq] at h
   replace h:=oB h
   obtain ⟨v,hv,h⟩:=h
   have hf:=xT hi hx hv
   split at h
   ·cases h;exact hi.set fun _ _ _=>trivial
   ·rename_i p
    replace h:=asP_some.1 h
    obtain ⟨id,off,rfl,h⟩:=h
    cases h;exact hi.set fun _ _ _=>hf
   ·cases h
 all_goals first
  | (rename_i ho;exact pure hl (by unfold zb;rw [ho];exact .inl rfl))
  | skip
 ·rename_i args ts ho
  split at hl
  ·rename_i x y hargs
   unfold evOp at h
   rw [ho] at h
   simp only [hargs,setK_eq] at h
   rcases hts:ts.toList with _ | ⟨ty,_ | ⟨ty2,_ | ⟨w,r⟩⟩⟩<;>rw [hts] at h
   ·cases h
   ·cases h
   ·change ((elemOf P ty).bind fun e=>(zeroCells P e).bind fun z=>guardB ((elemOf P ty2).isSome&&decide (P.bytesOf e<=8192)&&Nat.beq z.length (P.cellsOf e))<|
     (evA s x).bind fun xv=>ontoK A x xv fun xs=>(evA s y).bind fun a=>lenA a fun n=>firstA s a n (P.cellsOf e) fun new=>
      appendS s.h e (P.cellsOf e) xs new n fun v h=>some (setSl { s with h:=h } o.dst (.v (.sc v))))=some t at h
    replace h:=oB h
    obtain ⟨e,_,h⟩:=h
    replace h:=oB h
    obtain ⟨z,_,h⟩:=h
    replace h:=gB.1 h
    obtain ⟨_,h⟩:=h
    replace h:=oB h
    obtain ⟨xv,hxv,h⟩:=h
    have hf:=xT hi hl hxv
    have fin:∀ xs,frS h0.length xs->((evA s y).bind fun a=>lenA a fun n=>firstA s a n (P.cellsOf e) fun new=>appendS s.h e (P.cellsOf e) xs new n fun v h=>some (setSl { s with h:=h } o.dst (.v (.sc v))))=some t->Fr A h0 t:=by
     intro xs hxs h
     replace h:=oB h
     obtain ⟨a,_,h⟩:=h
     obtain ⟨n,h⟩:=lenA_val h
     obtain ⟨new,h⟩:=firstA_val h
     obtain ⟨v,h2,hv,hp2,h⟩:=appendS_val hi.hp hxs h
     cases h
     exact (hi.heap hp2).set fun _ _ _=>xO hv
    rcases Zz h with ⟨_,_,_,_,_,h2⟩ | ⟨xs,rfl,h2⟩
    ·exact fin (.nils true) trivial h2
    ·exact fin _ (fr_sc hf) h2
   ·cases h
  ·cases hl
 ·rename_i n args ts ho
  obtain ⟨hn,hg⟩:=Bool.and_eq_true_iff.1 hl
  exact call_fr hr ho hn (.inl ⟨n,rfl,hg⟩) hi h
 ·rename_i f args ts _ ho
  obtain ⟨hn,hg⟩:=Bool.and_eq_true_iff.1 hl
  exact call_fr hr ho hn (.inr hg) hi h
 ·rename_i x ho
  unfold evOp at h
  rw [ho] at h
  cases h
 ·cases hl
theorem fresh_op (hr:zR A ev) (hl:Yk A o=true) (hi:Fr A h0 s) (h:za P A ev ops o s=some t):Fr A h0 t:=by
 unfold za at h
 split at h
 ·exact UC hr hl hi h
 ·replace h:=oB h
  obtain ⟨d,_,h⟩:=h
  replace h:=oB h
  obtain ⟨g,_,h⟩:=h
  split at h
  ·split at h
   ·exact UC hr hl hi h
   ·cases h;exact hi.set fun _ _ _=>trivial
  ·cases h;exact hi.set fun _ _ _=>trivial
  ·cases h
theorem WN (hr:zR A ev) (hl:ops.toList.all (Yk A)=true):∀ {l:List Nat} {s t:St},Fr A h0 s->zq P A ev ops l s=some t->Fr A h0 t
 | [],s,t,hi,h=>by cases h;exact hi
 | i::l,s,t,hi,h=>by
  cases hio:ops[i]? with
  | none=>
   have e:zq P A ev ops (i::l) s=zq P A ev ops l s:=by simp [zq,hio]
   rw [e] at h
   exact WN hr hl hi h
  | some o=>
   rw [zG hio] at h
   obtain ⟨s1,h1,h⟩:=oB h
   exact WN hr hl (fresh_op hr (List.all_eq_true.1 hl o (by rw [Array.mem_toList_iff];exact Array.mem_of_getElem? hio)) hi h1) h
theorem Fr.maskR (hi:Fr A h0 s) (id:Nat):Fr A h0 (maskR A id s):=by
 unfold AM.maskR
 split
 ·exact hi
 ·rename_i p _
  refine ⟨hi.hp,fun d hd v hv=>?_,hi.lo⟩
  obtain ⟨_,h2⟩:=xD (fun _=>.u) s.sl p _ (fun d v hv=>by
   rw [Tr.get_map] at hv
   obtain ⟨y,hy,rfl⟩:=oM hv
   exact ⟨⟨y,hy⟩,.inl ⟨y,rfl⟩⟩) d v hv
  rcases h2 with ⟨_,rfl⟩ | h2
  ·trivial
  ·exact hi.sl d hd v h2
theorem Fr.maskAt (hi:Fr A h0 s) (blk:Nat):Fr A h0 (maskAt A blk s):=by
 unfold AM.maskAt
 split
 ·exact hi
 ·rename_i p q _
  refine ⟨hi.hp,fun d hd v hv=>?_,fun k hk cs hc=>?_⟩
  ·obtain ⟨_,h2⟩:=xD (fun _=>.u) s.sl p _ (fun d v hv=>by
    rw [Tr.get_map] at hv
    obtain ⟨y,hy,rfl⟩:=oM hv
    exact ⟨⟨y,hy⟩,.inl ⟨y,rfl⟩⟩) d v hv
   rcases h2 with ⟨_,rfl⟩ | h2
   ·trivial
   ·exact hi.sl d hd v h2
  ·obtain ⟨_,h2⟩:=xD (fun _=>none) s.lo q _ (fun d v hv=>by
    rw [Tr.get_map] at hv
    obtain ⟨y,hy,rfl⟩:=oM hv
    exact ⟨⟨y,hy⟩,.inl ⟨y,rfl⟩⟩) k (some cs) hc
   rcases h2 with ⟨_,e⟩ | h2
   ·cases e
   ·exact hi.lo k hk cs h2
def zL (A:FAn):Code->Bool
 | .region _ ops _=>ops.toList.all (Yk A)
 | .seq a b=>zL A a&&zL A b
 | .cond _ a b=>zL A a&&zL A b
 | .block _ b=>zL A b
 | .scope b=>zL A b
 | .loop b=>zL A b
 | .skip | .label _ | .exit _ | .ret=>true
 | _=>false
theorem yT {dOk:FAn->Array Oper->Bool} (hr:zR A ev) (hj:A.rj=[]) {k:Nat} {R:Type} {x:R}:∀ (c:Code) (blk:Nat) {s:St} {K:Ex->St->Option R},zL A c=true->Fr A h0 s->evCode P A ev dOk k c blk s K=some x->∃ e t,K e t=some x/\Fr A h0 t
 | .skip,_,s,K,_,hi,h=>⟨_,_,h,hi⟩
 | .label _,_,s,K,_,hi,h=>⟨_,_,h,hi⟩
 | .exit _,_,s,K,_,hi,h=>⟨_,_,h,hi⟩
 | .ret,_,s,K,_,hi,h=>⟨_,_,h,hi⟩
 | .region id ops draw,_,s,K,hl,hi,h=>by
  unfold evCode evRegion at h
  obtain ⟨_,h⟩:=gB.1 h
  rw [hj] at h
  simp only [List.find?_nil] at h
  rw [yX] at h
  obtain ⟨t,ht,h⟩:=oB h
  exact ⟨_,_,h,(WN hr (by simpa [zL] using hl) hi ht).maskR id⟩
 | .seq a b,blk,s,K,hl,hi,h=>by
  unfold zL at hl
  obtain ⟨ha,hb⟩:=Bool.and_eq_true_iff.1 hl
  unfold evCode at h
  obtain ⟨e,t,h,ht⟩:=yT hr hj a blk ha hi h
  unfold kSeq at h
  split at h
  ·exact yT hr hj b blk hb ht h
  ·exact ⟨_,_,h,ht⟩
 | .cond q a b,blk,s,K,hl,hi,h=>by
  unfold zL at hl
  obtain ⟨ha,hb⟩:=Bool.and_eq_true_iff.1 hl
  unfold evCode at h
  obtain ⟨v,_,h⟩:=oB h
  obtain ⟨v,rfl,h⟩:=asSc_some.1 h
  obtain ⟨v,rfl,h⟩:=asB_some.1 h
  rcases cond_some.1 h with ⟨_,h⟩ | ⟨_,h⟩
  ·exact yT hr hj a blk ha hi h
  ·exact yT hr hj b blk hb hi h
 | .block id b,blk,s,K,hl,hi,h=>by
  unfold zL at hl
  unfold evCode at h
  obtain ⟨e,t,h,ht⟩:=yT hr hj b id hl hi h
  unfold kBlock at h
  split at h
  ·rcases cond_some.1 h with ⟨_,h⟩ | ⟨_,h⟩<;>exact ⟨_,_,h,ht⟩
  ·exact ⟨_,_,h,ht⟩
 | .scope b,blk,s,K,hl,hi,h=>by
  unfold zL at hl
  unfold evCode at h
  exact yT hr hj b blk hl hi h
 | .loop b,blk,s,K,hl,hi,h=>by
  unfold zL at hl
  unfold evCode at h
  have key:∀ (n:Nat) {s:St},Fr A h0 s->loopN (maskAt A blk) (evCode P A ev dOk k b blk) K n s=some x->∃ e t,K e t=some x/\Fr A h0 t:=by
   intro n
   induction n with
   | zero=>intro s _ h;cases h
   | succ n ih=>
    intro s hi h
    unfold loopN at h
    obtain ⟨e,t,h,ht⟩:=yT hr hj b blk hl (hi.maskAt blk) h
    split at h
    ·exact ih ht h
    ·exact ⟨_,_,h,ht⟩
  exact key k hi h
 | .rangeFunc _ _ _ _,_,_,_,hl,_,_=>by cases hl
theorem fr_enter {fn:Func} {args:List AV} {h:AH} (hl:(A.fsh.all fun d=>decide (args.length<=d))=true):Fr A h (enterSt fn args h):=by
 refine ⟨List.prefix_refl _,fun d hd v hv=>?_,fun k hk cs hc=>?_⟩
 ·have h1:=Tr.ofL_get _ _ _ _ hv
  have h2:args.length<=d:=by simpa using List.all_eq_true.1 hl d (by simpa using hd)
  rw [List.getElem?_append_right (by simpa using h2),List.getElem?_replicate] at h1
  split at h1
  ·cases h1;trivial
  ·cases h1
 ·have h1:=Tr.ofL_get _ _ _ _ hc
  rw [List.getElem?_replicate] at h1
  split at h1<;>cases h1
variable {P : Program} {A : FAn} {ev : Ev} {ops : Array Oper} {o : Oper} {s t : St}
def ZN (A:FAn) (o:Oper):Bool:=
 match o.op with
 | .alloc _ | .box _ _ | .buildSlice _ _ _=>(match o.dst with | some d=>A.loc.contains d | none=>false)
 | .store _ x _=>(rootOf A x).isSome
 | .call { callee:=.value (.func n),.. }=>A.ro.contains n
 | .call { callee:=.value _,.. }=>A.rov
 | .call { callee:=.builtin .len,.. } | .call { callee:=.builtin .max,.. } | .call { callee:=.builtin .min,.. }=>true
 | .move _ | .assign _ | .pick _ _ _ | .build _ _ | .nilCheck _ | .binOp _ _ _ _ _ | .unOp _ _ _ | .convert _ _ _ | .makeFunc _ _ _ | .fieldAddr _ _ _ | .indexAddr _ _ _ | .extract _ _ | .load _ _ | .slice _ _ _ _ _ | .index _ _ _=>true
 | .panic _=>true
 | _=>false
theorem dead_op (ho:∃ x,o.op=.panic x):evOp P A ev o s some=none:=by
 unfold evOp
 obtain ⟨x,ho⟩:=ho
 rw [ho]
theorem dead_one (ho:∃ x,o.op=.panic x) (h:za P A ev ops o s=some t):t.h=s.h:=by
 unfold za at h
 split at h
 ·rw [dead_op ho] at h;cases h
 ·obtain ⟨d,_,h⟩:=oB h
  obtain ⟨g,_,h⟩:=oB h
  split at h
  ·split at h
   ·rw [dead_op ho] at h;cases h
   ·cases h;simp
  ·cases h;simp
  ·cases h
theorem UF (hr:zR A ev) {f:Operand} {args:Array Operand} {ts:Array TypeId} (ho:o.op=.call { callee:=.value f,args:=args,argTypes:=ts }) (hv:A.rov=true) (h:evOp P A ev o s some=some t):t.h=s.h:=by
 rw [xp ho] at h
 obtain ⟨⟨v,h'⟩,hq,h⟩:=oB h
 cases h
 have e:h'=s.h:=by
  unfold xY at hq
  replace hq:=oB hq
  obtain ⟨fv,hfv,hq⟩:=hq
  replace hq:=asSc_some.1 hq
  obtain ⟨fs,rfl,hq⟩:=hq
  replace hq:=asF_some.1 hq
  obtain ⟨g,nf,sh,cs,rfl,hq⟩:=hq
  replace hq:=oB hq
  obtain ⟨as,has,hq⟩:=hq
  replace hq:=oB hq
  obtain ⟨vs,hvs,hq⟩:=hq
  have ty:∀ {rs:List AV} {h1:AH},(typed P o.type rs fun v=>some (v,h1))=some (v,h')->h'=h1:=by
   intro rs h1 hq
   have e:=xQ (fun v:SV=>some (v,h1)) P o.type rs some
   simp only [Option.bind_some] at e
   rw [<- e] at hq
   obtain ⟨_,_,hq⟩:=oB hq
   cases hq;rfl
  clear hfv has hvs
  unfold callK at hq
  split at hq
  ·rename_i n
   replace hq:=gB.1 hq
   obtain ⟨hg,hq⟩:=hq
   have hn:A.ro.contains n=true:=by
    unfold okv at hg
    rw [hv] at hg
    have:=(Bool.and_eq_true_iff.1 hg).1
    simpa using this
   rcases cond_some.1 hq with ⟨_,hq⟩ | ⟨_,hq⟩
   ·split at hq
    ·exact ty (gB.1 (gB.1 hq).2).2
    ·obtain ⟨p,_,hq⟩:=oB hq
     exact ty (gB.1 hq).2
   ·obtain ⟨⟨rs,h1⟩,hp,hq⟩:=oB hq
    rw [ty hq]
    exact hr.1 n hn _ _ _ _ hp
  ·replace hq:=gB.1 hq
   obtain ⟨hg,_⟩:=hq
   unfold oky at hg
   rw [hv] at hg;cases hg
  ·cases hq
 rw [zf];exact e
theorem Qp (hr:zR A ev) (hl:ZN A o=true) (h:za P A ev ops o s=some t):t.h=s.h:=by
 have form:zb A o=.pure\/zb A o=.read->t.h=s.h:=fun hc=>by
  have n1:zb A o≠.loc:=by rcases hc with h | h<;>rw [h]<;>intro e<;>cases e
  have n2:zb A o≠.new:=by rcases hc with h | h<;>rw [h]<;>intro e<;>cases e
  obtain ⟨⟨v,H,e,_⟩,k⟩:=yb n1 n2 h
  exact k (by simpa using hc)
 have new:zb A o=.new->t.h=s.h:=fun hc=>by
  obtain ⟨d,hd,hcase⟩:=ZQ hc h
  rcases hcase with ⟨a,z,rfl,_⟩ | rfl
  ·rfl
  ·simp
 have eff:(zJ A o=.ro\/∃ k,zJ A o=.stL k)->t.h=s.h:=fun hc=>by
  have g:∀ {RL RH L v},Does (za P A ev ops o) (Sees ops o s) o s t RL RH L id v->t.h=s.h:=fun d=>by rw [d.eq,zf];rfl
  have no:zJ A o≠.other:=by rcases hc with h | ⟨_,h⟩<;>rw [h]<;>intro e<;>cases e
  rcases Tm hr no h with ⟨_,_,_,_,e⟩ | ⟨_,_,_,_,e⟩
  ·rcases hc with h | ⟨k,h⟩<;>rw [h] at e<;>exact g e.2
  ·exact g e.2
 unfold ZN at hl
 split at hl
 case h_4 x y ho=>
  obtain ⟨k,hk⟩:=Option.isSome_iff_exists.1 hl
  exact eff (.inr ⟨k,by unfold zJ;rw [ho];simp only [hk]⟩)
 case h_5 n args ts ho=>
  exact eff (.inl (by unfold zJ;rw [ho];simp only [hl,cond_true]))
 case h_6 f args ts _ ho=>
  unfold za at h
  split at h
  ·exact UF hr ho hl h
  ·obtain ⟨d,_,h⟩:=oB h
   obtain ⟨g,_,h⟩:=oB h
   split at h
   ·split at h
    ·exact UF hr ho hl h
    ·cases h;simp
   ·cases h;simp
   ·cases h
 case h_1 ho=>
  split at hl
  ·rename_i d hd;exact new (by unfold zb;rw [ho];simp only [hd,hl,cond_true])
  ·cases hl
 case h_2 ho=>
  split at hl
  ·rename_i d hd;exact new (by unfold zb;rw [ho];simp only [hd,hl,cond_true])
  ·cases hl
 case h_3 ho=>
  split at hl
  ·rename_i d hd;exact new (by unfold zb;rw [ho];simp only [hd,hl,cond_true])
  ·cases hl
 all_goals first
  | (cases hl;done)
  | (rename_i x ho;exact dead_one ⟨x,ho⟩ h)
  | (rename_i ho;exact form (by unfold zb;rw [ho];first | exact .inl rfl | exact .inr rfl))
  | (rename_i ty x ho;exact form (Vq (by unfold Yf;rw [ho])))
theorem YR (hr:zR A ev) (hl:ops.toList.all (ZN A)=true):∀ {l:List Nat} {s t:St},zq P A ev ops l s=some t->t.h=s.h
 | [],s,t,h=>by cases h;rfl
 | i::l,s,t,h=>by
  cases hi:ops[i]? with
  | none=>
   have e:zq P A ev ops (i::l) s=zq P A ev ops l s:=by simp [zq,hi]
   rw [e] at h
   exact YR hr hl h
  | some o=>
   rw [zG hi] at h
   obtain ⟨s1,h1,h⟩:=oB h
   rw [YR hr hl h]
   exact Qp hr (List.all_eq_true.1 hl o (by rw [Array.mem_toList_iff];exact Array.mem_of_getElem? hi)) h1
def zO (A:FAn):Code->Bool
 | .region _ ops _=>ops.toList.all (ZN A)
 | .seq a b=>zO A a&&zO A b
 | .cond _ a b=>zO A a&&zO A b
 | .block _ b=>zO A b
 | .loop b=>zO A b
 | .skip | .label _ | .exit _ | .ret=>true
 | _=>false
theorem xb {dOk:FAn->Array Oper->Bool} (hr:zR A ev) (hj:A.rj=[]) {k:Nat} {R:Type} {x:R}:∀ (c:Code) (blk:Nat) {s:St} {K:Ex->St->Option R},zO A c=true->evCode P A ev dOk k c blk s K=some x->∃ e t,K e t=some x/\t.h=s.h
 | .skip,_,s,K,_,h=>⟨_,_,h,rfl⟩
 | .label _,_,s,K,_,h=>⟨_,_,h,rfl⟩
 | .exit _,_,s,K,_,h=>⟨_,_,h,rfl⟩
 | .ret,_,s,K,_,h=>⟨_,_,h,rfl⟩
 | .region id ops draw,_,s,K,hl,h=>by
  unfold evCode evRegion at h
  obtain ⟨_,h⟩:=gB.1 h
  rw [hj] at h
  simp only [List.find?_nil] at h
  rw [yX] at h
  obtain ⟨t,ht,h⟩:=oB h
  refine ⟨_,_,h,?_⟩
  have e:(maskR A id t).h=t.h:=by unfold maskR;split<;>rfl
  rw [e]
  exact YR hr (by simpa [zO] using hl) ht
 | .seq a b,blk,s,K,hl,h=>by
  unfold zO at hl
  obtain ⟨ha,hb⟩:=Bool.and_eq_true_iff.1 hl
  unfold evCode at h
  obtain ⟨e,t,h,ht⟩:=xb hr hj a blk ha h
  unfold kSeq at h
  split at h
  ·obtain ⟨e,t2,h,ht2⟩:=xb hr hj b blk hb h
   exact ⟨e,t2,h,ht2.trans ht⟩
  ·exact ⟨_,_,h,ht⟩
 | .cond q a b,blk,s,K,hl,h=>by
  unfold zO at hl
  obtain ⟨ha,hb⟩:=Bool.and_eq_true_iff.1 hl
  unfold evCode at h
  obtain ⟨v,_,h⟩:=oB h
  obtain ⟨v,rfl,h⟩:=asSc_some.1 h
  obtain ⟨v,rfl,h⟩:=asB_some.1 h
  rcases cond_some.1 h with ⟨_,h⟩ | ⟨_,h⟩
  ·exact xb hr hj a blk ha h
  ·exact xb hr hj b blk hb h
 | .block id b,blk,s,K,hl,h=>by
  unfold zO at hl
  unfold evCode at h
  obtain ⟨e,t,h,ht⟩:=xb hr hj b id hl h
  unfold kBlock at h
  split at h
  ·rcases cond_some.1 h with ⟨_,h⟩ | ⟨_,h⟩<;>exact ⟨_,_,h,ht⟩
  ·exact ⟨_,_,h,ht⟩
 | .loop b,blk,s,K,hl,h=>by
  unfold zO at hl
  unfold evCode at h
  have key:∀ (n:Nat) {s:St},loopN (maskAt A blk) (evCode P A ev dOk k b blk) K n s=some x->∃ e t,K e t=some x/\t.h=s.h:=by
   intro n
   induction n with
   | zero=>intro s h;cases h
   | succ n ih=>
    intro s h
    unfold loopN at h
    obtain ⟨e,t,h,ht⟩:=xb hr hj b blk hl h
    have e1:(maskAt A blk s).h=s.h:=by unfold maskAt;split<;>rfl
    split at h
    ·obtain ⟨e2,t2,h,ht2⟩:=ih h
     exact ⟨e2,t2,h,ht2.trans (ht.trans e1)⟩
    ·exact ⟨_,_,h,ht.trans e1⟩
  exact key k h
 | .rangeFunc _ _ _ _,_,_,_,hl,_=>by cases hl
def Tv (A:FAn) (o:Oper):Bool:=ZN A o||(match o.op with
 | .alloc _ | .box _ _ | .buildSlice _ _ _ | .makeSlice _ _ _=>true
 | .call { callee:=.value (.func n),.. }=>A.gr.contains n&&!(A.iso.contains n)
 | _=>false)
theorem grows_op (hr:zR A ev) (hl:Tv A o=true) (h:za P A ev ops o s=some t):s.h <+: t.h:=by
 rcases Bool.or_eq_true_iff.1 hl with hl | hl
 ·rw [Qp hr hl h];exact List.prefix_refl _
 have push:∀ {d:Option Tmp} {v:SV} {O:AO},s.h <+: (setSl { s with h:=s.h++[O] } d v).h:=fun {d v O}=>by rw [zf];exact List.prefix_append _ _
 have new:∀ {d:Tmp} {v:SV} {z:List Sc},s.h <+: (newLocal s d v z).h:=fun {d v z}=>List.prefix_refl _
 have skip:some (setSl s o.dst .no)=some t->s.h <+: t.h:=fun h=>by cases h;rw [zf];exact List.prefix_refl _
 have take:evOp P A ev o s some=some t->s.h <+: t.h:=by
  intro h
  split at hl
  ·rename_i e ho
   unfold evOp at h
   rw [ho] at h
   simp only [setK_eq,newLocalK_eq] at h
   obtain ⟨d,hd,h⟩:=oB h
   obtain ⟨z,hz,h⟩:=oB h
   obtain ⟨_,h⟩:=gB.1 h
   rcases cond_some.1 h with ⟨_,h⟩ | ⟨_,h⟩
   ·cases h;exact new
   ·cases h;exact push
  ·rename_i e x ho
   unfold evOp at h
   rw [ho] at h
   simp only [setK_eq,newLocalK_eq] at h
   obtain ⟨d,hd,h⟩:=oB h
   obtain ⟨z,hz,h⟩:=oB h
   obtain ⟨_,h⟩:=gB.1 h
   rcases cond_some.1 h with ⟨_,h⟩ | ⟨_,h⟩
   ·cases h;exact new
   ·cases h;exact push
  ·rename_i ty n ps ho
   unfold evOp at h
   rw [ho] at h
   simp only [setK_eq,newLocalK_eq] at h
   obtain ⟨d,hd,h⟩:=oB h
   obtain ⟨e,_,h⟩:=oB h
   obtain ⟨z,hz,h⟩:=oB h
   obtain ⟨_,h⟩:=gB.1 h
   obtain ⟨vs,_,h⟩:=oB h
   obtain ⟨cs,_,h⟩:=oB h
   rcases cond_some.1 h with ⟨_,h⟩ | ⟨_,h⟩
   ·cases h;exact new
   ·cases h;exact push
  ·rename_i ty lo mo ho
   unfold evOp at h
   rw [ho] at h
   simp only [setK_eq] at h
   obtain ⟨e,_,h⟩:=oB h
   obtain ⟨z,hz,h⟩:=oB h
   obtain ⟨l,_,h⟩:=oB h
   obtain ⟨m,_,h⟩:=oB h
   split at h
   ·obtain ⟨_,h⟩:=gB.1 h
    cases h;exact push
   ·cases h
  ·rename_i n args ts ho
   obtain ⟨v,tl,e⟩:=wa (ops:=ops) (o:={ o with guard:=none }) hr (by unfold YP;rw [ho];exact hl) (show za P A ev ops { o with guard:=none } s=some t from h)
   rw [e,zf];exact List.prefix_append _ _
  ·cases hl
 unfold za at h
 split at h
 ·exact take h
 ·obtain ⟨d,_,h⟩:=oB h
  obtain ⟨g,_,h⟩:=oB h
  split at h
  ·split at h
   ·exact take h
   ·exact skip h
  ·exact skip h
  ·cases h
theorem WR (hr:zR A ev) (hl:ops.toList.all (Tv A)=true):∀ {l:List Nat} {s t:St},zq P A ev ops l s=some t->s.h <+: t.h
 | [],s,t,h=>by cases h;exact List.prefix_refl _
 | i::l,s,t,h=>by
  cases hi:ops[i]? with
  | none=>
   have e:zq P A ev ops (i::l) s=zq P A ev ops l s:=by simp [zq,hi]
   rw [e] at h
   exact WR hr hl h
  | some o=>
   rw [zG hi] at h
   obtain ⟨s1,h1,h⟩:=oB h
   exact (grows_op hr (List.all_eq_true.1 hl o (by rw [Array.mem_toList_iff];exact Array.mem_of_getElem? hi)) h1).trans (WR hr hl h)
def ye (A:FAn):Code->Bool
 | .region _ ops _=>ops.toList.all (Tv A)
 | .seq a b=>ye A a&&ye A b
 | .cond _ a b=>ye A a&&ye A b
 | .block _ b=>ye A b
 | .loop b=>ye A b
 | .skip | .label _ | .exit _ | .ret=>true
 | _=>false
theorem xk {dOk:FAn->Array Oper->Bool} (hr:zR A ev) (hj:A.rj=[]) {k:Nat} {R:Type} {x:R}:∀ (c:Code) (blk:Nat) {s:St} {K:Ex->St->Option R},ye A c=true->evCode P A ev dOk k c blk s K=some x->∃ e t,K e t=some x/\s.h <+: t.h
 | .skip,_,s,K,_,h=>⟨_,_,h,List.prefix_refl _⟩
 | .label _,_,s,K,_,h=>⟨_,_,h,List.prefix_refl _⟩
 | .exit _,_,s,K,_,h=>⟨_,_,h,List.prefix_refl _⟩
 | .ret,_,s,K,_,h=>⟨_,_,h,List.prefix_refl _⟩
 | .region id ops draw,_,s,K,hl,h=>by
  unfold evCode evRegion at h
  obtain ⟨_,h⟩:=gB.1 h
  rw [hj] at h
  simp only [List.find?_nil] at h
  rw [yX] at h
  obtain ⟨t,ht,h⟩:=oB h
  refine ⟨_,_,h,?_⟩
  have e:(maskR A id t).h=t.h:=by unfold maskR;split<;>rfl
  rw [e]
  exact WR hr (by simpa [ye] using hl) ht
 | .seq a b,blk,s,K,hl,h=>by
  unfold ye at hl
  obtain ⟨ha,hb⟩:=Bool.and_eq_true_iff.1 hl
  unfold evCode at h
  obtain ⟨e,t,h,ht⟩:=xk hr hj a blk ha h
  unfold kSeq at h
  split at h
  ·obtain ⟨e,t2,h,ht2⟩:=xk hr hj b blk hb h
   exact ⟨e,t2,h,ht.trans ht2⟩
  ·exact ⟨_,_,h,ht⟩
 | .cond q a b,blk,s,K,hl,h=>by
  unfold ye at hl
  obtain ⟨ha,hb⟩:=Bool.and_eq_true_iff.1 hl
  unfold evCode at h
  obtain ⟨v,_,h⟩:=oB h
  obtain ⟨v,rfl,h⟩:=asSc_some.1 h
  obtain ⟨v,rfl,h⟩:=asB_some.1 h
  rcases cond_some.1 h with ⟨_,h⟩ | ⟨_,h⟩
  ·exact xk hr hj a blk ha h
  ·exact xk hr hj b blk hb h
 | .block id b,blk,s,K,hl,h=>by
  unfold ye at hl
  unfold evCode at h
  obtain ⟨e,t,h,ht⟩:=xk hr hj b id hl h
  unfold kBlock at h
  split at h
  ·rcases cond_some.1 h with ⟨_,h⟩ | ⟨_,h⟩<;>exact ⟨_,_,h,ht⟩
  ·exact ⟨_,_,h,ht⟩
 | .loop b,blk,s,K,hl,h=>by
  unfold ye at hl
  unfold evCode at h
  have key:∀ (n:Nat) {s:St},loopN (maskAt A blk) (evCode P A ev dOk k b blk) K n s=some x->∃ e t,K e t=some x/\s.h <+: t.h:=by
   intro n
   induction n with
   | zero=>intro s h;cases h
   | succ n ih=>
    intro s h
    unfold loopN at h
    obtain ⟨e,t,h,ht⟩:=xk hr hj b blk hl h
    have e1:(maskAt A blk s).h=s.h:=by unfold maskAt;split<;>rfl
    rw [e1] at ht
    split at h
    ·obtain ⟨e2,t2,h,ht2⟩:=ih h
     exact ⟨e2,t2,h,ht.trans ht2⟩
    ·exact ⟨_,_,h,ht⟩
  exact key k h
 | .rangeFunc _ _ _ _,_,_,_,hl,_=>by cases hl
def roOk (P:Program) (An:FuncId->FAn) (f:FuncId):Bool:=((An f).ro.all fun n=>match (P.funcs[n]?).bind (·.body) with | some c=>zO (An n) c | none=>true)&&(frOk P An f&&(An f).gr.all fun n=>match (P.funcs[n]?).bind (·.body) with | some c=>ye (An n) c||zL (An n) c | none=>true)
theorem ro_ev {dOk:FAn->Array Oper->Bool} {An:FuncId->FAn} (hj:∀ f,(An f).rj=[]) (h:∀ f,roOk P An f=true):∀ k f,zR (An f) (evF P An dOk k)
 | 0,f=>⟨fun n _ as h rs h' he=>(by cases he),fr_ev hj (fun f=>(Bool.and_eq_true_iff.1 (Bool.and_eq_true_iff.1 (h f)).2).1) 0 f,fun n _ as h rs h' he=>(by cases he)⟩
 | k+1,f=>by
  refine ⟨fun n hn as h0 rs h' he=>?_,fr_ev hj (fun f=>(Bool.and_eq_true_iff.1 (Bool.and_eq_true_iff.1 (h f)).2).1) (k+1) f,fun n hn as h0 rs h' he=>?_⟩
  ·simp only [evF] at he
   obtain ⟨fn,hfn,he⟩:=oB he
   obtain ⟨code,hcode,he⟩:=oB he
   obtain ⟨_,he⟩:=gB.1 he
   have hl:zO (An n) code=true:=by
    have h1:=(Bool.and_eq_true_iff.1 (show (_&&_)=true from h f)).1
    have h2:=List.all_eq_true.1 h1 n (by simpa using hn)
    rw [hfn] at h2
    simp only [Option.bind_some,hcode] at h2
    exact h2
   obtain ⟨e,t,hk,ht⟩:=xb (ro_ev hj h k n) (hj n) code 0 hl he
   have res:∀ {l:List ResultVar} {c:List AV->Option (List AV×AH)} {r:List AV×AH},resOf P t l c=some r->∃ vs,c vs=some r:=by
    intro l
    induction l with
    | nil=>intro c r h;exact ⟨_,h⟩
    | cons x l ih=>
     intro c r h
     cases x with
     | tmp d=>
      simp only [resOf] at h
      obtain ⟨_,_,h⟩:=oB h
      obtain ⟨_,_,h⟩:=oB h
      obtain ⟨_,h⟩:=ih h;exact ⟨_,h⟩
     | cell a ty=>
      simp only [resOf] at h
      obtain ⟨_,h⟩:=gB.1 h
      obtain ⟨_,_,h⟩:=oB h
      rcases cond_some.1 h with ⟨_,h⟩ | ⟨_,h⟩
      ·obtain ⟨_,_,h⟩:=zW h;obtain ⟨_,h⟩:=ih h;exact ⟨_,h⟩
      ·obtain ⟨_,_,h⟩:=yt h;obtain ⟨_,h⟩:=ih h;exact ⟨_,h⟩
   have fin:(resOf P t fn.results.toList fun vs=>some (vs,t.h))=some (rs,h')->h'=h0:=fun hk=>by
    obtain ⟨vs,hq⟩:=res hk
    cases hq
    exact ht
   unfold kFin at hk
   split at hk
   ·exact fin hk
   ·exact fin hk
   ·cases hk
  ·simp only [evF] at he
   obtain ⟨fn,hfn,he⟩:=oB he
   obtain ⟨code,hcode,he⟩:=oB he
   obtain ⟨hargs,he⟩:=gB.1 he
   have hl:(ye (An n) code||zL (An n) code)=true:=by
    have h1:=(Bool.and_eq_true_iff.1 (Bool.and_eq_true_iff.1 (show (_&&_)=true from h f)).2).2
    have h2:=List.all_eq_true.1 h1 n (by simpa using hn)
    rw [hfn] at h2
    simp only [Option.bind_some,hcode] at h2
    exact h2
   have hcode:∃ e t,kFin P fn e t=some (rs,h')/\h0 <+: t.h:=by
    rcases Bool.or_eq_true_iff.1 hl with hl | hl
    ·exact xk (ro_ev hj h k n) (hj n) code 0 hl he
    ·obtain ⟨e,t,hk,ht⟩:=yT (ro_ev hj h k n) (hj n) code 0 hl (fr_enter (Bool.and_eq_true_iff.1 hargs).2) he
     exact ⟨e,t,hk,ht.hp⟩
   obtain ⟨e,t,hk,ht⟩:=hcode
   have res:∀ {l:List ResultVar} {c:List AV->Option (List AV×AH)} {r:List AV×AH},resOf P t l c=some r->∃ vs,c vs=some r:=by
    intro l
    induction l with
    | nil=>intro c r h;exact ⟨_,h⟩
    | cons x l ih=>
     intro c r h
     cases x with
     | tmp d=>
      simp only [resOf] at h
      obtain ⟨_,_,h⟩:=oB h
      obtain ⟨_,_,h⟩:=oB h
      obtain ⟨_,h⟩:=ih h;exact ⟨_,h⟩
     | cell a ty=>
      simp only [resOf] at h
      obtain ⟨_,h⟩:=gB.1 h
      obtain ⟨_,_,h⟩:=oB h
      rcases cond_some.1 h with ⟨_,h⟩ | ⟨_,h⟩
      ·obtain ⟨_,_,h⟩:=zW h;obtain ⟨_,h⟩:=ih h;exact ⟨_,h⟩
      ·obtain ⟨_,_,h⟩:=yt h;obtain ⟨_,h⟩:=ih h;exact ⟨_,h⟩
   have fin:(resOf P t fn.results.toList fun vs=>some (vs,t.h))=some (rs,h')->h0 <+: h':=fun hk=>by
    obtain ⟨vs,hq⟩:=res hk
    cases hq
    exact ht
   unfold kFin at hk
   split at hk
   ·exact fin hk
   ·exact fin hk
   ·cases hk
end Go.AM
namespace Go.TM
open Go Go.AM Go.RowKit
def InR:(t:Ty)->t.T->Prop
 | .int k,n=>k.min<=(show Int from n)/\(show Int from n)<=k.max
 | .bool,_=>True
 | .str,_=>True
 | .list _ t,xs=>(show List t.T from xs).length<=maxLen/\∀ x∈(show List t.T from xs),InR t x
 | .pair a b,p=>InR a p.1/\InR b p.2
 | .unit,_=>True
def Ut (P:Program):Nat->List Field->Nat->Bool
 | off,[],n=>Nat.beq off n
 | off,f::r,n=>Nat.beq f.offset off&&Ut P (off+P.cellsOf f.type) r n
def YG (P:Program):Nat->TypeId->Bool
 | 0,_=>false
 | d+1,t=>
  match P.underlying t with
  | some (.int _) | some .bool | some .string=>Nat.beq (P.cellsOf t) 1
  | some (.slice e)=>Nat.beq (P.cellsOf t) 1&&!(Nat.beq (P.cellsOf e) 0)&&YG P d e&&(match Zs P d e with | some τ=>Nat.beq τ.size (P.cellsOf e) | none=>false)
  | some (.struct fs)=>Ut P 0 fs.toList (P.cellsOf t)&&fs.toList.all fun f=>YG P d f.type
  | some (.array n e)=>Nat.beq (P.cellsOf t) (n*P.cellsOf e)&&YG P d e
  | _=>false
def ZG (h:AH):Nat->Prop:=fun i=>i < h.length
section
variable {H : Type} {enc : TypeId × Value -> H} {P : Program} {w : World}
theorem ZO {α β:Type} {f:α->Option β}:∀ {l:List α} {ys:List β},l.mapM f=some ys->ys.length=l.length/\∀ (i:Nat) x,l[i]?=some x->∃ y,f x=some y
 | [],ys,h=>by simp at h;subst h;simp
 | a::l,ys,h=>by
  simp only [List.mapM_cons,Option.bind_eq_bind,Option.bind_eq_some_iff] at h
  obtain ⟨y,h1,zs,h2,h3⟩:=h
  cases h3
  obtain ⟨h4,h5⟩:=ZO h2
  refine ⟨by simp [h4],fun i x hx=>?_⟩
  cases i with
  | zero=>simp at hx;subst hx;exact ⟨y,h1⟩
  | succ i=>exact h5 i x (by simpa using hx)
structure Grow (P:Program) (w:World) (I:List AM.Loc) (h:AH) (I':List AM.Loc) (h':AH):Prop where
 pi:I <+: I'
 ph:h <+: h'
 hr:HRel P w.heap.size I' h' w
theorem Grow.trans {I I1 I2:List AM.Loc} {h h1 h2:AH} (a:Grow P w I h I1 h1) (b:Grow P w I1 h1 I2 h2):Grow P w I h I2 h2:=⟨a.pi.trans b.pi,a.ph.trans b.ph,b.hr⟩
theorem Grow.ext {I I':List AM.Loc} {h h':AH} (g:Grow P w I h I' h'):Ext h (ZG h) h' (ZG h'):=by
 obtain ⟨t,rfl⟩:=g.ph
 exact ⟨fun i hi=>by unfold ZG at *;simp;omega,fun i hi=>List.getElem?_append_left hi⟩
def Got (P:Program) (w:World) (I:List AM.Loc) (h:AH) (τ:Ty) (cs:List Value):Prop:=
 ∃ (x:τ.T) (I':List AM.Loc) (h':AH) (scs:List Sc),Grow P w I h I' h'/\ScRels I' scs cs/\DR P h' (ZG h') τ x scs/\InR τ x
theorem Yh (b o n:Nat):Addr.add ⟨b,o,none⟩ n=⟨b,o+n,none⟩:=Addr.add_lit b o n
theorem WA {a:Addr} {n:Nat} {vs:List Value} (h:w.cells? 0 a n=some vs):vs.length=n/\∀ (j:Nat) v,vs[j]?=some v->w.cell? (a.add j)=some v:=by
 unfold World.cells? at h
 rw [if_pos (Nat.zero_le _)] at h
 have key:∀ (k m:Nat) (ys:List Value),(List.range' k m).mapM (fun i=>w.cell? (a.add i))=some ys->ys.length=m/\∀ (j:Nat) v,ys[j]?=some v->w.cell? (a.add (k+j))=some v:=by
  intro k m
  induction m generalizing k with
  | zero=>intro ys h;simp at h;subst h;simp
  | succ m ih=>
   intro ys h
   simp only [List.range'_succ,List.mapM_cons,Option.bind_eq_bind,Option.bind_eq_some_iff] at h
   obtain ⟨y,h1,zs,h2,h3⟩:=h
   cases h3
   obtain ⟨h4,h5⟩:=ih (k+1) zs h2
   refine ⟨by simp [h4],fun j v hj=>?_⟩
   cases j with
   | zero=>simp at hj;subst hj;simpa using h1
   | succ j=>have:=h5 j v (by simpa using hj);rwa [show k+1+j=k+(j+1) by omega] at this
 rw [List.range_eq_range'] at h
 obtain ⟨h1,h2⟩:=key 0 n vs h
 exact ⟨h1,fun j v hj=>by simpa using h2 j v hj⟩
theorem pairs_cons {a:Ty} {r:List Ty} (h:r≠[]):Vt (a::r)=.pair a (Vt r):=by
 cases r with
 | nil=>exact absurd rfl h
 | cons b r=>rfl
theorem QC {τs:List Ty} {css:List (List Value)}:∀ {I:List AM.Loc} {h:AH},HRel P w.heap.size I h w->τs.length=css.length->(∀ (i:Nat) τ cs,τs[i]?=some τ->css[i]?=some cs->∀ I h,HRel P w.heap.size I h w->Got P w I h τ cs)->Got P w I h (Vt τs) css.flatten:=by
 induction τs generalizing css with
 | nil=>
  intro I h hr hl _
  cases css with
  | nil=>exact ⟨(),I,h,[],⟨List.prefix_refl _,List.prefix_refl _,hr⟩,by simp [ScRels],rfl,trivial⟩
  | cons _ _=>simp at hl
 | cons τ τs ih=>
  intro I h hr hl hall
  cases css with
  | nil=>simp at hl
  | cons cs css=>
   obtain ⟨x,I1,h1,s1,g1,r1,d1,i1⟩:=hall 0 τ cs rfl rfl I h hr
   by_cases hn:τs=[]
   ·subst hn
    cases css with
    | cons _ _=>simp at hl
    | nil=>exact ⟨x,I1,h1,s1,g1,by simpa using r1,d1,i1⟩
   ·obtain ⟨y,I2,h2,s2,g2,r2,d2,i2⟩:=ih (css:=css) g1.hr (by simpa using hl) fun i τ cs h1 h2=>hall (i+1) τ cs (by simpa using h1) (by simpa using h2)
    rw [pairs_cons hn]
    exact ⟨(x,y),I2,h2,s1++s2,g1.trans g2,by rw [List.flatten_cons];exact (ScRels.mono g2.pi _ _ r1).append r2,⟨s1,s2,rfl,d1.mono g2.ext,d2⟩,i1,i2⟩
theorem mapO_get {α β:Type} {f:α->Option β}:∀ {l:List α} {ys:List β},mapO f l=some ys->ys.length=l.length/\∀ (i:Nat) x y,l[i]?=some x->ys[i]?=some y->f x=some y
 | [],ys,h=>by simp [mapO] at h;subst h;simp
 | a::l,ys,h=>by
  simp only [mapO,Option.bind_eq_some_iff] at h
  obtain ⟨y,h1,zs,h2,h3⟩:=h
  cases h3
  obtain ⟨h4,h5⟩:=mapO_get h2
  refine ⟨by simp [h4],fun i x z hx hz=>?_⟩
  cases i with
  | zero=>simp at hx hz;subst hx;subst hz;exact h1
  | succ i=>exact h5 i x z (by simpa using hx) (by simpa using hz)
theorem contig_flat {fs:List Field}:∀ {off n:Nat} {cs:List Value},Ut P off fs n=true->cs.length=n->(fs.map fun f=>(cs.drop f.offset).take (P.cellsOf f.type)).flatten=cs.drop off:=by
 induction fs with
 | nil=>intro off n cs h hl;have:=zj h;simp;omega
 | cons f fs ih=>
  intro off n cs h hl
  simp only [Ut,Bool.and_eq_true] at h
  have h1:=zj h.1
  rw [List.map_cons,List.flatten_cons,ih h.2 hl,h1,<- List.drop_drop,List.take_append_drop]
theorem arr_flat {z:Nat} {cs:List Value}:∀ (m k:Nat),cs.length=(k+m)*z->((List.range' k m).map fun i=>(cs.drop (i*z)).take z).flatten=cs.drop (k*z)
 | 0,k,h=>by simp;rw [h];exact Nat.le_refl _
 | m+1,k,h=>by
  rw [List.range'_succ,List.map_cons,List.flatten_cons,arr_flat m (k+1) (by rw [h];congr 1;omega),Nat.succ_mul,<- List.drop_drop,List.take_append_drop]
section
variable {sp : Nat -> Bool} {fuel : Nat} {t : TypeId} {cs : List Value} {x : DataW H × List MemPlace}
theorem trod_int {k:IntKind} (hu:P.underlying t=some (.int k)) (hx:DataW.trod enc P w 0 sp true (fuel+1) t cs=some x):∃ n:Int,cs=[.int k n]/\k.min<=n/\n<=k.max:=by
 unfold DataW.trod at hx
 rw [hu] at hx
 split at hx
 all_goals first | (cases ‹some (TypeDesc.int k)=_›;done) | skip
 all_goals first | (cases hx;done) | skip
 rename_i heq
 have heq':=heq
 simp only [Option.some.injEq,TypeDesc.int.injEq] at heq'
 subst heq'
 split at hx
 ·rename_i hw
  obtain ⟨rfl,hw⟩:=hw
  simp only [Lit.wf,Bool.and_eq_true,decide_eq_true_eq] at hw
  exact ⟨_,rfl,hw⟩
 ·cases hx
theorem trod_bool (hu:P.underlying t=some .bool) (hx:DataW.trod enc P w 0 sp true (fuel+1) t cs=some x):∃ b:Bool,cs=[.bool b]:=by
 unfold DataW.trod at hx
 rw [hu] at hx
 split at hx
 all_goals first | (cases ‹some TypeDesc.bool=_›;done) | skip
 all_goals first | (cases hx;done) | skip
 exact ⟨_,rfl⟩
theorem trod_str (hu:P.underlying t=some .string) (hx:DataW.trod enc P w 0 sp true (fuel+1) t cs=some x):∃ b:ByteArray,cs=[.string b]:=by
 unfold DataW.trod at hx
 rw [hu] at hx
 split at hx
 all_goals first | (cases ‹some TypeDesc.string=_›;done) | skip
 all_goals first | (cases hx;done) | skip
 exact ⟨_,rfl⟩
theorem trod_struct {fs:Array Field} (hu:P.underlying t=some (.struct fs)) (hx:DataW.trod enc P w 0 sp true (fuel+1) t cs=some x):cs.length=P.cellsOf t/\∃ ys,(fs.toList.mapM fun f=>DataW.trod enc P w 0 sp true fuel f.type ((cs.drop f.offset).take (P.cellsOf f.type)))=some ys:=by
 unfold DataW.trod at hx
 rw [hu] at hx
 simp only at hx
 split at hx
 ·rename_i hl
  obtain ⟨ys,h1,_⟩:=oM hx
  exact ⟨hl,ys,h1⟩
 ·cases hx
theorem trod_array {n:Nat} {e:TypeId} (hu:P.underlying t=some (.array n e)) (hx:DataW.trod enc P w 0 sp true (fuel+1) t cs=some x):cs.length=P.cellsOf t/\∃ ys,((List.range n).mapM fun i=>DataW.trod enc P w 0 sp true fuel e ((cs.drop (i*P.cellsOf e)).take (P.cellsOf e)))=some ys:=by
 unfold DataW.trod at hx
 rw [hu] at hx
 simp only at hx
 split at hx
 ·rename_i hl
  obtain ⟨ys,h1,_⟩:=oM hx
  exact ⟨hl,ys,h1⟩
 ·cases hx
theorem trod_slice {e:TypeId} (hu:P.underlying t=some (.slice e)) (hx:DataW.trod enc P w 0 (fun _=>true) true (fuel+1) t cs=some x):cs=[.slice none 0 0]\/∃ a len cap,cs=[.slice (some a) len cap]/\len<=cap/\cap<=maxLen/\
  ∀ i,i < cap->∃ vs y,w.cells? 0 (a.add (i*P.cellsOf e)) (P.cellsOf e)=some vs/\DataW.trod enc P w 0 (fun _=>true) true fuel e vs=some y:=by
 unfold DataW.trod at hx
 rw [hu] at hx
 split at hx
 all_goals first | (cases ‹some (TypeDesc.slice e)=_›;done) | skip
 all_goals first | (cases hx;done) | skip
 ·exact .inl rfl
 ·rename_i e' a len cap heq
  have heq':=heq
  simp only [Option.some.injEq,TypeDesc.slice.injEq] at heq'
  subst heq'
  simp only at hx
  split at hx
  ·rename_i hl
   obtain ⟨ys,h1,hx⟩:=oB hx
   obtain ⟨zs,h2,_⟩:=oM hx
   simp only [if_true] at h2
   refine .inr ⟨_,len,cap,rfl,hl.2.1,hl.2.2,fun i hi=>?_⟩
   rcases Nat.lt_or_ge i len with hi2 | hi2
   ·obtain ⟨_,h3⟩:=ZO h1
    obtain ⟨y,h4⟩:=h3 i i (by simp [hi2])
    obtain ⟨vs,h5,h6⟩:=oB h4
    exact ⟨vs,y,h5,h6⟩
   ·obtain ⟨_,h3⟩:=ZO h2
    obtain ⟨y,h4⟩:=h3 (i - len) (i - len) (by rw [List.getElem?_range (by omega)])
    rw [show len+(i - len)=i by omega] at h4
    obtain ⟨vs,h5,h6⟩:=oB h4
    exact ⟨vs,y,h5,h6⟩
  ·cases hx
end
theorem hr_row {I:List AM.Loc} {h:AH} (hr:HRel P w.heap.size I h w) {e:TypeId} {cs:List Sc} {b o:Nat} (hb:b < w.heap.size) (hc:∀ (j:Nat) c,cs[j]?=some c->∃ v,w.cell? ⟨b,o+j,none⟩=some v/\ScRel I c v) :
  Grow P w I h (I++[⟨b,o,0,0⟩]) (h++[.row false e cs]):=by
 have hp:I <+: I++[⟨b,o,0,0⟩]:=List.prefix_append _ _
 refine ⟨hp,List.prefix_append _ _,⟨by simp [hr.len],fun i ob L h1 h2=>?_,fun i j o1 o2 L L' h1 h2 w1 w2 k1 k2 e=>?_⟩⟩
 ·rcases xB (by rw [hr.len]) h1 h2 with ⟨_,a,b⟩ | ⟨_,rfl,rfl⟩
  ·exact (hr.obj i ob L a b).mono hp rfl
  ·refine ⟨rfl,hb,fun j c hj=>?_⟩
   obtain ⟨v,h3,h4⟩:=hc j c hj
   exact ⟨v,h3,ScRel.mono hp _ _ h4⟩
 ·rcases xB (by rw [hr.len]) h1 k1 with ⟨_,a,b⟩ | ⟨_,rfl,rfl⟩
  ·rcases xB (by rw [hr.len]) h2 k2 with ⟨_,c,d⟩ | ⟨_,rfl,rfl⟩
   ·exact hr.uniq i j o1 o2 L L' a c w1 w2 b d e
   ·simp [AO.own] at w2
  ·simp [AO.own] at w1
theorem Wl:∀ (d:Nat) {fuel:Nat} {t:TypeId} {τ:Ty} {cs:List Value} {x:DataW H×List MemPlace},Zs P d t=some τ->YG P d t=true->DataW.trod enc P w 0 (fun _=>true) true fuel t cs=some x->(∀ v∈cs,∀ a l c,v=.slice (some a) l c->0 < w.heap.size)->
  ∀ I h,HRel P w.heap.size I h w->Got P w I h τ cs
 | 0,_,_,_,_,_,hy,_,_,_,_,_,_=>by cases hy
 | d+1,0,_,_,_,_,_,_,hx,_,_,_,_=>by cases hx
 | d+1,fuel+1,t,τ,cs,x,hy,hk,hx,hs,I,h,hr=>by
  have g0:Grow P w I h I h:=⟨List.prefix_refl _,List.prefix_refl _,hr⟩
  unfold Zs at hy
  unfold YG at hk
  cases hu:P.underlying t with
  | none=>simp only [hu] at hy;cases hy
  | some desc=>
   simp only [hu] at hy hk
   cases desc with
   | int k=>
    cases hy
    obtain ⟨n,rfl,h1,h2⟩:=trod_int hu hx
    exact ⟨n,I,h,[.int k n],g0,by simp [ScRels,ScRel],by simp only [DR],h1,h2⟩
   | bool=>
    cases hy
    obtain ⟨n,rfl⟩:=trod_bool hu hx
    exact ⟨n,I,h,[.bool n],g0,by simp [ScRels,ScRel],by simp only [DR],trivial⟩
   | string=>
    cases hy
    obtain ⟨n,rfl⟩:=trod_str hu hx
    exact ⟨n,I,h,[.str n],g0,by simp [ScRels,ScRel],by simp only [DR],trivial⟩
   | struct fs=>
    simp only at hy hk
    simp only [Bool.and_eq_true,List.all_eq_true] at hk
    obtain ⟨l,h1,hy⟩:=oB hy
    cases hy
    obtain ⟨hl,ys,h2⟩:=trod_struct hu hx
    obtain ⟨h3,h4⟩:=mapO_get h1
    obtain ⟨h5,h6⟩:=ZO h2
    have:=QC (P:=P) (w:=w) (τs:=l) (css:=fs.toList.map fun f=>(cs.drop f.offset).take (P.cellsOf f.type)) hr (by simp [h3]) fun i τ c hi hc I h hr=>by
     rw [List.getElem?_map] at hc
     obtain ⟨f,hf,rfl⟩:=oM hc
     obtain ⟨y,hy⟩:=h6 i f hf
     exact Wl d (h4 i f τ hf hi) (hk.2 f (List.mem_of_getElem? hf)) hy (fun v hv a l c e=>hs v (List.mem_of_mem_drop (List.mem_of_mem_take hv)) a l c e) I h hr
    rw [contig_flat hk.1 hl,List.drop_zero] at this
    exact this
   | array n e=>
    simp only at hy hk
    simp only [Bool.and_eq_true] at hk
    obtain ⟨τe,h1,hy⟩:=oB hy
    cases hy
    obtain ⟨hl,ys,h2⟩:=trod_array hu hx
    obtain ⟨h5,h6⟩:=ZO h2
    have:=QC (P:=P) (w:=w) (τs:=List.replicate n τe) (css:=(List.range n).map fun i=>(cs.drop (i*P.cellsOf e)).take (P.cellsOf e)) hr (by simp) fun i τ c hi hc I h hr=>by
     rw [List.getElem?_map] at hc
     obtain ⟨f,hf,rfl⟩:=oM hc
     obtain ⟨y,hy⟩:=h6 i f hf
     rw [List.getElem?_replicate] at hi
     split at hi<;>cases hi
     exact Wl d h1 hk.2 hy (fun v hv a l c e=>hs v (List.mem_of_mem_drop (List.mem_of_mem_take hv)) a l c e) I h hr
    rw [List.range_eq_range',arr_flat n 0 (by rw [hl,zj hk.1];simp),Nat.zero_mul,List.drop_zero] at this
    exact this
   | slice e=>
    simp only at hy hk
    simp only [Bool.and_eq_true,Bool.not_eq_true'] at hk
    obtain ⟨⟨⟨hk1,hk2⟩,hk3⟩,hk4⟩:=hk
    obtain ⟨τe,h1,hy⟩:=oB hy
    cases hy
    rw [h1] at hk4
    have hz:=zj hk4
    have hz0:0 < P.cellsOf e:=by rcases Nat.eq_zero_or_pos (P.cellsOf e) with h | h;rw [h] at hk2;cases hk2;exact h
    rcases trod_slice hu hx with rfl | ⟨a,len,cap,rfl,hlc,hcm,hel⟩
    ·exact ⟨[],I,h,[.nils false],g0,by simp [ScRels,ScRel],⟨.nils false,rfl,.inl ⟨rfl,false,rfl⟩⟩,Nat.zero_le _,fun x hx=>by cases hx⟩
    ·have hB:0 < w.heap.size:=hs _ (by simp) a len cap rfl
     have key:∀ n,n<=len->∃ (xs:List τe.T) (I':List AM.Loc) (h':AH) (scs:List Sc),xs.length=n/\Grow P w I h I' h'/\Seg (DR P h' (ZG h') τe) xs scs/\(∀ x∈xs,InR τe x)/\scs.length=n*P.cellsOf e/\
       ∀ (j:Nat) c,scs[j]?=some c->∃ v,w.cell? (a.add j)=some v/\ScRel I' c v:=by
      intro n
      induction n with
      | zero=>intro _;exact ⟨[],I,h,[],rfl,g0,rfl,fun x hx=>(by cases hx),by simp,fun j c hj=>by simp at hj⟩
      | succ n ih=>
       intro hn
       obtain ⟨xs,I1,h1',s1,k1,g1,k2,k3,k4,k5⟩:=ih (by omega)
       obtain ⟨vs,y,h3,h4⟩:=hel n (by omega)
       obtain ⟨h5,h6⟩:=WA h3
       obtain ⟨x,I2,h2',s2,g2,r2,d2,i2⟩:=Wl d (τ:=τe) h1 hk3 h4 (fun _ _ _ _ _ _=>hB) I1 h1' g1.hr
       have hl2:=r2.length
       refine ⟨xs++[x],I2,h2',s1++s2,by simp [k1],g1.trans g2,(k2.mono fun _ _=>DR.mono g2.ext τe).append ⟨s2,[],by simp,d2,rfl⟩,fun z hz=>?_,by simp [k4,hl2,h5,Nat.succ_mul],fun j c hj=>?_⟩
       ·rcases List.mem_append.1 hz with hz | hz
        ·exact k3 z hz
        ·simp at hz;rw [hz];exact i2
       ·rcases Nat.lt_or_ge j s1.length with hlt | hge
        ·rw [List.getElem?_append_left hlt] at hj
         obtain ⟨v,h7,h8⟩:=k5 j c hj
         exact ⟨v,h7,ScRel.mono g2.pi _ _ h8⟩
        ·rw [List.getElem?_append_right hge] at hj
         obtain ⟨v,h7,h8⟩:=r2.get hj
         refine ⟨v,?_,h8⟩
         have h9:=h6 _ v h7
         have e1:(a.add (n*P.cellsOf e)).add (j - s1.length)=a.add j:=by
          rw [k4] at hge ⊢
          by_cases hj0:j=0
          ·subst hj0
           have:n*P.cellsOf e=0:=by omega
           rw [this];simp [Addr.add]
          ·have hsp:a.spot=none\/a.spot≠none:=by cases a.spot<;>simp
           obtain ⟨vs0,y0,q1,_⟩:=hel 0 (by omega)
           obtain ⟨q2,q3⟩:=WA q1
           have q4:=q3 0 (vs0[0]'(by omega)) (List.getElem?_eq_getElem (by omega))
           have q5:a.spot=none:=by have:=World.cell?_spot q4;simpa [Addr.add] using this
           obtain ⟨b,o,sp⟩:=a
           simp only at q5;subst q5
           rw [Yh,Yh,Yh];congr 1;omega
         rw [e1] at h9;exact h9
     obtain ⟨xs,I1,h1',s1,k1,g1,k2,k3,k4,k5⟩:=key len (Nat.le_refl _)
     by_cases hc0:cap=0
     ·subst hc0
      have hlen:len=0:=by omega
      subst hlen
      have hx0:xs=[]:=List.length_eq_zero_iff.1 k1
      subst hx0
      have hs0:s1=[]:=List.length_eq_zero_iff.1 (by simpa using k4)
      subst hs0
      have g2:=hr_row (e:=e) (cs:=[]) (b:=0) (o:=0) g1.hr hB (fun j c hj=>by simp at hj)
      refine ⟨[],_,_,[.sl h1'.length 0 0],g1.trans g2,by simp only [ScRels];exact ⟨⟨_,0,a,by rw [<- g1.hr.len,zS],rfl,Nat.le_refl _,fun h=>absurd rfl h,fun h=>absurd rfl h⟩,trivial⟩,⟨_,rfl,.inr ⟨h1'.length,0,.row false e [],[],rfl,by simp [ZG],zS _ _,trivial,rfl,hz,by simp,by simp [Seg]⟩⟩,Nat.zero_le _,fun x hx=>by cases hx⟩
     ·obtain ⟨vs0,y0,q1,_⟩:=hel 0 (by omega)
      obtain ⟨q2,q3⟩:=WA q1
      have q4:=q3 0 (vs0[0]'(by omega)) (List.getElem?_eq_getElem (by omega))
      have q5:a.spot=none:=by have:=World.cell?_spot q4;simpa [Addr.add] using this
      obtain ⟨b,o,sp⟩:=a
      simp only at q5;subst q5
      rw [Yh,Yh] at q4
      have hb:b < w.heap.size:=by
       unfold World.cell? at q4
       simp only at q4
       split at q4
       ·rename_i hg;exact (Array.getElem?_eq_some_iff.1 hg).1
       ·cases q4
      have g2:=hr_row (e:=e) (cs:=s1) (b:=b) (o:=o) g1.hr hb (fun j c hj=>by obtain ⟨v,h7,h8⟩:=k5 j c hj;rw [Yh] at h7;exact ⟨v,h7,h8⟩)
      refine ⟨xs,_,_,[.sl h1'.length 0 len],g1.trans g2,by simp only [ScRels];exact ⟨⟨_,cap,_,by rw [<- g1.hr.len,zS],rfl,hlc,fun _=>by simp,fun h=>absurd rfl h⟩,trivial⟩,⟨_,rfl,.inr ⟨h1'.length,0,.row false e s1,s1,by rw [k1],by simp [ZG],zS _ _,trivial,rfl,hz,by rw [k1,hz,k4];simp,?_⟩⟩,by rw [k1];omega,k3⟩
      rw [List.drop_zero,k1,hz,<- k4,List.take_length]
      exact k2.mono fun _ _=>DR.mono g2.ext τe
   | _=>cases hy
end
def Tup:List Ty->Type
 | []=>Unit
 | t::r=>t.T×Tup r
def InTup:(l:List Ty)->Tup l->Prop
 | [],_=>True
 | t::r,x=>InR t x.1/\InTup r x.2
noncomputable def argA (P:Program) (t:TypeId) (τ:Ty) (x:τ.T):TA:=cond (yo P t) (.agg (τ.cells x)) (.sc ((τ.cells x).headD .nil))
noncomputable def Ww (P:Program):List TypeId->(τs:List Ty)->Tup τs->List TA
 | _,[],_=>[]
 | [],_::_,_=>[]
 | t::ts,τ::τs,x=>argA P t τ x.1::Ww P ts τs x.2
noncomputable def VB (P:Program):List TypeId->List Ty->Bool
 | [],[]=>true
 | t::ts,τ::τs=>(match Zs P 12 t with | some τ'=>decide (τ'=τ) | none=>false)&&YG P 12 t&&VB P ts τs
 | _,_=>false
section
variable {H : Type} {enc : TypeId × Value -> H} {P : Program} {w : World}
theorem YC {base:Nat} {u:TypeId} {a:Addr} {l c:Nat} (hx:Cell.okWide P w .any base u (.slice (some a) l c)):0 < w.heap.size:=by
 unfold Cell.okWide at hx
 split at hx<;>first | (rename_i h;cases h;done) | skip
 all_goals try (cases ‹Value.slice _ _ _=_›;done)
 unfold Cell.ok at hx
 split at hx<;>try (first | (cases ‹Value.slice _ _ _=_›;done) | exact hx.elim)
 rename_i heq
 cases heq
 obtain ⟨_,_,_,_,row,cells,hs,_⟩:=hx
 unfold World.shape? at hs
 split at hs
 ·rename_i hg;have:=(Array.getElem?_eq_some_iff.1 hg).1;omega
 ·cases hs
theorem cell_agg {base:Nat} {u:TypeId} {cs:Array Value} (hx:Cell.okWide P w .any base u (.agg cs)):False:=by
 unfold Cell.okWide at hx
 split at hx<;>try (first | (cases ‹Value.agg _=_›;done))
 unfold Cell.ok at hx
 split at hx<;>try (first | (cases ‹Value.agg _=_›;done) | exact hx.elim)
theorem val_one {base:Nat} {t:TypeId} {v:Value} (hag:yo P t=false) (hx:Value.okWide P w .any base t v):v.cells=#[v]/\Cell.okWide P w .any base t v:=by
 unfold Value.okWide at hx
 unfold yo at hag
 split at hx
 ·rename_i h;rw [h] at hag;cases hag
 ·rename_i h;rw [h] at hag;cases hag
 ·refine ⟨?_,hx⟩
  cases v<;>first | rfl | exact (cell_agg hx).elim
theorem val_agg {base:Nat} {t:TypeId} {v:Value} (hag:yo P t=true) (hx:Value.okWide P w .any base t v):∃ cs,v=.agg cs:=by
 unfold Value.okWide at hx
 unfold yo at hag
 split at hx
 ·obtain ⟨cs,h,_⟩:=hx;exact ⟨cs,h⟩
 ·obtain ⟨cs,h,_⟩:=hx;exact ⟨cs,h⟩
 ·exfalso
  split at hag<;>simp_all
theorem val_block {base:Nat} {t:TypeId} {v:Value} (hx:Value.okWide P w .any base t v):∀ u∈v.cells.toList,∀ a l c,u=.slice (some a) l c->0 < w.heap.size:=by
 rintro u hu a l c rfl
 unfold Value.okWide at hx
 split at hx
 ·obtain ⟨cs,rfl,_,ts,_,_,hall⟩:=hx
  obtain ⟨i,hi⟩:=List.mem_iff_getElem?.1 hu
  obtain ⟨x,_,hc⟩:=hall i _ (by simpa [Value.cells] using hi)
  exact YC hc
 ·obtain ⟨cs,rfl,_,ts,_,_,hall⟩:=hx
  obtain ⟨i,hi⟩:=List.mem_iff_getElem?.1 hu
  obtain ⟨x,_,hc⟩:=hall i _ (by simpa [Value.cells] using hi)
  exact YC hc
 ·have h1:v.cells=#[v]:=by cases v<;>first | rfl | exact (cell_agg hx).elim
  rw [h1] at hu
  simp at hu
  subst hu
  exact YC hx
theorem arg_got {t:TypeId} {τ:Ty} {v:Value} {d:DataW H} {ps:List MemPlace} (hy:Zs P 12 t=some τ) (hk:YG P 12 t=true) {base:Nat} (hv:Value.okWide P w .any base t v) (hd:DataW.Trod enc P w 0 (fun _=>true) true t v d ps) {I:List AM.Loc} {h:AH} (hr:HRel P w.heap.size I h w) :
  ∃ (x:τ.T) (I':List AM.Loc) (h':AH) (av:AV),Grow P w I h I' h'/\AVRel I' av v/\AR P h' (ZG h') [] (argA P t τ x) av/\InR τ x:=by
 obtain ⟨fuel,hd⟩:=hd
 obtain ⟨x,I',h',scs,g,hs,hdr,hi⟩:=Wl 12 hy hk hd (val_block hv) I h hr
 cases hag:yo P t with
 | true=>
  obtain ⟨cs,rfl⟩:=val_agg hag hv
  exact ⟨x,I',h',.agg scs,g,⟨cs,rfl,hs⟩,by simp only [argA,hag,cond_true];exact ⟨scs,rfl,hdr.cells⟩,hi⟩
 | false=>
  obtain ⟨h1,_⟩:=val_one hag hv
  rw [h1] at hs
  match scs,hs with
  | [s],hs=>
   simp only [ScRels] at hs
   have hc:=hdr.cells (J:=[])
   cases hcl:τ.cells x with
   | nil=>rw [hcl] at hc;simp [CRs] at hc
   | cons c r=>
    rw [hcl] at hc
    simp only [CRs] at hc
    exact ⟨x,I',h',.sc s,g,hs.1,by simp only [argA,hag,cond_false,hcl,List.headD_cons];exact ⟨s,rfl,hc.1⟩,hi⟩
theorem args_got:∀ {ts:List TypeId} {τs:List Ty} {vs:List Value} {ds:List (DataW H)} {ps:List MemPlace} {base:Nat} {I:List AM.Loc} {h:AH},VB P ts τs=true->(∀ (j:Nat) t v,ts[j]?=some t->vs[j]?=some v->Value.okWide P w .any base t v)->
  DataW.TrodAll enc P w 0 (fun _=>true) true ts vs ds ps->HRel P w.heap.size I h w->
  ∃ (x:Tup τs) (I':List AM.Loc) (h':AH) (avs:List AV),Grow P w I h I' h'/\AVRels I' avs vs/\ARs P h' (ZG h') [] (Ww P ts τs x) avs/\InTup τs x
 | [],[],[],[],ps,base,I,h,_,_,_,hr=>⟨(),I,h,[],⟨List.prefix_refl _,List.prefix_refl _,hr⟩,trivial,trivial,trivial⟩
 | t::ts,τ::τs,v::vs,d::ds,ps,base,I,h,hk,hv,hd,hr=>by
  simp only [VB,Bool.and_eq_true] at hk
  obtain ⟨⟨h1,h2⟩,h3⟩:=hk
  have hy:Zs P 12 t=some τ:=by
   split at h1
   ·rename_i τ' he;rw [he,of_decide_eq_true h1]
   ·cases h1
  obtain ⟨p,q,hd1,hd2,rfl⟩:=hd
  obtain ⟨x,I1,h1',av,g1,r1,a1,i1⟩:=arg_got hy h2 (hv 0 t v rfl rfl) hd1 hr
  obtain ⟨y,I2,h2',avs,g2,r2,a2,i2⟩:=args_got h3 (fun j t v h4 h5=>hv (j+1) t v (by simpa using h4) (by simpa using h5)) hd2 g1.hr
  exact ⟨(x,y),I2,h2',av::avs,g1.trans g2,⟨r1.mono g2.pi,r2⟩,⟨a1.mono g2.ext (List.prefix_refl _),a2⟩,i1,i2⟩
 | [],[],_::_,_,_,_,_,_,_,_,hd,_=>hd.elim
 | [],[],[],_::_,_,_,_,_,_,_,hd,_=>hd.elim
 | _::_,_::_,[],_,_,_,_,_,_,_,hd,_=>hd.elim
 | _::_,_::_,_::_,[],_,_,_,_,_,_,hd,_=>hd.elim
 | [],_::_,_,_,_,_,_,_,hk,_,_,_=>by simp [VB] at hk
 | _::_,[],_,_,_,_,_,_,hk,_,_,_=>by simp [VB] at hk
end
theorem trod_len {H:Type} {enc:TypeId×Value->H} {P:Program} {w:World}:∀ {ts:List TypeId} {vs:List Value} {ds:List (DataW H)} {ps:List MemPlace},DataW.TrodAll enc P w 0 (fun _=>true) true ts vs ds ps->ds.length=ts.length
 | [],[],[],_,_=>rfl
 | _::_,_::_,_::_,_,⟨_,_,_,h,_⟩=>by simp [trod_len h]
 | [],[],_::_,_,h=>h.elim
 | [],_::_,_,_,h=>h.elim
 | _::_,[],_,_,h=>h.elim
 | _::_,_::_,[],_,h=>h.elim
theorem hr_nil {P:Program} {h:AH}:HR P [] (ZG h) [] h:=
 ⟨rfl,fun i o je h=>by simp at h,fun i j o o' je je' h=>by simp at h,fun i o je h=>by simp at h,fun i hi=>hi⟩
def roBase (P:Program) (base:List (FuncId×TAn)):Bool:=base.all fun p=>AM.roOk P (mkA base) p.1
theorem ro_base {P:Program} {base:List (FuncId×TAn)} (h:roBase P base=true) (f:FuncId):AM.roOk P (mkA base) f=true:=by
 cases hq:base.find? (fun p=>Nat.beq p.1 f) with
 | none=>
  have e:(mkA base f).ro=[]:=by simp only [mkA,zM,hq]
  have e2:(mkA base f).fr=[]:=by simp only [mkA,zM,hq]
  have e3:(mkA base f).gr=[]:=by simp only [mkA,zM,hq]
  unfold AM.roOk AM.frOk
  rw [e,e2,e3];rfl
 | some p=>
  have h1:=List.all_eq_true.1 h p (List.mem_of_find?_eq_some hq)
  have h2:p.1=f:=Nat.eq_of_beq_eq_true (by simpa using List.find?_some hq)
  rw [h2] at h1
  exact h1
theorem law_tm {H:Type} {enc:TypeId×Value->H} {C:Checked} {os:Os} {f:FuncId} {fn:Func} {s:ChangeSpec} {conds:List PathCond} {tb:TypeId} {τs:List Ty}
  (own:ownKnob C.prog.godebug=none) (started:os.Started) (noInit:C.prog.inits.idxOf? f=none) (hfn:C.prog.funcs[f]?=some fn)
  (witness:∃ (w:World) (tape:Tape) (i:Input),w.os=os/\(w.forCall tape i).Shaped C.prog/\i.vars=[]/\Input.okWide C.prog (w.forCall tape i) .any w.heap.size f i/\
   s.pre6 enc C.prog fn conds false (w.forCall tape i).memory i.args/\Assume.holds {} C.prog (lone (Frame.enter C.prog f i.args .normal) [] (w.forCall tape i)))
  (hl:laidOutB C.prog=true) (hr:fn.resultTypes=#[tb]) (htb:C.prog.underlying tb=some .bool) (hv:s.vars=[])
  (hp:(fn.params.toList.all fun t=>C.prog.readableRec t&&decide (t < C.prog.types.size))=true)
  (hN:yc C.prog=true) (hm:C.prog.follows .mixedOrders=true) {base:List (FuncId×TAn)} {O:Yt} {T:Zu} (ok:TnOk C.prog (zT base O T) (mkA base) dOk)
  (hro:roBase C.prog base=true) (hts:VB C.prog fn.params.toList τs=true) (hs:∀ ds:List (DataW H),ds.length=fn.params.size->s.fn H ds={ results:=[.lit (.bool true)],args:=ds })
  (run:∀ x:Tup τs,InTup τs x->∃ k H',TM.evF C.prog (zT base O T) dOk k f (Ww C.prog fn.params.toList τs x) []=some ([.sc (.bool true)],H')) (hnf:Nat.beq f YF=false:=by rfl) :
  ReturnsInHanded {} C os f .any (s.pre6 enc C.prog fn conds false) (s.post enc C.prog fn false true false false):=by
 refine law_in own started noInit hfn witness hl hr htb hv hp hN hm (mkA base) (fun B f g args p hp=>by cases hp) (fun f k=>AM.ro_ev (fun _=>rfl) (ro_base hro) k f) ?_
 intro W b args ds before hval hW hlt
 have hlen:=trod_len hW
 refine ⟨hs ds (by simpa using hlen),?_⟩
 obtain ⟨x,I',h',avs,g,r1,a1,i1⟩:=args_got (I:=[]) (h:=[]) hts (fun j t v h1 h2=>hval j t v (by simpa using h1) (by simpa using h2)) hW ⟨rfl,fun i o L h=>by simp at h,fun i j o o' L L' h=>by simp at h⟩
 obtain ⟨k,H',he⟩:=run x i1
 obtain ⟨k',avs',h2,J',Z',he2,_,hrs⟩:=ZB ok k f _ [] _ H' he [] (ZG h') h' (.func f) avs avs (.inl ⟨fun e=>by subst e;simp at hnf,rfl,rfl⟩) a1 hr_nil
 match avs',hrs with
 | [av],hrs=>
  simp only [ARs,AR] at hrs
  obtain ⟨⟨sc,rfl,hc⟩,_⟩:=hrs
  simp only [CR] at hc
  subst hc
  exact ⟨I',avs,h',h2,k',r1,g.hr,he2⟩
end Go.TM
