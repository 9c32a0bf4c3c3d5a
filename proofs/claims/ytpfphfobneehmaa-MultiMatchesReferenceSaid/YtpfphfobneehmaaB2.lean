/- The typed machine: temporaries, operands, reading and writing. -/
import Derived.Test.YtpfphfobneehmaaB1
set_option linter.all false
namespace Go.TM
open Go Go.AM
variable {P : Program} {J0 J J' : List JE} {Z0 Z Z' : Nat -> Prop} {H0 H H' : TH} {h0 h h' : AH} {s : TS} {a : AM.St} {R : Type} {r : R}
theorem StR.put (q:StR P J0 Z0 H0 h0 J Z s a) (d:Option Tmp) {v:TV} {x:AM.SV} (hv:SR P a.h Z J v x):StR P J0 Z0 H0 h0 J Z (TM.setSl s d v) (AM.setSl a d x):=by
 cases d with
 | none=>exact q
 | some d=>
  refine ⟨fun i y hu=>?_,fun i y hu=>?_,q.lo,q.lt,q.hp,q.kp,q.n0,q.j0⟩
  ·by_cases e:d=i
   ·subst e
    simp only [TM.setSl,Tr.get_set_self] at hu
    obtain ⟨y0,hy,rfl⟩:=oM hu
    obtain ⟨x0,hx0,_⟩:=q.tm d y0 hy
    exact ⟨x,by simp [AM.setSl,Tr.get_set_self,hx0],hv⟩
   ·simp only [TM.setSl,Tr.get_set_ne _ e] at hu
    obtain ⟨z,hz,hr⟩:=q.tm i y hu
    exact ⟨z,by simp only [AM.setSl,Tr.get_set_ne _ e];exact hz,hr⟩
  ·by_cases e:d=i
   ·subst e
    simp only [AM.setSl,Tr.get_set_self] at hu
    obtain ⟨y0,hy,rfl⟩:=oM hu
    obtain ⟨v0,hv0⟩:=q.mt d y0 hy
    exact ⟨v,by simp [TM.setSl,Tr.get_set_self,hv0]⟩
   ·simp only [AM.setSl,Tr.get_set_ne _ e] at hu
    obtain ⟨z,hz⟩:=q.mt i y hu
    exact ⟨z,by simp only [TM.setSl,Tr.get_set_ne _ e];exact hz⟩
theorem xd (s:TS) (d:Option Tmp) (v:TV) (c:TS->Option R):TM.setK s d v c=c (TM.setSl s d v):=by
 cases d with
 | none=>rfl
 | some d=>simp only [TM.setK,Tr.setT_eq,TM.setSl]
theorem Wo (s:TS) (d:Tmp) (v:TV) (cs:List TC) (c:TS->Option R):TM.newLocalK s d v cs c=c (TM.newLocal s d v cs):=by
 simp only [TM.newLocalK,Tr.setT_eq,TM.newLocal]
theorem StR.mem (q:StR P J0 Z0 H0 h0 J Z s a) (st:Step P J Z s.h a.h J' Z' H' h'):StR P J0 Z0 H0 h0 J' Z' { s with h:=H' } { a with h:=h' }:=by
 have x:=st.ext q.hp
 refine ⟨fun i v hv=>?_,q.mt,fun k cs hk=>?_,q.lt,st.hr,q.kp.trans st.kp,q.n0,q.j0⟩
 ·obtain ⟨y,h1,h2⟩:=q.tm i v hv
  exact ⟨y,h1,h2.mono x st.kp.pre⟩
 ·obtain ⟨cs',h1,h2⟩:=q.lo k cs hk
  exact ⟨cs',h1,CRs.mono x st.kp.pre _ _ h2⟩
theorem killL_SR {d:Nat} {v:TV} {x:AM.SV} (hv:SR P h Z J v x):SR P h Z J (TM.killL d v) (AM.killL d x):=by
 cases v with
 | u=>cases x<;>simp only [SR,TM.killL,AM.killL,YU] at hv ⊢<;>simp_all
 | l k o=>simp only [SR] at hv;subst hv;simp only [TM.killL,AM.killL];cases Nat.beq k d<;>simp [SR,YU]
 | s k n=>simp only [SR] at hv;subst hv;simp only [TM.killL,AM.killL];cases Nat.beq k d<;>simp [SR,YU]
 | no=>simp only [SR] at hv;subst hv;simp [TM.killL,AM.killL,SR]
 | w=>trivial
 | v y=>obtain ⟨z,rfl,h2⟩:=hv;exact ⟨z,rfl,h2⟩
 | t y=>obtain ⟨z,rfl,h2⟩:=hv;exact ⟨z,rfl,h2⟩
 | e t xs i off=>obtain ⟨id,o,ob,cs,rfl,h1⟩:=hv;exact ⟨id,o,ob,cs,rfl,h1⟩
 | p id i off=>obtain ⟨je,h1,h2,rfl⟩:=hv;exact ⟨je,h1,h2,rfl⟩
theorem StR.newLocal (q:StR P J0 Z0 H0 h0 J Z s a) (d:Nat) {v:TV} {x:AM.SV} (hv:SR P a.h Z J v x) {cs:List TC} {cs':List Sc} (hc:CRs P a.h Z J cs cs') :
  StR P J0 Z0 H0 h0 J Z (TM.newLocal s d v cs) (AM.newLocal a d x cs'):=by
 refine ⟨fun i y hu=>?_,fun i y hu=>?_,fun k c hk=>?_,fun k c hk=>?_,q.hp,q.kp,q.n0,q.j0⟩
 ·by_cases e:d=i
  ·subst e
   simp only [TM.newLocal,Tr.get_set_self,Tr.get_map] at hu
   obtain ⟨y0,hy,rfl⟩:=oM hu
   obtain ⟨y1,hy1,_⟩:=oM hy
   obtain ⟨x0,hx0,_⟩:=q.tm d y1 hy1
   exact ⟨x,by simp [AM.newLocal,Tr.get_set_self,Tr.get_map,hx0],hv⟩
  ·simp only [TM.newLocal,Tr.get_set_ne _ e,Tr.get_map] at hu
   obtain ⟨y0,hy,rfl⟩:=oM hu
   obtain ⟨z,hz,hr⟩:=q.tm i y0 hy
   exact ⟨AM.killL d z,by simp only [AM.newLocal,Tr.get_set_ne _ e,Tr.get_map,hz,Option.map_some],killL_SR hr⟩
 ·by_cases e:d=i
  ·subst e
   simp only [AM.newLocal,Tr.get_set_self,Tr.get_map] at hu
   obtain ⟨y0,hy,rfl⟩:=oM hu
   obtain ⟨y1,hy1,_⟩:=oM hy
   obtain ⟨v0,hv0⟩:=q.mt d y1 hy1
   exact ⟨v,by simp [TM.newLocal,Tr.get_set_self,Tr.get_map,hv0]⟩
  ·simp only [AM.newLocal,Tr.get_set_ne _ e,Tr.get_map] at hu
   obtain ⟨y0,hy,rfl⟩:=oM hu
   obtain ⟨z,hz⟩:=q.mt i y0 hy
   exact ⟨TM.killL d z,by simp only [TM.newLocal,Tr.get_set_ne _ e,Tr.get_map,hz,Option.map_some]⟩
 ·by_cases e:d=k
  ·subst e
   simp only [TM.newLocal,Tr.get_set_self] at hk
   obtain ⟨y0,hy,hk⟩:=oM hk
   simp at hk;subst hk
   obtain ⟨y1,hy1⟩:=q.lt d y0 hy
   exact ⟨cs',by simp [AM.newLocal,Tr.get_set_self,hy1],hc⟩
  ·simp only [TM.newLocal,Tr.get_set_ne _ e] at hk
   obtain ⟨c',h1,h2⟩:=q.lo k c hk
   exact ⟨c',by simp only [AM.newLocal,Tr.get_set_ne _ e];exact h1,h2⟩
 ·by_cases e:d=k
  ·subst e
   simp only [TM.newLocal,Tr.get_set_self] at hk
   obtain ⟨y0,hy,hk⟩:=oM hk
   obtain ⟨y1,hy1⟩:=q.lt d y0 hy
   exact ⟨some cs',by simp [AM.newLocal,Tr.get_set_self,hy1]⟩
  ·simp only [TM.newLocal,Tr.get_set_ne _ e] at hk
   obtain ⟨y1,hy1⟩:=q.lt k c hk
   exact ⟨y1,by simp only [AM.newLocal,Tr.get_set_ne _ e];exact hy1⟩
theorem StR.setLocal (q:StR P J0 Z0 H0 h0 J Z s a) {k:Nat} {cs0:List TC} (hk0:s.lo.get k=some (some cs0)) {cs:List TC} {cs':List Sc} (hc:CRs P a.h Z J cs cs') :
  StR P J0 Z0 H0 h0 J Z { s with lo:=s.lo.set k (some cs) } { a with lo:=a.lo.set k (some cs') }:=by
 refine ⟨q.tm,q.mt,fun i c hk=>?_,fun i c hk=>?_,q.hp,q.kp,q.n0,q.j0⟩
 ·by_cases e:k=i
  ·subst e
   simp only [Tr.get_set_self] at hk
   obtain ⟨y0,hy,hk⟩:=oM hk
   simp at hk;subst hk
   obtain ⟨y1,hy1⟩:=q.lt k y0 hy
   exact ⟨cs',by simp [Tr.get_set_self,hy1],hc⟩
  ·simp only [Tr.get_set_ne _ e] at hk
   obtain ⟨c',h1,h2⟩:=q.lo i c hk
   exact ⟨c',by simp only [Tr.get_set_ne _ e];exact h1,h2⟩
 ·by_cases e:k=i
  ·subst e
   simp only [Tr.get_set_self] at hk
   obtain ⟨y0,hy,hk⟩:=oM hk
   obtain ⟨y1,hy1⟩:=q.lt k y0 hy
   exact ⟨some cs',by simp [Tr.get_set_self,hy1]⟩
  ·simp only [Tr.get_set_ne _ e] at hk
   obtain ⟨y1,hy1⟩:=q.lt i c hk
   exact ⟨y1,by simp only [Tr.get_set_ne _ e];exact hy1⟩
theorem xV {v:Value} {c:TC} (hc:TM.ofConst v=some c):∃ x,AM.ofConst v=some x/\CR P h Z J c x:=by
 unfold TM.ofConst at hc
 split at hc<;>first | (cases hc;exact ⟨_,rfl,by simp [CR]⟩) | cases hc
theorem xF:∀ {v:List Value} {c:List TC},TM.ofConsts v=some c->∃ x,AM.ofConsts v=some x/\CRs P h Z J c x
 | [],c,hc=>by simp [TM.ofConsts] at hc;subst hc;exact ⟨[],rfl,trivial⟩
 | v::vs,c,hc=>by
  simp only [TM.ofConsts,Option.bind_eq_some_iff] at hc
  obtain ⟨y,hy,ys,hys,hc⟩:=hc
  cases hc
  obtain ⟨x,h1,h2⟩:=xV (P:=P) (h:=h) (Z:=Z) (J:=J) hy
  obtain ⟨xs,h3,h4⟩:=xF hys
  exact ⟨x::xs,by simp [AM.ofConsts,h1,h3],h2,h4⟩
theorem zK {t:TypeId} {z:List TC} (hz:TM.zeroCells P t=some z):∃ x,AM.zeroCells P t=some x/\CRs P h Z J z x:=by
 simp only [TM.zeroCells,Option.bind_eq_some_iff] at hz
 obtain ⟨i,hi,zv,hzv,hz⟩:=hz
 obtain ⟨x,h1,h2⟩:=xF (P:=P) (h:=h) (Z:=Z) (J:=J) hz
 exact ⟨x,by simp [AM.zeroCells,hi,hzv,h1],h2⟩
theorem zn (q:StR P J0 Z0 H0 h0 J Z s a) {x:Operand} {v:TV} (hv:TM.evA s x=some v):∃ y,AM.evA a x=some y/\SR P a.h Z J v y:=by
 cases x with
 | tmp t=>exact q.tm t v hv
 | const c=>
  simp only [TM.evA,Option.bind_eq_some_iff] at hv
  obtain ⟨y,hy,hv⟩:=hv
  cases hv
  obtain ⟨x,h1,h2⟩:=xV (P:=P) (h:=a.h) (Z:=Z) (J:=J) hy
  exact ⟨.v (.sc x),by simp [AM.evA,h1],_,rfl,x,rfl,h2⟩
 | global g=>simp [TM.evA] at hv
 | func f=>simp only [TM.evA] at hv;cases hv;exact ⟨_,rfl,_,rfl,_,rfl,[],rfl,trivial⟩
theorem zm (q:StR P J0 Z0 H0 h0 J Z s a) {x:Operand} {v:TA} (hv:TM.evV s x=some v):∃ y,AM.evV a x=some y/\AR P a.h Z J v y:=by
 simp only [TM.evV,Option.bind_eq_some_iff] at hv
 obtain ⟨w,h1,h2⟩:=hv
 obtain ⟨y,h3,h4⟩:=zn q h1
 cases w<;>simp [TV.val] at h2
 subst h2
 obtain ⟨z,rfl,h5⟩:=h4
 exact ⟨z,by simp [AM.evV,h3,AM.SV.val],h5⟩
theorem yn (q:StR P J0 Z0 H0 h0 J Z s a):∀ {xs:List Operand} {vs:List TA},TM.evVs s xs=some vs->∃ ys,AM.evVs a xs=some ys/\ARs P a.h Z J vs ys
 | [],vs,hv=>by simp [TM.evVs] at hv;subst hv;exact ⟨[],rfl,trivial⟩
 | x::xs,vs,hv=>by
  simp only [TM.evVs,Option.bind_eq_some_iff] at hv
  obtain ⟨v,h1,vs',h2,hv⟩:=hv
  cases hv
  obtain ⟨y,h3,h4⟩:=zm q h1
  obtain ⟨ys,h5,h6⟩:=yn q h2
  exact ⟨y::ys,by simp [AM.evVs,h3,h5],h4,h6⟩
theorem yY (q:StR P J0 Z0 H0 h0 J Z s a):∀ {xs:List (Nat×Operand)} {vs:List (Nat×TA)},TM.evParts s xs=some vs->∃ ys,AM.evParts a xs=some ys/\vs.map Prod.fst=ys.map Prod.fst/\ARs P a.h Z J (vs.map Prod.snd) (ys.map Prod.snd)
 | [],vs,hv=>by simp [TM.evParts] at hv;subst hv;exact ⟨[],rfl,rfl,trivial⟩
 | (i,x)::xs,vs,hv=>by
  simp only [TM.evParts,Option.bind_eq_some_iff] at hv
  obtain ⟨v,h1,vs',h2,hv⟩:=hv
  cases hv
  obtain ⟨y,h3,h4⟩:=zm q h1
  obtain ⟨ys,h5,h6,h7⟩:=yY q h2
  exact ⟨(i,y)::ys,by simp [AM.evParts,h3,h5],by simp [h6],h4,h7⟩
theorem AR.sc {c:TC} {v:AV} (q:AR P h Z J (.sc c) v):∃ x,v=.sc x/\CR P h Z J c x:=q
theorem AR.agg {c:List TC} {v:AV} (q:AR P h Z J (.agg c) v):∃ x,v=.agg x/\CRs P h Z J c x:=q
theorem Yv {l:Leaf} {v:TC} {c:TC->Option R} {x:Sc} (hx:TM.asLeaf l v c=some r) (hc:CR P h Z J v x):c v=some r/\∀ {S:Type} (d:Sc->Option S),AM.asLeaf l x d=d x:=by
 cases l with
 | int k=>simp only [TM.asLeaf] at hx;obtain ⟨n,rfl,h2⟩:=TM.asI_some.1 hx;simp only [CR] at hc;subst hc;exact ⟨h2,fun d=>by simp [AM.asLeaf,AM.asI]⟩
 | bool=>simp only [TM.asLeaf] at hx;obtain ⟨n,rfl,h2⟩:=TM.asB_some.1 hx;simp only [CR] at hc;subst hc;exact ⟨h2,fun d=>by simp [AM.asLeaf,AM.asB]⟩
 | any=>exact ⟨hx,fun d=>rfl⟩
theorem ZH:∀ {ls:List Leaf} {l:List TC} {c:List TC->Option R} {x:List Sc},TM.asLeaves ls l c=some r->CRs P h Z J l x->c l=some r/\∀ {S:Type} (d:List Sc->Option S),AM.asLeaves ls x d=d x
 | [],l,c,x,hx,hc=>by
  replace hx:=TM.asN_some.1 hx
  obtain ⟨rfl,hx⟩:=hx
  cases x with
  | nil=>exact ⟨hx,fun d=>rfl⟩
  | cons _ _=>simp [CRs] at hc
 | f::fs,l,c,x,hx,hc=>by
  simp only [TM.asLeaves] at hx
  replace hx:=TM.asC_some.1 hx
  obtain ⟨y,ys,rfl,hx⟩:=hx
  cases x with
  | nil=>simp [CRs] at hc
  | cons z zs=>
   simp only [CRs] at hc
   obtain ⟨h1,h2⟩:=Yv (c:=fun y=>TM.asLeaves fs ys fun ys=>c (y::ys)) hx hc.1
   obtain ⟨h3,h4⟩:=ZH (c:=fun ys=>c (y::ys)) h1 hc.2
   exact ⟨h3,fun d=>by simp only [AM.asLeaves,AM.asC,h2,h4]⟩
theorem Tg {t:TypeId} {v:TA} {c:TA->Option R} {x:AV} (hx:TM.typed1 P t v c=some r) (hc:AR P h Z J v x):c v=some r/\∀ {S:Type} (d:AV->Option S),AM.typed1 P t x d=d x:=by
 unfold TM.typed1 at hx
 rcases cond_some.1 hx with ⟨hg,hx⟩ | ⟨hg,hx⟩
 ·obtain ⟨l,rfl,hx⟩:=TM.asAgg_some.1 hx
  obtain ⟨y,rfl,hc⟩:=hc
  obtain ⟨h1,h2⟩:=ZH (c:=fun ys=>c (.agg ys)) hx hc
  exact ⟨h1,fun d=>by simp only [AM.typed1,hg,cond_true,AM.asAgg,h2]⟩
 ·obtain ⟨l,rfl,hx⟩:=TM.asSc_some.1 hx
  obtain ⟨y,rfl,hc⟩:=hc
  obtain ⟨h1,h2⟩:=Yv (c:=fun ys=>c (.sc ys)) hx hc
  exact ⟨h1,fun d=>by simp only [AM.typed1,hg,cond_false,AM.asSc,h2]⟩
theorem Vl:∀ {ts:List TypeId} {l:List TA} {c:List TA->Option R} {x:List AV},TM.typedAll P ts l c=some r->ARs P h Z J l x->c l=some r/\∀ {S:Type} (d:List AV->Option S),AM.typedAll P ts x d=d x
 | [],l,c,x,hx,hc=>by
  replace hx:=TM.asN_some.1 hx
  obtain ⟨rfl,hx⟩:=hx
  cases x with
  | nil=>exact ⟨hx,fun d=>rfl⟩
  | cons _ _=>simp [ARs] at hc
 | f::fs,l,c,x,hx,hc=>by
  simp only [TM.typedAll] at hx
  replace hx:=TM.asC_some.1 hx
  obtain ⟨y,ys,rfl,hx⟩:=hx
  cases x with
  | nil=>simp [ARs] at hc
  | cons z zs=>
   simp only [ARs] at hc
   obtain ⟨h1,h2⟩:=Tg (c:=fun y=>TM.typedAll P fs ys fun ys=>c (y::ys)) hx hc.1
   obtain ⟨h3,h4⟩:=Vl (c:=fun ys=>c (y::ys)) h1 hc.2
   exact ⟨h3,fun d=>by simp only [AM.typedAll,AM.asC,h2,h4]⟩
theorem Zm {t:TypeId} {l:List TA} {c:TV->Option R} {x:List AV} (hx:TM.typed P t l c=some r) (hc:ARs P h Z J l x):∃ v y,c v=some r/\SR P h Z J v y/\∀ {S:Type} (d:AM.SV->Option S),AM.typed P t x d=d y:=by
 unfold TM.typed at hx
 split at hx
 ·rename_i ts hu
  obtain ⟨h1,h2⟩:=Vl (c:=fun ys=>guardB (!(Nat.beq ys.length 1)) (c (.t ys))) hx hc
  obtain ⟨hg,h1⟩:=gB.1 h1
  refine ⟨.t l,.t x,h1,⟨x,rfl,hc⟩,fun d=>?_⟩
  simp only [AM.typed,hu,h2]
  rw [<- hc.length,hg];rfl
 ·rename_i hu
  replace hx:=TM.asC_some.1 hx
  obtain ⟨y,ys,rfl,hx⟩:=hx
  obtain ⟨rfl,hx⟩:=TM.asN_some.1 hx
  match x,hc with
  | [z],hc=>
   simp only [ARs] at hc
   obtain ⟨h1,h2⟩:=Tg (c:=fun y=>c (.v y)) hx hc.1
   refine ⟨.v y,.v z,h1,⟨z,rfl,hc.1⟩,fun d=>?_⟩
   unfold AM.typed
   split
   ·rename_i ts hu2;exact absurd hu2 (hu ts)
   ·simp only [AM.asC,AM.asN,h2]
theorem QR {α:Type} {l:List α} {off:Nat} (h:off+1<=l.length):(l.drop off).take 1=[l[off]]:=by
 rw [List.drop_eq_getElem_cons (by omega),List.take_succ_cons,List.take_zero]
theorem YT (q:StR P J0 Z0 H0 h0 J Z s a) {v:TV} {x:AM.SV} {n:Nat} {c:List TC->Option R} (hx:TM.loadAt s v n c=some r) (hv:SR P a.h Z J v x) :
  ∃ l l',c l=some r/\CRs P a.h Z J l l'/\l'.length=n/\∀ {S:Type} (d:List Sc->Option S),AM.loadAt a x n d=d l':=by
 unfold TM.loadAt at hx
 split at hx
 ·rename_i k off
  replace hx:=oB hx
  obtain ⟨b,h1,hx1⟩:=hx
  replace hx1:=oB hx1
  obtain ⟨cs,rfl,hx2⟩:=hx1
  replace hx2:=yS hx2
  obtain ⟨hle,hx⟩:=hx2
  obtain ⟨cs',h2,h3⟩:=q.lo k cs h1
  simp only [SR] at hv;subst hv
  have hl:=h3.length
  refine ⟨_,_,hx,(h3.drop off).take n,by simp;omega,fun d=>?_⟩
  simp only [AM.loadAt,h2,Option.bind_some,AM.cutK]
  rw [decide_eq_true (by omega)];rfl
 ·rename_i id off
  obtain ⟨y,rfl,z,rfl,je,hj,hjv,rfl⟩:=hv
  split at hx
  ·rename_i e cs ho
   obtain ⟨hle,hx⟩:=yS hx
   obtain ⟨_,cs',h1,h2⟩:=q.hp.obj id _ je (zh ho rfl) hj
   have hl:=h2.length
   refine ⟨_,_,hx,(h2.drop off).take n,by simp;omega,fun d=>?_⟩
   simp only [AM.loadAt,AM.asP,AM.ldNK,h1,Option.bind_some,zU,AM.cutK]
   rw [decide_eq_true (by omega)];rfl
  ·rename_i e cs ho
   obtain ⟨hle,hx⟩:=yS hx
   obtain ⟨_,cs',h1,h2⟩:=q.hp.obj id _ je (zh ho rfl) hj
   have hl:=h2.length
   refine ⟨_,_,hx,(h2.drop off).take n,by simp;omega,fun d=>?_⟩
   simp only [AM.loadAt,AM.asP,AM.ldNK,h1,Option.bind_some,zU,AM.cutK]
   rw [decide_eq_true (by omega)];rfl
  ·cases hx
 ·rename_i t xs i off
  obtain ⟨id,o,ob,cs,rfl,h1,h2,h3,h4,h5,h6⟩:=hv
  obtain ⟨hle,hx⟩:=yS hx
  have hz:=fun x cs (r:DR P a.h Z t x cs)=>r.length
  have hd:=h6.get hz h5
  have hxi:xs.getD i t.dflt=xs[i]:=by simp [List.getD_eq_getElem?_getD,h5]
  rw [hxi] at hle hx
  have hcl:(t.cells xs[i]).length=t.size:=by have:=(hd.cells (J:=J)).length;rw [this];exact hd.length
  have hlt:i*t.size+t.size<=xs.length*t.size:=by have:=Nat.mul_le_mul_right t.size (show i+1<=xs.length by omega);rw [Nat.succ_mul] at this;exact this
  refine ⟨_,_,hx,((hd.cells).drop off).take n,by have:=hd.length;simp at this ⊢;omega,fun d=>?_⟩
  simp only [AM.loadAt,AM.asP,AM.ldNK,h2,Option.bind_some,h3,AM.cutK]
  rw [decide_eq_true (by omega)]
  simp only [guardB,cond_true]
  congr 1
  apply List.ext_getElem?
  intro j
  simp only [List.getElem?_take,List.getElem?_drop]
  by_cases hj:j < n
  ·have a1:off+j < t.size:=by omega
   have a2:i*t.size+(off+j) < xs.length*t.size:=by omega
   simp only [hj,a1,a2,if_true]
   congr 1;omega
  ·simp [hj]
 ·rename_i id i off
  split at hx
  ·rename_i e t xs ho
   obtain ⟨hg,hx⟩:=gB.1 hx
   have hi:=of_decide_eq_true hg
   obtain ⟨hle,hx⟩:=yS hx
   obtain ⟨je,hj,ra⟩:=q.hp.row ho
   obtain ⟨je2,hj2,hv2,rfl⟩:=hv
   rw [hj] at hj2;cases hj2
   rcases ra.at' with ⟨_,rfl⟩ | ⟨_,cs,h1,h2,h3⟩
   ·simp at hi
   ·have hz:=fun x cs (r:DR P a.h Z t x cs)=>r.length
    have hd:=h3.get hz hi
    have hxi:xs.getD i t.dflt=xs[i]:=by simp [List.getD_eq_getElem?_getD,hi]
    rw [hxi] at hle hx
    have hcl:(t.cells xs[i]).length=t.size:=by have:=(hd.cells (J:=J)).length;rw [this];exact hd.length
    have hlt:i*t.size+t.size<=xs.length*t.size:=by have:=Nat.mul_le_mul_right t.size (show i+1<=xs.length by omega);rw [Nat.succ_mul] at this;exact this
    refine ⟨_,_,hx,((hd.cells).drop off).take n,by have:=hd.length;simp at this ⊢;omega,fun d=>?_⟩
    simp only [AM.loadAt,AM.asP,AM.ldNK,h1,Option.bind_some,zU,AM.cutK]
    rw [ra.z,decide_eq_true (by omega)]
    simp only [guardB,cond_true]
    congr 1
    apply List.ext_getElem?
    intro j
    simp only [List.getElem?_take,List.getElem?_drop]
    by_cases hj:j < n
    ·have a1:off+j < t.size:=by omega
     simp only [hj,a1,if_true]
     congr 1;omega
    ·simp [hj]
  ·cases hx
 ·cases hx
theorem load1_of {x:AM.SV} {y:Sc} (hx:AM.loadAt a x 1 some=some [y]) {S:Type} (d:Sc->Option S):AM.load1 a x d=d y:=by
 have key:∀ {cs:List Sc} {off:Nat},AM.cutK cs off 1 some=some [y]->cs[off]?=some y:=by
  intro cs off h1
  obtain ⟨h2,h3⟩:=gB.1 h1
  have h2:=of_decide_eq_true h2
  rw [QR h2] at h3
  cases h3
  exact List.getElem?_eq_getElem (by omega)
 unfold AM.loadAt at hx
 split at hx
 ·obtain ⟨b,h1,hx⟩:=oB hx
  obtain ⟨cs,rfl,hx⟩:=oB hx
  simp only [AM.load1,h1,Option.bind_some,key hx]
 ·replace hx:=AM.asP_some.1 hx
  obtain ⟨id,off,rfl,hx⟩:=hx
  simp only [AM.ldNK,Option.bind_eq_some_iff] at hx
  obtain ⟨o,h1,cs,h2,hx⟩:=hx
  simp only [AM.load1,AM.asP,AM.ld1,h1,h2,Option.bind_some,key hx]
 ·cases hx
theorem Qs (q:StR P J0 Z0 H0 h0 J Z s a) {v:TV} {x:AM.SV} {c:TC->Option R} (hx:TM.load1 s v c=some r) (hv:SR P a.h Z J v x) :
  ∃ l l',c l=some r/\CR P a.h Z J l l'/\∀ {S:Type} (d:Sc->Option S),AM.load1 a x d=d l':=by
 obtain ⟨l,l',h1,h2,h3,h4⟩:=YT q hx hv
 obtain ⟨y,ys,rfl,h1⟩:=TM.asC_some.1 h1
 obtain ⟨rfl,h1⟩:=TM.asN_some.1 h1
 match l',h2 with
 | [z],h2=>
  simp only [CRs] at h2
  exact ⟨y,z,h1,h2.1,fun d=>load1_of (h4 some) d⟩
theorem QZ {α:Type} {cs v:List α} {o p z:Nat} (h1:p+v.length<=z) (h2:o+z<=cs.length):AM.splice cs o (AM.splice ((cs.drop o).take z) p v)=AM.splice cs (o+p) v:=by
 have l1:((cs.drop o).take z).length=z:=by simp;omega
 apply List.ext_getElem?
 intro j
 have l2:(AM.splice ((cs.drop o).take z) p v).length=z:=by rw [yI (by rw [l1];exact h1),l1]
 have g1:=yV (c:=cs) (v:=AM.splice ((cs.drop o).take z) p v) (off:=o) (by rw [l2];exact h2) j
 have g2:=yV (c:=cs) (v:=v) (off:=o+p) (by omega) j
 rw [g1,g2,l2]
 by_cases a1:j < o
 ·rw [if_pos a1,if_pos (by omega)]
 ·rw [if_neg a1]
  by_cases a2:j < o+z
  ·have g3:=yV (c:=(cs.drop o).take z) (v:=v) (off:=p) (by rw [l1];exact h1) (j - o)
   rw [if_pos a2,g3]
   by_cases a3:j - o < p
   ·rw [if_pos a3,if_pos (by omega),List.getElem?_take,if_pos (by omega),List.getElem?_drop];congr 1;omega
   ·rw [if_neg a3]
    by_cases a4:j - o < p+v.length
    ·rw [if_pos a4,if_neg (by omega),if_pos (by omega)];congr 1;omega
    ·rw [if_neg a4,if_neg (by omega),if_neg (by omega),List.getElem?_take,if_pos (by omega),List.getElem?_drop];congr 1;omega
  ·rw [if_neg a2,if_neg (by omega),if_neg (by omega)]
theorem VD {α:Type} {cs v:List α} {o p:Nat} (h:o+p+v.length<=cs.length):(AM.splice cs (o+p) v).drop o=AM.splice (cs.drop o) p v:=by
 apply List.ext_getElem?
 intro j
 rw [List.getElem?_drop,yV h,yV (by simp;omega),List.getElem?_drop]
 by_cases a1:j < p
 ·rw [if_pos (by omega),if_pos a1]
 ·rw [if_neg (by omega),if_neg a1]
  by_cases a2:j < p+v.length
  ·rw [if_pos (by omega),if_pos a2];congr 1;omega
  ·rw [if_neg (by omega),if_neg a2]
theorem storeAt_rel (q:StR P J0 Z0 H0 h0 J Z s a) {v:TV} {x:AM.SV} {l:List TC} {l':List Sc} {c:TS->Option R} (hx:TM.storeAt P s v l c=some r) (hv:SR P a.h Z J v x) (hl:CRs P a.h Z J l l') :
  ∃ s' a' J' Z',c s'=some r/\StR P J0 Z0 H0 h0 J' Z' s' a'/\∀ {S:Type} (d:AM.St->Option S),AM.storeAt a x l' d=d a':=by
 have hll:=hl.length
 unfold TM.storeAt at hx
 split at hx
 ·rename_i k off
  replace hx:=oB hx
  obtain ⟨b,h1,hx1⟩:=hx
  replace hx1:=oB hx1
  obtain ⟨cs,rfl,hx2⟩:=hx1
  replace hx2:=ZW hx2
  obtain ⟨hle,hx⟩:=hx2
  obtain ⟨cs',h2,h3⟩:=q.lo k cs h1
  simp only [SR] at hv;subst hv
  have hc:=h3.length
  rw [Tr.setT_eq] at hx
  refine ⟨_,_,J,Z,hx,q.setLocal h1 (h3.splice off hl),fun d=>?_⟩
  simp only [AM.storeAt,h2,Option.bind_some,AM.putK]
  rw [decide_eq_true (by omega)]
  simp only [guardB,cond_true,Tr.setT_eq]
 ·rename_i id off
  obtain ⟨y,rfl,z,rfl,je,hj,hjv,rfl⟩:=hv
  split at hx
  ·rename_i e cs ho
   obtain ⟨hle,hx⟩:=ZW hx
   have hi:=zh ho rfl
   obtain ⟨_,cs',h1,h2⟩:=q.hp.obj id _ je hi hj
   have hc:=h2.length
   have st:=xK (ao:=.box e (AM.splice cs' off l')) q.hp hi rfl hj hjv (o':=.box e (AM.splice cs off l)) ⟨hjv,_,by rw [List.getElem?_set_self (List.getElem?_eq_some_iff.1 h1).1],by
    have x:Ext a.h Z (a.h.set je.id (.box e (AM.splice cs' off l'))) Z:=⟨fun _ h=>h,fun b hb=>List.getElem?_set_ne fun he=>q.hp.notOwn hb ⟨id,_,je,hi,rfl,hj,hjv,he⟩⟩
    exact CRs.mono x (List.prefix_refl _) _ _ (h2.splice off hl)⟩
   refine ⟨_,_,J,Z,hx,q.mem st,fun d=>?_⟩
   simp only [AM.storeAt,AM.asP,AM.stK,h1,Option.bind_some,AM.putK]
   rw [decide_eq_true (by omega)];rfl
  ·rename_i e cs ho
   obtain ⟨hle,hx⟩:=ZW hx
   have hi:=zh ho rfl
   obtain ⟨_,cs',h1,h2⟩:=q.hp.obj id _ je hi hj
   have hc:=h2.length
   have st:=xK (ao:=.row true e (AM.splice cs' off l')) q.hp hi rfl hj hjv (o':=.crow e (AM.splice cs off l)) ⟨hjv,_,by rw [List.getElem?_set_self (List.getElem?_eq_some_iff.1 h1).1],by
    have x:Ext a.h Z (a.h.set je.id (.row true e (AM.splice cs' off l'))) Z:=⟨fun _ h=>h,fun b hb=>List.getElem?_set_ne fun he=>q.hp.notOwn hb ⟨id,_,je,hi,rfl,hj,hjv,he⟩⟩
    exact CRs.mono x (List.prefix_refl _) _ _ (h2.splice off hl)⟩
   refine ⟨_,_,J,Z,hx,q.mem st,fun d=>?_⟩
   simp only [AM.storeAt,AM.asP,AM.stK,h1,Option.bind_some,AM.putK]
   rw [decide_eq_true (by omega)];rfl
  ·cases hx
 ·rename_i id i off
  obtain ⟨v2,H2,Z2,m,hl2,hx⟩:=WQ hx q.hp hl
  split at hx
  ·rename_i e t xs ho
   obtain ⟨hg,hx⟩:=gB.1 hx
   have hi:=of_decide_eq_true hg
   obtain ⟨hle,hx⟩:=ZW hx
   have q2:=q.mem (Mv.step (hr:=q.hp) m)
   obtain ⟨je,hj,ra⟩:=m.hr.row ho
   have hgo:=zh ho rfl
   obtain ⟨je2,hj2,hv2,rfl⟩:=hv
   rw [hj] at hj2;cases hj2
   rcases ra.at' with ⟨_,rfl⟩ | ⟨_,cs,h1,h2,h3⟩
   ·simp at hi
   ·have hz:=fun x cs (r:DR P a.h Z2 t x cs)=>r.length
    have hd:=h3.get hz hi
    have hxi:xs.getD i t.dflt=xs[i]:=by simp [List.getD_eq_getElem?_getD,hi]
    rw [hxi] at hle hx
    have hcl:(t.cells xs[i]).length=t.size:=by have:=(hd.cells (J:=J)).length;rw [this];exact hd.length
    have hlt:i*t.size+t.size<=xs.length*t.size:=by have:=Nat.mul_le_mul_right t.size (show i+1<=xs.length by omega);rw [Nat.succ_mul] at this;exact this
    have hl2l:=hl2.length
    have hcc:=(hd.cells (J:=J)).splice off hl2
    obtain ⟨y,hy,hx⟩:=mk1_some hx hcc
    have hseg:=h3.set hz hi hy
    have e1:=QZ (cs:=cs.drop je.off) (v:=l') (o:=i*t.size) (p:=off) (z:=t.size) (by omega) (by simp;omega)
    rw [e1] at hseg
    have e2:=VD (cs:=cs) (v:=l') (o:=je.off) (p:=i*t.size+off) (by omega)
    rw [<- e2] at hseg
    have x2:Ext a.h Z2 (a.h.set je.id (.row true e (AM.splice cs (je.off+(i*t.size+off)) l'))) Z2:=⟨fun _ h=>h,fun b hb=>List.getElem?_set_ne fun he=>m.hr.notOwn hb ⟨id,_,je,hgo,rfl,hj,hv2,he⟩⟩
    have st:=xK (ao:=.row true e (AM.splice cs (je.off+(i*t.size+off)) l')) m.hr hgo rfl hj hv2 (o':=.row e t (xs.set i y)) ⟨ra.z,by simp [ra.n],ra.sz,ra.inf,.inr ⟨hv2,_,by rw [List.getElem?_set_self (List.getElem?_eq_some_iff.1 h1).1],by rw [yI (by omega),h2];simp,hseg.mono fun _ _=>DR.mono x2 t⟩⟩
    refine ⟨_,_,J,Z2,hx,q2.mem st,fun d=>?_⟩
    simp only [AM.storeAt,AM.asP,AM.stK,h1,Option.bind_some,AM.putK]
    rw [ra.z,show je.off+i*t.size+off=je.off+(i*t.size+off) by omega,decide_eq_true (by omega)];rfl
  ·cases hx
 ·cases hx
variable {P : Program} {J0 J J' : List JE} {Z0 Z Z' : Nat -> Prop} {H0 H H' : TH} {h0 h h' : AH} {s : TS} {a : AM.St} {R : Type} {r : R}
theorem Yp {e:TypeId} {id off len:Nat} {o:AO} (h1:h[id]?=some o) (h2:rowE e o):AM.rowOk h e (.sl id off len)=true:=by
 unfold AM.rowOk
 simp only [h1]
 cases o with
 | row own e' cs=>cases own<;>simp_all [rowE]
 | box e' cs=>rfl
 | dead=>simp [rowE] at h2
 | loop l=>simp [rowE] at h2
theorem Wg {e:TypeId} {z:Nat} {α:Type} {Q:α->List Sc->Prop} {xs:List α} {x:Sc} (hx:SlR P h Z e z Q xs x) :
  AM.isSl x=true/\AM.slLen x=xs.length/\AM.rowOk h e x=true/\(xs=[]\/z=P.cellsOf e)/\∃ l,Seg Q xs l/\(xs≠[]->∃ id off o cs,x=.sl id off xs.length/\h[id]?=some o/\zU o=some cs/\off+xs.length*z<=cs.length/\l=(cs.drop off).take (xs.length*z)):=by
 rcases hx with ⟨rfl,b,rfl⟩ | ⟨id,off,o,cs,rfl,h1,h2,h3,h4,h5,h6,h7⟩
 ·exact ⟨rfl,rfl,rfl,.inl rfl,[],rfl,fun h=>absurd rfl h⟩
 ·exact ⟨rfl,rfl,Yp h2 h3,.inr h5,_,h7,fun _=>⟨id,off,o,cs,rfl,h2,h4,h6,rfl⟩⟩
theorem slr_first {e:TypeId} {t:Ty} {xs:List t.T} {x:Sc} (hx:SlR P a.h Z' e t.size (DR P a.h Z t) xs x) (n:Nat) (hn:n<=xs.length) :
  ∃ l,Seg (DR P a.h Z t) (xs.take n) l/\∀ {S:Type} (d:List Sc->Option S),AM.firstA a (.v (.sc x)) n t.size d=d l:=by
 have hz:=fun x cs (r:DR P a.h Z t x cs)=>r.length
 obtain ⟨h1,h2,h3,h4,l,h5,h6⟩:=Wg hx
 cases n with
 | zero=>exact ⟨[],by simp [Seg],fun d=>by simp [AM.firstA,h1,guardB]⟩
 | succ n=>
  obtain ⟨id,off,o,cs,rfl,g1,g2,g3,rfl⟩:=h6 (by intro h;subst h;simp at hn)
  obtain ⟨k1,_⟩:=Seg.split hz (n+1) h5
  refine ⟨_,k1,fun d=>?_⟩
  have hle:(n+1)*t.size<=xs.length*t.size:=Nat.mul_le_mul_right _ hn
  simp only [AM.firstA,AM.asS,AM.ldNK,g1,g2,Option.bind_some,AM.cutK]
  rw [decide_eq_true (by omega)]
  simp only [guardB,cond_true,List.take_take,Nat.min_eq_left hle]
theorem Ub {v:TC} {c:Nat->Option R} {x:Sc} (hx:TM.lenC H v c=some r) (hr:HR P J Z H h) (hv:CR P h Z J v x):∃ n,c n=some r/\AM.isSl x=true/\AM.slLen x=n:=by
 unfold TM.lenC at hx
 split at hx
 ·simp only [CR] at hv
  obtain ⟨h1,h2,_⟩:=Wg hv
  exact ⟨_,hx,h1,h2⟩
 ·simp only [CR] at hv;obtain ⟨b,rfl⟩:=hv;exact ⟨0,hx,rfl,rfl⟩
 ·split at hx
  ·rename_i ho
   obtain ⟨je,hj,ra⟩:=hr.row ho
   obtain ⟨je2,hj2,hs⟩:=hv
   rw [hj] at hj2;cases hj2
   rcases hs with ⟨hv,b,rfl⟩ | ⟨hv,rfl⟩
   ·rcases ra.at' with ⟨_,rfl⟩ | ⟨hv',_⟩
    ·exact ⟨0,hx,rfl,rfl⟩
    ·rw [hv] at hv';cases hv'
   ·exact ⟨_,hx,rfl,ra.n⟩
  ·cases hx
 ·obtain ⟨je,hj,hs⟩:=hv
  rcases hs with ⟨_,rfl,b,rfl⟩ | ⟨_,rfl⟩
  ·exact ⟨_,hx,rfl,rfl⟩
  ·exact ⟨_,hx,rfl,rfl⟩
 ·obtain ⟨je,hj,_,rfl⟩:=hv
  exact ⟨_,hx,rfl,rfl⟩
 ·cases hx
theorem Qb {e:TypeId} {t:Ty} {v:TC} {c:List t.T->Option Nat->Option R} {x:Sc} (hsz:t.size=P.cellsOf e) (hx:TM.elems H e t v c=some r) (hr:HR P J Z H h) (hv:CR P h Z J v x) :
  ∃ xs o Z',c xs o=some r/\(∀ i,Z i->Z' i)/\SlR P h Z' e t.size (DR P h Z t) xs x/\(∀ i,Z' i->Z i\/∃ id je ob,id∈v.refs/\J[id]?=some je/\je.v=false/\i=je.id/\H[id]?=some ob/\ob.live=true):=by
 unfold TM.elems at hx
 split at hx
 ·rename_i id
  split at hx
  ·rename_i e' t' xs ho
   rcases wd hx with ⟨ys,he,hx1⟩ | ⟨he,hx1⟩
   ·cases he
    obtain ⟨je,hj,ra⟩:=hr.row ho
    obtain ⟨je2,hj2,hs⟩:=hv
    rw [hj] at hj2;cases hj2
    cases hvv:je.v with
    | true=>exact ⟨_,_,Z,hx1,fun _ h=>h,ra.whole (fun h=>by rw [hvv] at h;cases h) hs,fun _ h=>.inl h⟩
    | false=>exact ⟨_,_,Wu Z je.id,hx1,fun _ h=>.inl h,ra.whole (fun _=>.inr rfl) hs,fun i hi=>hi.imp (fun h=>h) fun hi=>⟨id,je,_,by simp [TC.refs],hj,hvv,hi,zh ho rfl,rfl⟩⟩
   ·cases he
  ·cases hx
 ·rename_i id o n
  split at hx
  ·rename_i e' t' xs ho
   rcases wd hx with ⟨ys,he,hx1⟩ | ⟨he,hx1⟩
   ·cases he
    obtain ⟨hg,hx2⟩:=gB.1 hx1
    have hg:=of_decide_eq_true hg
    obtain ⟨je,hj,ra⟩:=hr.row ho
    obtain ⟨je2,hj2,hs⟩:=hv
    rw [hj] at hj2;cases hj2
    have hs':(je.v=true/\∃ b,x=.nils b)\/(je.v=false/\x=.sl je.id (je.off+o*je.z) n):=by
     rcases hs with ⟨h1,_,h2⟩ | hs
     ·exact .inl ⟨h1,h2⟩
     ·exact .inr hs
    cases hvv:je.v with
    | true=>exact ⟨_,_,Z,hx2,fun _ h=>h,ra.cut (fun h=>by rw [hvv] at h;cases h) hg hs',fun _ h=>.inl h⟩
    | false=>exact ⟨_,_,Wu Z je.id,hx2,fun _ h=>.inl h,ra.cut (fun _=>.inr rfl) hg hs',fun i hi=>hi.imp (fun h=>h) fun hi=>⟨id,je,_,by simp [TC.refs],hj,hvv,hi,zh ho rfl,rfl⟩⟩
   ·cases he
  ·cases hx
 ·rename_i id o n
  split at hx
  ·rename_i b cs ho
   obtain ⟨hle,hx1⟩:=yS hx
   obtain ⟨je,hj,hvv,rfl⟩:=hv
   obtain ⟨_,cs',h1,h2⟩:=hr.obj id _ je (zh ho rfl) hj
   obtain ⟨xs,hn,hseg,hx2⟩:=wT n hx1 ((h2.drop o).take (n*t.size))
   have hl:=h2.length
   exact ⟨_,_,Wu Z je.id,hx2,fun _ h=>.inl h,.inr ⟨je.id,o,_,cs',by rw [hn],.inr rfl,h1,trivial,rfl,hsz,by rw [hn];omega,by rw [hn];exact hseg⟩,fun i hi=>hi.imp (fun h=>h) fun hi=>⟨id,je,_,by simp [TC.refs],hj,hvv,hi,zh ho rfl,rfl⟩⟩
  ·rename_i e' cs ho
   obtain ⟨he,hx1⟩:=gB.1 hx
   have he:=zj he
   obtain ⟨hle,hx2⟩:=yS hx1
   obtain ⟨je,hj,hvv,rfl⟩:=hv
   obtain ⟨_,cs',h1,h2⟩:=hr.obj id _ je (zh ho rfl) hj
   obtain ⟨xs,hn,hseg,hx3⟩:=wT n hx2 ((h2.drop o).take (n*t.size))
   have hl:=h2.length
   exact ⟨_,_,Wu Z je.id,hx3,fun _ h=>.inl h,.inr ⟨je.id,o,_,cs',by rw [hn],.inr rfl,h1,he,rfl,hsz,by rw [hn];omega,by rw [hn];exact hseg⟩,fun i hi=>hi.imp (fun h=>h) fun hi=>⟨id,je,_,by simp [TC.refs],hj,hvv,hi,zh ho rfl,rfl⟩⟩
  ·cases hx
 ·rcases wd hx with ⟨ys,rfl,hx1⟩ | ⟨rfl,hx1⟩
  ·exact ⟨ys,_,Z,hx1,fun _ h=>h,hv,fun _ h=>.inl h⟩
  ·exact ⟨[],_,Z,hx1,fun _ h=>h,.inl ⟨rfl,hv⟩,fun _ h=>.inl h⟩
theorem Yx (q:StR P J0 Z0 H0 h0 J Z s a) {x:Option Operand} {d:Nat} {c:Nat->Option R} (hx:TM.boundI s x d c=some r):∃ n,c n=some r/\(x=none->n=d)/\∀ {S:Type} (k:Nat->Option S),AM.boundI a x d k=k n:=by
 cases x with
 | none=>exact ⟨d,hx,fun _=>rfl,fun k=>rfl⟩
 | some x=>
  simp only [TM.boundI] at hx
  obtain ⟨v,h1,hx⟩:=oB hx
  obtain ⟨y,h2,h3⟩:=zm q h1
  split at hx
  ·rename_i k i
   obtain ⟨hg,hx⟩:=gB.1 hx
   obtain ⟨z,rfl,h4⟩:=h3
   simp only [CR] at h4;subst h4
   exact ⟨_,hx,(fun h=>by cases h),fun k=>by simp only [AM.boundI,h2,Option.bind_some,hg,guardB,cond_true]⟩
  ·cases hx
theorem wQ {i:TA} {y:AV} {n:Nat} {c:Nat->Option R} (hx:TM.idxI i n c=some r) (hi:AR P h Z J i y):∃ j,j < n/\c j=some r/\∀ {S:Type} (k:Nat->Option S),AM.idxI y n k=k j:=by
 unfold TM.idxI at hx
 split at hx
 ·rename_i kk m
  obtain ⟨h1,hx⟩:=gB.1 hx
  obtain ⟨h2,hx⟩:=gB.1 hx
  obtain ⟨z,rfl,h4⟩:=hi
  simp only [CR] at h4;subst h4
  have h1':=of_decide_eq_true h1
  have h2':=of_decide_eq_true h2
  exact ⟨m.toNat,by omega,hx,fun k=>by simp only [AM.idxI,h1,h2,Bool.and_self,guardB,cond_true]⟩
 ·cases hx
theorem cutS_rel {e:TypeId} {whole:Bool} {v:TC} {l g n:Nat} {c:TC->Option R} {x:Sc} (hx:TM.cutS H e (P.cellsOf e) whole v l g c=some r) (hr:HR P J Z H h) (hv:CR P h Z J v x) (hn:AM.slLen x=n) (h1:l<=g) (h2:g<=n) (hw:whole=true->l=0/\g=n) :
  ∃ v',c v'=some r/\AM.rowOk h e x=true/\CR P h Z J v' (AM.subS x l g (P.cellsOf e)):=by
 unfold TM.cutS at hx
 split at hx
 ·rename_i e' t xs
  obtain ⟨hg,hx1⟩:=gB.1 hx
  simp only [Bool.and_eq_true] at hg
  have he:=zj hg.1
  have hz2:=zj hg.2
  subst he
  have hx:=hx1
  simp only [CR] at hv
  obtain ⟨_,k2,k3,_⟩:=Wg hv
  rw [hn] at k2
  refine ⟨_,hx,k3,?_⟩
  simp only [CR]
  rcases hv with ⟨rfl,b,rfl⟩ | ⟨id,off,o,cs,rfl,g1,g2,g3,g4,g5,g6,g7⟩
  ·exact .inl ⟨by simp,b,rfl⟩
  ·have hz:=fun x cs (r:DR P h Z t x cs)=>r.length
   have hl:((xs.take g).drop l).length=g - l:=by simp;omega
   have hm1:l*t.size<=g*t.size:=Nat.mul_le_mul_right _ h1
   have hm2:g*t.size<=xs.length*t.size:=Nat.mul_le_mul_right _ (by omega)
   have hm3:(g - l)*t.size=g*t.size - l*t.size:=Nat.sub_mul ..
   obtain ⟨a1,_⟩:=Seg.split hz g g7
   obtain ⟨_,a2⟩:=Seg.split hz l a1
   refine .inr ⟨id,off+l*t.size,o,cs,by simp only [AM.subS,hl,hz2],g1,g2,g3,g4,g5,by rw [hl];omega,?_⟩
   rw [hl,hm3]
   rw [List.take_take,Nat.min_eq_left hm2] at a2
   rw [<- List.drop_drop,<- List.drop_take]
   exact a2
 ·simp only [CR] at hv;obtain ⟨b,rfl⟩:=hv;exact ⟨_,hx,rfl,by simp [CR,AM.subS]⟩
 ·rename_i id
  split at hx
  ·rename_i e' t xs ho
   obtain ⟨he,hx1⟩:=gB.1 hx
   have he:=zj he
   subst he
   have hx:=hx1
   obtain ⟨je,hj,ra⟩:=hr.row ho
   obtain ⟨je2,hj2,hs⟩:=hv
   rw [hj] at hj2;cases hj2
   refine ⟨_,hx,?_,?_⟩
   ·rcases hs with ⟨_,b,rfl⟩ | ⟨hv,rfl⟩
    ·rfl
    ·rcases ra.at' with ⟨hv',_⟩ | ⟨_,cs,g1,_⟩
     ·rw [hv] at hv';cases hv'
     ·exact Yp g1 rfl
   ·cases hwh:whole with
    | true=>
     obtain ⟨rfl,rfl⟩:=hw hwh
     simp only [cond_true,CR]
     refine ⟨je,hj,?_⟩
     rcases hs with ⟨hv,b,rfl⟩ | ⟨hv,rfl⟩
     ·exact .inl ⟨hv,b,rfl⟩
     ·simp only [AM.slLen] at hn;subst hn;exact .inr ⟨hv,by simp [AM.subS]⟩
    | false=>
     simp only [cond_false,CR]
     refine ⟨je,hj,?_⟩
     rcases hs with ⟨hv,b,rfl⟩ | ⟨hv,rfl⟩
     ·simp only [AM.slLen] at hn;exact .inl ⟨hv,by omega,b,rfl⟩
     ·exact .inr ⟨hv,by simp [AM.subS,ra.z,ra.sz]⟩
  ·cases hx
 ·rename_i id o n0
  split at hx
  ·rename_i e' t xs ho
   obtain ⟨he,hx1⟩:=gB.1 hx
   have he:=zj he
   subst he
   have hx:=hx1
   obtain ⟨je,hj,ra⟩:=hr.row ho
   obtain ⟨je2,hj2,hs⟩:=hv
   rw [hj] at hj2;cases hj2
   refine ⟨_,hx,?_,?_⟩
   ·rcases hs with ⟨_,_,b,rfl⟩ | ⟨hv,rfl⟩
    ·rfl
    ·rcases ra.at' with ⟨hv',_⟩ | ⟨_,cs,g1,_⟩
     ·rw [hv] at hv';cases hv'
     ·exact Yp g1 rfl
   ·simp only [CR]
    refine ⟨je,hj,?_⟩
    rcases hs with ⟨hv,rfl,b,rfl⟩ | ⟨hv,rfl⟩
    ·simp only [AM.slLen] at hn;exact .inl ⟨hv,by omega,b,rfl⟩
    ·exact .inr ⟨hv,by simp [AM.subS,ra.z,ra.sz,Nat.add_mul,Nat.add_assoc]⟩
  ·cases hx
 ·rename_i id o n0
  split at hx
  ·rename_i e' cs ho
   obtain ⟨he,hx1⟩:=gB.1 hx
   have he:=zj he
   subst he
   have hx:=hx1
   obtain ⟨je,hj,hvv,rfl⟩:=hv
   obtain ⟨_,cs',g1,_⟩:=hr.obj id _ je (zh ho rfl) hj
   exact ⟨_,hx,Yp g1 rfl,je,hj,hvv,rfl⟩
  ·rename_i e' cs ho
   obtain ⟨je,hj,hvv,rfl⟩:=hv
   obtain ⟨_,cs',g1,_⟩:=hr.obj id _ je (zh ho rfl) hj
   exact ⟨_,hx,Yp g1 trivial,je,hj,hvv,rfl⟩
  ·cases hx
 ·cases hx
theorem UZ (q:StR P J0 Z0 H0 h0 J Z s a) {e:TypeId} {v:TC} {lo hi mx:Option Operand} {c:TC->Option R} {x:Sc} (hx:TM.sliceS s e (P.cellsOf e) v lo hi mx c=some r) (hv:CR P a.h Z J v x) :
  ∃ v' y,c v'=some r/\CR P a.h Z J v' y/\∀ {S:Type} (k:Sc->Option S),AM.sliceS a e (P.cellsOf e) x lo hi mx k=k y:=by
 unfold TM.sliceS at hx
 obtain ⟨n,hx,hsl,hn⟩:=Ub hx q.hp hv
 obtain ⟨l,hx,hl0,hl⟩:=Yx q hx
 obtain ⟨g,hx,hg0,hg⟩:=Yx q hx
 obtain ⟨m,hx,hm0,hm⟩:=Yx q hx
 obtain ⟨g1,hx⟩:=gB.1 hx
 obtain ⟨g2,hx⟩:=gB.1 hx
 obtain ⟨g3,hx⟩:=gB.1 hx
 obtain ⟨g4,hx⟩:=gB.1 hx
 have g2':=of_decide_eq_true g2
 have g3':=of_decide_eq_true g3
 have g4':=of_decide_eq_true g4
 obtain ⟨v',hx9,hok,hcr⟩:=cutS_rel hx q.hp hv hn g2' (by omega) (fun hw=>by
  simp only [Bool.and_eq_true,Option.isNone_iff_eq_none] at hw
  exact ⟨hl0 hw.1,hg0 hw.2⟩)
 subst hn
 cases hz:AM.mx0 mx with
 | false=>
  rw [hz] at hx9
  refine ⟨v',_,hx9,hcr,fun k=>?_⟩
  simp only [AM.sliceS,hl,hg,hm,hok,g1,g2,g3,g4,hz,Bool.and_self,guardB,cond_true,cond_false]
 | true=>
  rw [hz] at hx9
  refine ⟨.nil,AM.emptied x,hx9,?_,fun k=>?_⟩
  ·cases x<;>exact ⟨_,rfl⟩
  ·simp only [AM.sliceS,hl,hg,hm,hok,g1,g2,g3,g4,hz,Bool.and_self,guardB,cond_true]
theorem srcT_rel (q:StR P J0 Z0 H0 h0 J Z s a) {e:TypeId} {t:Ty} {v:TV} {c:List t.T->TH->Option R} {x:AM.SV} (hsz:t.size=P.cellsOf e) (hx:TM.srcT P s e t v c=some r) (hv:SR P a.h Z J v x) :
  ∃ xs H' Z',c xs H'=some r/\Mv P J Z s.h a.h Z' H'/\(∀ {S:Type} (k:Nat->Option S),AM.lenA x k=k xs.length)/\
   ∀ n,n<=xs.length->∃ l,Seg (DR P a.h Z' t) (xs.take n) l/\∀ {S:Type} (d:List Sc->Option S),AM.firstA a x n t.size d=d l:=by
 unfold TM.srcT at hx
 split at hx
 ·rename_i k n
  replace hx:=oB hx
  obtain ⟨b,h1,hx1⟩:=hx
  replace hx1:=oB hx1
  obtain ⟨cs,rfl,hx2⟩:=hx1
  replace hx2:=yS hx2
  obtain ⟨hle,hx⟩:=hx2
  obtain ⟨cs',h2,h3⟩:=q.lo k cs h1
  have hcl:=h3.length
  obtain ⟨l',H',Z',m,h4,hx⟩:=WQ hx q.hp ((h3.drop 0).take (n*t.size))
  obtain ⟨xs,hn,hseg,hx⟩:=wT n hx h4
  simp only [SR] at hv;subst hv
  have hz:=fun x cs (r:DR P a.h Z' t x cs)=>r.length
  refine ⟨xs,H',Z',hx,m,fun k=>by simp [AM.lenA,hn],fun i hi=>?_⟩
  obtain ⟨k1,_⟩:=Seg.split hz i hseg
  have hi2:i*t.size<=n*t.size:=Nat.mul_le_mul_right _ (by omega)
  refine ⟨_,k1,fun d=>?_⟩
  simp only [AM.firstA,h2,Option.bind_some,AM.cutK]
  rw [decide_eq_true (by omega)]
  simp only [guardB,cond_true,List.drop_zero,List.take_take,Nat.min_eq_left hi2]
 ·rename_i v
  obtain ⟨y,rfl,w,rfl,hc⟩:=hv
  obtain ⟨xs,o,Z2,hx1,hz1,hs,hz2⟩:=Qb hsz hx q.hp hc
  obtain ⟨h1,h2,_⟩:=Wg hs
  exact ⟨xs,s.h,Z,hx1,Mv.refl q.hp,fun k=>by simp [AM.lenA,h1,h2,guardB],fun n hn=>slr_first hs n hn⟩
 ·cases hx
variable {P : Program} {J0 J J' : List JE} {Z0 Z Z' : Nat -> Prop} {H0 H H' : TH} {h0 h h' : AH} {s : TS} {a : AM.St} {R : Type} {r : R}
theorem Wk (hr:HR P J Z H h) {i:Nat} {o o':TO} {je:JE} (hi:H[i]?=some o) (hl:o.live=true) (hj:J[i]?=some je) (ho:OR P h Z J je o'):Step P J Z H h J Z (H.set i o') h:=by
 have own2:∀ b,OwnJ J (H.set i o') b->OwnJ J H b:=by
  rintro b ⟨j,o2,j2,h1,h2,h3,h4,rfl⟩
  rcases yg h1 with ⟨rfl,_⟩ | ⟨_,h1⟩
  ·rw [hj] at h3;cases h3;exact ⟨i,o,je,hi,hl,hj,h4,rfl⟩
  ·exact ⟨j,o2,j2,h1,h2,h3,h4,rfl⟩
 have live:∀ (j:Nat) o2,(H.set i o')[j]?=some o2->o2.live=true->∃ o3,H[j]?=some o3/\o3.live=true:=by
  intro j o2 h1 h2
  rcases yg h1 with ⟨rfl,_⟩ | ⟨_,h1⟩
  ·exact ⟨o,hi,hl⟩
  ·exact ⟨o2,h1,h2⟩
 refine ⟨⟨by simp [hr.len],fun j o2 j2 h1 h2=>?_,fun j k o1 o2 j1 j2 h1 h2 l1 l2 k1 k2 v1 v2 e=>?_,fun j o2 j2 h1 h2 h3 h4 h5=>?_,hr.zlt⟩,
  ⟨Nat.le_refl _,List.prefix_refl _,fun _ _ _=>rfl,fun id hw=>.inl (own2 id hw),fun _ h=>h,fun _ h=>.inl h⟩⟩
 ·rcases yg h1 with ⟨rfl,rfl⟩ | ⟨hne,h1⟩
  ·rw [hj] at h2;cases h2;exact ho
  ·exact hr.obj j o2 j2 h1 h2
 ·obtain ⟨o3,g1,g2⟩:=live j o1 h1 l1
  obtain ⟨o4,g3,g4⟩:=live k o2 h2 l2
  exact hr.uniq j k o3 o4 j1 j2 g1 g3 g2 g4 k1 k2 v1 v2 e
 ·obtain ⟨o3,g1,g2⟩:=live j o2 h1 h2
  exact hr.sep j o3 j2 g1 g2 h3 h4 h5
theorem Seg.splice {α:Type} {Q:α->List Sc->Prop} {z:Nat} (hz:∀ x cs,Q x cs->cs.length=z) {xs ys:List α} {c l:List Sc} (o:Nat) (q:Seg Q xs c) (k:Seg Q ys l):Seg Q (xs.take o++ys++xs.drop (o+ys.length)) (AM.splice c (o*z) l):=by
 obtain ⟨k1,_⟩:=Seg.split hz o q
 obtain ⟨_,k3⟩:=Seg.split hz (o+ys.length) q
 unfold AM.splice
 rw [k.length hz,<- Nat.add_mul]
 exact (k1.append k).append k3
theorem QF (hr:HR P J Z H h) {id o:Nat} {e:TypeId} {t:Ty} {xs ys:List t.T} {l:List Sc} {je:JE} (ho:zi H id=.row e t xs) (hj:J[id]?=some je) (hs:Seg (DR P h Z t) ys l) (hle:o+ys.length<=xs.length) (hne:ys≠[]) :
  ∃ h',je.v=false/\Step P J Z H h J Z (H.set id (.row e t (xs.take o++ys++xs.drop (o+ys.length)))) h'/\∀ {S:Type} (k:AH->Option S),AM.stK h je.id (je.off+o*je.z) l k=k h':=by
 have hz:=fun x cs (q:DR P h Z t x cs)=>q.length
 obtain ⟨je2,hj2,ra⟩:=hr.row ho
 rw [hj] at hj2;cases hj2
 have hg:=zh ho rfl
 have hlen:(xs.take o++ys++xs.drop (o+ys.length)).length=xs.length:=by simp;omega
 rcases ra.at' with ⟨_,rfl⟩ | ⟨hv,cs,h1,h2,h3⟩
 ·simp at hle;exact absurd hle.2 hne
 ·have hll:=hs.length hz
  have hm:o*t.size+ys.length*t.size<=xs.length*t.size:=by rw [<- Nat.add_mul];exact Nat.mul_le_mul_right _ hle
  have x2:Ext h Z (h.set je.id (.row true e (AM.splice cs (je.off+o*t.size) l))) Z:=⟨fun _ h=>h,fun b hb=>List.getElem?_set_ne fun he=>hr.notOwn hb ⟨id,_,je,hg,rfl,hj,hv,he⟩⟩
  have hseg:=Seg.splice hz o h3 hs
  rw [<- VD (by omega)] at hseg
  refine ⟨_,hv,xK (ao:=.row true e (AM.splice cs (je.off+o*t.size) l)) hr hg rfl hj hv ⟨ra.z,by rw [hlen];exact ra.n,ra.sz,ra.inf,.inr ⟨hv,_,by rw [List.getElem?_set_self (List.getElem?_eq_some_iff.1 h1).1],by rw [yI (by omega),h2,hlen],hseg.mono fun _ _=>DR.mono x2 t⟩⟩,fun k=>?_⟩
  simp only [AM.stK,h1,Option.bind_some,AM.putK]
  rw [ra.z,decide_eq_true (by omega)];rfl
theorem Yq (hr:HR P J Z H h) {e:TypeId} {t:Ty} {xs:List t.T} {cs:List Sc} (hsz:t.size=P.cellsOf e) (hinf:(P.info? e).isSome=true) (hs:Seg (DR P h Z t) xs cs) :
  Step P J Z H h (J++[⟨false,h.length,0,xs.length,t.size⟩]) Z (H++[.row e t xs]) (h++[.row true e cs]):=by
 have hz:=fun x cs (q:DR P h Z t x cs)=>q.length
 have x2:Ext h Z (h++[.row true e cs]) Z:=⟨fun _ h=>h,fun id hz=>List.getElem?_append_left (hr.zlt id hz)⟩
 exact Wj hr rfl ⟨rfl,rfl,hsz,hinf,.inr ⟨rfl,cs,by simp,by simp [hs.length hz],by simpa using hs.mono fun _ _=>DR.mono x2 t⟩⟩
theorem Wd (hr:HR P J Z H h) {e:TypeId} {t:Ty} (hsz:t.size=P.cellsOf e) (hinf:(P.info? e).isSome=true) :
  Step P J Z H h (J++[⟨true,0,0,0,t.size⟩]) Z (H++[.row e t []]) h:=
 step_virt hr rfl ⟨rfl,rfl,hsz,hinf,.inl ⟨rfl,rfl⟩⟩
theorem zS {α:Type} (l:List α) (x:α):(l++[x])[l.length]?=some x:=by simp
theorem appendS_rel (hr:HR P J Z H h) {e:TypeId} {t:Ty} {x:TC} {y:Sc} {new:List t.T} {c:TC->TH->Option R} {cs:List Sc} (hx:TM.appendS H e t x new c=some r) (hv:CR P h Z J x y) (hsz:t.size=P.cellsOf e) (hinf:(P.info? e).isSome=true) (hs:Seg (DR P h Z t) new cs) :
  ∃ v' H' h' J' y',c v' H'=some r/\Step P J Z H h J' Z H' h'/\CR P h' Z J' v' y'/\∀ {S:Type} (k:Sc->AH->Option S),AM.appendS h e (P.cellsOf e) y cs new.length k=k y' h':=by
 have hz:=fun x cs (q:DR P h Z t x cs)=>q.length
 unfold TM.appendS at hx
 split at hx
 ·obtain ⟨hg,hx1⟩:=gB.1 hx
  simp only [CR] at hv;obtain ⟨eb,rfl⟩:=hv
  cases hn:new with
  | nil=>
   subst hn
   refine ⟨_,_,h,_,.nils eb,hx1,Wd hr hsz hinf,⟨_,by rw [<- hr.len,zS],.inl ⟨rfl,eb,rfl⟩⟩,fun k=>rfl⟩
  | cons b bs=>
   rw [<- hn]
   refine ⟨_,_,_,_,.sl h.length 0 new.length,hx1,Yq hr hsz hinf hs,⟨_,by rw [<- hr.len,zS],.inr ⟨rfl,rfl⟩⟩,fun k=>?_⟩
   have hg':decide (bs.length+1<=most)=true:=by simpa [hn] using hg
   simp only [hn,List.length_cons,AM.appendS,hg',guardB,cond_true]
 ·rename_i id
  split at hx
  ·rename_i e' t' xs0 ho
   rcases wd hx with ⟨xs,he,hx1⟩ | ⟨he,hx1⟩
   ·cases he
    obtain ⟨hg,hx2⟩:=gB.1 hx1
    obtain ⟨je,hj,ra⟩:=hr.row ho
    obtain ⟨je2,hj2,hsv⟩:=hv
    rw [hj] at hj2;cases hj2
    have hgo:=zh ho rfl
    have hlen:(H.set id .dead).length=H.length:=by simp
    have hst:∀ {u:TO},(H.set id .dead++[u]).length=H.length+1:=by simp
    rcases hsv with ⟨hvv,eb,rfl⟩ | ⟨hvv,rfl⟩
    ·rcases ra.at' with ⟨_,rfl⟩ | ⟨hv',_⟩
     ·have s1:=Wi hr id
      cases hn:new with
      | nil=>
       subst hn
       exact ⟨_,_,h,_,.nils eb,hx2,s1.trans (Wd s1.hr hsz hinf),⟨_,by rw [<- hr.len,zS],.inl ⟨rfl,eb,rfl⟩⟩,fun k=>rfl⟩
      | cons b bs=>
       rw [<- hn]
       refine ⟨_,_,_,_,.sl h.length 0 new.length,hx2,s1.trans (Yq s1.hr hsz hinf hs),⟨_,by rw [<- hr.len,zS],.inr ⟨rfl,rfl⟩⟩,fun k=>?_⟩
       have hg':decide (bs.length+1<=most)=true:=by simpa [hn] using hg
       simp only [hn,List.length_cons,AM.appendS,hg',guardB,cond_true]
     ·rw [hvv] at hv';cases hv'
    ·rcases ra.at' with ⟨hv',_⟩ | ⟨_,cs0,h1,h2,h3⟩
     ·rw [hvv] at hv';cases hv'
     ·cases hn:new with
      | nil=>
       subst hn
       simp only [List.append_nil] at hx2
       have st:=QI (je':=je) (o':=.row e t xs) hr hgo rfl hj hvv rfl (ra.or.mono (Ext.refl _ _) (List.prefix_append _ _) fun _ _=>rfl)
       refine ⟨_,_,h,_,.sl je.id je.off je.n,hx2,st,⟨je,by rw [<- hr.len,zS],.inr ⟨hvv,rfl⟩⟩,fun k=>rfl⟩
      | cons b bs=>
       rw [<- hn]
       have s1:=xK (ao:=.dead) (o':=.dead) hr hgo rfl hj hvv trivial
       have x1:=s1.ext hr
       have s2:=Yq (cs:=cs0.drop je.off++cs) s1.hr hsz hinf ((h3.append hs).mono fun _ _=>DR.mono x1 t)
       refine ⟨_,_,_,_,.sl h.length 0 (xs++new).length,hx2,s1.trans s2,⟨_,by rw [<- hr.len,zS],.inr ⟨rfl,by simp⟩⟩,fun k=>?_⟩
       have hg':decide (je.n+(bs.length+1)<=most)=true:=by rw [ra.n];simpa [hn] using hg
       simp only [hn,List.length_cons,AM.appendS,h1,Option.bind_some]
       have e1:Nat.beq (je.off+je.n*P.cellsOf e) cs0.length=true:=by rw [h2,ra.n,ra.sz];exact Nat.beq_refl _
       have e2:Nat.beq e e=true:=Nat.beq_refl _
       rw [e1,e2,hg']
       simp only [Bool.and_self,guardB,cond_true,List.length_append,List.length_cons,ra.n]
   ·cases he
  ·cases hx
 ·cases hx
theorem copyS_rel (hr:HR P J Z H h) {e:TypeId} {t:Ty} {x:TC} {y:Sc} {new:List t.T} {c:TH->Option R} (hx:TM.copyS H e t x new c=some r) (hv:CR P h Z J x y) :
  ∃ m,AM.isSl y=true/\AM.slLen y=m/\∀ cs,Seg (DR P h Z t) (new.take (min new.length m)) cs->∃ H' h',c H'=some r/\Step P J Z H h J Z H' h'/\(min new.length m=0->h'=h)/\
   (min new.length m≠0->∃ id off,y=.sl id off m/\∀ {S:Type} (k:AH->Option S),AM.stK h id off cs k=k h'):=by
 unfold TM.copyS at hx
 split at hx
 ·rename_i id
  split at hx
  ·rename_i e' t' xs0 ho
   rcases wd hx with ⟨xs,he,hx1⟩ | ⟨he,hx1⟩
   ·cases he
    obtain ⟨je,hj,ra⟩:=hr.row ho
    obtain ⟨je2,hj2,hsv⟩:=hv
    rw [hj] at hj2;cases hj2
    have hgo:=zh ho rfl
    refine ⟨xs.length,?_,?_,fun cs hcs=>?_⟩
    ·rcases hsv with ⟨_,b,rfl⟩ | ⟨_,rfl⟩<;>rfl
    ·rcases hsv with ⟨hvv,b,rfl⟩ | ⟨hvv,rfl⟩
     ·rcases ra.at' with ⟨_,rfl⟩ | ⟨hv',_⟩
      ·rfl
      ·rw [hvv] at hv';cases hv'
     ·exact ra.n
    ·by_cases hm:min new.length xs.length=0
     ·have e1:new.take xs.length++xs.drop new.length=xs:=by
       rcases Nat.lt_or_ge 0 new.length with h1 | h1
       ·have:xs.length=0:=by omega
        have:xs=[]:=List.length_eq_zero_iff.1 this
        subst this;simp
       ·have:new=[]:=List.length_eq_zero_iff.1 (by omega)
        subst this;simp
      rw [e1] at hx1
      exact ⟨_,h,hx1,Wk hr hgo rfl hj ra.or,fun _=>rfl,fun h=>absurd hm h⟩
     ·have hne:new.take (min new.length xs.length)≠[]:=by intro h0;have:=congrArg List.length h0;simp only [List.length_take,List.length_nil] at this;omega
      obtain ⟨h',hvv,st,hk⟩:=QF (o:=0) hr ho hj hcs (by simp;omega) hne
      have e1:new.take xs.length++xs.drop new.length=xs.take 0++new.take (min new.length xs.length)++xs.drop (0+(new.take (min new.length xs.length)).length):=by
       simp only [List.take_zero,List.nil_append,Nat.zero_add,List.length_take]
       rcases Nat.le_total new.length xs.length with h1 | h1
       ·rw [Nat.min_eq_left h1,List.take_of_length_le h1,List.take_of_length_le (Nat.le_refl _)];simp
       ·rw [Nat.min_eq_right h1,List.drop_of_length_le h1];simp;omega
      rw [e1] at hx1
      refine ⟨_,h',hx1,st,fun h=>absurd h hm,fun _=>?_⟩
      rcases hsv with ⟨hv',_⟩ | ⟨_,rfl⟩
      ·rw [hvv] at hv';cases hv'
      ·exact ⟨je.id,je.off,by rw [ra.n],fun k=>by have:=hk k;simpa using this⟩
   ·cases he
  ·cases hx
 ·rename_i id o n
  split at hx
  ·rename_i e' t' xs0 ho
   rcases wd hx with ⟨xs,he,hx1⟩ | ⟨he,hx1⟩
   ·cases he
    obtain ⟨hg,hx2⟩:=gB.1 hx1
    have hg:=of_decide_eq_true hg
    obtain ⟨je,hj,ra⟩:=hr.row ho
    obtain ⟨je2,hj2,hsv⟩:=hv
    rw [hj] at hj2;cases hj2
    have hgo:=zh ho rfl
    refine ⟨n,?_,?_,fun cs hcs=>?_⟩
    ·rcases hsv with ⟨_,_,b,rfl⟩ | ⟨_,rfl⟩<;>rfl
    ·rcases hsv with ⟨hvv,rfl,b,rfl⟩ | ⟨hvv,rfl⟩<;>rfl
    ·by_cases hm:min new.length n=0
     ·have e1:xs.take o++new.take n++xs.drop (o+min n new.length)=xs:=by
       rw [Nat.min_comm,hm]
       have:new.take n=[]:=by apply List.length_eq_zero_iff.1;simp only [List.length_take];omega
       rw [this];simp
      rw [e1] at hx2
      exact ⟨_,h,hx2,Wk hr hgo rfl hj ra.or,fun _=>rfl,fun h=>absurd hm h⟩
     ·have hne:new.take (min new.length n)≠[]:=by intro h0;have:=congrArg List.length h0;simp only [List.length_take,List.length_nil] at this;omega
      obtain ⟨h',hvv,st,hk⟩:=QF (o:=o) hr ho hj hcs (by simp;omega) hne
      have e0:new.take n=new.take (min new.length n):=by
       rcases Nat.le_total new.length n with h1 | h1
       ·rw [Nat.min_eq_left h1,List.take_of_length_le h1,List.take_of_length_le (Nat.le_refl _)]
       ·rw [Nat.min_eq_right h1]
      have e1:xs.take o++new.take n++xs.drop (o+min n new.length)=xs.take o++new.take (min new.length n)++xs.drop (o+(new.take (min new.length n)).length):=by
       rw [e0];simp only [List.length_take];congr 2;omega
      rw [e1] at hx2
      refine ⟨_,h',hx2,st,fun h=>absurd h hm,fun _=>?_⟩
      rcases hsv with ⟨hv',_⟩ | ⟨_,rfl⟩
      ·rw [hvv] at hv';cases hv'
      ·exact ⟨je.id,_,rfl,fun k=>hk k⟩
   ·cases he
  ·cases hx
 ·cases hx
variable {P : Program} {A : TAn} {ev : TEv} {J0 J J' : List JE} {Z0 Z Z' : Nat -> Prop} {H0 H H' : TH} {h0 h h' : AH} {s : TS} {a : AM.St} {R : Type} {r : R}
def yB (P:Program) (A:TAn) (J0:List JE) (Z0:Nat->Prop) (H0:TH) (h0:AH) (o:Oper) (a:AM.St) (c:TS->Option R) (r:R):Prop:=
 ∃ s' a' J' Z',c s'=some r/\StR P J0 Z0 H0 h0 J' Z' s' a'/\∀ evA,AM.evOp P A.a evA o a some=some a'
theorem CR.int' {k:IntKind} {n:Int}:CR P h Z J (.int k n) (.int k n):=by simp only [CR]
theorem CR.bool' {b:Bool}:CR P h Z J (.bool b) (.bool b):=by simp only [CR]
theorem zr (q:StR P J0 Z0 H0 h0 J Z s a) {o:Oper} {v:TV} {x:AM.SV} {c:TS->Option R} (hx:TM.setK s o.dst v c=some r) (hv:SR P a.h Z J v x) (hA:∀ evA,AM.evOp P A.a evA o a some=AM.setK a o.dst x some):yB P A J0 Z0 H0 h0 o a c r:=by
 rw [xd] at hx
 exact ⟨_,_,J,Z,hx,q.put o.dst hv,fun evA=>by rw [hA,AM.setK_eq]⟩
theorem QM (q:StR P J0 Z0 H0 h0 J Z s a) {o:Oper} {x:Operand} (ho:o.op=.move x\/o.op=.assign x) {c:TS->Option R} (hx:((TM.evA s x).bind fun v=>TM.setK s o.dst v c)=some r):yB P A J0 Z0 H0 h0 o a c r:=by
 obtain ⟨v,h1,h2⟩:=oB hx
 obtain ⟨y,h3,h4⟩:=zn q h1
 refine zr q h2 h4 fun evA=>?_
 rcases ho with ho | ho<;>simp only [AM.evOp,ho,h3,Option.bind_some]
theorem evB_rel (q:StR P J0 Z0 H0 h0 J Z s a) {x:Operand} {c:Bool->Option R} (hx:((TM.evV s x).bind fun v=>TM.asSc v fun v=>TM.asB v c)=some r):∃ t,c t=some r/\AM.evV a x=some (.sc (.bool t)):=by
 replace hx:=oB hx
 obtain ⟨v,h1,hx⟩:=hx
 replace hx:=TM.asSc_some.1 hx
 obtain ⟨w,rfl,hx⟩:=hx
 replace hx:=TM.asB_some.1 hx
 obtain ⟨t,rfl,hx⟩:=hx
 obtain ⟨y,h2,z,rfl,h3⟩:=zm q h1
 simp only [CR] at h3;subst h3
 exact ⟨t,hx,h2⟩
theorem told_pick (q:StR P J0 Z0 H0 h0 J Z s a) {o:Oper} {g x y:Operand} (ho:o.op=.pick g x y) {c:TS->Option R}
  (hx:((TM.evV s g).bind fun v=>TM.asSc v fun v=>TM.asB v fun t=>TM.pickB t (TM.evA s x) (TM.evA s y) fun v=>TM.setK s o.dst v c)=some r):yB P A J0 Z0 H0 h0 o a c r:=by
 obtain ⟨t,hx,hg⟩:=evB_rel q hx
 have key:∀ v,TM.setK s o.dst v c=some r->((t=true/\∃ u,AM.evA a x=some u/\SR P a.h Z J v u)\/(t=false/\∃ u,AM.evA a y=some u/\SR P a.h Z J v u))->(∀ b1 b2,¬ (AM.evA a x=some (.v (.sc (.bool b1)))/\AM.evA a y=some (.v (.sc (.bool b2)))))->yB P A J0 Z0 H0 h0 o a c r:=by
  intro v h1 h2 h3
  rcases h2 with ⟨rfl,u,h4,h5⟩ | ⟨rfl,u,h4,h5⟩
  ·refine zr q h1 h5 fun evA=>?_
   simp only [AM.evOp,ho,hg,Option.bind_some,AM.asSc,AM.asB]
   unfold AM.pickB
   split
   ·rename_i e1 e2;exact absurd ⟨e1,e2⟩ (h3 _ _)
   ·simp only [cond_true,h4,Option.bind_some]
  ·refine zr q h1 h5 fun evA=>?_
   simp only [AM.evOp,ho,hg,Option.bind_some,AM.asSc,AM.asB]
   unfold AM.pickB
   split
   ·rename_i e1 e2;exact absurd ⟨e1,e2⟩ (h3 _ _)
   ·simp only [cond_false,h4,Option.bind_some]
 have key2:∀ v b1 b2,TM.setK s o.dst v c=some r->AM.evA a x=some (.v (.sc (.bool b1)))->AM.evA a y=some (.v (.sc (.bool b2)))->SR P a.h Z J v (.v (.sc (.bool (cond t b1 b2))))->yB P A J0 Z0 H0 h0 o a c r:=by
  intro v b1 b2 h1 h2 h3 h4
  refine zr q h1 h4 fun evA=>?_
  simp only [AM.evOp,ho,hg,Option.bind_some,AM.asSc,AM.asB,h2,h3,AM.pickB]
 unfold TM.pickB at hx
 split at hx
 ·rename_i b1 b2 h1 h2
  obtain ⟨u1,h3,z1,rfl,w1,rfl,h5⟩:=zn q h1
  obtain ⟨u2,h4,z2,rfl,w2,rfl,h6⟩:=zn q h2
  simp only [CR] at h5 h6
  subst h5;subst h6
  exact key2 _ _ _ hx h3 h4 ⟨_,rfl,_,rfl,by simp [CR]⟩
 ·rename_i hne
  by_cases hbb:∃ b1 b2,AM.evA a x=some (.v (.sc (.bool b1)))/\AM.evA a y=some (.v (.sc (.bool b2)))
  ·obtain ⟨b1,b2,e1,e2⟩:=hbb
   rcases cond_some.1 hx with ⟨ht,hx⟩ | ⟨ht,hx⟩
   ·obtain ⟨v,h1,h2⟩:=oB hx
    obtain ⟨u,h3,h4⟩:=zn q h1
    rw [e1] at h3;cases h3
    exact key2 v b1 b2 h2 e1 e2 (by rw [ht];exact h4)
   ·obtain ⟨v,h1,h2⟩:=oB hx
    obtain ⟨u,h3,h4⟩:=zn q h1
    rw [e2] at h3;cases h3
    exact key2 v b1 b2 h2 e1 e2 (by rw [ht];exact h4)
  ·rcases cond_some.1 hx with ⟨ht,hx⟩ | ⟨ht,hx⟩
   ·obtain ⟨v,h1,h2⟩:=oB hx
    obtain ⟨u,h3,h4⟩:=zn q h1
    exact key v h2 (.inl ⟨ht,u,h3,h4⟩) fun b1 b2 hb=>hbb ⟨b1,b2,hb⟩
   ·obtain ⟨v,h1,h2⟩:=oB hx
    obtain ⟨u,h3,h4⟩:=zn q h1
    exact key v h2 (.inr ⟨ht,u,h3,h4⟩) fun b1 b2 hb=>hbb ⟨b1,b2,hb⟩
theorem box_step (hr:HR P J Z H h) {e:TypeId} {cs:List TC} {cs':List Sc} (hc:CRs P h Z J cs cs'):Step P J Z H h (J++[⟨false,h.length,0,0,0⟩]) Z (H++[.box e cs]) (h++[.box e cs']):=by
 have x2:Ext h Z (h++[.box e cs']) Z:=⟨fun _ h=>h,fun id hz=>List.getElem?_append_left (hr.zlt id hz)⟩
 exact Wj hr rfl ⟨rfl,cs',by simp,CRs.mono x2 (List.prefix_append _ _) _ _ hc⟩
theorem crow_step (hr:HR P J Z H h) {e:TypeId} {cs:List TC} {cs':List Sc} (hc:CRs P h Z J cs cs'):Step P J Z H h (J++[⟨false,h.length,0,0,0⟩]) Z (H++[.crow e cs]) (h++[.row true e cs']):=by
 have x2:Ext h Z (h++[.row true e cs']) Z:=⟨fun _ h=>h,fun id hz=>List.getElem?_append_left (hr.zlt id hz)⟩
 exact Wj hr rfl ⟨rfl,cs',by simp,CRs.mono x2 (List.prefix_append _ _) _ _ hc⟩
theorem told_box (q:StR P J0 Z0 H0 h0 J Z s a) {o:Oper} {d:Nat} (hd:o.dst=some d) {e:TypeId} {cs:List TC} {cs':List Sc} {c:TS->Option R} (hc:CRs P a.h Z J cs cs')
  (hx:(cond (A.a.loc.contains d) (TM.newLocalK s d (.l d 0) cs c) (TM.setK { s with h:=s.h++[.box e cs] } o.dst (.v (.sc (.ptr s.h.length 0))) c))=some r)
  (hA:∀ evA,AM.evOp P A.a evA o a some=cond (A.a.loc.contains d) (AM.newLocalK a d (.l d 0) cs' some) (AM.setK { a with h:=a.h++[.box e cs'] } o.dst (.v (.sc (.ptr a.h.length 0))) some)):yB P A J0 Z0 H0 h0 o a c r:=by
 rcases cond_some.1 hx with ⟨hl,hx⟩ | ⟨hl,hx⟩
 ·rw [Wo] at hx
  exact ⟨_,_,J,Z,hx,q.newLocal d (v:=.l d 0) rfl hc,fun evA=>by rw [hA,hl,cond_true,AM.newLocalK_eq]⟩
 ·rw [xd] at hx
  have q2:=q.mem (box_step (e:=e) q.hp hc)
  exact ⟨_,_,_,Z,hx,q2.put o.dst (v:=.v (.sc (.ptr s.h.length 0))) ⟨_,rfl,_,rfl,_,by rw [<- q.hp.len,zS],rfl,rfl⟩,fun evA=>by rw [hA,hl,cond_false,AM.setK_eq]⟩
theorem told_alloc (q:StR P J0 Z0 H0 h0 J Z s a) {o:Oper} {e:TypeId} (ho:o.op=.alloc e) {c:TS->Option R}
  (hx:(o.dst.bind fun d=>(TM.zeroCells P e).bind fun z=>guardB (Nat.beq z.length (P.cellsOf e))<|
   cond (A.a.loc.contains d) (TM.newLocalK s d (.l d 0) z c) (TM.setK { s with h:=s.h++[.box e z] } o.dst (.v (.sc (.ptr s.h.length 0))) c))=some r):yB P A J0 Z0 H0 h0 o a c r:=by
 replace hx:=oB hx
 obtain ⟨d,hd,hx⟩:=hx
 replace hx:=oB hx
 obtain ⟨z,hz,hx⟩:=hx
 replace hx:=gB.1 hx
 obtain ⟨hg,hx⟩:=hx
 obtain ⟨z',h1,h2⟩:=zK (P:=P) (h:=a.h) (Z:=Z) (J:=J) hz
 refine told_box q hd h2 hx fun evA=>?_
 rw [h2.length] at hg
 simp only [AM.evOp,ho,hd,Option.bind_some,h1,hg,guardB,cond_true]
theorem told_boxv (q:StR P J0 Z0 H0 h0 J Z s a) {o:Oper} {e:TypeId} {x:Operand} (ho:o.op=.box e x) {c:TS->Option R}
  (hx:(o.dst.bind fun d=>(TM.evV s x).bind fun v=>guardB (Nat.beq v.cells.length (P.cellsOf e))<|
   cond (A.a.loc.contains d) (TM.newLocalK s d (.l d 0) v.cells c) (TM.setK { s with h:=s.h++[.box e v.cells] } o.dst (.v (.sc (.ptr s.h.length 0))) c))=some r):yB P A J0 Z0 H0 h0 o a c r:=by
 replace hx:=oB hx
 obtain ⟨d,hd,hx⟩:=hx
 replace hx:=oB hx
 obtain ⟨v,hv,hx⟩:=hx
 replace hx:=gB.1 hx
 obtain ⟨hg,hx⟩:=hx
 obtain ⟨y,h1,h2⟩:=zm q hv
 refine told_box q hd h2.cells hx fun evA=>?_
 rw [h2.cells.length] at hg
 simp only [AM.evOp,ho,hd,Option.bind_some,h1,hg,guardB,cond_true]
theorem wi {cs v l:List TC} {off:Nat} (hx:TM.put cs off v=some l):off+v.length<=cs.length/\l=AM.splice cs off v:=by
 unfold TM.put at hx
 obtain ⟨h1,h2⟩:=gB.1 hx
 exact ⟨of_decide_eq_true h1,(Option.some.inj h2).symm⟩
theorem WJ {pl:Nat->Option (Nat×Nat)}:∀ {vs:List (Nat×TA)} {ws:List (Nat×AV)} {z cs:List TC} {z':List Sc},TM.fillA pl z vs=some cs->CRs P h Z J z z'->vs.map Prod.fst=ws.map Prod.fst->ARs P h Z J (vs.map Prod.snd) (ws.map Prod.snd)->
  ∃ cs',AM.fillA pl z' ws=some cs'/\CRs P h Z J cs cs'
 | [],[],z,cs,z',hx,hz,_,_=>by simp [TM.fillA] at hx;subst hx;exact ⟨z',rfl,hz⟩
 | [],_::_,_,_,_,_,_,h,_=>by simp at h
 | _::_,[],_,_,_,_,_,h,_=>by simp at h
 | (i,v)::vs,(j,u)::ws,z,cs,z',hx,hz,hi,hr=>by
  simp only [List.map_cons,List.cons.injEq] at hi
  obtain ⟨rfl,hi⟩:=hi
  simp only [List.map_cons,ARs] at hr
  obtain ⟨hr1,hr2⟩:=hr
  simp only [TM.fillA,Option.bind_eq_some_iff] at hx
  obtain ⟨p,hp,hx⟩:=hx
  replace hx:=gB.1 hx
  obtain ⟨hn,hx⟩:=hx
  replace hx:=oB hx
  obtain ⟨c,hc,hx⟩:=hx
  obtain ⟨hle,rfl⟩:=wi hc
  have h1:=hr1.cells
  have h2:=h1.length
  have h3:=hz.length
  obtain ⟨cs',h4,h5⟩:=WJ hx (hz.splice p.1 h1) hi hr2
  refine ⟨cs',?_,h5⟩
  rw [h2] at hn
  simp only [AM.fillA,hp,Option.bind_some,hn,guardB,cond_true,AM.put]
  rw [decide_eq_true (by omega)]
  exact h4
theorem told_build (q:StR P J0 Z0 H0 h0 J Z s a) {o:Oper} {t:TypeId} {parts:Array (Nat×Operand)} (ho:o.op=.build t parts) {c:TS->Option R}
  (hx:((TM.zeroCells P t).bind fun z=>(places P t).bind fun pl=>(TM.evParts s parts.toList).bind fun vs=>(TM.fillA pl z vs).bind fun cs=>TM.setK s o.dst (.v (.agg cs)) c)=some r):yB P A J0 Z0 H0 h0 o a c r:=by
 replace hx:=oB hx
 obtain ⟨z,hz,hx⟩:=hx
 replace hx:=oB hx
 obtain ⟨pl,hpl,hx⟩:=hx
 replace hx:=oB hx
 obtain ⟨vs,hvs,hx⟩:=hx
 replace hx:=oB hx
 obtain ⟨cs,hcs,hx⟩:=hx
 obtain ⟨z',h1,h2⟩:=zK (P:=P) (h:=a.h) (Z:=Z) (J:=J) hz
 obtain ⟨ys,h3,h4,h5⟩:=yY q hvs
 obtain ⟨cs',h6,h7⟩:=WJ hcs h2 h4 h5
 exact zr q hx ⟨_,rfl,_,rfl,h7⟩ fun evA=>by simp only [AM.evOp,ho,h1,hpl,h3,h6,Option.bind_some]
theorem repC_rel {l:List TC} {l':List Sc} (hc:CRs P h Z J l l'):∀ n,CRs P h Z J (TM.repC n l) (AM.rep n l')
 | 0=>by simp [TM.repC,AM.rep,CRs]
 | n+1=>by
  have:=repC_rel hc n
  simp only [TM.repC,AM.rep,List.replicate_succ,List.flatten_cons] at this ⊢
  exact hc.append this
theorem Te (q:StR P J0 Z0 H0 h0 J Z s a) {o:Oper} {t:TypeId} {n:Nat} {parts:Array (Nat×Operand)} (ho:o.op=.buildSlice t n parts) {c:TS->Option R}
  (hx:(o.dst.bind fun d=>(AM.elemOf P t).bind fun e=>(TM.zeroCells P e).bind fun z=>guardB (Nat.beq z.length (P.cellsOf e)&&decide (n*z.length<=1000000))<|
   (TM.evParts s parts.toList).bind fun vs=>(TM.fillA (fun i=>some (i*P.cellsOf e,P.cellsOf e)) (TM.repC n z) vs).bind fun cs=>
   cond (A.a.loc.contains d) (TM.newLocalK s d (.s d n) cs c)<|
   cond (A.crow.contains d) (TM.setK { s with h:=s.h++[.crow e cs] } o.dst (.v (.sc (.sc s.h.length 0 n))) c)<|
   elT P e fun t=>frzL P cs s.h fun cs h=>mkN t n cs fun xs=>TM.setK { s with h:=h++[.row e t xs] } o.dst (.v (.sc (.g h.length))) c)=some r):yB P A J0 Z0 H0 h0 o a c r:=by
 replace hx:=oB hx
 obtain ⟨d,hd,hx⟩:=hx
 replace hx:=oB hx
 obtain ⟨e,he,hx⟩:=hx
 replace hx:=oB hx
 obtain ⟨z,hz,hx⟩:=hx
 replace hx:=gB.1 hx
 obtain ⟨hg,hx⟩:=hx
 replace hx:=oB hx
 obtain ⟨vs,hvs,hx⟩:=hx
 replace hx:=oB hx
 obtain ⟨cs,hcs,hx⟩:=hx
 obtain ⟨z',h1,h2⟩:=zK (P:=P) (h:=a.h) (Z:=Z) (J:=J) hz
 obtain ⟨ys,h3,h4,h5⟩:=yY q hvs
 obtain ⟨cs',h6,h7⟩:=WJ hcs (repC_rel h2 n) h4 h5
 rw [h2.length] at hg
 have hA:∀ evA,AM.evOp P A.a evA o a some=cond (A.a.loc.contains d) (AM.newLocalK a d (.s d n) cs' some) (AM.setK { a with h:=a.h++[.row true e cs'] } o.dst (.v (.sc (.sl a.h.length 0 n))) some):=by
  intro evA
  simp only [AM.evOp,ho,hd,he,h1,h3,h6,hg,Option.bind_some,guardB,cond_true]
 rcases cond_some.1 hx with ⟨hl,hx⟩ | ⟨hl,hx⟩
 ·rw [Wo] at hx
  exact ⟨_,_,J,Z,hx,q.newLocal d (v:=.s d n) rfl h7,fun evA=>by rw [hA,hl,cond_true,AM.newLocalK_eq]⟩
 rcases cond_some.1 hx with ⟨hl2,hx⟩ | ⟨hl2,hx⟩
 ·rw [xd] at hx
  have q2:=q.mem (crow_step (e:=e) q.hp h7)
  exact ⟨_,_,_,Z,hx,q2.put o.dst (v:=.v (.sc (.sc s.h.length 0 n))) ⟨_,rfl,_,rfl,_,by rw [<- q.hp.len,zS],rfl,rfl⟩,fun evA=>by rw [hA,hl,cond_false,AM.setK_eq]⟩
 ·replace hx:=xx hx
  obtain ⟨et,hsz,hinf,hx⟩:=hx
  obtain ⟨l',H',Z',m,h8,hx⟩:=WQ hx q.hp h7
  obtain ⟨xs,hn,hseg,hx⟩:=wT n hx h8
  rw [xd] at hx
  have q2:=q.mem (Mv.step (hr:=q.hp) m)
  have q3:=q2.mem (Yq (e:=e) q2.hp hsz hinf hseg)
  exact ⟨_,_,_,Z',hx,q3.put o.dst (v:=.v (.sc (.g H'.length))) (x:=.v (.sc (.sl a.h.length 0 n))) ⟨_,rfl,_,rfl,_,by have:=q2.hp.len;simp only at this;rw [<- this,zS],.inr ⟨rfl,by simp [hn]⟩⟩,fun evA=>by rw [hA,hl,cond_false,AM.setK_eq]⟩
theorem onlyL_rel {x:Operand} {v:TV} {y:AM.SV} (hv:SR P h Z J v y) (hx:TM.onlyL A x v=true):AM.onlyL A.a x y=true:=by
 cases x with
 | tmp d=>
  simp only [TM.onlyL,AM.onlyL] at hx ⊢
  cases hl:A.a.loc.contains d with
  | false=>simp
  | true=>
   rw [hl] at hx
   cases v<;>simp at hx
   simp only [SR] at hv;subst hv;rfl
 | _=>rfl
theorem Qw {A:TAn} {x:Operand} {v:TV} {v':AM.SV} (h1:TM.onlyH A x v=true) (hv:SR P h Z J v v'):AM.onlyH A.a x v'=true:=by
 cases x with
 | tmp d=>
  simp only [TM.onlyH,AM.onlyH,Bool.or_eq_true] at h1 ⊢
  refine h1.imp id fun h2=>?_
  split at h2
  ·obtain ⟨_,rfl,_⟩:=hv;rfl
  ·obtain ⟨_,_,_,_,rfl,_⟩:=hv;rfl
  ·obtain ⟨_,_,_,rfl⟩:=hv;rfl
  ·cases h2
 | _=>rfl
theorem Qy {A:TAn} {x:Operand} {v:TV} {v':AM.SV} (h1:TM.onlyR A x v=true) (hv:SR P h Z J v v'):AM.onlyR A.a x v'=true:=by
 unfold TM.onlyR at h1
 unfold AM.onlyR
 cases hr:AM.rootOf A.a x with
 | none=>rfl
 | some k=>
  rw [hr] at h1
  simp only at h1 ⊢
  split at h1
  ·simp only [SR] at hv;subst hv;exact h1
  ·cases h1
theorem onlyB_rel {A:TAn} {H:TH} {x:Operand} {v:TV} {v':AM.SV} (hr:HR P J Z H h) (h1:TM.onlyB A H x v=true) (hv:SR P h Z J v v'):AM.onlyB A.a h x v'=true:=by
 cases x with
 | tmp d=>
  simp only [TM.onlyB,AM.onlyB,Bool.or_eq_true] at h1 ⊢
  refine h1.imp id fun h2=>?_
  split at h2
  ·rename_i id off
   split at h2
   ·rename_i b cs hob
    obtain ⟨w,rfl,u,rfl,je,hj,hvv,rfl⟩:=hv
    obtain ⟨_,cs',h5,h6⟩:=hr.obj id _ je (zh hob rfl) hj
    simp only [AM.boxOk,h5]
   ·cases h2
  ·cases h2
 | _=>rfl
theorem told_load (q:StR P J0 Z0 H0 h0 J Z s a) {o:Oper} {t:TypeId} {x:Operand} (ho:o.op=.load t x) {c:TS->Option R}
  (hx:(guardB (P.underlying t).isSome<|(TM.evA s x).bind fun a=>guardB (TM.onlyL A x a&&TM.onlyX A s.h x a)<|cond (yo P t) (TM.loadAt s a (P.cellsOf t) fun l=>TM.asLeaves (zN P 8 t) l fun ys=>TM.setK s o.dst (.v (.agg ys)) c)
   (TM.load1 s a fun x=>TM.asLeaf ((zN P 8 t).getD 0 .any) x fun y=>TM.setK s o.dst (.v (.sc y)) c))=some r):yB P A J0 Z0 H0 h0 o a c r:=by
 replace hx:=gB.1 hx
 obtain ⟨hg,hx⟩:=hx
 replace hx:=oB hx
 obtain ⟨v,hv,hx⟩:=hx
 replace hx:=gB.1 hx
 obtain ⟨hg2,hx⟩:=hx
 obtain ⟨y,h1,h2⟩:=zn q hv
 have h3:(AM.onlyL A.a x y&&AM.onlyX A.a a.h x y)=true:=by
  simp only [TM.onlyX,AM.onlyX,Bool.and_eq_true] at hg2 ⊢
  exact ⟨onlyL_rel h2 hg2.1,⟨Qw hg2.2.1.1 h2,Qy hg2.2.1.2 h2⟩,onlyB_rel q.hp hg2.2.2 h2⟩
 rcases cond_some.1 hx with ⟨hag,hx⟩ | ⟨hag,hx⟩
 ·obtain ⟨l,l',hx,hl,_,hk⟩:=YT q hx h2
  obtain ⟨hx,hk2⟩:=ZH (c:=fun ys=>TM.setK s o.dst (.v (.agg ys)) c) hx hl
  exact zr q hx ⟨_,rfl,_,rfl,hl⟩ fun evA=>by simp only [AM.evOp,ho,hg,h1,h3,hag,hk,hk2,Option.bind_some,guardB,cond_true]
 ·obtain ⟨l,l',hx,hl,hk⟩:=Qs q hx h2
  obtain ⟨hx,hk2⟩:=Yv (c:=fun ys=>TM.setK s o.dst (.v (.sc ys)) c) hx hl
  exact zr q hx ⟨_,rfl,_,rfl,hl⟩ fun evA=>by simp only [AM.evOp,ho,hg,h1,h3,hag,hk,hk2,Option.bind_some,guardB,cond_true,cond_false]
theorem told_store (q:StR P J0 Z0 H0 h0 J Z s a) {o:Oper} {t:TypeId} {x y:Operand} (ho:o.op=.store t x y) {c:TS->Option R}
  (hx:(guardB (P.info? t).isSome<|(TM.evA s x).bind fun a=>(TM.evV s y).bind fun v=>guardB (Nat.beq v.cells.length (P.cellsOf t)&&TM.onlyS A x a)<|TM.storeAt P s a v.cells fun s=>TM.setK s o.dst .no c)=some r):yB P A J0 Z0 H0 h0 o a c r:=by
 replace hx:=gB.1 hx
 obtain ⟨hg,hx⟩:=hx
 replace hx:=oB hx
 obtain ⟨v,hv,hx⟩:=hx
 replace hx:=oB hx
 obtain ⟨w,hw,hx⟩:=hx
 replace hx:=gB.1 hx
 obtain ⟨hg2,hx⟩:=hx
 obtain ⟨v',h1,h2⟩:=zn q hv
 obtain ⟨w',h3,h4⟩:=zm q hw
 obtain ⟨s',a',J',Z',hx,q',hk⟩:=storeAt_rel q hx h2 h4.cells
 rw [xd] at hx
 rw [h4.cells.length] at hg2
 have hg3:(Nat.beq w'.cells.length (P.cellsOf t)&&AM.onlyS A.a x v')=true:=by
  rw [Bool.and_eq_true_iff] at hg2 ⊢
  refine ⟨hg2.1,?_⟩
  have hg4:=hg2.2
  simp only [TM.onlyS,AM.onlyS,Bool.and_eq_true] at hg4 ⊢
  exact ⟨Qw hg4.1 h2,Qy hg4.2 h2⟩
 exact ⟨_,_,J',Z',hx,q'.put o.dst (v:=.no) rfl,fun evA=>by simp only [AM.evOp,ho,hg,h1,h3,hg3,hk,Option.bind_some,guardB,cond_true,AM.setK_eq]⟩
theorem told_nilCheck (q:StR P J0 Z0 H0 h0 J Z s a) {o:Oper} {x:Operand} (ho:o.op=.nilCheck x) {c:TS->Option R} (hx:((TM.evA s x).bind fun v=>guardB (TM.isAddr v) (TM.setK s o.dst v c))=some r):yB P A J0 Z0 H0 h0 o a c r:=by
 replace hx:=oB hx
 obtain ⟨v,hv,hx⟩:=hx
 replace hx:=gB.1 hx
 obtain ⟨hg,hx⟩:=hx
 obtain ⟨v',h1,h2⟩:=zn q hv
 refine zr q hx h2 fun evA=>?_
 simp only [AM.evOp,ho,h1,Option.bind_some]
 unfold TM.isAddr at hg
 split at hg
 ·simp only [SR] at h2;subst h2;rfl
 ·obtain ⟨w,rfl,u,rfl,je,_,_,rfl⟩:=h2;rfl
 ·obtain ⟨id,o',ob,cs,rfl,_⟩:=h2;rfl
 ·obtain ⟨je,_,_,rfl⟩:=h2;rfl
 ·cases hg
theorem ofSc_rel {x:Sc} {c:TC} (hx:ofSc x=some c):CR P h Z J c x:=by
 cases x<;>simp [ofSc] at hx<;>subst hx<;>simp [CR]
theorem toSc_rel {x:Sc} {c:TC} {y:Sc} (hx:toSc c=some y) (hc:CR P h Z J c x):x=y:=by
 cases c<;>simp [toSc] at hx<;>subst hx<;>simpa [CR] using hc
theorem Vk:∀ {c:List TC} {x y:List Sc},Vz c=some y->CRs P h Z J c x->x=y
 | [],x,y,hx,hc=>by simp [Vz] at hx;subst hx;cases x with
  | nil=>rfl
  | cons _ _=>simp [CRs] at hc
 | c::cs,x,y,hx,hc=>by
  simp only [Vz,Option.bind_eq_some_iff] at hx
  obtain ⟨z,h1,zs,h2,hx⟩:=hx
  cases hx
  cases x with
  | nil=>simp [CRs] at hc
  | cons w ws=>simp only [CRs] at hc;rw [toSc_rel h1 hc.1,Vk h2 hc.2]
theorem told_binOp (q:StR P J0 Z0 H0 h0 J Z s a) {o:Oper} {op:BinOp} {t t2:TypeId} {x y:Operand} (ho:o.op=.binOp op t x y t2) {c:TS->Option R}
  (hx:((TM.evV s x).bind fun x=>(TM.evV s y).bind fun y=>guardB (TM.opOk op y)<|(TM.binop P op t x y).bind fun v=>TM.setK s o.dst (.v (.sc v)) c)=some r):yB P A J0 Z0 H0 h0 o a c r:=by
 replace hx:=oB hx
 obtain ⟨v,hv,hx⟩:=hx
 replace hx:=oB hx
 obtain ⟨w,hw,hx⟩:=hx
 replace hx:=gB.1 hx
 obtain ⟨hg,hx⟩:=hx
 replace hx:=oB hx
 obtain ⟨u,hu,hx⟩:=hx
 obtain ⟨v',h1,h2⟩:=zm q hv
 obtain ⟨w',h3,h4⟩:=zm q hw
 have fin:∀ u',AM.opOk op w'=true->AM.binop P op t v' w'=some u'->CR P a.h Z J u u'->yB P A J0 Z0 H0 h0 o a c r:=by
  intro u' k1 k2 k3
  exact zr q hx ⟨_,rfl,_,rfl,k3⟩ fun evA=>by simp only [AM.evOp,ho,h1,h3,k1,k2,Option.bind_some,guardB,cond_true]
 unfold TM.binop at hu
 split at hu
 ·rename_i k m k' m'
  obtain ⟨z,rfl,h5⟩:=h2
  obtain ⟨z',rfl,h6⟩:=h4
  simp only [CR] at h5 h6
  subst h5;subst h6
  obtain ⟨hk,hu⟩:=gB.1 hu
  obtain ⟨u',h7,h8⟩:=oB hu
  exact fin u' (by cases op<;>exact hg) (by simp only [AM.binop,hk,guardB,cond_true,h7]) (ofSc_rel h8)
 ·obtain ⟨z,rfl,h5⟩:=h2
  obtain ⟨z',rfl,h6⟩:=h4
  simp only [CR] at h5 h6
  subst h5;subst h6
  split at hu
  ·have hb:=‹P.underlying t=some TypeDesc.bool›
   cases hu;exact fin (.bool _) rfl (by simp only [AM.binop,hb]<;>rfl) (by simp only [CR])
  ·have hb:=‹P.underlying t=some TypeDesc.bool›
   cases hu;exact fin (.bool _) rfl (by simp only [AM.binop,hb]<;>rfl) (by simp only [CR])
  ·cases hu
 ·rename_i l l'
  obtain ⟨z,rfl,h5⟩:=h2
  obtain ⟨z',rfl,h6⟩:=h4
  obtain ⟨hk,hu⟩:=gB.1 hu
  obtain ⟨m,h7,hu⟩:=oB hu
  obtain ⟨m',h8,hu⟩:=oB hu
  obtain rfl:=Vk h7 h5
  obtain rfl:=Vk h8 h6
  split at hu
  ·obtain ⟨b,h9,hu⟩:=oB hu
   cases hu
   exact fin (.bool b) rfl (by simp only [AM.binop,hk,guardB,cond_true,h9,Option.bind_some]) (by simp [CR])
  ·obtain ⟨b,h9,hu⟩:=oB hu
   cases hu
   exact fin (.bool !b) rfl (by simp only [AM.binop,hk,guardB,cond_true,h9,Option.bind_some]) (by simp [CR])
  ·cases hu
 ·cases hu
theorem told_unOp (q:StR P J0 Z0 H0 h0 J Z s a) {o:Oper} {op:UnOp} {t:TypeId} {x:Operand} (ho:o.op=.unOp op t x) {c:TS->Option R}
  (hx:((TM.evV s x).bind fun x=>(TM.unop op x).bind fun v=>TM.setK s o.dst (.v (.sc v)) c)=some r):yB P A J0 Z0 H0 h0 o a c r:=by
 replace hx:=oB hx
 obtain ⟨v,hv,hx⟩:=hx
 replace hx:=oB hx
 obtain ⟨u,hu,hx⟩:=hx
 obtain ⟨v',h1,h2⟩:=zm q hv
 unfold TM.unop at hu
 split at hu
 ·obtain ⟨z,rfl,h5⟩:=h2
  simp only [CR] at h5;subst h5;cases hu
  exact zr q hx ⟨_,rfl,_,rfl,CR.int'⟩ fun evA=>by simp only [AM.evOp,ho,h1,AM.unop,Option.bind_some]
 ·obtain ⟨z,rfl,h5⟩:=h2
  simp only [CR] at h5;subst h5;cases hu
  exact zr q hx ⟨_,rfl,_,rfl,CR.bool'⟩ fun evA=>by simp only [AM.evOp,ho,h1,AM.unop,Option.bind_some]
 ·cases hu
theorem told_convert (q:StR P J0 Z0 H0 h0 J Z s a) {o:Oper} {src dst:TypeId} {x:Operand} (ho:o.op=.convert src dst x) {c:TS->Option R}
  (hx:((TM.evV s x).bind fun x=>match P.underlying src,P.underlying dst,x with
   | some (.int _),some (.int k),.sc (.int _ n)=>TM.setK s o.dst (.v (.sc (.int k (k.wrap n)))) c
   | _,_,_=>none)=some r):yB P A J0 Z0 H0 h0 o a c r:=by
 replace hx:=oB hx
 obtain ⟨v,hv,hx⟩:=hx
 obtain ⟨v',h1,h2⟩:=zm q hv
 split at hx
 ·rename_i hs hd
  obtain ⟨z,rfl,h5⟩:=h2
  simp only [CR] at h5;subst h5
  exact zr q hx ⟨_,rfl,_,rfl,CR.int'⟩ fun evA=>by simp only [AM.evOp,ho,h1,hs,hd,Option.bind_some]
 ·cases hx
theorem told_index (q:StR P J0 Z0 H0 h0 J Z s a) {o:Oper} {t:TypeId} {x y:Operand} (ho:o.op=.index t x y) {c:TS->Option R}
  (hx:((TM.evV s x).bind fun x=>(TM.evV s y).bind fun i=>match P.underlying t,x,i with
   | some .string,.sc (.str b),.sc (.int _ n)=>guardB (decide (0<=n))<|guardB (decide (n.toNat < b.size))<|TM.setK s o.dst (.v (.sc (.int .u8 ((b.data.getD n.toNat 0).toNat:Int)))) c
   | _,_,_=>none)=some r):yB P A J0 Z0 H0 h0 o a c r:=by
 replace hx:=oB hx
 obtain ⟨v,hv,hx⟩:=hx
 obtain ⟨v',h1,h2⟩:=zm q hv
 replace hx:=oB hx
 obtain ⟨w,hw,hx⟩:=hx
 obtain ⟨w',h3,h4⟩:=zm q hw
 split at hx
 ·rename_i b k n hs
  obtain ⟨z,rfl,h5⟩:=h2
  simp only [CR] at h5;subst h5
  obtain ⟨z,rfl,h6⟩:=h4
  simp only [CR] at h6;subst h6
  replace hx:=gB.1 hx
  obtain ⟨hn,hx⟩:=hx
  replace hx:=gB.1 hx
  obtain ⟨hb,hx⟩:=hx
  have hb':n.toNat < b.size:=by simpa using hb
  have e:b[n.toNat]?=some (b.data.getD n.toNat 0):=by
   rw [getElem?_pos b n.toNat hb']
   congr 1
   have hd:n.toNat < b.data.size:=hb'
   simp only [Array.getD,hd,dif_pos]
   rfl
  exact zr q hx ⟨_,rfl,_,rfl,CR.int'⟩ fun evA=>by simp only [AM.evOp,ho,h1,h3,hs,Option.bind_some,hn,AM.guardB,cond_true,e]
 ·cases hx
theorem TF {x y z:TA} {x' y':AV} (hx:TM.mx2 x y=some z) (h1:AR P h Z J x x') (h2:AR P h Z J y y'):∃ z',AM.mx2 x' y'=some z'/\AR P h Z J z z':=by
 unfold TM.mx2 at hx
 split at hx
 ·obtain ⟨u,rfl,h1⟩:=h1
  obtain ⟨w,rfl,h2⟩:=h2
  simp only [CR] at h1 h2;subst h1;subst h2
  replace hx:=gB.1 hx
  obtain ⟨hg,hx⟩:=hx
  cases hx
  rename_i k x k' y
  refine ⟨.sc (.int k (if y > x then y else x)),by simp only [AM.mx2,hg,guardB,cond_true],_,rfl,?_⟩
  simp only [CR];congr 1;split<;>omega
 ·cases hx
theorem TE {x y z:TA} {x' y':AV} (hx:TM.mn2 x y=some z) (h1:AR P h Z J x x') (h2:AR P h Z J y y'):∃ z',AM.mn2 x' y'=some z'/\AR P h Z J z z':=by
 unfold TM.mn2 at hx
 split at hx
 ·obtain ⟨u,rfl,h1⟩:=h1
  obtain ⟨w,rfl,h2⟩:=h2
  simp only [CR] at h1 h2;subst h1;subst h2
  replace hx:=gB.1 hx
  obtain ⟨hg,hx⟩:=hx
  cases hx
  rename_i k x k' y
  refine ⟨.sc (.int k (if y < x then y else x)),by simp only [AM.mn2,hg,guardB,cond_true],_,rfl,?_⟩
  simp only [CR];congr 1;split<;>omega
 ·cases hx
theorem WL {f:TA->TA->Option TA} {g:AV->AV->Option AV} (hf:∀ {x y z x' y'},f x y=some z->AR P h Z J x x'->AR P h Z J y y'->∃ z',g x' y'=some z'/\AR P h Z J z z') :
  ∀ {ys:List TA} {ys':List AV} {x z:TA} {x':AV},TM.foldO f x ys=some z->AR P h Z J x x'->ARs P h Z J ys ys'->∃ z',AM.foldO g x' ys'=some z'/\AR P h Z J z z'
 | [],[],x,z,x',hx,h1,_=>by simp [TM.foldO] at hx;subst hx;exact ⟨x',rfl,h1⟩
 | y::ys,y'::ys',x,z,x',hx,h1,h2=>by
  simp only [ARs] at h2
  simp only [TM.foldO,Option.bind_eq_some_iff] at hx
  obtain ⟨u,h3,hx⟩:=hx
  obtain ⟨u',h4,h5⟩:=hf h3 h1 h2.1
  obtain ⟨z',h6,h7⟩:=WL hf hx h5 h2.2
  exact ⟨z',by simp only [AM.foldO,h4,Option.bind_some,h6],h7⟩
 | [],_::_,_,_,_,_,_,h=>h.elim
 | _::_,[],_,_,_,_,_,h=>h.elim
theorem ARs.cells:∀ {c:List TA} {s:List AV},ARs P h Z J c s->CRs P h Z J (c.flatMap TA.cells) (s.flatMap AV.cells)/\c.map TM.shapeOf=s.map AM.shapeOf
 | [],[],_=>⟨trivial,rfl⟩
 | c::cs,s::ss,hr=>by
  simp only [ARs] at hr
  obtain ⟨h1,h2⟩:=ARs.cells hr.2
  exact ⟨by simp only [List.flatMap_cons];exact hr.1.cells.append h1,by simp only [List.map_cons,hr.1.shape,h2]⟩
 | [],_::_,h=>h.elim
 | _::_,[],h=>h.elim
theorem ARs.append:∀ {c d:List TA} {s t:List AV},ARs P h Z J c s->ARs P h Z J d t->ARs P h Z J (c++d) (s++t)
 | [],_,[],_,_,k=>k
 | _::_,_,_::_,_,h,k=>by simp only [ARs,List.cons_append] at h ⊢;exact ⟨h.1,ARs.append h.2 k⟩
 | [],_,_::_,_,h,_=>by simp [ARs] at h
 | _::_,_,[],_,h,_=>by simp [ARs] at h
theorem told_makeFunc (q:StR P J0 Z0 H0 h0 J Z s a) {o:Oper} {f:FuncId} {first captured:Array Operand} (ho:o.op=.makeFunc (.func f) first captured) {c:TS->Option R}
  (hx:((TM.evVs s first.toList).bind fun a=>(TM.evVs s captured.toList).bind fun b=>TM.setK s o.dst (.v (.sc (.fn f a.length ((a++b).map TM.shapeOf) ((a++b).flatMap TA.cells)))) c)=some r):yB P A J0 Z0 H0 h0 o a c r:=by
 replace hx:=oB hx
 obtain ⟨x,h1,hx⟩:=hx
 replace hx:=oB hx
 obtain ⟨y,h2,hx⟩:=hx
 obtain ⟨x',h3,h4⟩:=yn q h1
 obtain ⟨y',h5,h6⟩:=yn q h2
 obtain ⟨h7,h8⟩:=(h4.append h6).cells
 refine zr q hx (x:=.v (.sc (.fn (.func f) x'.length ((x'++y').map AM.shapeOf) ((x'++y').flatMap AV.cells)))) ⟨_,rfl,_,rfl,_,?_,h7⟩ fun evA=>by simp only [AM.evOp,ho,h3,h5,Option.bind_some]
 rw [h4.length,h8]
theorem Wq {t:Ty} {x:t.T} {l:List Sc} (hd:DR P h Z t x l):∀ n,Seg (DR P h Z t) (List.replicate n x) (AM.rep n l)
 | 0=>by simp [AM.rep,Seg]
 | n+1=>by
  have:=Wq hd n
  simp only [AM.rep,List.replicate_succ,List.flatten_cons] at this ⊢
  exact ⟨l,_,rfl,hd,this⟩
theorem TQ (q:StR P J0 Z0 H0 h0 J Z s a) {o:Oper} {t:TypeId} {len cap:Operand} (ho:o.op=.makeSlice t len cap) {c:TS->Option R}
  (hx:((AM.elemOf P t).bind fun e=>(TM.zeroCells P e).bind fun z=>elT P e fun et=>(TM.evV s len).bind fun l=>(TM.evV s cap).bind fun m=>match l,m with
  | .sc (.int .i64 l),.sc (.int .i64 m)=>guardB (Nat.beq z.length (P.cellsOf e)&&decide (P.bytesOf e<=8192))<|guardB (decide (0<=l))<|guardB (decide (l<=m))<|guardB (decide (m<=most))<|
    mk1 et z fun x=>TM.setK { s with h:=s.h++[.row e et (List.replicate l.toNat x)] } o.dst (.v (.sc (.g s.h.length))) c
  | _,_=>none)=some r):yB P A J0 Z0 H0 h0 o a c r:=by
 replace hx:=oB hx
 obtain ⟨e,he,hx⟩:=hx
 replace hx:=oB hx
 obtain ⟨z,hz,hx⟩:=hx
 replace hx:=xx hx
 obtain ⟨et,hsz,hinf,hx⟩:=hx
 replace hx:=oB hx
 obtain ⟨l,h1,hx⟩:=hx
 replace hx:=oB hx
 obtain ⟨m,h2,hx⟩:=hx
 obtain ⟨z',h3,h4⟩:=zK (P:=P) (h:=a.h) (Z:=Z) (J:=J) hz
 obtain ⟨l',h5,h6⟩:=zm q h1
 obtain ⟨m',h7,h8⟩:=zm q h2
 split at hx
 ·rename_i l m
  obtain ⟨_,rfl,h6⟩:=h6
  obtain ⟨_,rfl,h8⟩:=h8
  simp only [CR] at h6 h8;subst h6;subst h8
  replace hx:=gB.1 hx
  obtain ⟨g1,hx⟩:=hx
  replace hx:=gB.1 hx
  obtain ⟨g2,hx⟩:=hx
  replace hx:=gB.1 hx
  obtain ⟨g3,hx⟩:=hx
  replace hx:=gB.1 hx
  obtain ⟨g4,hx⟩:=hx
  obtain ⟨x,hd,hx⟩:=mk1_some hx h4
  rw [xd] at hx
  rw [h4.length] at g1
  have q2:=q.mem (Yq (e:=e) q.hp hsz hinf (Wq hd l.toNat))
  exact ⟨_,_,_,Z,hx,q2.put o.dst (v:=.v (.sc (.g s.h.length))) (x:=.v (.sc (.sl a.h.length 0 (List.length _)))) ⟨_,rfl,_,rfl,_,by rw [<- q.hp.len,zS],.inr ⟨rfl,rfl⟩⟩,fun evA=>by
   simp only [AM.evOp,ho,he,h3,h5,h7,g1,g2,g3,g4,Option.bind_some,Bool.and_self,guardB,cond_true,AM.setK_eq,List.length_replicate]⟩
 ·cases hx
theorem told_slice (q:StR P J0 Z0 H0 h0 J Z s a) {o:Oper} {t:TypeId} {x:Operand} {lo hi mx:Option Operand} (ho:o.op=.slice t x lo hi mx) {c:TS->Option R}
  (hx:(match P.underlying t with
  | some (.slice e)=>guardB (P.info? e).isSome<|(TM.evV s x).bind fun x=>TM.asSc x fun x=>TM.sliceS s e (P.cellsOf e) x lo hi mx fun v=>TM.setK s o.dst (.v (.sc v)) c
  | some (.array n e)=>guardB (P.info? e).isSome<|(TM.evV s x).bind fun x=>TM.asSc x fun x=>match x with
   | .ptr id off=>(match zi s.h id with | .box _ _=>TM.sliceS s e (P.cellsOf e) (.sc id off n) lo hi mx fun v=>TM.setK s o.dst (.v (.sc v)) c | _=>none)
   | _=>none
  | _=>none)=some r):yB P A J0 Z0 H0 h0 o a c r:=by
 split at hx
 ·rename_i e hu
  replace hx:=gB.1 hx
  obtain ⟨hg,hx⟩:=hx
  replace hx:=oB hx
  obtain ⟨v,hv,hx⟩:=hx
  replace hx:=TM.asSc_some.1 hx
  obtain ⟨w,rfl,hx⟩:=hx
  obtain ⟨v',h1,w',rfl,h2⟩:=zm q hv
  obtain ⟨u,u',hx,h3,hk⟩:=UZ q hx h2
  exact zr q hx ⟨_,rfl,_,rfl,h3⟩ fun evA=>by simp only [AM.evOp,ho,hu,hg,h1,AM.asSc,hk,Option.bind_some,guardB,cond_true]
 ·rename_i n e hu
  replace hx:=gB.1 hx
  obtain ⟨hg,hx⟩:=hx
  replace hx:=oB hx
  obtain ⟨v,hv,hx⟩:=hx
  replace hx:=TM.asSc_some.1 hx
  obtain ⟨w,rfl,hx⟩:=hx
  obtain ⟨v',h1,w',rfl,h2⟩:=zm q hv
  split at hx
  ·rename_i id off
   split at hx
   ·rename_i b cs hob
    obtain ⟨je,hj,hvv,rfl⟩:=h2
    obtain ⟨_,cs',h5,h6⟩:=q.hp.obj id _ je (zh hob rfl) hj
    obtain ⟨u,u',hx,h3,hk⟩:=UZ q (x:=.sl je.id off n) hx ⟨je,hj,hvv,rfl⟩
    exact zr q hx ⟨_,rfl,_,rfl,h3⟩ fun evA=>by simp only [AM.evOp,ho,hu,hg,h1,AM.asSc,AM.asP,AM.boxOk,h5,hk,Option.bind_some,guardB,cond_true]
   ·cases hx
  ·cases hx
 ·cases hx
theorem TR {v:TV} {x:AM.SV} {n:Nat} {c:TV->Option R} (hx:TM.addAt v n c=some r) (hv:SR P h Z J v x):∃ w y,c w=some r/\SR P h Z J w y/\∀ {S:Type} (k:AM.SV->Option S),AM.addAt x n k=k y:=by
 unfold TM.addAt at hx
 split at hx
 ·simp only [SR] at hv;subst hv;exact ⟨_,_,hx,rfl,fun k=>rfl⟩
 ·obtain ⟨w,rfl,u,rfl,je,h1,h2,rfl⟩:=hv
  exact ⟨_,_,hx,⟨_,rfl,_,rfl,je,h1,h2,rfl⟩,fun k=>rfl⟩
 ·obtain ⟨id,o',ob,cs,rfl,h1⟩:=hv
  exact ⟨_,_,hx,⟨id,o',ob,cs,rfl,h1⟩,fun k=>by simp only [AM.addAt,AM.asP,Nat.add_assoc]⟩
 ·obtain ⟨je,h1,h2,rfl⟩:=hv
  exact ⟨_,_,hx,⟨je,h1,h2,rfl⟩,fun k=>by simp only [AM.addAt,AM.asP,Nat.add_assoc]⟩
 ·cases hx
theorem TN (q:StR P J0 Z0 H0 h0 J Z s a) {o:Oper} {t:TypeId} {x:Operand} {i:Nat} (ho:o.op=.fieldAddr t x i) {c:TS->Option R}
  (hx:(match P.underlying t with
  | some (.struct fs)=>(fs.toList[i]?).bind fun f=>guardB (!(Nat.beq (P.cellsOf f.type) 0))<|(TM.evA s x).bind fun a=>TM.addAt a f.offset fun v=>TM.setK s o.dst v c
  | _=>none)=some r):yB P A J0 Z0 H0 h0 o a c r:=by
 split at hx
 ·rename_i fs hu
  replace hx:=oB hx
  obtain ⟨f,hf,hx⟩:=hx
  replace hx:=gB.1 hx
  obtain ⟨hg,hx⟩:=hx
  replace hx:=oB hx
  obtain ⟨v,hv,hx⟩:=hx
  obtain ⟨v',h1,h2⟩:=zn q hv
  obtain ⟨w,y,hx,h3,hk⟩:=TR hx h2
  exact zr q hx h3 fun evA=>by simp only [AM.evOp,ho,hu,hf,hg,h1,hk,Option.bind_some,guardB,cond_true]
 ·cases hx
theorem TP (q:StR P J0 Z0 H0 h0 J Z s a) {o:Oper} {t:TypeId} {x i:Operand} (ho:o.op=.indexAddr t x i) {c:TS->Option R}
  (hx:(match P.underlying t with
  | some (.slice e)=>guardB (P.info? e).isSome<|(TM.evV s x).bind fun x=>TM.asSc x fun x=>(TM.evV s i).bind fun i=>match x with
   | .d e' t xs=>guardB (Nat.beq e e'&&Nat.beq t.size (P.cellsOf e))<|TM.idxI i xs.length fun i=>TM.setK s o.dst (.e t xs i 0) c
   | .g id=>(match zi s.h id with | .row e' _ xs=>guardB (Nat.beq e e')<|TM.idxI i xs.length fun i=>TM.setK s o.dst (.p id i 0) c | _=>none)
   | .sl id off n=>(match zi s.h id with | .row e' _ _=>guardB (Nat.beq e e')<|TM.idxI i n fun i=>TM.setK s o.dst (.p id (off+i) 0) c | _=>none)
   | .sc id off n=>(match zi s.h id with | .box _ _ | .crow _ _=>TM.idxI i n fun i=>TM.setK s o.dst (.v (.sc (.ptr id (off+i*P.cellsOf e)))) c | _=>none)
   | _=>none
  | some (.array n e)=>guardB (P.info? e).isSome<|(TM.evA s x).bind fun a=>(TM.evV s i).bind fun i=>TM.idxI i n fun i=>TM.addAt a (i*P.cellsOf e) fun v=>TM.setK s o.dst v c
  | _=>none)=some r):yB P A J0 Z0 H0 h0 o a c r:=by
 split at hx
 ·rename_i e hu
  replace hx:=gB.1 hx
  obtain ⟨hg,hx⟩:=hx
  replace hx:=oB hx
  obtain ⟨v,hv,hx⟩:=hx
  replace hx:=TM.asSc_some.1 hx
  obtain ⟨w,rfl,hx⟩:=hx
  replace hx:=oB hx
  obtain ⟨iv,hi,hx⟩:=hx
  obtain ⟨v',h1,w',rfl,h2⟩:=zm q hv
  obtain ⟨i',h3,h4⟩:=zm q hi
  have fin:∀ (id off len j:Nat) (u:TV),w'=.sl id off len->(∀ {S:Type} (k:Nat->Option S),AM.idxI i' len k=k j)->SR P a.h Z J u (.v (.sc (.ptr id (off+j*P.cellsOf e))))->TM.setK s o.dst u c=some r->yB P A J0 Z0 H0 h0 o a c r:=by
   rintro id off len j u rfl k1 k2 k3
   exact zr q k3 k2 fun evA=>by simp only [AM.evOp,ho,hu,hg,h1,h3,AM.asSc,AM.asS,k1,Option.bind_some,guardB,cond_true]
  split at hx
  ·rename_i e' et xs
   replace hx:=gB.1 hx
   obtain ⟨hge,hx⟩:=hx
   simp only [Bool.and_eq_true] at hge
   have he:=zj hge.1
   have hsz:=zj hge.2
   obtain ⟨j,hj,hx,hk⟩:=wQ hx h4
   simp only [CR] at h2
   rcases h2 with ⟨rfl,_⟩ | ⟨id,off,ob,cs,rfl,g1,g2,g3,g4,g5,g6,g7⟩
   ·simp at hj
   ·exact fin id off xs.length j (.e et xs j 0) rfl hk ⟨id,off,ob,cs,by rw [hsz];rfl,g1,g2,g4,g6,hj,g7⟩ hx
  ·rename_i id
   split at hx
   ·rename_i e' et xs hob
    replace hx:=gB.1 hx
    obtain ⟨hge,hx⟩:=hx
    have he:=zj hge
    obtain ⟨j,hj,hx,hk⟩:=wQ hx h4
    obtain ⟨je,hje,ra⟩:=q.hp.row hob
    obtain ⟨je2,hj2,hs⟩:=h2
    rw [hje] at hj2;cases hj2
    rcases hs with ⟨hvv,b,rfl⟩ | ⟨hvv,rfl⟩
    ·rcases ra.at' with ⟨_,rfl⟩ | ⟨hv',_⟩
     ·simp at hj
     ·rw [hvv] at hv';cases hv'
    ·exact fin je.id je.off je.n j (.p id j 0) rfl (by rw [ra.n];exact hk) ⟨je,hje,hvv,by rw [he,<- ra.sz,ra.z];rfl⟩ hx
   ·cases hx
  ·rename_i id off n
   split at hx
   ·rename_i e' et xs hob
    replace hx:=gB.1 hx
    obtain ⟨hge,hx⟩:=hx
    have he:=zj hge
    obtain ⟨j,hj,hx,hk⟩:=wQ hx h4
    obtain ⟨je,hje,ra⟩:=q.hp.row hob
    obtain ⟨je2,hj2,hs⟩:=h2
    rw [hje] at hj2;cases hj2
    rcases hs with ⟨hvv,rfl,b,rfl⟩ | ⟨hvv,rfl⟩
    ·omega
    ·exact fin je.id (je.off+off*je.z) n j (.p id (off+j) 0) rfl hk ⟨je,hje,hvv,by rw [he,<- ra.sz,ra.z,Nat.add_mul];simp only [Nat.add_zero,Nat.add_assoc]⟩ hx
   ·cases hx
  ·rename_i id off n
   obtain ⟨je,hje,hvv,rfl⟩:=h2
   split at hx
   ·obtain ⟨j,hj,hx,hk⟩:=wQ hx h4
    exact fin je.id off n j (.v (.sc (.ptr id (off+j*P.cellsOf e)))) rfl hk ⟨_,rfl,_,rfl,je,hje,hvv,rfl⟩ hx
   ·obtain ⟨j,hj,hx,hk⟩:=wQ hx h4
    exact fin je.id off n j (.v (.sc (.ptr id (off+j*P.cellsOf e)))) rfl hk ⟨_,rfl,_,rfl,je,hje,hvv,rfl⟩ hx
   ·cases hx
  ·cases hx
 ·rename_i n e hu
  replace hx:=gB.1 hx
  obtain ⟨hg,hx⟩:=hx
  replace hx:=oB hx
  obtain ⟨v,hv,hx⟩:=hx
  replace hx:=oB hx
  obtain ⟨iv,hi,hx⟩:=hx
  obtain ⟨v',h1,h2⟩:=zn q hv
  obtain ⟨i',h3,h4⟩:=zm q hi
  obtain ⟨j,hj,hx,hk⟩:=wQ hx h4
  obtain ⟨w,y,hx,h5,hk2⟩:=TR hx h2
  exact zr q hx h5 fun evA=>by simp only [AM.evOp,ho,hu,hg,h1,h3,hk,hk2,Option.bind_some,guardB,cond_true]
 ·cases hx
theorem ARs.get:∀ {c:List TA} {s:List AV},ARs P h Z J c s->∀ {i:Nat} {x:TA},c[i]?=some x->∃ y,s[i]?=some y/\AR P h Z J x y
 | [],[],_,_,_,h=>by simp at h
 | a::_,b::_,⟨h1,h2⟩,i,x,h=>by
  cases i with
  | zero=>simp at h;subst h;exact ⟨b,rfl,h1⟩
  | succ i=>simpa using ARs.get h2 (by simpa using h)
 | [],_::_,r,_,_,_=>r.elim
 | _::_,[],r,_,_,_=>r.elim
theorem told_extract (q:StR P J0 Z0 H0 h0 J Z s a) {o:Oper} {x:Operand} {i:Nat} (ho:o.op=.extract x i) {c:TS->Option R}
  (hx:((TM.evA s x).bind fun v=>match v with
  | .t vs=>(vs[i]?).bind fun v=>TM.setK s o.dst (.v v) c
  | _=>none)=some r):yB P A J0 Z0 H0 h0 o a c r:=by
 replace hx:=oB hx
 obtain ⟨v,hv,hx⟩:=hx
 obtain ⟨v',h1,h2⟩:=zn q hv
 split at hx
 ·replace hx:=oB hx
  obtain ⟨w,h3,hx⟩:=hx
  obtain ⟨ys,rfl,h4⟩:=h2
  obtain ⟨y,h5,h6⟩:=h4.get h3
  exact zr q hx ⟨_,rfl,h6⟩ fun evA=>by simp only [AM.evOp,ho,h1,h5,Option.bind_some]
 ·cases hx
variable {P : Program} {A : TAn} {ev : TEv} {J0 J J' : List JE} {Z0 Z Z' : Nat -> Prop} {H0 H H' : TH} {h0 h h' : AH} {s : TS} {a : AM.St} {R : Type} {r : R}
theorem QN (q:StR P J0 Z0 H0 h0 J Z s a) {o:Oper} {v:TV} {x:AM.SV} {c:TS->Option R} {a0:AM.St} (hx:TM.setK s o.dst v c=some r) (hv:SR P a.h Z J v x) (hA:∀ evA,AM.evOp P A.a evA o a0 some=AM.setK a o.dst x some):yB P A J0 Z0 H0 h0 o a0 c r:=by
 rw [xd] at hx
 exact ⟨_,_,J,Z,hx,q.put o.dst hv,fun evA=>by rw [hA,AM.setK_eq]⟩
theorem ontoK_rel {A:TAn} {x:Operand} {v:TV} {v':AM.SV} {c:TC->Option R} (hx:TM.ontoK A x v c=some r) (hv:SR P h Z J v v'):∃ y y',c y=some r/\CR P h Z J y y'/\∀ {S:Type} (k:Sc->Option S),AM.ontoK A.a x v' k=k y':=by
 have two:∀ {v:TV} {v':AM.SV},(v.val.bind fun v=>TM.asSc v c)=some r->SR P h Z J v v'->∃ y y',c y=some r/\CR P h Z J y y'/\∀ {S:Type} (k:Sc->Option S),(v'.val.bind fun v=>AM.asSc v k)=k y':=by
  intro v v' h1 h2
  obtain ⟨u,hu,h1⟩:=oB h1
  obtain ⟨y,rfl,h1⟩:=TM.asSc_some.1 h1
  cases v<;>simp [TV.val] at hu
  subst hu
  obtain ⟨_,rfl,y',rfl,h3⟩:=h2
  exact ⟨y,y',h1,h3,fun k=>rfl⟩
 unfold TM.ontoK at hx
 split at hx
 ·rename_i d
  cases hl:A.a.loc.contains d with
  | false=>
   rw [hl] at hx
   obtain ⟨y,y',h1,h2,h3⟩:=two hx hv
   exact ⟨y,y',h1,h2,fun k=>by simp only [AM.ontoK,hl,cond_false,h3]⟩
  | true=>
   rw [hl] at hx
   simp only [cond_true] at hx
   split at hx
   ·rename_i k0 n
    obtain ⟨h0,hx⟩:=gB.1 hx
    simp only [SR] at hv
    subst hv
    exact ⟨.nil,.nils true,hx,⟨true,rfl⟩,fun k=>by simp only [AM.ontoK,hl,h0,guardB,cond_true]⟩
   ·cases hx
 ·rename_i hne
  obtain ⟨y,y',h1,h2,h3⟩:=two hx hv
  refine ⟨y,y',h1,h2,fun k=>?_⟩
  cases x with
  | tmp d=>exact absurd rfl (hne d)
  | _=>simp only [AM.ontoK,h3]
theorem told_builtin (q:StR P J0 Z0 H0 h0 J Z s a) {o:Oper} {b:Builtin} {args:Array Operand} {ts:Array TypeId} (ho:o.op=.call { callee:=.builtin b,args:=args,argTypes:=ts }) {c:TS->Option R}
  (hx:(TM.builtinK P A b ts.toList args.toList s fun v s=>TM.setK s o.dst v c)=some r):yB P A J0 Z0 H0 h0 o a c r:=by
 have hA:∀ evA,AM.evOp P A.a evA o a some=AM.builtinK P A.a b ts.toList args.toList a fun v s=>AM.setK s o.dst v some:=fun evA=>by simp only [AM.evOp,ho]
 unfold TM.builtinK at hx
 split at hx
 ·rename_i ty x e1 e2
  split at hx
  ·rename_i et hu
   replace hx:=oB hx
   obtain ⟨v,hv,hx⟩:=hx
   obtain ⟨y,h1,h2⟩:=zn q hv
   have key:∃ n:Nat,TM.setK s o.dst (.v (.sc (.int .i64 (n:Int)))) c=some r/\∀ {S:Type} (k:Nat->Option S),AM.lenA y k=k n:=by
    unfold TM.lenA at hx
    split at hx
    ·simp only [SR] at h2;subst h2;exact ⟨_,hx,fun k=>rfl⟩
    ·obtain ⟨_,rfl,w,rfl,h2⟩:=h2
     obtain ⟨n,hx,h3,h4⟩:=Ub hx q.hp h2
     exact ⟨n,hx,fun k=>by simp only [AM.lenA,h3,h4,guardB,cond_true]⟩
    ·cases hx
   obtain ⟨n,hx,hk⟩:=key
   exact zr q hx ⟨_,rfl,_,rfl,CR.int'⟩ fun evA=>by rw [hA,e1,e2];simp only [AM.builtinK,hu,h1,Option.bind_some,hk]
  ·rename_i n et hu
   exact zr q hx ⟨_,rfl,_,rfl,CR.int'⟩ fun evA=>by rw [hA,e1,e2];simp only [AM.builtinK,hu]
  ·cases hx
 ·rename_i x l e2
  replace hx:=oB hx
  obtain ⟨v,hv,hx⟩:=hx
  replace hx:=oB hx
  obtain ⟨vs,hvs,hx⟩:=hx
  replace hx:=oB hx
  obtain ⟨z,hz,hx⟩:=hx
  obtain ⟨y,h1,h2⟩:=zm q hv
  obtain ⟨ys,h3,h4⟩:=yn q hvs
  obtain ⟨z',h5,h6⟩:=WL (fun {x y z x' y'}=>TF) hz h2 h4
  exact zr q hx ⟨_,rfl,h6⟩ fun evA=>by rw [hA,e2];simp only [AM.builtinK,h1,h3,h5,Option.bind_some]
 ·rename_i x l e2
  replace hx:=oB hx
  obtain ⟨v,hv,hx⟩:=hx
  replace hx:=oB hx
  obtain ⟨vs,hvs,hx⟩:=hx
  replace hx:=oB hx
  obtain ⟨z,hz,hx⟩:=hx
  obtain ⟨y,h1,h2⟩:=zm q hv
  obtain ⟨ys,h3,h4⟩:=yn q hvs
  obtain ⟨z',h5,h6⟩:=WL (fun {x y z x' y'}=>TE) hz h2 h4
  exact zr q hx ⟨_,rfl,h6⟩ fun evA=>by rw [hA,e2];simp only [AM.builtinK,h1,h3,h5,Option.bind_some]
 ·rename_i ty ty2 x y e1 e2
  replace hx:=oB hx
  obtain ⟨e,he,hx⟩:=hx
  replace hx:=oB hx
  obtain ⟨z,hz,hx⟩:=hx
  replace hx:=gB.1 hx
  obtain ⟨hg,hx⟩:=hx
  replace hx:=xx hx
  obtain ⟨t,hsz,hinf,hx⟩:=hx
  replace hx:=oB hx
  obtain ⟨v,hv,hx⟩:=hx
  obtain ⟨v0,h3,h40⟩:=zn q hv
  obtain ⟨w,w',hx0,h4,hkO⟩:=ontoK_rel hx h40
  clear hx
  have hx:=hx0
  replace hx:=oB hx
  obtain ⟨u,hu,hx⟩:=hx
  obtain ⟨z',h1,h2⟩:=zK (P:=P) (h:=a.h) (Z:=Z) (J:=J) hz
  obtain ⟨u',h5,h6⟩:=zn q hu
  obtain ⟨xs,H',Z',hx,m,hk,hfst⟩:=srcT_rel q hsz hx h6
  obtain ⟨l,hseg,hk2⟩:=hfst xs.length (Nat.le_refl _)
  rw [List.take_of_length_le (Nat.le_refl _)] at hseg
  have q2:=q.mem (Mv.step (hr:=q.hp) m)
  obtain ⟨v',H2,h2',J2,y',hx,st,hc,hk3⟩:=appendS_rel q2.hp hx (CR.mono m.ext (List.prefix_refl _) _ _ h4) hsz hinf hseg
  rw [h2.length] at hg
  exact QN (q2.mem st) hx ⟨_,rfl,_,rfl,hc⟩ fun evA=>by
   rw [hA,e1,e2]
   have hk3':=fun (k:Sc->AH->Option AM.St)=>hk3 k
   simp only at hk3'
   simp only [AM.builtinK,he,h1,hg,h3,h5,guardB,cond_true,Option.bind_some,hkO,hk]
   rw [hsz] at hk2
   simp only [hk2,hk3']
 ·rename_i ty ty2 x y e1 e2
  replace hx:=oB hx
  obtain ⟨e,he,hx⟩:=hx
  replace hx:=gB.1 hx
  obtain ⟨hg,hx⟩:=hx
  replace hx:=xx hx
  obtain ⟨t,hsz,hinf,hx⟩:=hx
  replace hx:=oB hx
  obtain ⟨v,hv,hx⟩:=hx
  replace hx:=TM.asSc_some.1 hx
  obtain ⟨w,rfl,hx⟩:=hx
  replace hx:=oB hx
  obtain ⟨u,hu,hx⟩:=hx
  obtain ⟨_,h3,w',rfl,h4⟩:=zm q hv
  obtain ⟨u',h5,h6⟩:=zn q hu
  obtain ⟨n,hx,hsl,hln⟩:=Ub hx q.hp h4
  obtain ⟨xs,H',Z',hx,m,hk,hfst⟩:=srcT_rel q hsz hx h6
  have q2:=q.mem (Mv.step (hr:=q.hp) m)
  obtain ⟨n2,_,hn2,hcp⟩:=copyS_rel q2.hp hx (CR.mono m.ext (List.prefix_refl _) _ _ h4)
  rw [hln] at hn2
  subst hn2
  obtain ⟨l,hseg,hk2⟩:=hfst (min xs.length n) (Nat.min_le_left _ _)
  obtain ⟨H2,h2',hx,st,hc0,hc1⟩:=hcp l hseg
  have q3:=q2.mem st
  refine QN q3 hx ⟨_,rfl,_,rfl,CR.int'⟩ fun evA=>?_
  rw [hA,e1,e2]
  simp only [AM.builtinK,he,hg,h3,h5,guardB,cond_true,Option.bind_some,AM.asSc,hk,hsl,hln]
  rw [hsz] at hk2
  simp only [hk2]
  cases hb:Nat.beq (min xs.length n) 0 with
  | true=>
   have:=hc0 (zj hb)
   have e0:=zj hb
   rw [cond_true,this,e0];rfl
  | false=>
   obtain ⟨id,off,rfl,hk4⟩:=hc1 (by intro h0;rw [h0] at hb;cases hb)
   simp only [cond_false,AM.asS]
   have hk4':=fun (k:AH->Option AM.St)=>hk4 k
   simp only at hk4'
   rw [hk4']
 ·cases hx
def Vp:Op->Bool
 | .call { callee:=.value _,.. }=>true
 | _=>false
theorem op_told (q:StR P J0 Z0 H0 h0 J Z s a) {o:Oper} (hc:Vp o.op=false) {c:TS->Option R} (hx:TM.evOp P A ev o s c=some r):yB P A J0 Z0 H0 h0 o a c r:=by
 unfold TM.evOp at hx
 split at hx
 case h_1 ho=>exact QM q (.inl ho) hx
 case h_2 ho=>exact QM q (.inr ho) hx
 case h_3 ho=>exact told_pick q ho hx
 case h_4 ho=>exact told_alloc q ho hx
 case h_5 ho=>exact told_boxv q ho hx
 case h_6 ho=>exact told_build q ho hx
 case h_7 ho=>exact Te q ho hx
 case h_8 ho=>exact told_load q ho hx
 case h_9 ho=>exact told_store q ho hx
 case h_10 ho=>exact told_nilCheck q ho hx
 case h_11 ho=>exact told_binOp q ho hx
 case h_12 ho=>exact told_unOp q ho hx
 case h_13 ho=>exact told_convert q ho hx
 case h_14 ho=>exact told_makeFunc q ho hx
 case h_15 ho=>exact TQ q ho hx
 case h_16 ho=>exact told_slice q ho hx
 case h_17 ho=>exact TN q ho hx
 case h_18 ho=>exact TP q ho hx
 case h_19 ho=>exact told_extract q ho hx
 case h_20 ho=>exact told_builtin q ho hx
 case h_21 ho=>rw [ho] at hc;simp [Vp] at hc
 case h_22 ho=>exact told_index q ho hx
 case h_23=>cases hx
variable {P : Program} {A : TAn} {ev : TEv} {J0 J J' : List JE} {Z0 Z Z' : Nat -> Prop} {H0 H H' : TH} {h0 h h' : AH} {s : TS} {a : AM.St} {R : Type} {r : R}
theorem memN_iff {l:List Nat} {i:Nat}:yu l i=true↔i∈l:=by
 unfold yu
 rw [List.any_eq_true]
 constructor
 ·rintro ⟨x,h1,h2⟩;rw [zj h2];exact h1
 ·intro h;exact ⟨i,h,Nat.beq_refl _⟩
theorem VZ:∀ {l:List Nat} {i:Nat},i∈l->l[yF l i]?=some i
 | [],i,h=>by cases h
 | x::l,i,h=>by
  simp only [yF]
  cases hb:Nat.beq i x with
  | true=>simp [zj hb]
  | false=>
   have:i∈l:=by
    rcases List.mem_cons.1 h with rfl | h
    ·rw [Nat.beq_refl] at hb;cases hb
    ·exact h
   simp only [cond_false]
   rw [List.getElem?_cons_succ];exact VZ this
theorem UQ:∀ {l:List Nat},UP l=true->∀ {i j x:Nat},l[i]?=some x->l[j]?=some x->i=j
 | [],_,_,_,_,h,_=>by simp at h
 | y::l,hn,i,j,x,hi,hj=>by
  simp only [UP,Bool.and_eq_true,Bool.not_eq_true'] at hn
  have hy:y ∉ l:=fun hm=>by have:=memN_iff.2 hm;rw [this] at hn;exact absurd hn.1 (by simp)
  cases i with
  | zero=>
   cases j with
   | zero=>rfl
   | succ j=>simp at hi hj;subst hi;exact absurd (List.mem_of_getElem? hj) hy
  | succ i=>
   cases j with
   | zero=>simp at hi hj;subst hj;exact absurd (List.mem_of_getElem? hi) hy
   | succ j=>simp at hi hj;rw [UQ hn.2 hi hj]
def RenOk (f:Nat->Nat) (J J':List JE) (l:List Nat):Prop:=∀ i∈l,∀ je,J[i]?=some je->J'[f i]?=some je
theorem RenOk.of {f:Nat->Nat} {l m:List Nat} (q:RenOk f J J' l) (h:∀ i∈m,i∈l):RenOk f J J' m:=fun i hi=>q i (h i hi)
mutual
theorem CR.ren {f:Nat->Nat}:∀ (c:TC) (s:Sc),RenOk f J J' c.refs->CR P h Z J c s->CR P h Z J' (c.ren f) s
 | .bool _,_,_,r=>r
 | .int _ _,_,_,r=>r
 | .str _,_,_,r=>r
 | .d e t xs,_,_,r=>r
 | .nil,_,_,r=>r
 | .g id,_,q,⟨je,h1,h2⟩=>⟨je,q id (by simp [TC.refs]) je h1,h2⟩
 | .sl id _ _,_,q,⟨je,h1,h2⟩=>⟨je,q id (by simp [TC.refs]) je h1,h2⟩
 | .sc id _ _,_,q,⟨je,h1,h2⟩=>⟨je,q id (by simp [TC.refs]) je h1,h2⟩
 | .ptr id _,_,q,⟨je,h1,h2⟩=>⟨je,q id (by simp [TC.refs]) je h1,h2⟩
 | .fn _ _ _ cs,_,q,⟨ss,h1,h2⟩=>⟨ss,h1,CRs.ren cs ss (by simpa only [TC.refs] using q) h2⟩
 | .yl id,_,q,⟨je,h1,h2⟩=>⟨je,q id (by simp [TC.refs]) je h1,h2⟩
 | .nilp,_,_,r=>r
 | .nilf,_,_,r=>r
 | .nili,_,_,r=>r
theorem CRs.ren {f:Nat->Nat}:∀ (c:List TC) (s:List Sc),RenOk f J J' (TC.refsL c)->CRs P h Z J c s->CRs P h Z J' (TC.renL f c) s
 | [],[],_,_=>trivial
 | c::cs,s::ss,q,⟨h1,h2⟩=>⟨CR.ren c s (q.of fun i hi=>by simp only [TC.refsL,List.mem_append];exact .inl hi) h1,CRs.ren cs ss (q.of fun i hi=>by simp only [TC.refsL,List.mem_append];exact .inr hi) h2⟩
 | [],_::_,_,r=>r
 | _::_,[],_,r=>r
end
theorem AR.ren {f:Nat->Nat} {c:TA} {s:AV} (q:RenOk f J J' c.refs) (r:AR P h Z J c s):AR P h Z J' (c.ren f) s:=by
 cases c with
 | sc c=>obtain ⟨x,h1,h2⟩:=r;exact ⟨x,h1,CR.ren c x (q.of fun i hi=>by simp only [TA.refs,TA.cells,TC.refsL,List.append_nil];exact hi) h2⟩
 | agg cs=>obtain ⟨x,h1,h2⟩:=r;exact ⟨x,h1,CRs.ren cs x q h2⟩
theorem ARs.ren {f:Nat->Nat}:∀ {c:List TA} {s:List AV},RenOk f J J' (c.flatMap TA.refs)->ARs P h Z J c s->ARs P h Z J' (c.map (TA.ren f)) s
 | [],[],_,_=>trivial
 | c::cs,s::ss,q,⟨h1,h2⟩=>⟨h1.ren (q.of fun i hi=>by simp only [List.flatMap_cons,List.mem_append];exact .inl hi),ARs.ren (q.of fun i hi=>by simp only [List.flatMap_cons,List.mem_append];exact .inr hi) h2⟩
 | [],_::_,_,r=>r.elim
 | _::_,[],_,r=>r.elim
theorem SR.ren {f:Nat->Nat} {v:TV} {x:AM.SV} (q:RenOk f J J' v.refs) (r:SR P h Z J v x):SR P h Z J' (v.ren f) x:=by
 cases v with
 | v a=>obtain ⟨y,h1,h2⟩:=r;exact ⟨y,h1,h2.ren q⟩
 | t vs=>obtain ⟨y,h1,h2⟩:=r;exact ⟨y,h1,h2.ren q⟩
 | p id i o=>obtain ⟨je,h1,h2⟩:=r;exact ⟨je,q id (by simp [TV.refs]) je h1,h2⟩
 | u=>exact r
 | w=>exact r
 | no=>exact r
 | l k o=>exact r
 | s k n=>exact r
 | e t xs i o=>exact r
theorem OR.ren {f:Nat->Nat} {je:JE} {o:TO} (q:RenOk f J J' o.refs) (r:OR P h Z J je o):OR P h Z J' je (o.ren f):=by
 cases o with
 | row e t xs=>exact r
 | crow e cells=>obtain ⟨hv,cs,h1,h2⟩:=r;exact ⟨hv,cs,h1,CRs.ren _ _ q h2⟩
 | box e cells=>obtain ⟨hv,cs,h1,h2⟩:=r;exact ⟨hv,cs,h1,CRs.ren _ _ q h2⟩
 | dead=>trivial
 | loop st pe g key nt sl=>
  obtain ⟨hv,al,h1,h2,h3,h4,h5,h6,h7,h8⟩:=r
  refine ⟨hv,al,h1,h2,h3,h4,h5,h6,h7,fun p hp=>?_⟩
  obtain ⟨p0,hp0,rfl⟩:=List.mem_map.1 hp
  obtain ⟨y,k1,k2⟩:=h8 p0 hp0
  exact ⟨y,k1,k2.ren (q.of fun i hi=>by simp only [TO.refs,List.mem_flatMap];exact ⟨p0,hp0,hi⟩)⟩
theorem xE {f:Nat->Nat} {o:TO}:(o.ren f).live=o.live:=by cases o<;>rfl
theorem objAt_lt {i:Nat} (hi:i < H.length):H[i]?=some (zi H i):=by
 unfold zi;rw [List.getD_eq_getElem?_getD,List.getElem?_eq_getElem hi];rfl
structure OrdOk (H:TH) (ord:List Nat):Prop where
 nodup:∀ {i j x:Nat},ord[i]?=some x->ord[j]?=some x->i=j
 lt:∀ i∈ord,i < H.length
 closed:∀ i∈ord,∀ j∈(zi H i).refs,j∈ord
theorem Ud {ord:List Nat} (hx:UT H ord=true):OrdOk H ord:=by
 simp only [UT,Bool.and_eq_true,List.all_eq_true] at hx
 refine ⟨fun h1 h2=>UQ hx.1 h1 h2,fun i hi=>?_,fun i hi j hj=>?_⟩
 ·have h1:=(hx.2 i hi).1
  exact Nat.le_of_ble_eq_true h1
 ·exact memN_iff.1 ((hx.2 i hi).2 j hj)
def yd (J:List JE) (ord:List Nat):List JE:=ord.map fun i=>J.getD i ⟨true,0,0,0,0⟩
def Zr (H:TH) (ord:List Nat):TH:=ord.map fun i=>(zi H i).ren (yF ord)
theorem wj {ord:List Nat} {i:Nat} {je:JE} (hi:i∈ord) (hj:J[i]?=some je):(yd J ord)[yF ord i]?=some je:=by
 unfold yd
 rw [List.getElem?_map,VZ hi]
 simp [List.getD_eq_getElem?_getD,hj]
theorem Yo {ord l:List Nat} (hl:∀ i∈l,i∈ord):RenOk (yF ord) J (yd J ord) l:=fun i hi je hj=>wj (hl i hi) hj
theorem Yr {ord:List Nat} (hl:J.length=H.length) (ok:OrdOk H ord) {k:Nat} {o:TO} {je:JE} (h1:(Zr H ord)[k]?=some o) (h2:(yd J ord)[k]?=some je) :
  ∃ i,ord[k]?=some i/\H[i]?=some (zi H i)/\o=(zi H i).ren (yF ord)/\J[i]?=some je:=by
 simp only [Zr,List.getElem?_map] at h1
 simp only [yd,List.getElem?_map] at h2
 obtain ⟨i,hi,rfl⟩:=oM h1
 rw [hi] at h2
 have hlt:=ok.lt i (List.mem_of_getElem? hi)
 have hj:J[i]?=some J[i]:=List.getElem?_eq_getElem (by omega)
 simp only [Option.map_some,List.getD_eq_getElem?_getD,hj,Option.getD_some] at h2
 cases h2
 exact ⟨i,hi,objAt_lt hlt,rfl,hj⟩
theorem sub_hr (hr:HR P J Z H h) {ord:List Nat} (ok:OrdOk H ord) (hz:∀ i,Z i->Z' i) (hz2:∀ (i:Nat) o je,H[i]?=some o->o.live=true->J[i]?=some je->je.v=false->i∈ord->¬ Z' je.id) (hz3:∀ id,Z' id->id < h.length):HR P (yd J ord) Z' (Zr H ord) h:=by
 refine ⟨by simp [yd,Zr],fun k o je h1 h2=>?_,fun k l o1 o2 j1 j2 h1 h2 l1 l2 k1 k2 v1 v2 e=>?_,fun k o je h1 h2 h3 h4=>?_,hz3⟩
 ·obtain ⟨i,hi,ho,rfl,hj⟩:=Yr hr.len ok h1 h2
  have:=hr.obj i _ je ho hj
  exact (OR.ren (Yo (ok.closed i (List.mem_of_getElem? hi))) this).mono ⟨hz,fun _ _=>rfl⟩ (List.prefix_refl _) fun _ _=>rfl
 ·obtain ⟨i,hi,ho,rfl,hj⟩:=Yr hr.len ok h1 k1
  obtain ⟨i',hi',ho',rfl,hj'⟩:=Yr hr.len ok h2 k2
  rw [xE] at l1 l2
  have:=hr.uniq i i' _ _ j1 j2 ho ho' l1 l2 hj hj' v1 v2 e
  subst this
  exact ok.nodup hi hi'
 ·obtain ⟨i,hi,ho,rfl,hj⟩:=Yr hr.len ok h1 h3
  rw [xE] at h2
  exact hz2 i _ je ho h2 hj h4 (List.mem_of_getElem? hi)
theorem ZE {ord:List Nat} (hl:J.length=H.length) (ok:OrdOk H ord) {b:Nat} (ho:OwnJ (yd J ord) (Zr H ord) b):∃ (i:Nat) (o:TO) (je:JE),i∈ord/\H[i]?=some o/\o.live=true/\J[i]?=some je/\je.v=false/\je.id=b:=by
 obtain ⟨k,o,je,h1,h2,h3,h4,h5⟩:=ho
 obtain ⟨i,hi,ho,rfl,hj⟩:=Yr hl ok h1 h3
 rw [xE] at h2
 exact ⟨i,_,je,List.mem_of_getElem? hi,ho,h2,hj,h4,h5⟩
def LentZ (J:List JE) (H:TH) (Z:Nat->Prop) (l:List Nat):Nat->Prop:=fun b=>Z b\/∃ i∈l,∃ je o,J[i]?=some je/\je.v=false/\je.id=b/\H[i]?=some o/\o.live=true
theorem LentZ.app {l m:List Nat} {b:Nat} (hb:LentZ J H Z l b):LentZ J H Z (l++m) b:=by
 rcases hb with hb | ⟨i,h1,h2⟩
 ·exact .inl hb
 ·exact .inr ⟨i,List.mem_append_left _ h1,h2⟩
theorem LentZ.app' {l m:List Nat} {b:Nat} (hb:LentZ J H Z m b):LentZ J H Z (l++m) b:=by
 rcases hb with hb | ⟨i,h1,h2⟩
 ·exact .inl hb
 ·exact .inr ⟨i,List.mem_append_right _ h1,h2⟩
theorem lend_row (hr:HR P J Z H h) {ord:List Nat} {id:Nat} {e:TypeId} {t:Ty} {xs:List t.T} (ho:zi H id=.row e t xs) {o n:Nat} (hn:o+n<=xs.length) {x:Sc} {je:JE} (hj:J[id]?=some je)
  (hs:(je.v=true/\∃ b,x=.nils b)\/(je.v=false/\x=.sl je.id (je.off+o*je.z) n)):CR P h (LentZ J H Z [id]) J' (.d e t ((xs.drop o).take n)) x:=by
 obtain ⟨je2,hj2,ra⟩:=hr.row ho
 rw [hj] at hj2;cases hj2
 simp only [CR]
 exact (ra.cut (Z':=LentZ J H Z [id]) (fun hv=>.inr ⟨id,by simp,je,_,hj,hv,rfl,zh ho rfl,rfl⟩) hn hs).up fun _ h=>.inl h
theorem Qq (hr:HR P J Z H h) {ord:List Nat} {t:Option TypeId} {v:TC} {c:TC->List Nat->Option R} {x:Sc} (hx:lendC P H ord t v c=some r) (hv:CR P h Z J v x) :
  ∃ v' l,c v' l=some r/\CR P h (LentZ J H Z l) (yd J ord) v' x/\∀ i∈l,i ∉ ord:=by
 have up:∀ l i,Z i->LentZ J H Z l i:=fun l i h=>.inl h
 have upx:∀ l,Ext h Z h (LentZ J H Z l):=fun l=>⟨up l,fun _ _=>rfl⟩
 unfold lendC at hx
 split at hx
 ·rename_i id
  obtain ⟨je,hj,hs⟩:=hv
  rcases cond_some.1 hx with ⟨hm,hx⟩ | ⟨hm,hx⟩
  ·exact ⟨_,[],hx,⟨je,wj (memN_iff.1 hm) hj,hs⟩,fun i hi=>by cases hi⟩
  ·split at hx
   ·rename_i e t' xs ho
    have hni:id ∉ ord:=fun hi=>by rw [memN_iff.2 hi] at hm;cases hm
    refine ⟨_,[id],hx,?_,fun i hi=>by simp at hi;rw [hi];exact hni⟩
    obtain ⟨je2,hj2,ra⟩:=hr.row ho
    rw [hj] at hj2;cases hj2
    have:=lend_row (J':=yd J ord) (ord:=ord) hr ho (o:=0) (n:=xs.length) (by omega) hj (x:=x) (by simpa [ra.n] using hs)
    simpa using this
   ·cases hx
 ·rename_i id o n
  obtain ⟨je,hj,hs⟩:=hv
  rcases cond_some.1 hx with ⟨hm,hx⟩ | ⟨hm,hx⟩
  ·exact ⟨_,[],hx,⟨je,wj (memN_iff.1 hm) hj,hs⟩,fun i hi=>by cases hi⟩
  ·split at hx
   ·rename_i e t' xs ho
    replace hx:=gB.1 hx
    obtain ⟨hg,hx⟩:=hx
    have hni:id ∉ ord:=fun hi=>by rw [memN_iff.2 hi] at hm;cases hm
    refine ⟨_,[id],hx,lend_row (ord:=ord) hr ho (of_decide_eq_true hg) hj ?_,fun i hi=>by simp at hi;rw [hi];exact hni⟩
    rcases hs with ⟨h1,_,h2⟩ | hs
    ·exact .inl ⟨h1,h2⟩
    ·exact .inr hs
   ·cases hx
 ·rename_i id o n
  have hv':=hv
  obtain ⟨je,hj,hvv,rfl⟩:=hv
  rcases cond_some.1 hx with ⟨hm,hx⟩ | ⟨hm,hx⟩
  ·exact ⟨_,[],hx,⟨je,wj (memN_iff.1 hm) hj,hvv,rfl⟩,fun i hi=>by cases hi⟩
  ·split at hx
   ·rename_i e
    replace hx:=xx hx
    obtain ⟨et,hsz,hinf,hx⟩:=hx
    obtain ⟨xs,o2,Z2,hx,hz1,hsl,hz2⟩:=Qb hsz hx hr hv'
    have hni:id ∉ ord:=fun hi=>by rw [memN_iff.2 hi] at hm;cases hm
    refine ⟨_,[id],hx,?_,fun i hi=>by simp at hi;rw [hi];exact hni⟩
    simp only [CR]
    have hsub:∀ i,Z2 i->LentZ J H Z [id] i:=by
     intro i hi
     rcases hz2 i hi with h1 | ⟨id2,je2,ob,h1,h2,h3,h4,h5,h6⟩
     ·exact .inl h1
     ·simp [TC.refs] at h1;subst h1
      exact .inr ⟨id2,by simp,je2,ob,h2,h3,h4.symm,h5,h6⟩
    exact (hsl.mono ⟨hsub,fun _ _=>rfl⟩ fun _ _=>DR.mono (upx _) et)
   ·cases hx
 ·simp only [CR] at hv;obtain ⟨eb,rfl⟩:=hv
  split at hx
  ·split at hx
   ·exact ⟨_,[],hx,by simp only [CR];exact .inl ⟨rfl,eb,rfl⟩,fun i hi=>by cases hi⟩
   ·exact ⟨_,[],hx,⟨eb,rfl⟩,fun i hi=>by cases hi⟩
  ·exact ⟨_,[],hx,⟨eb,rfl⟩,fun i hi=>by cases hi⟩
 ·rename_i f nf sh cs
  replace hx:=gB.1 hx
  obtain ⟨hg,hx⟩:=hx
  rw [List.all_eq_true] at hg
  obtain ⟨ss,rfl,hc⟩:=hv
  exact ⟨_,[],hx,⟨ss,rfl,CRs.ren _ _ (Yo fun i hi=>memN_iff.1 (hg i hi)) (CRs.mono (upx []) (List.prefix_refl _) _ _ hc)⟩,fun i hi=>by cases hi⟩
 ·rename_i id o
  replace hx:=gB.1 hx
  obtain ⟨hg,hx⟩:=hx
  obtain ⟨je,hj,hs⟩:=hv
  exact ⟨_,[],hx,⟨je,wj (memN_iff.1 hg) hj,hs⟩,fun i hi=>by cases hi⟩
 ·rename_i id
  replace hx:=gB.1 hx
  obtain ⟨hg,hx⟩:=hx
  obtain ⟨je,hj,hs⟩:=hv
  exact ⟨_,[],hx,⟨je,wj (memN_iff.1 hg) hj,hs⟩,fun i hi=>by cases hi⟩
 ·rename_i h1 h2 h3 h4 h5 h6 h7
  refine ⟨v,[],hx,?_,fun i hi=>by cases hi⟩
  have:CR P h (LentZ J H Z []) J v x:=CR.mono (upx []) (List.prefix_refl _) _ _ hv
  cases v<;>first | exact this | (exfalso;first | exact h1 _ rfl | exact h2 _ _ _ rfl | exact h3 _ _ _ rfl | exact h4 rfl | exact h5 _ _ _ _ rfl | exact h6 _ _ rfl | exact h7 _ rfl)
end Go.TM
