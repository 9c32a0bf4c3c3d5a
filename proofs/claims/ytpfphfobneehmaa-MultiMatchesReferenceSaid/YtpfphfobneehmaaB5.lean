/- When operations may be exchanged (III): what does not look at memory; what an operation zN as it was; two operations exchanged. -/
import Derived.Test.YtpfphfobneehmaaB4
import Derived.OrdersIn
set_option linter.all false
namespace Go.AM
open Go.RowKit
variable {P : Program} {A : FAn} {ev : Ev}
theorem loadAt_l {R:Type} {s:St} {h:AH} {k off n:Nat} {c:List Sc->Option R}:loadAt { s with h:=h } (.l k off) n c=loadAt s (.l k off) n c:=rfl
theorem load1_l {R:Type} {s:St} {h:AH} {k off:Nat} {c:Sc->Option R}:load1 { s with h:=h } (.l k off) c=load1 s (.l k off) c:=rfl
theorem onlyX_l {h:AH} {d:Tmp} {k o:Nat}:onlyX A h (.tmp d) (.l k o)=(onlyH A (.tmp d) (.l k o)&&onlyR A (.tmp d) (.l k o)&&(!(A.ldb.contains d)||false)):=rfl
theorem YW {s:St} {h:AH} {d:Tmp} {a:SV} {z:List Sc}:newLocal { s with h:=h } d a z={ newLocal s d a z with h:=h }:=rfl
theorem evOp_heap {R:Type} {s:St} {h:AH} {o:Oper} (hc:zb A o=.pure\/zb A o=.new) {c:St->Option R} :
  evOp P A ev o { s with h:=h } c=evOp P A ev o s fun s'=>c { s' with h:=h }:=by
 unfold evOp
 simp only [setK_eq,newLocalK_eq]
 unfold zb at hc
 split
 case h_1 y ho=>simp only [xZ,zA]
 case h_2 y ho=>simp only [xZ,zA]
 case h_3 q y z ho=>simp only [xZ,wb,zA]
 case h_4 e ho=>
  cases hdst:o.dst with
  | none=>rfl
  | some d'=>
   cases hl:A.loc.contains d' with
   | true=>simp only [Option.bind_some,hl,cond_true,YW]
   | false=>
    simp only [ho,hdst,hl,cond_false] at hc
    rcases hc with hc | hc<;>cases hc
 case h_5 e y ho=>
  cases hdst:o.dst with
  | none=>rfl
  | some d'=>
   cases hl:A.loc.contains d' with
   | true=>simp only [Option.bind_some,hl,cond_true,wb,YW]
   | false=>
    simp only [ho,hdst,hl,cond_false] at hc
    rcases hc with hc | hc<;>cases hc
 case h_6 t ps ho=>simp only [WF,zA]
 case h_7 t n ps ho=>
  cases hdst:o.dst with
  | none=>rfl
  | some d'=>
   cases hl:A.loc.contains d' with
   | true=>simp only [Option.bind_some,hl,cond_true,WF,YW]
   | false=>
    simp only [ho,hdst,hl,cond_false] at hc
    rcases hc with hc | hc<;>cases hc
 case h_8 t y ho=>
  rw [ho] at hc
  cases y with
  | tmp d=>
   have hl:A.loc.contains d=true:=by cases hl:A.loc.contains d<;>simp_all
   simp only [xZ]
   congr 1
   cases hv:evA s (.tmp d) with
   | none=>rfl
   | some v=>
    simp only [Option.bind_some,onlyL,hl,Bool.not_true,Bool.false_or]
    cases v<;>first | rfl | (simp only [loadAt_l,load1_l,zA,onlyX_l])
  | _=>simp at hc
 case h_9 t y z ho=>rw [ho] at hc;simp at hc
 case h_10 y ho=>
  simp only [xZ,zA]
 case h_11 op t y z t' ho=>simp only [wb,zA]
 case h_12 op t y ho=>simp only [wb,zA]
 case h_13 src dst y ho=>simp only [wb,zA]
 case h_14 f first captured ho=>simp only [Uv,zA]
 case h_15 t l m ho=>rw [ho] at hc;simp at hc
 case h_16 t y lo hi mx ho=>rw [ho] at hc;simp at hc
 case h_17 t y i ho=>simp only [xZ,zA]
 case h_18 t y i ho=>simp only [xZ,wb,zA]
 case h_19 y i ho=>simp only [xZ,zA]
 case h_20 b args ts ho=>
  rw [ho] at hc;simp only at hc
  cases b<;>(try (simp at hc;done))
  all_goals
   unfold builtinK
   split
   ·split<;>simp only [xZ,zA]
   ·simp only [wb,Uv,zA]
   ·simp only [wb,Uv,zA]
   ·rename_i heq _ _;cases heq
   ·rename_i heq _ _;cases heq
   ·rfl
 case h_21 f args ts ho=>rw [ho] at hc;simp at hc
 case h_22 t y i ho=>simp only [wb,zA]
 case h_23=>rfl
def yj (k:Nat) (s:St):Prop:=∀ (i:Nat) v,s.sl.get i=some v->isRef k v=false
theorem wn {s:St} {k:Nat} (hf:yj k s) {x:Operand} {v:SV} (h:evA s x=some v):isRef k v=false:=by
 cases x with
 | tmp t=>exact hf t v h
 | const c=>simp only [evA,Option.bind_eq_some_iff] at h;obtain ⟨y,_,h⟩:=h;cases h;rfl
 | func f=>simp only [evA] at h;cases h;rfl
 | global g=>cases h
def ZF (o:Oper) (s:St) (b:Bool) (s':St):Prop:=(∃ v h,s'=setSl { s with h:=h } o.dst v/\∀ k,yj k s->isRef k v=false)/\(b=true->s'.h=s.h)
theorem xj {o:Oper} {s s':St} {v:SV} {b:Bool} (hv:∀ k,yj k s->isRef k v=false) (h:some (setSl s o.dst v)=some s'):ZF o s b s':=by
 cases h
 exact ⟨⟨v,s.h,rfl,hv⟩,fun _=>zf _ _ _⟩
theorem zt {o:Oper} {s s':St} {v:SV} {b:Bool} (h:some (setSl s o.dst v)=some s') (hv:∀ k,isRef k v=false:=by intro _;rfl):ZF o s b s':=xj (fun k _=>hv k) h
theorem yr {o:Oper} {s s':St} {h:AH} {v:SV} (h':some (setSl { s with h:=h } o.dst v)=some s') (hv:∀ k,isRef k v=false:=by intro _;rfl):ZF o s false s':=by
 cases h'
 exact ⟨⟨v,h,rfl,fun k _=>hv k⟩,fun hb=>by cases hb⟩
theorem QG {R:Type} {s:St} {e:TypeId} {z:Nat} {x:Sc} {lo hi mx:Option Operand} {c:Sc->Option R} {r:R} (h:sliceS s e z x lo hi mx c=some r):∃ v,c v=some r:=by
 have:=VG c s e z x lo hi mx some
 simp only [Option.bind_some] at this
 rw [<- this] at h
 obtain ⟨v,_,h⟩:=oB h
 exact ⟨v,h⟩
theorem ontoK_to {R:Type} {A:FAn} {x:Operand} {v:SV} {c:Sc->Option R} {r:R} (h:ontoK A x v c=some r):∃ y,c y=some r:=by
 rcases Zz h with ⟨_,_,_,_,_,h⟩ | ⟨y,_,h⟩
 ·exact ⟨_,h⟩
 ·exact ⟨y,h⟩
theorem Qd {s s':St} {o:Oper} (hc:zb A o≠.loc) (hw:zb A o≠.new) (h:evOp P A ev o s some=some s'):ZF o s (decide (zb A o=.pure\/zb A o=.read)) s':=by
 unfold evOp at h
 simp only [setK_eq,newLocalK_eq] at h
 unfold zb at hc hw ⊢
 split at h
 case h_1 y ho=>obtain ⟨v,hv,h⟩:=oB h;exact xj (fun k hf=>wn hf hv) h
 case h_2 y ho=>obtain ⟨v,hv,h⟩:=oB h;exact xj (fun k hf=>wn hf hv) h
 case h_3 q y z ho=>
  obtain ⟨v,_,h⟩:=oB h
  obtain ⟨_,_,h⟩:=asSc_some.1 h
  obtain ⟨_,_,h⟩:=asB_some.1 h
  obtain ⟨v,h,hh⟩:=YZ h
  refine xj (fun k hf=>?_) h
  rcases hh with ⟨_,_,_,_,rfl⟩ | ⟨_,hx⟩ | ⟨_,hy⟩
  ·rfl
  ·exact wn hf hx
  ·exact wn hf hy
 case h_4 e ho=>
  rw [ho] at hw ⊢
  obtain ⟨d,hd,h⟩:=oB h
  obtain ⟨z,_,h⟩:=oB h
  obtain ⟨_,h⟩:=gB.1 h
  simp only [hd] at hw ⊢
  have hl:A.loc.contains d=false:=by cases hl:A.loc.contains d<;>simp_all
  rw [hl] at h ⊢
  exact yr h
 case h_5 e y ho=>
  rw [ho] at hw ⊢
  obtain ⟨d,hd,h⟩:=oB h
  obtain ⟨z,_,h⟩:=oB h
  obtain ⟨_,h⟩:=gB.1 h
  simp only [hd] at hw ⊢
  have hl:A.loc.contains d=false:=by cases hl:A.loc.contains d<;>simp_all
  rw [hl] at h ⊢
  exact yr h
 case h_6 t ps ho=>
  obtain ⟨_,_,h⟩:=oB h
  obtain ⟨_,_,h⟩:=oB h
  obtain ⟨_,_,h⟩:=oB h
  obtain ⟨_,_,h⟩:=oB h
  exact zt h
 case h_7 t n ps ho=>
  rw [ho] at hw ⊢
  obtain ⟨d,hd,h⟩:=oB h
  obtain ⟨z,_,h⟩:=oB h
  obtain ⟨z,_,h⟩:=oB h
  obtain ⟨_,h⟩:=gB.1 h
  obtain ⟨z,_,h⟩:=oB h
  obtain ⟨z,_,h⟩:=oB h
  simp only [hd] at hw ⊢
  have hl:A.loc.contains d=false:=by cases hl:A.loc.contains d<;>simp_all
  rw [hl] at h ⊢
  exact yr h
 case h_8 t y ho=>
  obtain ⟨_,h⟩:=gB.1 h
  obtain ⟨_,_,h⟩:=oB h
  obtain ⟨_,h⟩:=gB.1 h
  rcases cond_some.1 h with ⟨_,h⟩ | ⟨_,h⟩
  ·obtain ⟨l,_,h⟩:=zW h
   exact zt (zV (c:=fun ys=>some (setSl s o.dst (.v (.agg ys)))) h)
  ·obtain ⟨l,_,h⟩:=yt h
   exact zt (yi (c:=fun y=>some (setSl s o.dst (.v (.sc y)))) h)
 case h_9 t y z ho=>rw [ho] at hc;simp at hc
 case h_10 y ho=>
  obtain ⟨v,hv,h⟩:=oB h
  split at h
  ·exact xj (fun k hf=>wn hf hv) h
  ·obtain ⟨_,_,_,h⟩:=asP_some.1 h;exact zt h
  ·cases h
 case h_11 op t y z t' ho=>
  obtain ⟨_,_,h⟩:=oB h
  obtain ⟨_,_,h⟩:=oB h
  replace h:=(gB.1 h).2
  obtain ⟨_,_,h⟩:=oB h
  exact zt h
 case h_12 op t y ho=>
  obtain ⟨_,_,h⟩:=oB h
  obtain ⟨_,_,h⟩:=oB h
  exact zt h
 case h_13 src dst y ho=>
  obtain ⟨_,_,h⟩:=oB h
  split at h
  ·exact zt h
  ·cases h
 case h_14 f first captured ho=>
  obtain ⟨_,_,h⟩:=oB h
  obtain ⟨_,_,h⟩:=oB h
  exact zt h
 case h_15 t l m ho=>
  rw [ho]
  obtain ⟨_,_,h⟩:=oB h
  obtain ⟨_,_,h⟩:=oB h
  obtain ⟨_,_,h⟩:=oB h
  obtain ⟨_,_,h⟩:=oB h
  split at h
  ·obtain ⟨_,h⟩:=gB.1 h;exact yr h
  ·cases h
 case h_16 t y lo hi mx ho=>
  split at h
  ·obtain ⟨_,h⟩:=gB.1 h
   obtain ⟨_,_,h⟩:=oB h
   obtain ⟨_,_,h⟩:=asSc_some.1 h
   obtain ⟨v,h⟩:=QG h
   exact zt h
  ·obtain ⟨_,h⟩:=gB.1 h
   obtain ⟨_,_,h⟩:=oB h
   obtain ⟨_,_,h⟩:=asSc_some.1 h
   obtain ⟨_,_,_,h⟩:=asP_some.1 h
   obtain ⟨_,h⟩:=gB.1 h
   obtain ⟨v,h⟩:=QG h
   exact zt h
  ·cases h
 case h_17 t y i ho=>
  split at h
  ·obtain ⟨_,_,h⟩:=oB h
   obtain ⟨_,h⟩:=gB.1 h
   obtain ⟨p,hp,h⟩:=oB h
   unfold addAt at h
   split at h
   ·exact xj (fun k hf=>by have:=wn hf hp;exact this) h
   ·obtain ⟨_,_,_,h⟩:=asP_some.1 h;exact zt h
   ·cases h
  ·cases h
 case h_18 t y i ho=>
  split at h
  ·obtain ⟨_,h⟩:=gB.1 h
   obtain ⟨_,_,h⟩:=oB h
   obtain ⟨_,_,h⟩:=asSc_some.1 h
   obtain ⟨_,_,_,_,h⟩:=asS_some.1 h
   obtain ⟨_,_,h⟩:=oB h
   unfold idxI at h
   split at h
   ·obtain ⟨_,h⟩:=gB.1 h;exact zt h
   ·cases h
  ·obtain ⟨_,h⟩:=gB.1 h
   obtain ⟨p,hp,h⟩:=oB h
   obtain ⟨_,_,h⟩:=oB h
   unfold idxI at h
   split at h
   ·obtain ⟨_,h⟩:=gB.1 h
    unfold addAt at h
    split at h
    ·exact xj (fun k hf=>by have:=wn hf hp;exact this) h
    ·obtain ⟨_,_,_,h⟩:=asP_some.1 h;exact zt h
    ·cases h
   ·cases h
  ·cases h
 case h_19 y i ho=>
  obtain ⟨_,_,h⟩:=oB h
  split at h
  ·obtain ⟨_,_,h⟩:=oB h;exact zt h
  ·cases h
 case h_20 b args ts ho=>
  unfold builtinK at h
  split at h
  ·split at h
   ·obtain ⟨_,_,h⟩:=oB h
    unfold lenA at h
    split at h
    ·exact zt h
    ·obtain ⟨_,h⟩:=gB.1 h;exact zt h
    ·cases h
   ·exact zt h
   ·cases h
  ·obtain ⟨_,_,h⟩:=oB h
   obtain ⟨_,_,h⟩:=oB h
   obtain ⟨_,_,h⟩:=oB h
   exact zt h
  ·obtain ⟨_,_,h⟩:=oB h
   obtain ⟨_,_,h⟩:=oB h
   obtain ⟨_,_,h⟩:=oB h
   exact zt h
  ·rw [ho]
   obtain ⟨_,_,h⟩:=oB h
   obtain ⟨_,_,h⟩:=oB h
   obtain ⟨_,h⟩:=gB.1 h
   obtain ⟨_,_,h⟩:=oB h
   have h:=ontoK_to h
   obtain ⟨_,h⟩:=h
   obtain ⟨y,_,h⟩:=oB h
   have l1:∀ {c:Nat->Option St} {r:St},lenA y c=some r->∃ n,c n=some r:=by
    intro c r h;unfold lenA at h;split at h
    ·exact ⟨_,h⟩
    ·exact ⟨_,(gB.1 h).2⟩
    ·cases h
   obtain ⟨n,h⟩:=l1 h
   have l2:∀ {m z:Nat} {c:List Sc->Option St} {r:St},firstA s y m z c=some r->∃ n,c n=some r:=by
    intro m z c r h;rw [yJ] at h;split at h
    ·simp only [Option.bind_eq_some_iff] at h;obtain ⟨_,_,_,_,l,_,h⟩:=h;exact ⟨_,h⟩
    ·split at h
     ·exact ⟨_,(gB.1 h).2⟩
     ·obtain ⟨_,_,_,_,h⟩:=asS_some.1 h;obtain ⟨l,_,h⟩:=oB h;exact ⟨_,h⟩
    ·cases h
   obtain ⟨new,h⟩:=l2 h
   unfold appendS at h
   split at h
   ·obtain ⟨_,h⟩:=gB.1 h;exact yr h
   ·split at h
    ·obtain ⟨_,h⟩:=gB.1 h;exact yr h
    ·obtain ⟨_,_,h⟩:=oB h
     split at h
     ·obtain ⟨_,h⟩:=gB.1 h;exact yr h
     ·cases h
    ·cases h
  ·rw [ho]
   obtain ⟨_,_,h⟩:=oB h
   obtain ⟨_,h⟩:=gB.1 h
   obtain ⟨_,_,h⟩:=oB h
   obtain ⟨_,_,h⟩:=asSc_some.1 h
   obtain ⟨y,_,h⟩:=oB h
   have l1:∀ {c:Nat->Option St} {r:St},lenA y c=some r->∃ n,c n=some r:=by
    intro c r h;unfold lenA at h;split at h
    ·exact ⟨_,h⟩
    ·exact ⟨_,(gB.1 h).2⟩
    ·cases h
   obtain ⟨n,h⟩:=l1 h
   obtain ⟨_,h⟩:=gB.1 h
   have l2:∀ {m z:Nat} {c:List Sc->Option St} {r:St},firstA s y m z c=some r->∃ n,c n=some r:=by
    intro m z c r h;rw [yJ] at h;split at h
    ·simp only [Option.bind_eq_some_iff] at h;obtain ⟨_,_,_,_,l,_,h⟩:=h;exact ⟨_,h⟩
    ·split at h
     ·exact ⟨_,(gB.1 h).2⟩
     ·obtain ⟨_,_,_,_,h⟩:=asS_some.1 h;obtain ⟨l,_,h⟩:=oB h;exact ⟨_,h⟩
    ·cases h
   obtain ⟨new,h⟩:=l2 h
   rcases cond_some.1 h with ⟨_,h⟩ | ⟨_,h⟩
   ·exact yr (h:=s.h) h
   ·obtain ⟨_,_,_,_,h⟩:=asS_some.1 h
    rw [Tb] at h
    obtain ⟨_,_,h⟩:=oB h
    exact yr h
  ·cases h
 case h_21 f args ts ho=>
  rw [ho]
  obtain ⟨_,_,h⟩:=oB h
  obtain ⟨_,_,h⟩:=asSc_some.1 h
  obtain ⟨_,_,_,_,_,h⟩:=asF_some.1 h
  obtain ⟨_,_,h⟩:=oB h
  obtain ⟨_,_,h⟩:=oB h
  have tl:∀ {rs:List AV} {h2:AH},typed P o.type rs (fun v=>some (setSl { s with h:=h2 } o.dst v))=some s'->ZF o s false s':=by
   intro rs h2 h
   unfold typed at h
   split at h
   ·replace h:=Zt (c:=fun ys=>guardB (!(Nat.beq ys.length 1)) (some (setSl { s with h:=h2 } o.dst (.t ys)))) h
    exact yr (gB.1 h).2
   ·obtain ⟨_,_,_,h⟩:=asC_some.1 h
    obtain ⟨_,h⟩:=asN_some.1 h
    exact yr (Zb (c:=fun y=>some (setSl { s with h:=h2 } o.dst (.v y))) h)
  unfold callK at h
  split at h
  ·replace h:=(gB.1 h).2
   rcases cond_some.1 h with ⟨_,h⟩ | ⟨_,h⟩
   ·split at h
    ·exact tl (gB.1 (gB.1 h).2).2
    ·obtain ⟨_,_,h⟩:=oB h
     obtain ⟨_,h⟩:=gB.1 h
     exact tl h
   ·obtain ⟨_,_,h⟩:=oB h
    exact tl h
  ·replace h:=(gB.1 h).2
   obtain ⟨_,_,h⟩:=oB h
   exact tl h
  ·cases h
 case h_22 t y i ho=>
  rw [ho]
  obtain ⟨_,_,h⟩:=oB h
  obtain ⟨_,_,h⟩:=oB h
  split at h
  ·obtain ⟨_,h⟩:=gB.1 h
   obtain ⟨_,_,h⟩:=oB h
   exact zt h
  ·cases h
 case h_23=>cases h
theorem evOp_new {s s':St} {o:Oper} (hc:zb A o=.new) (h:evOp P A ev o s some=some s'):∃ d a z,o.dst=some d/\s'=newLocal s d a z/\∀ k,k≠d->isRef k a=false/\killL k a=a:=by
 have kl:∀ (d k:Nat),k≠d->∀ n,(isRef k (.l d n)=false/\killL k (.l d n)=.l d n)/\(isRef k (.s d n)=false/\killL k (.s d n)=.s d n):=by
  intro d k hk n
  have hb:Nat.beq d k=false:=by cases hb:Nat.beq d k;rfl;exact absurd (Nat.eq_of_beq_eq_true hb).symm hk
  simp [isRef,killL,hb]
 unfold evOp at h
 simp only [setK_eq,newLocalK_eq] at h
 unfold zb at hc
 split at h
 case h_4 e ho=>
  obtain ⟨d,hd,h⟩:=oB h
  obtain ⟨z,_,h⟩:=oB h
  obtain ⟨_,h⟩:=gB.1 h
  have hl:A.loc.contains d=true:=by cases hl:A.loc.contains d<;>simp_all
  rw [hl] at h
  cases h
  exact ⟨d,_,_,hd,rfl,fun k hk=>(kl d k hk _).1⟩
 case h_5 e y ho=>
  obtain ⟨d,hd,h⟩:=oB h
  obtain ⟨z,_,h⟩:=oB h
  obtain ⟨_,h⟩:=gB.1 h
  have hl:A.loc.contains d=true:=by cases hl:A.loc.contains d<;>simp_all
  rw [hl] at h
  cases h
  exact ⟨d,_,_,hd,rfl,fun k hk=>(kl d k hk _).1⟩
 case h_7 t n ps ho=>
  obtain ⟨d,hd,h⟩:=oB h
  obtain ⟨z,_,h⟩:=oB h
  obtain ⟨z,_,h⟩:=oB h
  obtain ⟨_,h⟩:=gB.1 h
  obtain ⟨z,_,h⟩:=oB h
  obtain ⟨z,_,h⟩:=oB h
  have hl:A.loc.contains d=true:=by cases hl:A.loc.contains d<;>simp_all
  rw [hl] at h
  cases h
  exact ⟨d,_,_,hd,rfl,fun k hk=>(kl d k hk _).2⟩
 case h_8 t y ho=>
  rw [ho] at hc
  cases y with
  | tmp d=>simp only at hc;cases hl:A.loc.contains d<;>rw [hl] at hc<;>cases hc
  | _=>simp at hc
 case h_20 b args ts ho=>
  rw [ho] at hc
  cases b<;>simp at hc
 all_goals simp_all
variable {P : Program} {A : FAn} {ev : Ev}
noncomputable def zy (s:St) (k:Nat) (c:Option (List Sc)):St:={ s with lo:=s.lo.set k c }
@[simp] theorem xt (s:St) (k:Nat) (c:Option (List Sc)):(zy s k c).h=s.h:=rfl
theorem putLo_sl (s:St) (k:Nat) (c:Option (List Sc)):(zy s k c).sl=s.sl:=rfl
theorem yz (s:St) (k:Nat) (c:Option (List Sc)) (x:Operand):evA (zy s k c) x=evA s x:=by cases x<;>rfl
theorem zF (s:St) (k:Nat) (c:Option (List Sc)) (x:Operand):evV (zy s k c) x=evV s x:=by simp only [evV,yz]
theorem wD (s:St) (k:Nat) (c:Option (List Sc)):∀ (x:List Operand),evVs (zy s k c) x=evVs s x
 | []=>rfl
 | x::xs=>by simp only [evVs,zF,wD s k c xs]
theorem Zp (s:St) (k:Nat) (c:Option (List Sc)):∀ (x:List (Nat×Operand)),evParts (zy s k c) x=evParts s x
 | []=>rfl
 | (i,x)::xs=>by simp only [evParts,zF,Zp s k c xs]
theorem zk (s:St) (k:Nat) (c:Option (List Sc)) (d:Option Tmp) (v:SV):setSl (zy s k c) d v=zy (setSl s d v) k c:=by cases d<;>rfl
theorem xn (s:St) (k:Nat) (c:Option (List Sc)) (h:AH):{ zy s k c with h:=h }=zy { s with h:=h } k c:=rfl
theorem wV {s:St} {k d:Nat} (hd:d≠k) {c:Option (List Sc)} {a:SV} {z:List Sc}:newLocal (zy s k c) d a z=zy (newLocal s d a z) k c:=by
 simp only [newLocal,zy,Tr.set_comm hd]
theorem beq_ne {k j:Nat} (h:Nat.beq j k=false):k≠j:=fun e=>by subst e;simp at h
theorem loadAt_putLo {R:Type} {s:St} {k n:Nat} {c:Option (List Sc)} {a:SV} (h:isRef k a=false) {f:List Sc->Option R}:loadAt (zy s k c) a n f=loadAt s a n f:=by
 cases a with
 | l j o=>simp only [loadAt,zy,Tr.get_set_ne _ (beq_ne h)]
 | v x=>cases x<;>rfl
 | _=>rfl
theorem load1_putLo {R:Type} {s:St} {k:Nat} {c:Option (List Sc)} {a:SV} (h:isRef k a=false) {f:Sc->Option R}:load1 (zy s k c) a f=load1 s a f:=by
 cases a with
 | l j o=>simp only [load1,zy,Tr.get_set_ne _ (beq_ne h)]
 | v x=>cases x<;>rfl
 | _=>rfl
theorem WK {R:Type} {s:St} {k n z:Nat} {c:Option (List Sc)} {a:SV} (h:isRef k a=false) {f:List Sc->Option R}:firstA (zy s k c) a n z f=firstA s a n z f:=by
 cases a with
 | s j o=>simp only [firstA,zy,Tr.get_set_ne _ (beq_ne h)]
 | v x=>cases x with
  | sc x=>cases n<;>rfl
  | agg l=>rfl
 | _=>rfl
theorem boundI_putLo {R:Type} {s:St} {k n:Nat} {c:Option (List Sc)} {x:Option Operand} {f:Nat->Option R}:boundI (zy s k c) x n f=boundI s x n f:=by
 cases x with
 | none=>rfl
 | some x=>simp only [boundI,zF]
theorem sliceS_putLo {R:Type} {s:St} {k z:Nat} {c:Option (List Sc)} {e:TypeId} {v:Sc} {lo hi mx:Option Operand} {f:Sc->Option R}:sliceS (zy s k c) e z v lo hi mx f=sliceS s e z v lo hi mx f:=by
 simp only [sliceS,boundI_putLo,xt]
theorem VP {R:Type} {s:St} {k:Nat} (hf:yj k s) {x:Operand} {f g:SV->Option R} (h:∀ v,isRef k v=false->f v=g v):(evA s x).bind f=(evA s x).bind g:=by
 cases hx:evA s x with
 | none=>rfl
 | some v=>exact h v (wn hf hx)
theorem Tj {R:Type} {s:St} {k:Nat} (hf:yj k s) {cl:Option (List Sc)} {b:Builtin} {ts:List TypeId} {args:List Operand} {c:SV->St->Option R} :
  builtinK P A b ts args (zy s k cl) c=builtinK P A b ts args s fun v s'=>c v (zy s' k cl):=by
 unfold builtinK
 split
 ·split
  ·simp only [yz]
  ·rfl
  ·rfl
 ·simp only [zF,wD]
 ·simp only [zF,wD]
 ·simp only [zF,yz,xt,xn]
  congr 1;funext e;congr 1;funext z;congr 1;congr 1;funext xv;congr 1;funext xs
  exact VP hf fun v hv=>by simp only [WK hv]
 ·simp only [zF,yz,xt,xn]
  congr 1;funext e;congr 1;congr 1;funext xv;congr 1;funext xs
  exact VP hf fun v hv=>by simp only [WK hv]
 ·rfl
theorem evOp_putLo {R:Type} {s:St} {k:Nat} (hf:yj k s) {cl:Option (List Sc)} {o:Oper} (hc:zb A o≠.loc) (hd:o.dst≠some k) {c:St->Option R} :
  evOp P A ev o (zy s k cl) c=evOp P A ev o s fun s'=>c (zy s' k cl):=by
 unfold evOp
 simp only [setK_eq,newLocalK_eq]
 split
 case h_1 y ho=>simp only [yz,zk]
 case h_2 y ho=>simp only [yz,zk]
 case h_3 q y z ho=>simp only [yz,zF,zk]
 case h_4 e ho=>
  cases hdst:o.dst with
  | none=>rfl
  | some d'=>
   have hne:d'≠k:=fun e=>hd (by rw [hdst,e])
   simp only [Option.bind_some,xt,xn,wV hne,zk]
 case h_5 e y ho=>
  cases hdst:o.dst with
  | none=>rfl
  | some d'=>
   have hne:d'≠k:=fun e=>hd (by rw [hdst,e])
   simp only [Option.bind_some,zF,xt,xn,wV hne,zk]
 case h_6 t ps ho=>simp only [Zp,zk]
 case h_7 t n ps ho=>
  cases hdst:o.dst with
  | none=>rfl
  | some d'=>
   have hne:d'≠k:=fun e=>hd (by rw [hdst,e])
   simp only [Option.bind_some,Zp,xt,xn,wV hne,zk]
 case h_8 t y ho=>
  simp only [yz]
  congr 1
  exact VP hf fun v hv=>by simp only [loadAt_putLo hv,load1_putLo hv,zk,xt]
 case h_9 t y z ho=>unfold zb at hc;rw [ho] at hc;simp at hc
 case h_10 y ho=>simp only [yz,zk]
 case h_11 op t y z t' ho=>simp only [zF,zk]
 case h_12 op t y ho=>simp only [zF,zk]
 case h_13 src dst y ho=>simp only [zF,zk]
 case h_14 f first captured ho=>simp only [wD,zk]
 case h_15 t l m ho=>simp only [zF,xt,xn,zk]
 case h_16 t y lo hi mx ho=>simp only [zF,sliceS_putLo,xt,zk]
 case h_17 t y i ho=>simp only [yz,zk]
 case h_18 t y i ho=>simp only [yz,zF,zk]
 case h_19 y i ho=>simp only [yz,zk]
 case h_20 b args ts ho=>rw [Tj hf];simp only [zk]
 case h_21 f args ts ho=>simp only [zF,wD,xt,xn,zk]
 case h_22 t x i ho=>simp only [zF,zk]
 case h_23=>rfl
section
variable {P : Program} {A : FAn} {ev : Ev} {ops : Array Oper}
noncomputable def za (P:Program) (A:FAn) (ev:Ev) (ops:Array Oper) (o:Oper) (s:St):Option St:=
 match o.guard with
 | none=>evOp P A ev o s some
 | some (j,w)=>((ops[j]?).bind (·.dst)).bind fun d=>(s.sl.get d).bind fun g=>match g with
  | .v (.sc (.bool t))=>if t=w then evOp P A ev o s some else some (setSl s o.dst .no)
  | .no=>some (setSl s o.dst .no)
  | _=>none
theorem set_same {α:Type} {l:List α} {i:Nat} {x:α} (h:l[i]?=some x):l.set i x=l:=by
 apply List.ext_getElem?
 intro j
 by_cases e:i=j
 ·subst e;rw [List.getElem?_set_self (List.getElem?_eq_some_iff.1 h).1,h]
 ·rw [List.getElem?_set_ne e]
theorem Yj {R:Type} (o:Oper) (s:St) (c:St->Option R):evOp P A ev o s c=(evOp P A ev o s some).bind c:=by
 rw [evOp_bind];rfl
theorem evOps_cons {R:Type} {o:Oper} {r:List Oper} {s:St} {c:St->Option R}:evOps P A ev ops (o::r) s c=(za P A ev ops o s).bind fun s=>evOps P A ev ops r s c:=by
 cases hg:o.guard with
 | none=>simp only [evOps,za,hg];rw [Yj]
 | some p=>
  obtain ⟨j,w⟩:=p
  simp only [evOps,za,hg,setK_eq]
  cases hd:(ops[j]?).bind (·.dst) with
  | none=>simp
  | some d=>
   simp only [Option.bind_some]
   cases hg2:s.sl.get d with
   | none=>simp
   | some g=>
    simp only [Option.bind_some]
    split
    ·rename_i t
     have hs:∀ t',t=t'->setSl s (some d) (.v (.sc (.bool t')))=s:=fun t' ht=>by subst ht;simp only [setSl];rw [Tr.set_same hg2]
     cases w<;>cases t<;>simp [hs _ rfl,<- Yj]
    ·rfl
    ·split<;>simp_all
noncomputable def zq (P:Program) (A:FAn) (ev:Ev) (ops:Array Oper):List Nat->St->Option St
 | [],s=>some s
 | i::r,s=>((ops[i]?).map fun o=>za P A ev ops o s).getD (some s) |>.bind (zq P A ev ops r)
theorem Qe {R:Type} {c:St->Option R}:∀ (l:List Oper) (k:Nat),(∀ j,j < l.length->l[j]?=ops[k+j]?)->∀ s,evOps P A ev ops l s c=(zq P A ev ops (List.range' k l.length) s).bind c
 | [],_,_,s=>rfl
 | o::l,k,h,s=>by
  have h0:ops[k]?=some o:=by simpa using (h 0 (by simp)).symm
  have ih:=Qe (c:=c) l (k+1) (fun j hj=>by have:=h (j+1) (by simp;exact hj);simpa [Nat.add_assoc,Nat.add_comm 1 j] using this)
  rw [evOps_cons]
  simp only [List.length_cons,List.range'_succ,zq,h0,Option.map_some,Option.getD_some,Option.bind_assoc]
  congr 1;funext s;exact ih s
theorem yX {R:Type} {c:St->Option R} (s:St):evOps P A ev ops ops.toList s c=(zq P A ev ops (List.range ops.size) s).bind c:=by
 rw [Qe ops.toList 0 (fun j hj=>by simp)]
 simp [List.range_eq_range']
end
variable {P : Program} {A : FAn} {ev : Ev} {B : Nat} {Ie : List Loc} {he : AH} {we : World} {I : List Loc} {lam : Nat -> Nat} {s : St} {a : Act} {w : World} {ops : Array Oper}
theorem one_in (hN:yc P=true) (hor:wX P B A) (hev:Zn P B ev) (r:Rel P B Ie he we I lam s a w) {i:Nat} {o:Oper} (hi:ops[i]?=some o) {s':St} (h:za P A ev ops o s=some s')
  {ro:Option Nat} {K:Act->World->Prop} {Q:Exit->Act->World->Prop} (hn:wr P B Ie he we a s' K):wpOpIn (FW ro) 0 P ops Q i K a w:=by
 unfold wpOpIn
 simp only [hi]
 unfold za at h
 have skip:Region.wanted o (yielded ops a.tmps)=false->some (setSl s o.dst .no)=some s'->(if Region.wanted o (yielded ops a.tmps)=true then o.wpIn (FW ro) 0 P a w K Q else (∀ f,o.about P w a.eval=some f->(FW ro).fn f)/\K (a.put o.dst undef) w):=by
  intro hw hs
  cases hs
  simp only [hw,Bool.false_eq_true,if_false]
  exact ⟨fun _ _=>trivial,hn I lam _ w (r.put o.dst rfl) (Zy _ _ _)⟩
 have take:Region.wanted o (yielded ops a.tmps)=true->evOp P A ev o s some=some s'->(if Region.wanted o (yielded ops a.tmps)=true then o.wpIn (FW ro) 0 P a w K Q else (∀ f,o.about P w a.eval=some f->(FW ro).fn f)/\K (a.put o.dst undef) w):=by
  intro hw hs
  simp only [hw,if_true]
  exact op_in hN hor hev r hs hn
 split at h
 ·rename_i hg
  exact take (by simp [Region.wanted,hg]) h
 ·rename_i j want hg
  obtain ⟨d,hd,h⟩:=oB h
  obtain ⟨g,hgs,h⟩:=oB h
  obtain ⟨x,hx,hr⟩:=r.tm d g hgs
  split at h
  ·rename_i t
   have hx':x=.bool t:=hr
   have hy:Region.wanted o (yielded ops a.tmps)=decide (t=want):=by
    simp only [Region.wanted,hg,yielded,hd,Option.bind_some,hx,hx']
    cases t<;>cases want<;>rfl
   split at h
   ·rename_i ht;exact take (by rw [hy,ht];simp) h
   ·rename_i ht;exact skip (by rw [hy];simpa using ht) h
  ·have hx':x=undef:=hr
   refine skip ?_ h
   simp only [Region.wanted,hg,yielded,hd,Option.bind_some,hx,hx']
   rfl
  ·cases h
theorem idx_in (hN:yc P=true) (hor:wX P B A) (hev:Zn P B ev) {ro:Option Nat} {Q:Exit->Act->World->Prop}:∀ (l:List Nat) {I:List Loc} {lam:Nat->Nat} {s:St} {a:Act} {w:World},Rel P B Ie he we I lam s a w->∀ {s':St},zq P A ev ops l s=some s'->
  wr P B Ie he we a s' (Q .normal)->wpOpsIn (FW ro) 0 P ops Q l a w
 | [],I,lam,s,a,w,r,s',h,hn=>by cases h;exact hn _ _ _ _ r rfl
 | i::l,I,lam,s,a,w,r,s',h,hn=>by
  rw [wpOpsIn_cons]
  simp only [zq] at h
  cases hi:ops[i]? with
  | none=>
   rw [hi] at h
   unfold wpOpIn
   simp only [hi]
   exact idx_in hN hor hev l r h hn
  | some o=>
   rw [hi] at h
   obtain ⟨s1,h1,h⟩:=oB h
   refine one_in hN hor hev r hi h1 fun I' lam' a' w' r' hd=>?_
   exact idx_in hN hor hev l r' h fun I2 l2 a2 w2 r2 hd2=>hn I2 l2 a2 w2 r2 (hd2.trans hd)
variable {P : Program} {A : FAn} {ev : Ev} {ops : Array Oper}
inductive Kd where
 | slots | ldL (k:Nat) | ldH | ldB | stL (k:Nat) | stH | alloc | ro | call | app | other
def zJ (A:FAn) (o:Oper):Kd:=
 match o.op with
 | .move _ | .assign _ | .build _ _ | .nilCheck _ | .binOp _ _ _ _ _ | .unOp _ _ _ | .fieldAddr _ _ _ | .indexAddr _ _ _ | .extract _ _=>.slots
 | .load _ x=>match rootOf A x with
  | some k=>.ldL k
  | none=>match x with
   | .tmp d=>cond (A.ldb.contains d) .ldB (cond (A.hst.contains d) .ldH .other)
   | _=>.other
 | .store _ x _=>match rootOf A x with
  | some k=>.stL k
  | none=>match x with
   | .tmp d=>cond (A.hst.contains d) .stH .other
   | _=>.other
 | .buildSlice _ _ _=>match o.dst with | some d=>cond (A.loc.contains d) .other .alloc | none=>.other
 | .makeSlice _ _ _=>.alloc
 | .call { callee:=.builtin .append,.. }=>.app
 | .call { callee:=.value (.func f),.. }=>cond (A.ro.contains f) .ro .call
 | .call { callee:=.value _,.. }=>.call
 | _=>.other
def xU:Kd->Kd->Bool
 | .other,_=>false
 | _,.other=>false
 | .slots,_=>true
 | _,.slots=>true
 | .ldL k,.stL j=>!(Nat.beq k j)
 | .ldL _,_=>true
 | .stL k,.ldL j=>!(Nat.beq k j)
 | .stL k,.stL j=>!(Nat.beq k j)
 | _,.ldL _=>true
 | .stL _,.app=>false
 | .app,.stL _=>false
 | .stL _,_=>true
 | _,.stL _=>true
 | .ldH,.ldH | .ldH,.ldB | .ldB,.ldH | .ldB,.ldB | .ldH,.ro | .ldB,.ro | .ro,.ldH | .ro,.ldB | .ro,.ro=>true
 | .ldH,.alloc | .ldB,.alloc | .ldB,.app=>true
 | _,_=>false
def kdOk (A:FAn) (ops:Array Oper) (x y:Oper):Bool:=xU (zJ A x) (zJ A y)&&x.apart ops y
def Sees (ops:Array Oper) (o:Oper) (s s2:St):Prop:=∀ d∈o.looksAt ops,s2.sl.get d=s.sl.get d
def yk (o:Oper) (s s2:St):Prop:=∀ x∈o.op.operands.toList,evA s2 x=evA s x
theorem Sees.opd {o:Oper} {s s2:St} (h:Sees ops o s s2):yk o s s2:=fun x hx=>by
 cases x with
 | tmp t=>exact h t (List.mem_append_left _ (List.mem_filterMap.2 ⟨.tmp t,hx,rfl⟩))
 | _=>rfl
theorem sees_set {o:Oper} {s:St} {d:Option Tmp} {v:SV} {lo:Tr (Option (List Sc))} {h:AH} (hd:∀ t,d=some t->t ∉ o.looksAt ops):Sees ops o (setSl { s with lo:=lo,h:=h } d v) s:=fun t ht=>by
 cases d with
 | none=>rfl
 | some d=>simp only [setSl];rw [Tr.get_set_ne _ (fun e=>hd d rfl (by rw [e];exact ht))]
theorem sees_set' {o:Oper} {s:St} {d:Option Tmp} {v:SV} {lo:Tr (Option (List Sc))} {h:AH} (hd:∀ t,d=some t->t ∉ o.looksAt ops):Sees ops o s (setSl { s with lo:=lo,h:=h } d v):=fun t ht=>(sees_set hd t ht).symm
theorem xy {s s2:St} {x:Operand} (h:evA s2 x=evA s x):evV s2 x=evV s x:=by unfold evV;rw [h]
theorem evVs_of {s s2:St}:∀ {l:List Operand},(∀ x∈l,evA s2 x=evA s x)->evVs s2 l=evVs s l
 | [],_=>rfl
 | x::r,h=>by simp only [evVs,xy (h x (List.mem_cons_self ..)),evVs_of fun y hy=>h y (List.mem_cons_of_mem _ hy)]
theorem YI {s s2:St}:∀ {l:List (Nat×Operand)},(∀ x∈l,evA s2 x.2=evA s x.2)->evParts s2 l=evParts s l
 | [],_=>rfl
 | (i,x)::r,h=>by simp only [evParts,xy (h (i,x) (List.mem_cons_self ..)),YI fun y hy=>h y (List.mem_cons_of_mem _ hy)]
structure Does (E:St->Option St) (S:St->Prop) (o:Oper) (s t:St) (RL:Tr (Option (List Sc))->Prop) (RH:AH->Prop) (L:Tr (Option (List Sc))->Tr (Option (List Sc))) (H:AH->AH) (v:Nat->SV):Prop where
 eq:t=setSl { s with lo:=L s.lo,h:=H s.h } o.dst (v s.h.length)
 again:∀ s2,S s2->RL s2.lo->RH s2.h->E s2=some (setSl { s2 with lo:=L s2.lo,h:=H s2.h } o.dst (v s2.h.length))
def Eff (E:St->Option St) (S:St->Prop) (o:Oper) (s t:St) (kd:Kd):Prop:=∃ (v:SV) (f:Nat->SV) (h':AH) (cs:List Sc),match kd with
 | .slots=>True/\Does E S o s t (fun _=>True) (fun _=>True) id id fun _=>v
 | .ldL k=>True/\Does E S o s t (fun l=>l.get k=s.lo.get k) (fun _=>True) id id fun _=>v
 | .ldH=>True/\Does E S o s t (fun _=>True) (fun (h:AH)=>∀ (id:Nat) (ob:AO),s.h[id]?=some ob->h[id]?=some ob) id id fun _=>v
 | .ldB=>True/\Does E S o s t (fun _=>True) (fun (h:AH)=>∀ (id:Nat),boxOk s.h id=true->h[id]?=s.h[id]?) id id fun _=>v
 | .stL k=>True/\Does E S o s t (fun l=>l.get k=s.lo.get k) (fun _=>True) (fun l=>l.set k (some cs)) id fun _=>v
 | .stH=>True/\Does E S o s t (fun _=>True) (fun h=>h=s.h) id (fun _=>h') fun _=>v
 | .alloc=>True/\Does E S o s t (fun _=>True) (fun _=>True) id (fun h=>h++h') f
 | .ro=>True/\Does E S o s t (fun _=>True) (fun h=>h=s.h) id id fun _=>v
 | .call=>True/\Does E S o s t (fun _=>True) (fun h=>h=s.h) id (fun _=>h') fun _=>v
 | .app=>(∀ id,boxOk s.h id=true->h'[id]?=s.h[id]?)/\Does E S o s t (fun l=>l=s.lo) (fun h=>h=s.h) id (fun _=>h') fun _=>v
 | .other=>False
theorem Eff.imp {E E':St->Option St} {S S':St->Prop} {o:Oper} {s t:St} (h:∀ s2,S' s2->S s2/\E' s2=E s2) {kd:Kd} (e:Eff E S o s t kd):Eff E' S' o s t kd:=by
 have g:∀ {RL RH L H v},Does E S o s t RL RH L H v->Does E' S' o s t RL RH L H v:=fun d=>⟨d.eq,fun s2 h1 h2 h3=>by rw [(h s2 h1).2];exact d.again s2 (h s2 h1).1 h2 h3⟩
 obtain ⟨a,b,c,d,e⟩:=e
 refine ⟨a,b,c,d,?_⟩
 cases kd<;>first | exact ⟨e.1,g e.2⟩ | exact e
theorem swap_core {x y:Oper} {s s1 s2:St} {RLx RLy:Tr (Option (List Sc))->Prop} {RHx RHy:AH->Prop} {Lx Ly:Tr (Option (List Sc))->Tr (Option (List Sc))} {Hx Hy:AH->AH} {vx vy:Nat->SV}
  (hap:x.apart ops y=true) (dx:Does (za P A ev ops x) (Sees ops x s) x s s1 RLx RHx Lx Hx vx) (dy:Does (za P A ev ops y) (Sees ops y s1) y s1 s2 RLy RHy Ly Hy vy)
  (c1:RLy s.lo) (c2:RHy s.h) (c3:RLx (Ly s.lo)) (c4:RHx (Hy s.h)) (c5:Lx (Ly s.lo)=Ly (Lx s.lo)) (c6:Hx (Hy s.h)=Hy (Hx s.h)) (c7:vx (Hy s.h).length=vx s.h.length) (c8:vy s.h.length=vy (Hx s.h).length) :
  ∃ t,za P A ev ops y s=some t/\za P A ev ops x t=some s2:=by
 obtain ⟨a1,a2,a3⟩:=Oper.apart_spec hap
 have e1:=dx.eq
 have e2:=dy.eq
 have sl:∀ (s:St) (d:Option Tmp) (v:SV),(setSl s d v).lo=s.lo/\(setSl s d v).h=s.h:=fun s d v=>by cases d<;>exact ⟨rfl,rfl⟩
 have r1:=dy.again s (by rw [e1];exact sees_set a1) c1 c2
 refine ⟨_,r1,?_⟩
 rw [dx.again _ (sees_set' a3) (by rw [(sl _ _ _).1];exact c3) (by rw [(sl _ _ _).2];exact c4),e2,e1]
 congr 1
 have g:∀ (d e:Option Tmp) (u v:SV) (l1 l2:Tr (Option (List Sc))) (h1 h2:AH),setSl { setSl { s with lo:=l1,h:=h1 } d u with lo:=l2,h:=h2 } e v=setSl (setSl { s with lo:=l2,h:=h2 } d u) e v:=fun d e u v l1 l2 h1 h2=>by cases d<;>cases e<;>rfl
 refine (g y.dst x.dst (vy s.h.length) _ (Ly s.lo) _ (Hy s.h) _).trans (Eq.trans ?_ (g x.dst y.dst (vx s.h.length) _ (Lx s.lo) _ (Hx s.h) _).symm)
 simp only [xH,zf,c5,c6,c7,<- c8]
 exact zC (fun t ht hx=>a2 t hx ht)
theorem Vy {x y:Oper} {s s1 s2:St} {kx ky:Kd} (hk:xU kx ky=true) (hap:x.apart ops y=true) (ex:Eff (za P A ev ops x) (Sees ops x s) x s s1 kx) (ey:Eff (za P A ev ops y) (Sees ops y s1) y s1 s2 ky):∃ t,za P A ev ops y s=some t/\za P A ev ops x t=some s2:=by
 have lo1:∀ {RL RH L H v},Does (za P A ev ops x) (Sees ops x s) x s s1 RL RH L H v->s1.lo=L s.lo:=fun d=>by rw [d.eq,xH]
 have h1:∀ {RL RH L H v},Does (za P A ev ops x) (Sees ops x s) x s s1 RL RH L H v->s1.h=H s.h:=fun d=>by rw [d.eq,zf]
 have ne:∀ {k j:Nat},(!(Nat.beq k j))=true->k≠j:=fun h e=>by subst e;simp at h
 obtain ⟨_,_,_,_,ex⟩:=ex
 obtain ⟨_,_,_,_,ey⟩:=ey
 cases kx<;>cases ky<;>first
  | (exfalso;revert hk;simp [xU];done)
  | (obtain ⟨_,dx⟩:=ex
     obtain ⟨q,dy⟩:=ey
     have l:=lo1 dx
     have g:=h1 dx
     simp only [id] at l g
     refine swap_core hap dx dy ?_ ?_ ?_ ?_ ?_ ?_ ?_ ?_<;>first
      | trivial
      | rfl
      | (simp only [l,g,id];done)
      | (rw [g];done)
      | (rw [l];done)
      | (intro _ _ h;exact h)
      | (intro _ _ h;rw [g] at h;exact h)
      | (intro _ _;rw [g];done)
      | (intro _ _ h;exact (List.getElem?_append_left (List.getElem?_eq_some_iff.1 h).1).trans h)
      | (intro _ _;rfl)
      | (rw [g] at q;exact q)
      | (intro id hb;exact List.getElem?_append_left (by
        unfold boxOk at hb
        cases hq:s.h[id]? with
        | none=>rw [hq] at hb;cases hb
        | some o=>exact (List.getElem?_eq_some_iff.1 hq).1))
      | (simp only [xU] at hk;first | exact Tr.get_set_ne _ (ne hk) _ | exact Tr.get_set_ne _ (Ne.symm (ne hk)) _ | exact (Tr.get_set_ne _ (ne hk) _).symm | exact (Tr.get_set_ne _ (Ne.symm (ne hk)) _).symm | (rw [l];exact Tr.get_set_ne _ (ne hk) _) | (rw [l];exact (Tr.get_set_ne _ (ne hk) _).symm) | exact Tr.set_comm (ne hk) _ _ | exact Tr.set_comm (Ne.symm (ne hk)) _ _))
variable {P : Program} {A : FAn} {ev : Ev} {ops : Array Oper} {o : Oper} {s t : St}
theorem zI {α:Type} (b:Bool) (x y:α):cond b x y=if b=true then x else y:=by cases b<;>rfl
theorem sees_self (o:Oper) (s:St):yk o s s:=fun _ _=>rfl
theorem Zk {F:Option SV} (hF:∀ s2,yk o s s2->evOp P A ev o s2 some=F.bind fun v=>some (setSl s2 o.dst v)) (h:evOp P A ev o s some=some t):Eff (fun s=>evOp P A ev o s some) (yk o s) o s t .slots:=by
 rw [hF s (sees_self o s)] at h
 obtain ⟨v,hv,h⟩:=oB h
 cases h
 exact ⟨v,fun _=>v,[],[],trivial,rfl,fun s2 h2 _ _=>by show evOp P A ev o s2 some=_;rw [hF s2 h2,hv];rfl⟩
theorem eff_slots (hk:zJ A o=.slots) (h:evOp P A ev o s some=some t):Eff (fun s=>evOp P A ev o s some) (yk o s) o s t .slots:=by
 have mv:∀ x,o.op=.move x\/o.op=.assign x->Eff (fun s=>evOp P A ev o s some) (yk o s) o s t .slots:=fun x ho=>Zk (F:=evA s x) (fun s2 hs=>by
  have e:evA s2 x=evA s x:=by rcases ho with ho | ho<;>exact hs x (by rw [ho];simp [Op.operands])
  unfold evOp
  rcases ho with ho | ho<;>rw [ho]<;>simp only [setK_eq,e]) h
 unfold zJ at hk
 split at hk
 case h_1 x ho=>exact mv x (.inl ho)
 case h_2 x ho=>exact mv x (.inr ho)
 case h_3 ty ps ho=>
  refine Zk (F:=(zeroCells P ty).bind fun z=>(places P ty).bind fun pl=>(evParts s ps.toList).bind fun vs=>(fillA pl z vs).bind fun cs=>some (.v (.agg cs))) (fun s2 hs=>?_) h
  have e:evParts s2 ps.toList=evParts s ps.toList:=YI fun y hy=>hs y.2 (by rw [ho];simp only [Op.operands,List.mem_toArray,List.mem_map];exact ⟨y,hy,rfl⟩)
  unfold evOp
  rw [ho]
  simp only [setK_eq,e,Option.bind_assoc,Option.bind_some]
 case h_4 x ho=>
  refine Zk (F:=(evA s x).bind fun v=>match v with | .l k off=>some (.l k off) | .v (.sc p)=>asP p fun id off=>some (.v (.sc (.ptr id off))) | _=>none) (fun s2 hs=>?_) h
  have e:evA s2 x=evA s x:=hs x (by rw [ho];simp [Op.operands])
  unfold evOp
  rw [ho]
  simp only [setK_eq,e,Option.bind_assoc]
  congr 1
  funext v
  split<;>simp [wg]
 case h_5 op ty x y ty2 ho=>
  refine Zk (F:=(evV s x).bind fun x=>(evV s y).bind fun y=>guardB (opOk op y)<|(binop P op ty x y).bind fun v=>some (.v (.sc v))) (fun s2 hs=>?_) h
  have e1:evV s2 x=evV s x:=xy (hs x (by rw [ho];simp [Op.operands]))
  have e2:evV s2 y=evV s y:=xy (hs y (by rw [ho];simp [Op.operands]))
  unfold evOp
  rw [ho]
  simp only [setK_eq,e1,e2,Option.bind_assoc,zg,Option.bind_some]
 case h_6 op ty x ho=>
  refine Zk (F:=(evV s x).bind fun x=>(unop op x).bind fun v=>some (.v (.sc v))) (fun s2 hs=>?_) h
  have e1:evV s2 x=evV s x:=xy (hs x (by rw [ho];simp [Op.operands]))
  unfold evOp
  rw [ho]
  simp only [setK_eq,e1,Option.bind_assoc,Option.bind_some]
 case h_7 ty x i ho=>
  refine Zk (F:=match P.underlying ty with
   | some (.struct fs)=>(fs.toList[i]?).bind fun f=>guardB (!(Nat.beq (P.cellsOf f.type) 0))<|(evA s x).bind fun a=>addAt a f.offset some
   | _=>none) (fun s2 hs=>?_) h
  have e:evA s2 x=evA s x:=hs x (by rw [ho];simp [Op.operands])
  unfold evOp
  rw [ho]
  simp only [setK_eq,e]
  cases P.underlying ty with
  | none=>rfl
  | some d=>cases d<;>simp [Option.bind_assoc,zg,Zw]
 case h_8 ty x i ho=>
  refine Zk (F:=match P.underlying ty with
   | some (.slice e)=>guardB (P.info? e).isSome<|(evV s x).bind fun x=>asSc x fun x=>asS x fun id off len=>(evV s i).bind fun i=>idxI i len fun i=>some (.v (.sc (.ptr id (off+i*P.cellsOf e))))
   | some (.array n e)=>guardB (P.info? e).isSome<|(evA s x).bind fun a=>(evV s i).bind fun i=>idxI i n fun i=>addAt a (i*P.cellsOf e) some
   | _=>none) (fun s2 hs=>?_) h
  have e:evA s2 x=evA s x:=hs x (by rw [ho];simp [Op.operands])
  have e2:evV s2 i=evV s i:=xy (hs i (by rw [ho];simp [Op.operands]))
  unfold evOp
  rw [ho]
  simp only [setK_eq,e,e2,xy e]
  cases P.underlying ty with
  | none=>rfl
  | some d=>cases d<;>simp [Option.bind_assoc,zg,Zw,yM,Yw,Qm]
 case h_9 x i ho=>
  refine Zk (F:=(evA s x).bind fun v=>match v with
   | .t vs=>(vs[i]?).bind fun v=>some (.v v)
   | _=>none) (fun s2 hs=>?_) h
  have e:evA s2 x=evA s x:=hs x (by rw [ho];simp [Op.operands])
  unfold evOp
  rw [ho]
  simp only [setK_eq,e,Option.bind_assoc]
  congr 1
  funext v
  cases v<;>simp [Option.bind_assoc]
 all_goals (exfalso;(try simp only [zI] at hk);repeat' (first | cases hk | split at hk))
variable {P : Program} {A : FAn} {ev : Ev} {ops : Array Oper} {o : Oper} {s t : St}
noncomputable def ldG (P:Program) (A:FAn) (ty:TypeId) (x:Operand) (s:St) (a:SV):Option SV:=guardB (onlyL A x a&&onlyX A s.h x a)<|cond (yo P ty) (loadAt s a (P.cellsOf ty) fun l=>asLeaves (zN P 8 ty) l fun ys=>some (.v (.agg ys)))
 (load1 s a fun x=>asLeaf ((zN P 8 ty).getD 0 .any) x fun y=>some (.v (.sc y)))
theorem load_eq {ty:TypeId} {x:Operand} (ho:o.op=.load ty x) (s:St):evOp P A ev o s some=(guardB (P.underlying ty).isSome<|(evA s x).bind fun a=>ldG P A ty x s a).bind fun v=>some (setSl s o.dst v):=by
 unfold evOp ldG
 rw [ho]
 simp only [setK_eq,zg,Option.bind_assoc,wm,xc,xl,yR,xS,Option.bind_some]
theorem WY {ty:TypeId} {x:Operand} (ho:o.op=.load ty x) (h:evOp P A ev o s some=some t):∃ a v,evA s x=some a/\ldG P A ty x s a=some v/\t=setSl s o.dst v/\∀ s2,yk o s s2->ldG P A ty x s2 a=some v->evOp P A ev o s2 some=some (setSl s2 o.dst v):=by
 rw [load_eq ho] at h
 obtain ⟨v,hv,h⟩:=oB h
 cases h
 obtain ⟨hg,hv⟩:=gB.1 hv
 obtain ⟨a,ha,hv⟩:=oB hv
 refine ⟨a,v,ha,hv,rfl,fun s2 hs h2=>?_⟩
 rw [load_eq ho,show evA s2 x=evA s x from hs x (by rw [ho];simp [Op.operands]),ha,hg]
 simp only [guardB,cond_true,Option.bind_some,h2]
theorem eff_ldL {k:Nat} (hk:zJ A o=.ldL k) (h:evOp P A ev o s some=some t):Eff (fun s=>evOp P A ev o s some) (yk o s) o s t (.ldL k):=by
 have main:∀ ty x,o.op=.load ty x->rootOf A x=some k->Eff (fun s=>evOp P A ev o s some) (yk o s) o s t (.ldL k):=fun ty x ho hr=>by
  obtain ⟨a,v,ha,hv,rfl,hall⟩:=WY ho h
  refine ⟨v,fun _=>v,[],[],trivial,rfl,fun s2 h2 hl _=>hall s2 h2 ?_⟩
  have hx:∃ off,a=.l k off:=by
   unfold ldG at hv
   obtain ⟨hg,_⟩:=gB.1 hv
   simp only [onlyX,Bool.and_eq_true] at hg
   have h3:=hg.2.1.2
   unfold onlyR at h3
   rw [hr] at h3
   simp only at h3
   split at h3
   ·exact ⟨_,by rw [Nat.eq_of_beq_eq_true h3]⟩
   ·cases h3
  obtain ⟨off,rfl⟩:=hx
  have hl':s2.lo.get k=s.lo.get k:=hl
  have e:ldG P A ty x s2 (.l k off)=ldG P A ty x s (.l k off):=by
   unfold ldG
   simp only [loadAt,load1,hl',onlyX,onlyB]
  rw [e];exact hv
 unfold zJ at hk
 split at hk
 case h_10 ty x ho=>
  split at hk
  ·rename_i k' hr;cases hk;exact main ty x ho hr
  ·exfalso;(try simp only [zI] at hk);repeat' (first | cases hk | split at hk)
 all_goals (exfalso;(try simp only [zI] at hk);repeat' (first | cases hk | split at hk))
theorem ld_heap {ty:TypeId} {x:Operand} {a v:SV} (hv:ldG P A ty x s a=some v) (hh:∀ k off,a≠.l k off):∃ id off ob,a=.v (.sc (.ptr id off))/\s.h[id]?=some ob/\∀ s2:St,s2.h[id]?=some ob->ldG P A ty x s2 a=some v:=by
 unfold ldG at hv
 obtain ⟨hg,hv⟩:=gB.1 hv
 have hp:∃ id off,a=.v (.sc (.ptr id off)):=by
  rcases cond_some.1 hv with ⟨_,hv⟩ | ⟨_,hv⟩
  ·unfold loadAt at hv
   split at hv
   ·exact absurd rfl (hh _ _)
   ·obtain ⟨id,off,rfl,_⟩:=asP_some.1 hv;exact ⟨id,off,rfl⟩
   ·cases hv
  ·unfold load1 at hv
   split at hv
   ·exact absurd rfl (hh _ _)
   ·obtain ⟨id,off,rfl,_⟩:=asP_some.1 hv;exact ⟨id,off,rfl⟩
   ·cases hv
 obtain ⟨id,off,rfl⟩:=hp
 have ho:∃ ob,s.h[id]?=some ob:=by
  rcases cond_some.1 hv with ⟨_,hv⟩ | ⟨_,hv⟩
  ·simp only [loadAt,asP,ldNK,Option.bind_eq_some_iff] at hv;obtain ⟨ob,h,_⟩:=hv;exact ⟨ob,h⟩
  ·simp only [load1,asP,ld1,Option.bind_eq_some_iff] at hv;obtain ⟨_,⟨ob,h,_⟩,_⟩:=hv;exact ⟨ob,h⟩
 obtain ⟨ob,ho⟩:=ho
 refine ⟨id,off,ob,rfl,ho,fun s2 h2=>?_⟩
 have eb:boxOk s2.h id=boxOk s.h id:=by unfold boxOk;rw [h2,ho]
 unfold ldG
 have e1:onlyX A s2.h x (.v (.sc (.ptr id off)))=onlyX A s.h x (.v (.sc (.ptr id off))):=by
  unfold onlyX onlyB
  cases x<;>simp only [eb]
 rw [e1,hg]
 simp only [guardB,cond_true]
 simp only [loadAt,load1,asP,ldNK,ld1,h2,ho] at hv ⊢
 exact hv
theorem eff_ldH (hk:zJ A o=.ldH) (h:evOp P A ev o s some=some t):Eff (fun s=>evOp P A ev o s some) (yk o s) o s t .ldH:=by
 have main:∀ ty d,o.op=.load ty (.tmp d)->A.hst.contains d=true->Eff (fun s=>evOp P A ev o s some) (yk o s) o s t .ldH:=fun ty d ho hr=>by
  obtain ⟨a,v,ha,hv,rfl,hall⟩:=WY ho h
  have hh:∀ k off,a≠.l k off:=by
   intro k off e
   subst e
   unfold ldG at hv
   obtain ⟨hg,_⟩:=gB.1 hv
   simp only [onlyX,Bool.and_eq_true] at hg
   have h3:=hg.2.1.1
   simp only [onlyH,hr,Bool.not_true,Bool.false_or] at h3;cases h3
  obtain ⟨id,off,ob,rfl,ho,hall2⟩:=ld_heap hv hh
  exact ⟨v,fun _=>v,[],[],trivial,rfl,fun s2 h2 _ hl=>hall s2 h2 (hall2 s2 (hl id ob ho))⟩
 unfold zJ at hk
 split at hk
 case h_10 ty x ho=>
  split at hk
  ·cases hk
  ·split at hk
   ·rename_i d hr
    cases h1:A.ldb.contains d<;>rw [h1] at hk
    ·cases h2:A.hst.contains d<;>rw [h2] at hk
     ·cases hk
     ·exact main ty d ho h2
    ·cases hk
   ·cases hk
 all_goals (exfalso;(try simp only [zI] at hk);repeat' (first | cases hk | split at hk))
theorem eff_ldB (hk:zJ A o=.ldB) (h:evOp P A ev o s some=some t):Eff (fun s=>evOp P A ev o s some) (yk o s) o s t .ldB:=by
 have main:∀ ty d,o.op=.load ty (.tmp d)->A.ldb.contains d=true->Eff (fun s=>evOp P A ev o s some) (yk o s) o s t .ldB:=fun ty d ho hr=>by
  obtain ⟨a,v,ha,hv,rfl,hall⟩:=WY ho h
  have hg:onlyB A s.h (.tmp d) a=true:=by
   unfold ldG at hv
   obtain ⟨hg,_⟩:=gB.1 hv
   simp only [onlyX,Bool.and_eq_true] at hg
   exact hg.2.2
  simp only [onlyB,hr,Bool.not_true,Bool.false_or] at hg
  have hh:∀ k off,a≠.l k off:=fun k off e=>by subst e;cases hg
  obtain ⟨id,off,ob,rfl,ho,hall2⟩:=ld_heap hv hh
  exact ⟨v,fun _=>v,[],[],trivial,rfl,fun s2 h2 _ hl=>hall s2 h2 (hall2 s2 ((hl id hg).trans ho))⟩
 unfold zJ at hk
 split at hk
 case h_10 ty x ho=>
  split at hk
  ·cases hk
  ·split at hk
   ·rename_i d hr
    cases h1:A.ldb.contains d<;>rw [h1] at hk
    ·cases h2:A.hst.contains d<;>rw [h2] at hk<;>cases hk
    ·exact main ty d ho h1
   ·cases hk
 all_goals (exfalso;(try simp only [zI] at hk);repeat' (first | cases hk | split at hk))
variable {P : Program} {A : FAn} {ev : Ev} {ops : Array Oper} {o : Oper} {s t : St}
theorem VJ {ty:TypeId} {x y:Operand} (ho:o.op=.store ty x y) (h:evOp P A ev o s some=some t):∃ av v,evA s x=some av/\onlyS A x av=true/\(storeAt s av v fun s=>some (setSl s o.dst .no))=some t/\
  ∀ s2,yk o s s2->evOp P A ev o s2 some=storeAt s2 av v fun s=>some (setSl s o.dst .no):=by
 unfold evOp at h
 rw [ho] at h
 simp only [setK_eq] at h
 obtain ⟨hg,h⟩:=gB.1 h
 obtain ⟨av,ha,h⟩:=oB h
 obtain ⟨v,hv,h⟩:=oB h
 obtain ⟨hg2,h⟩:=gB.1 h
 refine ⟨av,v.cells,ha,(Bool.and_eq_true_iff.1 hg2).2,h,fun s2 hs=>?_⟩
 have e1:evA s2 x=some av:=(hs x (by rw [ho];simp [Op.operands])).trans ha
 have e2:evV s2 y=some v:=(xy (hs y (by rw [ho];simp [Op.operands]))).trans hv
 unfold evOp
 rw [ho]
 simp only [setK_eq,e1,e2,Option.bind_some,hg,hg2,guardB,cond_true]
theorem eff_stL {k:Nat} (hk:zJ A o=.stL k) (h:evOp P A ev o s some=some t):Eff (fun s=>evOp P A ev o s some) (yk o s) o s t (.stL k):=by
 have main:∀ ty x y,o.op=.store ty x y->rootOf A x=some k->Eff (fun s=>evOp P A ev o s some) (yk o s) o s t (.stL k):=fun ty x y ho hr=>by
  obtain ⟨av,v,ha,hg,hst,hall⟩:=VJ ho h
  have hx:∃ off,av=.l k off:=by
   unfold onlyS at hg
   have h3:=(Bool.and_eq_true_iff.1 hg).2
   unfold onlyR at h3
   rw [hr] at h3
   simp only at h3
   split at h3
   ·exact ⟨_,by rw [Nat.eq_of_beq_eq_true h3]⟩
   ·cases h3
  obtain ⟨off,rfl⟩:=hx
  rw [zZ] at hst
  simp only at hst
  simp only [Option.bind_eq_some_iff] at hst
  obtain ⟨b,hb,cs0,rfl,cs',hcs,hst⟩:=hst
  cases hst
  refine ⟨.no,fun _=>.no,[],cs',trivial,rfl,fun s2 h2 hl _=>?_⟩
  show evOp P A ev o s2 some=_
  have hl':s2.lo.get k=s.lo.get k:=hl
  rw [hall s2 h2,zZ]
  simp only [hl',hb,Option.bind_some,hcs]
  rfl
 unfold zJ at hk
 split at hk
 case h_11 ty x y ho=>
  split at hk
  ·rename_i k' hr;cases hk;exact main ty x y ho hr
  ·exfalso;(try simp only [zI] at hk);repeat' (first | cases hk | split at hk)
 all_goals (exfalso;(try simp only [zI] at hk);repeat' (first | cases hk | split at hk))
theorem eff_stH (hk:zJ A o=.stH) (h:evOp P A ev o s some=some t):Eff (fun s=>evOp P A ev o s some) (yk o s) o s t .stH:=by
 have main:∀ ty d y,o.op=.store ty (.tmp d) y->A.hst.contains d=true->Eff (fun s=>evOp P A ev o s some) (yk o s) o s t .stH:=fun ty d y ho hr=>by
  obtain ⟨av,v,ha,hg,hst,hall⟩:=VJ ho h
  have h3:onlyH A (.tmp d) av=true:=(Bool.and_eq_true_iff.1 hg).1
  simp only [onlyH,hr,Bool.not_true,Bool.false_or] at h3
  have hst2:=hst
  rw [zZ] at hst2
  cases av with
  | v av=>
   cases av with
   | agg l=>cases hst2
   | sc p=>
    obtain ⟨id,off,rfl,hst2⟩:=asP_some.1 hst2
    obtain ⟨h',hh,hst2⟩:=oB hst2
    cases hst2
    refine ⟨.no,fun _=>.no,h',[],trivial,rfl,fun s2 h2 _ hl=>?_⟩
    show evOp P A ev o s2 some=_
    have hl':s2.h=s.h:=hl
    rw [hall s2 h2,zZ]
    simp only [asP,hl',hh,Option.bind_some]
    rfl
  | _=>cases h3
 unfold zJ at hk
 split at hk
 case h_11 ty x y ho=>
  split at hk
  ·cases hk
  ·split at hk
   ·rename_i d hr
    cases h2:A.hst.contains d<;>rw [h2] at hk
    ·cases hk
    ·exact main ty d y ho h2
   ·cases hk
 all_goals (exfalso;(try simp only [zI] at hk);repeat' (first | cases hk | split at hk))
theorem eff_alloc (hk:zJ A o=.alloc) (h:evOp P A ev o s some=some t):Eff (fun s=>evOp P A ev o s some) (yk o s) o s t .alloc:=by
 unfold zJ at hk
 split at hk
 case h_12 ty n ps ho=>
  split at hk
  ·rename_i d hd
   cases hl:A.loc.contains d<;>rw [hl] at hk
   ·unfold evOp at h
    rw [ho] at h
    simp only [setK_eq,hd,Option.bind_some,hl,cond_false] at h
    obtain ⟨e,he,h⟩:=oB h
    obtain ⟨z,hz,h⟩:=oB h
    obtain ⟨hg,h⟩:=gB.1 h
    obtain ⟨vs,hvs,h⟩:=oB h
    obtain ⟨cs,hcs,h⟩:=oB h
    cases h
    refine ⟨.no,fun q=>.v (.sc (.sl q 0 n)),[.row true e cs],[],trivial,by rw [hd];rfl,fun s2 h2 _ _=>?_⟩
    show evOp P A ev o s2 some=_
    have e1:evParts s2 ps.toList=some vs:=(YI fun y hy=>h2 y.2 (by rw [ho];simp only [Op.operands,List.mem_toArray,List.mem_map];exact ⟨y,hy,rfl⟩)).trans hvs
    unfold evOp
    rw [ho]
    simp only [setK_eq,hd,Option.bind_some,hl,cond_false,he,hz,hg,guardB,cond_true,e1,hcs]
    rfl
   ·cases hk
  ·cases hk
 case h_13 ty lo mo ho=>
  unfold evOp at h
  rw [ho] at h
  simp only [setK_eq] at h
  obtain ⟨e,he',h⟩:=oB h
  obtain ⟨z,hz,h⟩:=oB h
  obtain ⟨lv,hl,h1⟩:=oB h
  obtain ⟨mv,hmv,h2⟩:=oB h1
  clear h h1
  have h:=h2
  clear h2
  split at h
  ·rename_i l m
   obtain ⟨hgd,h⟩:=gB.1 h
   cases h
   refine ⟨.no,fun q=>.v (.sc (.sl q 0 l.toNat)),[.row true e (rep l.toNat z)],[],trivial,rfl,fun s2 h2 _ _=>?_⟩
   show evOp P A ev o s2 some=_
   have g1:=(xy (h2 lo (by rw [ho];simp [Op.operands]))).trans hl
   have g2:=(xy (h2 mo (by rw [ho];simp [Op.operands]))).trans hmv
   unfold evOp
   rw [ho]
   simp only [setK_eq,he',hz,g1,g2,Option.bind_some,hgd,guardB,cond_true]
   rfl
  ·cases h
 all_goals (exfalso;(try simp only [zI] at hk);repeat' (first | cases hk | split at hk))
noncomputable def xY (P:Program) (A:FAn) (ev:Ev) (ty:TypeId) (f:Operand) (args:List Operand) (s:St) (h:AH):Option (SV×AH):=(evV s f).bind fun f=>asSc f fun f=>asF f fun g nf sh cs=>(evVs s args).bind fun as=>
   (spread sh cs).bind fun vs=>callK A ev g (vs.take nf++as++vs.drop nf) h fun rs h=>typed P ty rs fun v=>some (v,h)
theorem xp {f:Operand} {args:Array Operand} {ts:Array TypeId} (ho:o.op=.call { callee:=.value f,args:=args,argTypes:=ts }) (s:St):evOp P A ev o s some=(xY P A ev o.type f args.toList s s.h).bind fun p=>some (setSl { s with h:=p.2 } o.dst p.1):=by
 unfold evOp xY
 rw [ho]
 simp only [setK_eq,Option.bind_assoc,yM,VN,wz,xQ,Option.bind_some]
theorem callG_of {f:Operand} {args:Array Operand} {ts:Array TypeId} (ho:o.op=.call { callee:=.value f,args:=args,argTypes:=ts }) {s2:St} (h2:yk o s s2) {ty:TypeId} {h:AH}:xY P A ev ty f args.toList s2 h=xY P A ev ty f args.toList s h:=by
 unfold xY
 rw [xy (h2 f (by rw [ho];simp [Op.operands,Call.operands])),evVs_of (fun y hy=>h2 y (by rw [ho];simp [Op.operands,Call.operands,Array.mem_toList_iff.1 hy]))]
theorem Qa {f:Operand} {args:Array Operand} {ts:Array TypeId} (ho:o.op=.call { callee:=.value f,args:=args,argTypes:=ts }) (h:evOp P A ev o s some=some t):Eff (fun s=>evOp P A ev o s some) (yk o s) o s t .call:=by
 rw [xp ho] at h
 obtain ⟨⟨v,h'⟩,hv,h⟩:=oB h
 cases h
 refine ⟨v,fun _=>v,h',[],trivial,rfl,fun s2 h2 _ hl=>?_⟩
 show evOp P A ev o s2 some=_
 have hl':s2.h=s.h:=hl
 rw [xp ho,callG_of ho h2,hl',hv]
 rfl
end Go.AM
namespace Go.AM
def YK (f:Nat->Nat):Fn->Fn
 | .yield id=>.yield (f id)
 | g=>g
mutual
def Sc.ren (f:Nat->Nat):Sc->Sc
 | .ptr id o=>.ptr (f id) o
 | .sl id o n=>.sl (f id) o n
 | .fn g nf sh cs=>.fn (YK f g) nf sh (Sc.renL f cs)
 | .bool b=>.bool b
 | .int k n=>.int k n
 | .str s=>.str s
 | .nilp=>.nilp
 | .nils e=>.nils e
 | .nilf=>.nilf
 | .nili=>.nili
def Sc.renL (f:Nat->Nat):List Sc->List Sc
 | []=>[]
 | c::r=>c.ren f::Sc.renL f r
end
def AV.ren (f:Nat->Nat):AV->AV
 | .sc s=>.sc (s.ren f)
 | .agg cs=>.agg (Sc.renL f cs)
def SV.ren (f:Nat->Nat):SV->SV
 | .u=>.u
 | .no=>.no
 | .v a=>.v (a.ren f)
 | .t vs=>.t (vs.map (AV.ren f))
 | .l k o=>.l k o
 | .s k n=>.s k n
mutual
theorem Sc.ren_id:∀ (s:Sc),s.ren (fun i=>i)=s
 | .ptr _ _=>rfl
 | .sl _ _ _=>rfl
 | .fn g _ _ cs=>by
  have e:YK (fun i=>i) g=g:=by cases g<;>rfl
  rw [Sc.ren,Sc.renL_id cs,e]
 | .bool _=>rfl
 | .int _ _=>rfl
 | .str _=>rfl
 | .nilp=>rfl
 | .nils _=>rfl
 | .nilf=>rfl
 | .nili=>rfl
theorem Sc.renL_id:∀ (l:List Sc),Sc.renL (fun i=>i) l=l
 | []=>rfl
 | c::r=>by rw [Sc.renL,Sc.ren_id c,Sc.renL_id r]
end
theorem AV.ren_id (v:AV):v.ren (fun i=>i)=v:=by
 cases v with
 | sc s=>rw [AV.ren,Sc.ren_id]
 | agg cs=>rw [AV.ren,Sc.renL_id]
theorem AV.renL_id (l:List AV):l.map (AV.ren fun i=>i)=l:=by
 rw [List.map_congr_left (g:=id) (fun v _=>AV.ren_id v),List.map_id]
def FrEv (A:FAn) (ev:Ev):Prop:=∀ n m,(A.fr.any fun p=>Nat.beq p.1 n&&Nat.beq p.2 m)=true->∀ as h rs h',as.length=m->ev (.func n) as h=some (rs,h')->h'=h/\∀ (f:Nat->Nat) (h2:AH),ev (.func n) (as.map (AV.ren f)) h2=some (rs.map (AV.ren f),h2)
end Go.AM
namespace Go.AM
open Go.RowKit
variable {P : Program} {A : FAn} {ev : Ev} {ops : Array Oper} {o : Oper} {s t : St}
def zR (A:FAn) (ev:Ev):Prop:=(∀ n,A.ro.contains n=true->∀ as h rs h',ev (.func n) as h=some (rs,h')->h'=h)/\FrEv A ev/\∀ n,A.gr.contains n=true->∀ as h rs h',ev (.func n) as h=some (rs,h')->h <+: h'
theorem eff_ro (hr:zR A ev) {n:FuncId} {args:Array Operand} {ts:Array TypeId} (ho:o.op=.call { callee:=.value (.func n),args:=args,argTypes:=ts }) (hn:A.ro.contains n=true) (h:evOp P A ev o s some=some t):Eff (fun s=>evOp P A ev o s some) (yk o s) o s t .ro:=by
 have h0:=h
 rw [xp ho] at h
 obtain ⟨⟨v,h'⟩,hv,h⟩:=oB h
 cases h
 have hh:h'=s.h:=by
  unfold xY at hv
  simp only [evV,evA,Option.bind_some,SV.val,asSc,asF] at hv
  obtain ⟨as,_,hv⟩:=oB hv
  obtain ⟨vs,_,hv⟩:=oB hv
  have ty:∀ {rs:List AV} {h1:AH},(typed P o.type rs fun v=>some (v,h1))=some (v,h')->h'=h1:=by
   intro rs h1 hq
   have e:=xQ (fun v:SV=>some (v,h1)) P o.type rs some
   simp only [Option.bind_some] at e
   rw [<- e] at hq
   obtain ⟨_,_,hq⟩:=oB hq
   cases hq;rfl
  unfold callK at hv
  simp only at hv
  replace hv:=(gB.1 hv).2
  rcases cond_some.1 hv with ⟨_,hv⟩ | ⟨_,hv⟩
  ·split at hv
   ·exact ty (gB.1 (gB.1 hv).2).2
   ·obtain ⟨p,_,hv⟩:=oB hv
    exact ty (gB.1 hv).2
  ·obtain ⟨⟨rs,h1⟩,hp,hv⟩:=oB hv
   rw [ty hv]
   exact hr.1 n hn _ _ _ _ hp
 subst hh
 refine ⟨v,fun _=>v,[],[],trivial,rfl,fun s2 h2 _ hl=>?_⟩
 show evOp P A ev o s2 some=_
 have hl':s2.h=s.h:=hl
 rw [xp ho,callG_of ho h2,hl',hv]
 show some (setSl { s2 with h:=s.h } o.dst v)=_
 rw [<- hl']
 rfl
noncomputable def VL (P:Program) (A:FAn) (ts:List TypeId) (args:List Operand) (s:St):Option (SV×AH):=builtinK P A .append ts args s fun v s'=>some (v,s'.h)
theorem app_eq {args:Array Operand} {ts:Array TypeId} (ho:o.op=.call { callee:=.builtin .append,args:=args,argTypes:=ts }) (s:St):evOp P A ev o s some=(VL P A ts.toList args.toList s).bind fun p=>some (setSl { s with h:=p.2 } o.dst p.1):=by
 unfold evOp VL
 rw [ho]
 simp only [setK_eq]
 unfold builtinK
 split<;>first
  | (simp only [Option.bind_assoc,zg,YX,ZU,Yc,Wv,Option.bind_some];done)
  | rfl
  | (rename_i h _ _;cases h;done)
  | (rename_i h _;cases h;done)
  | (rename_i h;cases h;done)
  | skip
theorem appG_of {args:Array Operand} {ts:Array TypeId} (ho:o.op=.call { callee:=.builtin .append,args:=args,argTypes:=ts }) {s2:St} (h2:yk o s s2) (hl:s2.lo=s.lo) (hh:s2.h=s.h):VL P A ts.toList args.toList s2=VL P A ts.toList args.toList s:=by
 have ea:∀ y∈args.toList,evA s2 y=evA s y:=fun y hy=>h2 y (by rw [ho];simp [Op.operands,Call.operands,Array.mem_toList_iff.1 hy])
 have ef:∀ {R:Type} (a:SV) (n z:Nat) (c:List Sc->Option R),firstA s2 a n z c=firstA s a n z c:=fun a n z c=>by unfold firstA;rw [hl,hh]
 unfold VL builtinK
 split<;>first
  | exact absurd ‹Builtin.append=Builtin.len› (by intro e;cases e)
  | exact absurd ‹Builtin.append=Builtin.max› (by intro e;cases e)
  | exact absurd ‹Builtin.append=Builtin.min› (by intro e;cases e)
  | exact absurd ‹Builtin.append=Builtin.copy› (by intro e;cases e)
  | (rename_i x y _ _ ha;have e1:=ea x (by rw [ha];simp);have e2:=ea y (by rw [ha];simp);simp only [e1,e2,ef,hh];done)
  | (rename_i x y _ ha _;have e1:=ea x (by rw [ha];simp);have e2:=ea y (by rw [ha];simp);simp only [e1,e2,ef,hh];done)
  | rfl
theorem app_box {ts:List TypeId} {args:List Operand} {v:SV} {h':AH} (h:VL P A ts args s=some (v,h')):∀ id,boxOk s.h id=true->h'[id]?=s.h[id]?:=by
 have lt:∀ {id:Nat},boxOk s.h id=true->id < s.h.length:=fun {id} hb=>by
  unfold boxOk at hb
  cases hq:s.h[id]? with
  | none=>rw [hq] at hb;cases hb
  | some o=>exact (List.getElem?_eq_some_iff.1 hq).1
 unfold VL builtinK at h
 split at h
 ·exact absurd ‹Builtin.append=Builtin.len› (by intro e;cases e)
 ·exact absurd ‹Builtin.append=Builtin.max› (by intro e;cases e)
 ·exact absurd ‹Builtin.append=Builtin.min› (by intro e;cases e)
 ·obtain ⟨_,_,h⟩:=oB h
  obtain ⟨_,_,h⟩:=oB h
  obtain ⟨_,h⟩:=gB.1 h
  obtain ⟨xv,_,h⟩:=oB h
  have e:=YX (some:SV×AH->Option (SV×AH))
  have fin:∀ {xs:Sc} {e z n:Nat} {new:List Sc},(appendS s.h e z xs new n fun v h=>some (SV.v (.sc v),h))=some (v,h')->∀ id,boxOk s.h id=true->h'[id]?=s.h[id]?:=by
   intro xs e z n new h id hb
   unfold appendS at h
   split at h
   ·obtain ⟨_,h⟩:=gB.1 h;cases h;rfl
   ·split at h
    ·obtain ⟨_,h⟩:=gB.1 h;cases h
     exact List.getElem?_append_left (lt hb)
    ·rename_i id2 off len
     obtain ⟨ob,hob,h⟩:=oB h
     split at h
     ·obtain ⟨_,h⟩:=gB.1 h;cases h
      rw [List.getElem?_append_left (by simp;exact lt hb)]
      refine List.getElem?_set_ne fun e=>?_
      subst e
      unfold boxOk at hb
      rw [hob] at hb
      cases hb
     ·cases h
    ·cases h
  have l1:∀ {yv:SV} {c:Nat->Option (SV×AH)} {r:SV×AH},lenA yv c=some r->∃ n,c n=some r:=by
   intro yv c r h;unfold lenA at h;split at h
   ·exact ⟨_,h⟩
   ·exact ⟨_,(gB.1 h).2⟩
   ·cases h
  have l2:∀ {yv:SV} {m z:Nat} {c:List Sc->Option (SV×AH)} {r:SV×AH},firstA s yv m z c=some r->∃ n,c n=some r:=by
   intro yv m z c r h;rw [yJ] at h;split at h
   ·simp only [Option.bind_eq_some_iff] at h;obtain ⟨_,_,_,_,l,_,h⟩:=h;exact ⟨_,h⟩
   ·split at h
    ·exact ⟨_,(gB.1 h).2⟩
    ·obtain ⟨_,_,_,_,h⟩:=asS_some.1 h;obtain ⟨l,_,h⟩:=oB h;exact ⟨_,h⟩
   ·cases h
  have rest:∀ {xs:Sc} {y:Operand} {e z:Nat},((evA s y).bind fun a=>lenA a fun n=>firstA s a n z fun new=>appendS s.h e z xs new n fun v h=>some (SV.v (.sc v),h))=some (v,h')->∀ id,boxOk s.h id=true->h'[id]?=s.h[id]?:=by
   intro xs y e z h
   obtain ⟨yv,_,h⟩:=oB h
   obtain ⟨n,h⟩:=l1 h
   obtain ⟨new,h⟩:=l2 h
   exact fin h
  rcases Zz h with ⟨_,_,_,_,_,h⟩ | ⟨_,_,h⟩
  ·exact rest h
  ·exact rest h
 ·exact absurd ‹Builtin.append=Builtin.copy› (by intro e;cases e)
 ·cases h
theorem eff_app {args:Array Operand} {ts:Array TypeId} (ho:o.op=.call { callee:=.builtin .append,args:=args,argTypes:=ts }) (h:evOp P A ev o s some=some t):Eff (fun s=>evOp P A ev o s some) (yk o s) o s t .app:=by
 rw [app_eq ho] at h
 obtain ⟨⟨v,h'⟩,hv,h⟩:=oB h
 cases h
 refine ⟨v,fun _=>v,h',[],app_box hv,rfl,fun s2 h2 hl hh=>?_⟩
 show evOp P A ev o s2 some=_
 rw [app_eq ho,appG_of ho h2 hl hh,hv]
 rfl
theorem eff_op (hr:zR A ev) (hk:zJ A o≠.other) (h:evOp P A ev o s some=some t):Eff (fun s=>evOp P A ev o s some) (yk o s) o s t (zJ A o):=by
 cases hq:zJ A o with
 | slots=>exact eff_slots hq h
 | ldL k=>exact eff_ldL hq h
 | ldH=>exact eff_ldH hq h
 | ldB=>exact eff_ldB hq h
 | stL k=>exact eff_stL hq h
 | stH=>exact eff_stH hq h
 | alloc=>exact eff_alloc hq h
 | other=>exact absurd hq hk
 | app=>
  unfold zJ at hq
  split at hq
  case h_14 args ts ho=>exact eff_app ho h
  all_goals (exfalso;(try simp only [zI] at hq);repeat' (first | cases hq | split at hq))
 | ro=>
  unfold zJ at hq
  split at hq
  case h_15 n args ts ho=>
   cases hn:A.ro.contains n<;>rw [hn] at hq
   ·cases hq
   ·exact eff_ro hr ho hn h
  all_goals (exfalso;(try simp only [zI] at hq);repeat' (first | cases hq | split at hq))
 | call=>
  unfold zJ at hq
  split at hq
  case h_15 n args ts ho=>exact Qa ho h
  case h_16 ho=>exact Qa ho h
  all_goals (exfalso;(try simp only [zI] at hq);repeat' (first | cases hq | split at hq))
theorem Tm (hr:zR A ev) (hk:zJ A o≠.other) (h:za P A ev ops o s=some t):Eff (za P A ev ops o) (Sees ops o s) o s t (zJ A o)\/Eff (za P A ev ops o) (Sees ops o s) o s t .slots:=by
 have skip:(∀ s2,Sees ops o s s2->za P A ev ops o s2=some (setSl s2 o.dst .no))->t=setSl s o.dst .no->Eff (za P A ev ops o) (Sees ops o s) o s t .slots:=fun hall ht=>⟨.no,fun _=>.no,[],[],trivial,ht,fun s2 h2 _ _=>hall s2 h2⟩
 cases hg:o.guard with
 | none=>
  have e:∀ s2,za P A ev ops o s2=evOp P A ev o s2 some:=fun s2=>by unfold za;rw [hg]
  rw [e] at h
  exact .inl (Eff.imp (fun s2 h2=>⟨h2.opd,e s2⟩) (eff_op hr hk h))
 | some p=>
  obtain ⟨j,w⟩:=p
  cases hj:(ops[j]?).bind (·.dst) with
  | none=>unfold za at h;rw [hg] at h;simp only [hj] at h;cases h
  | some g=>
   have hl:g∈o.looksAt ops:=by simp [Oper.looksAt,hg,hj]
   have e:∀ s2,za P A ev ops o s2=(s2.sl.get g).bind fun g=>match g with
     | .v (.sc (.bool t))=>if t=w then evOp P A ev o s2 some else some (setSl s2 o.dst .no)
     | .no=>some (setSl s2 o.dst .no)
     | _=>none:=fun s2=>by unfold za;rw [hg];simp only [hj,Option.bind_some]<;>rfl
   have e2:∀ s2,Sees ops o s s2->za P A ev ops o s2=(s.sl.get g).bind fun g=>match g with
     | .v (.sc (.bool t))=>if t=w then evOp P A ev o s2 some else some (setSl s2 o.dst .no)
     | .no=>some (setSl s2 o.dst .no)
     | _=>none:=fun s2 h2=>by rw [e,h2 g hl]
   have hs:Sees ops o s s:=fun _ _=>rfl
   rw [e2 s hs] at h
   cases hv:s.sl.get g with
   | none=>rw [hv] at h;cases h
   | some x=>
    rw [hv] at h
    simp only [hv,Option.bind_some] at h e2
    split at h
    ·rename_i b
     by_cases hb:b=w
     ·rw [if_pos hb] at h
      exact .inl (Eff.imp (fun s2 h2=>⟨h2.opd,by rw [e2 s2 h2];simp only;rw [if_pos hb]⟩) (eff_op hr hk h))
     ·rw [if_neg hb] at h
      cases h
      exact .inr (skip (fun s2 h2=>by rw [e2 s2 h2];simp only;rw [if_neg hb]) rfl)
    ·cases h
     exact .inr (skip (fun s2 h2=>by rw [e2 s2 h2]) rfl)
    ·cases h
theorem swapK {x y:Oper} (hr:zR A ev) (hc:kdOk A ops x y=true) {s s1 s2:St} (h1:za P A ev ops x s=some s1) (h2:za P A ev ops y s1=some s2):∃ t,za P A ev ops y s=some t/\za P A ev ops x t=some s2:=by
 unfold kdOk at hc
 obtain ⟨hk,hap⟩:=Bool.and_eq_true_iff.1 hc
 have nx:zJ A x≠.other:=fun e=>by rw [e] at hk;cases hk
 have ny:zJ A y≠.other:=fun e=>by rw [e] at hk;revert hk;cases zJ A x<;>simp [xU]
 have sy:xU (zJ A x) .slots=true:=by revert nx;cases zJ A x<;>simp [xU]
 have sx:xU .slots (zJ A y)=true:=by revert ny;cases zJ A y<;>simp [xU]
 rcases Tm hr nx h1 with ex | ex<;>rcases Tm hr ny h2 with ey | ey
 ·exact Vy hk hap ex ey
 ·exact Vy sy hap ex ey
 ·exact Vy sx hap ex ey
 ·exact Vy rfl hap ex ey
end Go.AM
