/- The typed machine: states in which zw are told. -/
import Derived.Test.YtpfphfobneehmaaB6
set_option linter.all false
namespace Go.TM
open Go Go.AM
variable {P : Program} {A : TAn} {ev : TEv} {J0 J J' : List JE} {Z0 Z Z' : Nat → Prop} {H0 H H' : TH} {h0 h h' : AH} {s : TS} {a : AM.St} {R : Type} {r : R}
section
variable {α : Type} {f : α → α} {t : Tr α} {d : Nat} {g : Tr α → Nat → Tr α}
theorem YK (hg:∀ u i,g u i=match t.get i with | some v=>u.set i v | none=>u):∀ (l:List Nat) (u:Tr α),d ∉ l→(l.foldl g u).get d=u.get d
 | [],u,_=>rfl
 | j::l,u,hd=>by
  rw [List.foldl_cons,YK hg l _ fun h=>hd (List.mem_cons_of_mem _ h),hg]
  cases t.get j with
  | none=>rfl
  | some w=>exact Tr.get_set_ne _ (fun (e:j=d)=>hd (by rw [e];exact List.mem_cons_self)) _
theorem fold_dom (hg:∀ u i,g u i=match t.get i with | some v=>u.set i v | none=>u) {u:Tr α} (i:Nat) (hu:(u.get d).isSome=(t.get d).isSome):((g u i).get d).isSome=(t.get d).isSome:=by
 rw [hg]
 cases hi:t.get i with
 | none=>exact hu
 | some w=>
  simp only
  by_cases e:i=d
  ·subst e;rw [Tr.get_set_self,Option.isSome_map];exact hu
  ·rw [Tr.get_set_ne _ e];exact hu
theorem TT (hg:∀ u i,g u i=match t.get i with | some v=>u.set i v | none=>u):∀ (l:List Nat) (u:Tr α),(u.get d).isSome=(t.get d).isSome→d∈l→(l.foldl g u).get d=t.get d
 | [],u,_,hd=>by cases hd
 | j::l,u,hu,hd=>by
  rw [List.foldl_cons]
  by_cases hl:d∈l
  ·exact TT hg l _ (fold_dom hg j hu) hl
  ·have:d=j:=by rcases List.mem_cons.1 hd with h | h;exact h;exact absurd h hl
   subst this
   rw [YK hg l _ hl,hg]
   cases hi:t.get d with
   | none=>
    simp only
    rw [hi] at hu
    cases hh:u.get d with
    | none=>rfl
    | some w=>rw [hh] at hu;cases hu
   | some w=>
    simp only
    rw [Tr.get_set_self]
    rw [hi] at hu
    cases hh:u.get d with
    | none=>rw [hh] at hu;cases hu
    | some w=>rfl
theorem map_dom:((t.map f).get d).isSome=(t.get d).isSome:=by rw [Tr.get_map,Option.isSome_map]
theorem xw {l:List Nat} (hd:d∈l):(TM.keepT f t l).get d=t.get d:=TT (fun u i=>by cases t.get i<;>rfl) l _ map_dom hd
theorem Ze {l:List Nat} (hd:d∈l):(AM.keepT f t l).get d=t.get d:=TT (fun u i=>by cases t.get i<;>rfl) l _ map_dom hd
theorem xg {l:List Nat} (hd:d ∉ l):(TM.keepT f t l).get d=(t.get d).map f:=(YK (t:=t) (fun u i=>by cases t.get i<;>rfl) l _ hd).trans (Tr.get_map f t d)
theorem ZA {l:List Nat} (hd:d ∉ l):(AM.keepT f t l).get d=(t.get d).map f:=(YK (t:=t) (fun u i=>by cases t.get i<;>rfl) l _ hd).trans (Tr.get_map f t d)
end
theorem Vm (q:StR P J0 Z0 H0 h0 J Z s a) (A:TAn) (id:Nat):StR P J0 Z0 H0 h0 J Z (TM.maskR A id s) (AM.maskR A.a id a):=by
 unfold TM.maskR AM.maskR
 generalize A.a.keepR.find? (fun p=>Nat.beq p.1 id)=o
 rcases o with _ | ⟨p,l⟩
 ·exact q
 ·refine ⟨fun i v hv=>?_,fun i x hx=>?_,q.lo,q.lt,q.hp,q.kp,q.n0,q.j0⟩
  ·by_cases hi:i∈l
   ·simp only [xw hi] at hv
    simp only [Ze hi]
    exact q.tm i v hv
   ·simp only [xg hi] at hv
    simp only [ZA hi]
    obtain ⟨w,h1,rfl⟩:=oM hv
    obtain ⟨x,h2,_⟩:=q.tm i w h1
    exact ⟨.u,by simp [h2],rfl⟩
  ·by_cases hi:i∈l
   ·simp only [Ze hi] at hx
    simp only [xw hi]
    exact q.mt i x hx
   ·simp only [ZA hi] at hx
    simp only [xg hi]
    obtain ⟨w,h1,rfl⟩:=oM hx
    obtain ⟨v,h2⟩:=q.mt i w h1
    exact ⟨.u,by simp [h2]⟩
theorem wW (q:StR P J0 Z0 H0 h0 J Z s a) (A:TAn) (blk:Nat):StR P J0 Z0 H0 h0 J Z (TM.maskAt A blk s) (AM.maskAt A.a blk a):=by
 unfold TM.maskAt AM.maskAt
 generalize A.a.keep.find? (fun p=>Nat.beq p.1 blk)=o
 rcases o with _ | ⟨p,l,m⟩
 ·exact q
 ·refine ⟨fun i v hv=>?_,fun i x hx=>?_,fun k cs hk=>?_,fun k x hk=>?_,q.hp,q.kp,q.n0,q.j0⟩
  ·by_cases hi:i∈l
   ·simp only [xw hi] at hv
    simp only [Ze hi]
    exact q.tm i v hv
   ·simp only [xg hi] at hv
    simp only [ZA hi]
    obtain ⟨w,h1,rfl⟩:=oM hv
    obtain ⟨x,h2,_⟩:=q.tm i w h1
    exact ⟨.u,by simp [h2],rfl⟩
  ·by_cases hi:i∈l
   ·simp only [Ze hi] at hx
    simp only [xw hi]
    exact q.mt i x hx
   ·simp only [ZA hi] at hx
    simp only [xg hi]
    obtain ⟨w,h1,rfl⟩:=oM hx
    obtain ⟨v,h2⟩:=q.mt i w h1
    exact ⟨.u,by simp [h2]⟩
  ·by_cases hi:k∈m
   ·simp only [xw hi] at hk
    simp only [Ze hi]
    exact q.lo k cs hk
   ·simp only [xg hi] at hk
    obtain ⟨w,h1,h2⟩:=oM hk
    cases h2
  ·by_cases hi:k∈m
   ·simp only [xw hi] at hk
    simp only [Ze hi]
    exact q.lt k x hk
   ·simp only [xg hi] at hk
    simp only [ZA hi]
    obtain ⟨w,h1,rfl⟩:=oM hk
    obtain ⟨y,h2⟩:=q.lt k w h1
    exact ⟨none,by simp [h2]⟩
theorem SR.forget {v:TV} {x:AM.SV} (q:SR P h Z J v x):SR P h Z J (cond (isLoc v) v .u) x:=by
 cases v with
 | l k o=>exact q
 | s k n=>exact q
 | u=>exact q
 | w=>exact q
 | no=>simp only [SR] at q;subst q;rfl
 | v y=>obtain ⟨_,rfl,_⟩:=q;rfl
 | t y=>obtain ⟨_,rfl,_⟩:=q;rfl
 | e t xs i o=>obtain ⟨_,_,_,_,rfl,_⟩:=q;rfl
 | p id i o=>obtain ⟨_,_,_,rfl⟩:=q;rfl
theorem SR.drop {key:Nat} {v:TV} {x:AM.SV} (q:SR P h Z J v x):SR P h Z J (dropV key v) x:=by
 unfold dropV
 cases isRetK key with
 | true=>trivial
 | false=>exact q.forget
theorem maskL_rel (q:StR P J0 Z0 H0 h0 J Z s a) (A:TAn) (key:Nat):StR P J0 Z0 H0 h0 J Z (TM.maskL A key s) a:=by
 unfold TM.maskL
 split
 ·exact q
 ·rename_i p l m _
  refine ⟨fun i v hv=>?_,fun i x hx=>?_,fun k cs hk=>?_,fun k x hk=>?_,q.hp,q.kp,q.n0,q.j0⟩
  ·by_cases hi:i∈l
   ·simp only [xw hi] at hv;exact q.tm i v hv
   ·simp only [xg hi] at hv
    obtain ⟨w,h1,rfl⟩:=oM hv
    obtain ⟨x,h2,h3⟩:=q.tm i w h1
    exact ⟨x,h2,h3.drop⟩
  ·obtain ⟨v,h2⟩:=q.mt i x hx
   by_cases hi:i∈l
   ·exact ⟨v,by simp only [xw hi];exact h2⟩
   ·exact ⟨dropV key v,by simp only [xg hi,h2,Option.map_some]⟩
  ·by_cases hi:k∈m
   ·simp only [xw hi] at hk;exact q.lo k cs hk
   ·simp only [xg hi] at hk
    obtain ⟨w,h1,h2⟩:=oM hk
    cases h2
  ·by_cases hi:k∈m
   ·simp only [xw hi] at hk;exact q.lt k x hk
   ·simp only [xg hi] at hk
    obtain ⟨w,h1,rfl⟩:=oM hk
    exact q.lt k w h1
theorem coeC_rel (hr:HR P J Z H h) {v:TC} {e:TypeId} {own:Bool} {c:TC→TH→Option R} {x:Sc} (hx:coeC P H v e own c=some r) (hv:CR P h Z J v x) :
  ∃ v' H' J' Z',c v' H'=some r∧Step P J Z H h J' Z' H' h∧CR P h Z' J' v' x:=by
 unfold coeC at hx
 split at hx
 ·replace hx:=xZ hx
  obtain ⟨t,hsz,hinf,hx⟩:=hx
  simp only [CR] at hv;obtain ⟨eb,rfl⟩:=hv
  exact ⟨_,_,_,Z,hx,YV hr hsz hinf,_,by rw [← hr.len,yq],.inl ⟨rfl,eb,rfl⟩⟩
 ·rename_i id o n
  split at hx
  ·rename_i e' t xs ho
   replace hx:=gB.1 hx
   obtain ⟨he0,hx⟩:=hx
   simp only [Bool.and_eq_true] at he0
   replace hx:=gB.1 hx
   obtain ⟨hg,hx⟩:=hx
   have hg:=zH hg
   have he:=zH he0.1
   subst he
   obtain ⟨je,hj,ra⟩:=hr.row ho
   obtain ⟨je2,hj2,hs⟩:=hv
   rw [hj] at hj2;cases hj2
   have hgo:=zE ho rfl
   rcases hs with ⟨hvv,rfl,eb,rfl⟩ | ⟨hvv,rfl⟩
   ·have s1:=We hr id
    have e1:xs.drop o=[]:=by apply List.drop_of_length_le;omega
    rw [e1] at hx
    exact ⟨_,_,_,Z,hx,s1.trans (YV s1.hr ra.sz ra.inf),_,by rw [← hr.len,yq],.inl ⟨rfl,eb,rfl⟩⟩
   ·rcases ra.at' with ⟨hv',_⟩ | ⟨_,cs,h1,h2,h3⟩
    ·rw [hvv] at hv';cases hv'
    ·have hz:=fun x cs (q:DR P h Z t x cs)=>q.length
     obtain ⟨_,k1⟩:=Seg.split hz o h3
     have hln:(xs.drop o).length=n:=by simp;omega
     have st:=step_move (je':=⟨false,je.id,je.off+o*je.z,n,t.size⟩) (o':=.row e t (xs.drop o)) hr hgo rfl hj hvv rfl
      ⟨rfl,hln.symm,ra.sz,ra.inf,.inr ⟨rfl,cs,h1,by rw [h2,hln,ra.z,Nat.add_assoc,← Nat.add_mul,hg],by rw [ra.z,← List.drop_drop];exact k1⟩⟩
     exact ⟨_,_,_,Z,hx,st,_,by rw [← hr.len,yq],.inr ⟨rfl,rfl⟩⟩
  ·cases hx
 ·replace hx:=xZ hx
  obtain ⟨t,hsz,hinf,hx⟩:=hx
  simp only [CR] at hv;obtain ⟨eb,rfl⟩:=hv
  exact ⟨_,_,J,Z,hx,Step.refl hr,by simp only [CR];exact .inl ⟨rfl,eb,rfl⟩⟩
 ·obtain ⟨v',H',Z',m,hc,hx⟩:=Vl 3 hx hr hv
  exact ⟨v',H',J,Z',hx,Mv.step (hr:=hr) m,hc⟩
 ·exact ⟨_,_,J,Z,hx,Step.refl hr,hv⟩
theorem Zw (hr:HR P J Z H h) {l:List TC} {j:Nat} {e:TypeId} {own:Bool} {c:List TC→TH→Option R} {x:List Sc} (hx:Wu P l j H e own c=some r) (hc:CRs P h Z J l x) :
  ∃ l' H' J' Z',c l' H'=some r∧Step P J Z H h J' Z' H' h∧CRs P h Z' J' l' x:=by
 unfold Wu at hx
 split at hx
 ·rename_i v hv
  obtain ⟨y,hy,hvy⟩:=hc.get hv
  obtain ⟨v',H',J',Z',hx,st,hn⟩:=coeC_rel hr hx hvy
  exact ⟨_,H',J',Z',hx,st,(CRs.mono (st.ext hr) st.kp.pre _ _ hc).set hn hy⟩
 ·cases hx
theorem StR.put' (q:StR P J0 Z0 H0 h0 J Z s a) {i:Nat} {v:TV} {x:AM.SV} (hx:a.sl.get i=some x) (hv:SR P a.h Z J v x):StR P J0 Z0 H0 h0 J Z { s with sl:=s.sl.set i v } a:=by
 have:=q.put (some i) hv
 simp only [TM.setSl,AM.setSl,Tr.set_same hx] at this
 exact this
theorem StR.setLocal' (q:StR P J0 Z0 H0 h0 J Z s a) {k:Nat} {cs0:List TC} (hk0:s.lo.get k=some (some cs0)) {cs:List TC} {cs':List Sc} (ha:a.lo.get k=some (some cs')) (hc:CRs P a.h Z J cs cs') :
  StR P J0 Z0 H0 h0 J Z { s with lo:=s.lo.set k (some cs) } a:=by
 have:=q.setLocal hk0 hc
 simp only [Tr.set_same ha] at this
 exact this
theorem coe1_rel (q:StR P J0 Z0 H0 h0 J Z s a) {p:(Nat×Nat×Nat)×TypeId×Bool} {c:TS→Option R} (hx:coe1 P p s c=some r):∃ s' J' Z',c s'=some r∧StR P J0 Z0 H0 h0 J' Z' s' a:=by
 unfold coe1 at hx
 split at hx
 ·rename_i i j e own
  split at hx
  ·rename_i v hv
   obtain ⟨x,h1,_,rfl,y,rfl,h2⟩:=q.tm i _ hv
   obtain ⟨l',H',J',Z',hx,st,hc⟩:=Zw (x:=[y]) q.hp hx (by simp only [CRs];exact ⟨h2,trivial⟩)
   replace hx:=TM.asC_some.1 hx
   obtain ⟨w,ws,rfl,hx⟩:=hx
   rw [Tr.setT_eq] at hx
   simp only [CRs] at hc
   exact ⟨_,J',Z',hx,(q.mem st).put' (s:={ s with h:=H' }) h1 ⟨_,rfl,_,rfl,hc.1⟩⟩
  ·rename_i l hv
   obtain ⟨x,h1,_,rfl,y,rfl,h2⟩:=q.tm i _ hv
   obtain ⟨l',H',J',Z',hx,st,hc⟩:=Zw q.hp hx h2
   rw [Tr.setT_eq] at hx
   exact ⟨_,J',Z',hx,(q.mem st).put' (s:={ s with h:=H' }) h1 ⟨_,rfl,_,rfl,hc⟩⟩
  ·exact ⟨s,J,Z,hx,q⟩
 ·rename_i k j e own
  split at hx
  ·rename_i l hl
   obtain ⟨y,h1,h2⟩:=q.lo k l hl
   obtain ⟨l',H',J',Z',hx,st,hc⟩:=Zw q.hp hx h2
   rw [Tr.setT_eq] at hx
   exact ⟨_,J',Z',hx,(q.mem st).setLocal' (s:={ s with h:=H' }) hl h1 hc⟩
  ·exact ⟨s,J,Z,hx,q⟩
 ·rename_i i j e own
  split at hx
  ·rename_i b l ho
   have hgo:=zE ho rfl
   have hlt:=(List.getElem?_eq_some_iff.1 hgo).1
   have hltJ:i < J.length:=by rw [q.hp.len];exact hlt
   have hj:J[i]?=some J[i]:=List.getElem?_eq_getElem hltJ
   obtain ⟨hv,cs,h1,h2⟩:=q.hp.obj i _ _ hgo hj
   obtain ⟨l',H',J',Z',hx,st,hc⟩:=Zw q.hp hx h2
   have q2:=q.mem st
   split at hx
   ·rename_i b' l0 ho'
    have hj':=zU st.kp.pre hj
    have hi:=zE ho' rfl
    obtain ⟨_,cs2,h3,_⟩:=q2.hp.obj i _ _ hi hj'
    have h3':a.h[J[i].id]?=some (.box b' cs2):=h3
    rw [h1] at h3'
    simp only [Option.some.injEq,AO.box.injEq] at h3'
    obtain ⟨rfl,rfl⟩:=h3'
    have st2:=Wr (o':=.box b l') q2.hp hi rfl hj' ⟨hv,cs,h1,hc⟩
    exact ⟨_,J',Z',hx,q2.mem st2⟩
   ·cases hx
  ·rename_i b l ho
   have hgo:=zE ho rfl
   have hlt:=(List.getElem?_eq_some_iff.1 hgo).1
   have hltJ:i < J.length:=by rw [q.hp.len];exact hlt
   have hj:J[i]?=some J[i]:=List.getElem?_eq_getElem hltJ
   obtain ⟨hv,cs,h1,h2⟩:=q.hp.obj i _ _ hgo hj
   obtain ⟨l',H',J',Z',hx,st,hc⟩:=Zw q.hp hx h2
   have q2:=q.mem st
   split at hx
   ·rename_i b' l0 ho'
    have hj':=zU st.kp.pre hj
    have hi:=zE ho' rfl
    obtain ⟨_,cs2,h3,_⟩:=q2.hp.obj i _ _ hi hj'
    have h3':a.h[J[i].id]?=some (.row true b' cs2):=h3
    rw [h1] at h3'
    simp only [Option.some.injEq,AO.row.injEq,true_and] at h3'
    obtain ⟨rfl,rfl⟩:=h3'
    have st2:=Wr (o':=.crow b l') q2.hp hi rfl hj' ⟨hv,cs,h1,hc⟩
    exact ⟨_,J',Z',hx,q2.mem st2⟩
   ·cases hx
  ·exact ⟨s,J,Z,hx,q⟩
 ·exact ⟨s,J,Z,hx,q⟩
theorem Ti:∀ {l:List ((Nat×Nat×Nat)×TypeId×Bool)} {s:TS} {J:List JE} {Z:Nat→Prop} {c:TS→Option R},StR P J0 Z0 H0 h0 J Z s a→Ts P l s c=some r→∃ s' J' Z',c s'=some r∧StR P J0 Z0 H0 h0 J' Z' s' a
 | [],s,J,Z,c,q,hx=>⟨s,J,Z,hx,q⟩
 | p::l,s,J,Z,c,q,hx=>by
  simp only [Ts] at hx
  obtain ⟨s',J',Z',hx,q'⟩:=coe1_rel q hx
  exact Ti q' hx
theorem isPre_ok:∀ {l m:List Nat},Wh l m=true→l <+: m
 | [],m,_=>List.nil_prefix
 | x::l,[],h=>by cases h
 | x::l,y::m,h=>by
  simp only [Wh,Bool.and_eq_true] at h
  rw [zH h.1]
  exact List.cons_prefix_cons.2 ⟨rfl,isPre_ok h.2⟩
theorem sub_prefix {ord:List Nat} {n:Nat} (hp:J0 <+: J) (hn:J0.length=n) (ho:Wh (List.range n) ord=true):J0 <+: yC J ord:=by
 have h1:=isPre_ok ho
 obtain ⟨t,rfl⟩:=h1
 obtain ⟨u,rfl⟩:=hp
 refine ⟨yC (J0++u) t,?_⟩
 have h2:yC (J0++u) (List.range n)=J0:=by
  apply List.ext_getElem?
  intro i
  simp only [yC,List.getElem?_map]
  by_cases hi:i < n
  ·rw [List.getElem?_range hi]
   have:(J0++u)[i]?=some J0[i]:=by rw [List.getElem?_append_left (by omega)];exact List.getElem?_eq_getElem (by omega)
   simp only [Option.map_some,List.getD_eq_getElem?_getD,this,Option.getD_some]
   rw [List.getElem?_eq_getElem (by omega)]
  ·rw [List.getElem?_eq_none (by simp;omega),List.getElem?_eq_none (by omega)];rfl
 have h3:yC (J0++u) (List.range n++t)=yC (J0++u) (List.range n)++yC (J0++u) t:=by simp [yC]
 rw [h3,h2]
theorem sub_kp (hr:HR P J Z H h) (k:Kp J0 Z0 H0 h0 J Z H h) {ord:List Nat} (ok:OrdOk H ord) (hn:J0.length=H0.length) (ho:Wh (List.range H0.length) ord=true):Kp J0 Z0 H0 h0 (yC J ord) Z (ZB H ord) h:=
 ⟨k.len,sub_prefix k.pre hn ho,k.same,fun id hw=>by
  obtain ⟨i,o,je,a1,a2,a3,a4,a5,a6⟩:=ZP hr.len ok hw
  exact k.own id ⟨i,o,je,a2,a3,a4,a5,a6⟩,k.zin,k.zout⟩
theorem gc_rel (q:StR P J0 Z0 H0 h0 J Z s a) {c:TS→Option R} (hx:gc s c=some r):∃ s' J',c s'=some r∧StR P J0 Z0 H0 h0 J' Z s' a:=by
 unfold gc at hx
 simp only at hx
 generalize order s=ord at hx
 replace hx:=gB.1 hx
 obtain ⟨hg,hx⟩:=hx
 simp only [Bool.and_eq_true] at hg
 obtain ⟨⟨⟨g1,g2⟩,g3⟩,g4⟩:=hg
 have ok:=Ug g1
 rw [q.n0] at g2
 refine ⟨_,yC J ord,hx,⟨fun i v hv=>?_,fun i x hv=>?_,fun k cs hk=>?_,fun k x hk=>?_,sub_hr q.hp ok (fun _ h=>h) (fun i o je h1 h2 h3 h4 _=>q.hp.sep i o je h1 h2 h3 h4) q.hp.zlt,sub_kp q.hp q.kp ok q.j0 g2,q.n0,q.j0⟩⟩
 ·simp only [Tr.get_map] at hv
  obtain ⟨w,h1,rfl⟩:=oM hv
  obtain ⟨x,h2,h3⟩:=q.tm i w h1
  have:=Tr.all_get g3 h1
  rw [List.all_eq_true] at this
  exact ⟨x,h2,h3.ren (YD fun j hj=>memN_iff.1 (this j hj))⟩
 ·obtain ⟨w,h1⟩:=q.mt i x hv
  exact ⟨TV.ren (yX ord) w,by simp only [Tr.get_map,h1,Option.map_some]⟩
 ·simp only [Tr.get_map] at hk
  obtain ⟨w,h1,h2⟩:=oM hk
  cases w with
  | none=>cases h2
  | some l=>
   simp only [Option.map_some,Option.some.injEq] at h2
   subst h2
   obtain ⟨cs',h3,h4⟩:=q.lo k l h1
   have:=Tr.all_get g4 h1
   simp only [List.all_eq_true] at this
   exact ⟨cs',h3,CRs.ren _ _ (YD fun j hj=>memN_iff.1 (this j hj)) h4⟩
 ·simp only [Tr.get_map] at hk
  obtain ⟨w,h1,h2⟩:=oM hk
  exact q.lt k w h1
theorem TX {α β:Type} {t:Tr α}:∀ {u:Tr β},shp t u=true→∀ i,(t.get i).isSome=(u.get i).isSome:=by
 induction t with
 | nil=>intro u h i;cases u<;>first | rfl | cases h
 | leaf v=>
  intro u h i
  cases u with
  | leaf w=>rw [Tr.get_leaf,Tr.get_leaf];split<;>rfl
  | _=>cases h
 | node l r il ir=>
  intro u h i
  cases u with
  | node l' r'=>
   have h':cond (shp l l') (shp r r') false=true:=h
   cases hl:shp l l' with
   | false=>rw [hl] at h';cases h'
   | true=>
    rw [hl] at h'
    rw [Tr.get_node,Tr.get_node]
    split
    ·exact il hl _
    ·exact ir h' _
  | _=>cases h
theorem Wa {α:Type} {g:Nat→Option α}:∀ (l:List Nat) (t:Tr α) (j:Nat),(((l.filterMap fun i=>(g i).map fun v=>(i,v)).foldl (fun t p=>t.set p.1 p.2) t).get j)=(match (cond (yP l j) (g j) none) with | some v=>(t.get j).map fun _=>v | none=>t.get j)
 | [],t,j=>rfl
 | i::l,t,j=>by
  rw [List.filterMap_cons]
  have hm:yP (i::l) j=(Nat.beq j i||yP l j):=rfl
  cases hg:g i with
  | none=>
   simp only [Option.map_none]
   rw [Wa l t j,hm]
   by_cases e:j=i
   ·subst e;rw [hg];cases yP l j<;>cases Nat.beq j j<;>rfl
   ·have:Nat.beq j i=false:=by cases hb:Nat.beq j i;rfl;exact absurd (zH hb) e
    rw [this];rfl
  | some v=>
   simp only [Option.map_some,List.foldl_cons]
   rw [Wa l _ j,hm]
   by_cases e:j=i
   ·subst e
    rw [Tr.get_set_self,hg,Nat.beq_refl]
    cases yP l j<;>cases t.get j<;>rfl
   ·have:Nat.beq j i=false:=by cases hb:Nat.beq j i;rfl;exact absurd (zH hb) e
    rw [this,Tr.get_set_ne _ (Ne.symm e)];rfl
theorem Tt {n i:Nat}:yP (List.range n) i=decide (i < n):=by
 cases h:yP (List.range n) i with
 | true=>have:=memN_iff.1 h;rw [List.mem_range] at this;simp [this]
 | false=>
  have:¬ i < n:=fun hi=>by have:=memN_iff.2 (List.mem_range.2 hi);rw [this] at h;cases h
  simp [this]
theorem Tm {n i:Nat} {v u:TV} (h:(xA u n).get i=some v):i < n∧v=u:=by
 have:=Tr.ofL_get _ _ _ _ h
 rw [List.getElem?_replicate] at this
 split at this
 ·rename_i hi;exact ⟨hi,(Option.some.inj this).symm⟩
 ·cases this
theorem Zt {α β:Type} (f:α→β):∀ (l:List α),Tr.evens (l.map f)=(Tr.evens l).map f
 | []=>rfl
 | [_]=>rfl
 | x::_::r=>by simp only [List.map_cons,Tr.evens,Zt f r]
theorem Yd {α β:Type} (f:α→β):∀ (l:List α),Tr.odds (l.map f)=(Tr.odds l).map f
 | []=>rfl
 | [_]=>rfl
 | _::y::r=>by simp only [List.map_cons,Tr.odds,Yd f r]
theorem Zf {α β:Type} (f:α→β):∀ (d:Nat) (l:List α),Tr.ofL d (l.map f)=(Tr.ofL d l).map f
 | 0,[]=>rfl
 | _+1,[]=>rfl
 | 0,_::_=>rfl
 | d+1,x::l=>by
  show Tr.node (Tr.ofL d (Tr.evens ((x::l).map f))) (Tr.ofL d (Tr.odds ((x::l).map f)))=_
  rw [Zt,Yd,Zf f d,Zf f d]
  rfl
theorem blankV_dom (u v:TV) (n i:Nat):((xA u n).get i).isSome=((xA v n).get i).isSome:=by
 have e:xA u n=(xA v n).map fun _=>u:=by
  unfold xA
  rw [← Zf,List.map_replicate]
 rw [e,Tr.get_map];cases (xA v n).get i<;>rfl
theorem Tw {n i:Nat} {v:Option (List TC)} (h:(wJ n).get i=some v):i < n∧v=none:=by
 have:=Tr.ofL_get _ _ _ _ h
 rw [List.getElem?_replicate] at this
 split at this
 ·rename_i hi;exact ⟨hi,(Option.some.inj this).symm⟩
 ·cases this
def isUW:TV→Bool
 | .u=>true
 | .w=>true
 | _=>false
theorem ofCS_sl {n:Nat} {s:TS} (h:shp s.sl (Ya n)=true) (i:Nat):(wm n (toCS n s)).sl.get i=(s.sl.get i).map fun v=>cond (isUW v) (cond (Yq s.sl) .w .u) v:=by
 have hd:=TX h i
 have e:(List.range n).filterMap (pickS s.sl)=(List.range n).filterMap fun i=>((match s.sl.get i with | some .u=>none | some .w=>none | x=>x).map fun v=>(i,v)):=by
  congr 1;funext i
  unfold pickS
  cases hi:s.sl.get i with
  | none=>rfl
  | some v=>cases v<;>rfl
 show (((List.range n).filterMap (pickS s.sl)).foldl (fun t p=>t.set p.1 p.2) (xA (cond (Yq s.sl) .w .u) n)).get i=_
 rw [e,Wa (g:=fun i=>match s.sl.get i with | some .u=>none | some .w=>none | x=>x),Tt]
 replace hd:(s.sl.get i).isSome=((xA (cond (Yq s.sl) .w .u) n).get i).isSome:=hd.trans (blankV_dom _ _ _ _)
 cases hi:s.sl.get i with
 | none=>
  rw [hi] at hd
  cases hb:(xA (cond (Yq s.sl) .w .u) n).get i with
  | none=>cases decide (i < n)<;>rfl
  | some v=>rw [hb] at hd;cases hd
 | some v=>
  rw [hi] at hd
  cases hb:(xA (cond (Yq s.sl) .w .u) n).get i with
  | none=>rw [hb] at hd;cases hd
  | some w=>
   obtain ⟨h1,rfl⟩:=Tm hb
   rw [decide_eq_true h1]
   cases v<;>rfl
theorem hasW_no {t:Tr TV} (h:Yq t=false) {i:Nat} (hi:t.get i=some .w):False:=by
 unfold Yq at h
 have h2:(t.all fun v=>!(isW v))=true:=by simpa using h
 have:=Tr.all_get h2 hi
 cases this
theorem SR.blank {t:Tr TV} {i:Nat} {v:TV} (hi:t.get i=some v) {x:AM.SV} (q:SR P h Z J v x):SR P h Z J (cond (isUW v) (cond (Yq t) .w .u) v) x:=by
 cases hu:isUW v with
 | false=>exact q
 | true=>
  cases hw:Yq t with
  | true=>trivial
  | false=>
   cases v<;>first | exact q | (cases hu;done) | exact (hasW_no hw hi).elim
theorem ofCS_lo {n:Nat} {s:TS} (h:shp s.lo (wJ n)=true) (i:Nat):(wm n (toCS n s)).lo.get i=s.lo.get i:=by
 have hd:=TX h i
 have e:∀ (t:Tr (Option (List TC))),((List.range n).filterMap (pickL s.lo)).foldl (fun t p=>t.set p.1 (some p.2)) t=((List.range n).filterMap fun i=>((match s.lo.get i with | some (some v)=>some (some v) | _=>none).map fun v=>(i,v))).foldl (fun t p=>t.set p.1 p.2) t:=by
  generalize List.range n=l
  induction l with
  | nil=>intro t;rfl
  | cons i l ih=>
   intro t
   rw [List.filterMap_cons,List.filterMap_cons]
   unfold pickL
   cases hi:s.lo.get i with
   | none=>exact ih t
   | some v=>
    cases v with
    | none=>exact ih t
    | some v=>exact ih _
 show (((List.range n).filterMap (pickL s.lo)).foldl (fun t p=>t.set p.1 (some p.2)) (wJ n)).get i=_
 rw [e,Wa (g:=fun i=>match s.lo.get i with | some (some v)=>some (some v) | _=>none),Tt]
 cases hi:s.lo.get i with
 | none=>
  rw [hi] at hd
  cases hb:(wJ n).get i with
  | none=>cases decide (i < n)<;>rfl
  | some v=>rw [hb] at hd;cases hd
 | some v=>
  rw [hi] at hd
  cases hb:(wJ n).get i with
  | none=>rw [hb] at hd;cases hd
  | some w=>
   obtain ⟨h1,rfl⟩:=Tw hb
   rw [decide_eq_true h1]
   cases v<;>rfl
theorem ofCS_rel (q:StR P J0 Z0 H0 h0 J Z s a) {n:Nat} (h1:shp s.sl (Ya n)=true) (h2:shp s.lo (wJ n)=true):StR P J0 Z0 H0 h0 J Z (wm n (toCS n s)) a:=
 ⟨fun i v hv=>by
  rw [ofCS_sl h1] at hv
  obtain ⟨u,hu,rfl⟩:=oM hv
  obtain ⟨x,h3,h4⟩:=q.tm i u hu
  exact ⟨x,h3,h4.blank hu⟩,fun i x hx=>by
  rw [ofCS_sl h1]
  obtain ⟨v,hv⟩:=q.mt i x hx
  exact ⟨_,by rw [hv];rfl⟩,fun k cs hk=>by rw [ofCS_lo h2] at hk;exact q.lo k cs hk,fun k x hk=>by rw [ofCS_lo h2] at hk;exact q.lt k x hk,q.hp,q.kp,q.n0,q.j0⟩
theorem Zq (q:StR P J0 Z0 H0 h0 J Z s a) {key:Nat} {c:CS→Option R} (hx:wN P A key s c=some r):∃ s' J' Z',c s'=some r∧StR P J0 Z0 H0 h0 J' Z' (wm A.nt s') a:=by
 unfold wN at hx
 obtain ⟨s1,J1,Z1,hx,q1⟩:=Ti (maskL_rel q A key) hx
 obtain ⟨s2,J2,hx,q2⟩:=gc_rel q1 hx
 replace hx:=gB.1 hx
 obtain ⟨hg,hx⟩:=hx
 simp only [Bool.and_eq_true] at hg
 exact ⟨_,J2,Z1,hx,ofCS_rel q2 hg.1 hg.2⟩
variable {P : Program} {A : TAn} {ev : TEv} {An : FuncId → FAn} {dOk : FAn → Array Oper → Bool} {J0 J J' : List JE} {Z0 Z Z' : Nat → Prop} {H0 H H' : TH} {h0 h h' : AH} {s : TS} {a : AM.St} {R : Type} {r : R}
theorem xd:∀ {sh:List (Option Nat)} {cs:List TC} {vs:List TA} {ss:List Sc},TM.spread sh cs=some vs→CRs P h Z J cs ss→∃ vs',AM.spread sh ss=some vs'∧ARs P h Z J vs vs'
 | [],[],vs,ss,hx,hc=>by
  simp [TM.spread] at hx;subst hx
  cases ss with
  | nil=>exact ⟨[],rfl,trivial⟩
  | cons _ _=>simp [CRs] at hc
 | [],_::_,vs,ss,hx,hc=>by simp [TM.spread] at hx
 | none::sh,cs,vs,ss,hx,hc=>by
  simp only [TM.spread] at hx
  replace hx:=TM.asC_some.1 hx
  obtain ⟨x,xs,rfl,hx⟩:=hx
  replace hx:=oB hx
  obtain ⟨ws,h1,hx⟩:=hx
  cases hx
  cases ss with
  | nil=>simp [CRs] at hc
  | cons y ys=>
   simp only [CRs] at hc
   obtain ⟨vs',h2,h3⟩:=xd h1 hc.2
   exact ⟨.sc y::vs',by simp only [AM.spread,AM.asC,h2,Option.bind_some],⟨y,rfl,hc.1⟩,h3⟩
 | some n::sh,cs,vs,ss,hx,hc=>by
  simp only [TM.spread] at hx
  replace hx:=gB.1 hx
  obtain ⟨hg,hx⟩:=hx
  replace hx:=oB hx
  obtain ⟨ws,h1,hx⟩:=hx
  cases hx
  obtain ⟨vs',h2,h3⟩:=xd h1 (hc.drop n)
  rw [hc.length] at hg
  exact ⟨.agg (ss.take n)::vs',by simp only [AM.spread,hg,guardB,cond_true,h2,Option.bind_some],⟨_,rfl,hc.take n⟩,h3⟩
theorem ARs.take (n:Nat):∀ {c:List TA} {x:List AV},ARs P h Z J c x→ARs P h Z J (c.take n) (x.take n):=by
 induction n with
 | zero=>intro c x _;simp [ARs]
 | succ n ih=>intro c x h;cases c<;>cases x<;>simp_all [ARs]
theorem ARs.drop (n:Nat):∀ {c:List TA} {x:List AV},ARs P h Z J c x→ARs P h Z J (c.drop n) (x.drop n):=by
 induction n with
 | zero=>intro c x h;simpa using h
 | succ n ih=>intro c x h;cases c<;>cases x<;>simp_all [ARs]
def ToldK (P:Program) (A:TAn) (An:FuncId→FAn) (dOk:FAn→Array Oper→Bool) (J0:List JE) (Z0:Nat→Prop) (H0:TH) (h0:AH) (o:Oper) (a:AM.St) (c:TS→Option R) (r:R):Prop:=
 ∃ k s' a' J' Z',c s'=some r∧StR P J0 Z0 H0 h0 J' Z' s' a'∧AM.evOp P A.a (AM.evF P An dOk k) o a some=some a'
theorem told_call (q:StR P J0 Z0 H0 h0 J Z s a) (hiso:A.a.iso=[]) (hev:ZJ P An dOk ev) (horc:Zs P An dOk A) {o:Oper} {f:Operand} {args:Array Operand} {ts:Array TypeId} (ho:o.op=.call { callee:=.value f,args:=args,argTypes:=ts }) {c:TS→Option R}
  (hx:((TM.evV s f).bind fun f=>TM.asSc f fun f=>match f with
  | .fn g nf sh cs=>AM.guardB (!(Nat.beq g YF)&&AM.okv A.a g)<|(TM.evVs s args.toList).bind fun as=>(TM.spread sh cs).bind fun vs=>
   Wm P A ev g (List.replicate nf none++ts.toList.map some) (vs.take nf++as++vs.drop nf) s.h fun rs h=>TM.typed P o.type rs fun v=>TM.setK { s with h:=h } o.dst v c
  | .yl id=>AM.guardB (AM.oky A.a)<|(TM.evVs s args.toList).bind fun as=>Wm P A ev YF (none::ts.toList.map some) (.sc (.yl id)::as) s.h fun rs h=>TM.typed P o.type rs fun v=>TM.setK { s with h:=h } o.dst v c
  | _=>none)=some r):ToldK P A An dOk J0 Z0 H0 h0 o a c r:=by
 replace hx:=oB hx
 obtain ⟨fv,hf,hx⟩:=hx
 replace hx:=TM.asSc_some.1 hx
 obtain ⟨fc,rfl,hx⟩:=hx
 obtain ⟨_,h1,fs,rfl,h2⟩:=zK q hf
 split at hx
 ·rename_i g nf sh cs
  replace hx:=gB.1 hx
  obtain ⟨hny0,hx⟩:=hx
  obtain ⟨hny,hrov⟩:=Bool.and_eq_true_iff.1 hny0
  have hny:g≠YF:=fun e=>by subst e;simp at hny
  replace hx:=oB hx
  obtain ⟨as,has,hx⟩:=hx
  replace hx:=oB hx
  obtain ⟨vs,hvs,hx⟩:=hx
  obtain ⟨ss,rfl,hcs⟩:=h2
  obtain ⟨as',h3,h4⟩:=yI q has
  obtain ⟨vs',h5,h6⟩:=xd hvs hcs
  obtain ⟨k,rs,H',avs',h',J',Z',he,hx,st,hrs⟩:=Vd q hev horc hx (.inl ⟨hny,rfl,rfl⟩) (((h6.take nf).append h4).append (h6.drop nf))
  obtain ⟨v,y,hx,hv,hk⟩:=Zu hx hrs
  rw [xy] at hx
  have q2:=q.mem st
  refine ⟨k,_,_,J',Z',hx,q2.put o.dst hv,?_⟩
  simp only [AM.evOp,ho,h1,AM.asSc,AM.asF,h3,h5,Option.bind_some,AM.callK,hrov,AM.guardB,cond_true,hiso,List.contains_nil,Bool.false_and,cond_false,he,hk,AM.setK_eq]
 ·rename_i id
  replace hx:=AM.gB.1 hx
  obtain ⟨hrov,hx⟩:=hx
  replace hx:=oB hx
  obtain ⟨as,has,hx⟩:=hx
  have h2':=h2
  obtain ⟨je,hj,hjv,rfl⟩:=h2
  obtain ⟨as',h3,h4⟩:=yI q has
  obtain ⟨k,rs,H',avs',h',J',Z',he,hx,st,hrs⟩:=Vd q hev horc hx (g:=.yield je.id) (.inr ⟨rfl,_,rfl,rfl⟩) (show ARs P a.h Z J (_::_) (_::_) from ⟨⟨_,rfl,h2'⟩,h4⟩)
  obtain ⟨v,y,hx,hv,hk⟩:=Zu hx hrs
  rw [xy] at hx
  have q2:=q.mem st
  refine ⟨k,_,_,J',Z',hx,q2.put o.dst hv,?_⟩
  simp only [AM.evOp,ho,h1,AM.asSc,AM.asF,h3,AM.spread,Option.bind_some,AM.callK,hrov,AM.guardB,cond_true,List.take_nil,List.drop_nil,List.nil_append,List.append_nil,he,hk,AM.setK_eq]
 ·cases hx
theorem op_in (q:StR P J0 Z0 H0 h0 J Z s a) (hiso:A.a.iso=[]) (hev:ZJ P An dOk ev) (horc:Zs P An dOk A) {o:Oper} {c:TS→Option R} (hx:TM.evOp P A ev o s c=some r):ToldK P A An dOk J0 Z0 H0 h0 o a c r:=by
 cases hc:VK o.op with
 | false=>
  obtain ⟨s',a',J',Z',h1,h2,h3⟩:=op_told q hc hx
  exact ⟨0,s',a',J',Z',h1,h2,h3 _⟩
 | true=>
  unfold VK at hc
  split at hc
  ·rename_i f args ts ho
   unfold TM.evOp at hx
   rw [ho] at hx
   exact told_call q hiso hev horc ho hx
  ·cases hc
theorem Vu (hrj:∀ f,(An f).rj=[]) (hiso:A.a.iso=[]) (hev:ZJ P An dOk ev) (horc:Zs P An dOk A) {ops:Array Oper}:∀ (l:List Oper) {s:TS} {a:AM.St} {J:List JE} {Z:Nat→Prop} {c:TS→Option R},StR P J0 Z0 H0 h0 J Z s a→TM.evOps P A ev ops l s c=some r→
  ∃ k s' a' J' Z',c s'=some r∧StR P J0 Z0 H0 h0 J' Z' s' a'∧AM.evOps P A.a (AM.evF P An dOk k) ops l a some=some a'
 | [],s,a,J,Z,c,q,hx=>⟨0,s,a,J,Z,hx,q,rfl⟩
 | o::l,s,a,J,Z,c,q,hx=>by
  have step:∀ {s:TS} {a:AM.St},StR P J0 Z0 H0 h0 J Z s a→TM.evOp P A ev o s (fun s=>TM.evOps P A ev ops l s c)=some r→
    ∃ k s' a' J' Z',c s'=some r∧StR P J0 Z0 H0 h0 J' Z' s' a'∧AM.evOp P A.a (AM.evF P An dOk k) o a (fun s=>AM.evOps P A.a (AM.evF P An dOk k) ops l s some)=some a':=by
   intro s a q hx
   obtain ⟨k1,s1,a1,J1,Z1,hx,q1,he1⟩:=op_in q hiso hev horc hx
   obtain ⟨k2,s2,a2,J2,Z2,hx,q2,he2⟩:=Vu hrj hiso hev horc l q1 hx
   refine ⟨max k1 k2,s2,a2,J2,Z2,hx,q2,?_⟩
   have l1:=AM.evOp_le (P:=P) (A:=A.a) (AM.evF_le (P:=P) (dOk:=dOk) (An:=An) hrj (Nat.le_max_left k1 k2)) he1
   have l2:=AM.evOps_le (P:=P) (A:=A.a) (AM.evF_le (P:=P) (dOk:=dOk) (An:=An) hrj (Nat.le_max_right k1 k2)) (ops:=ops) l (c:=some) (c':=some) (fun _ _ h=>h) he2
   have:=AM.evOp_bind (fun s=>AM.evOps P A.a (AM.evF P An dOk (max k1 k2)) ops l s some) P A.a (AM.evF P An dOk (max k1 k2)) o a some
   simp only [Option.bind_some] at this
   rw [← this,l1,Option.bind_some,l2]
  have skip:∀ {s:TS} {a:AM.St},StR P J0 Z0 H0 h0 J Z s a→TM.evOps P A ev ops l (TM.setSl s o.dst .no) c=some r→
    ∃ k s' a' J' Z',c s'=some r∧StR P J0 Z0 H0 h0 J' Z' s' a'∧AM.evOps P A.a (AM.evF P An dOk k) ops l (AM.setSl a o.dst .no) some=some a':=
   fun q hx=>Vu hrj hiso hev horc l (q.put o.dst (v:=.no) rfl) hx
  simp only [TM.evOps,xy] at hx
  split at hx
  ·rename_i hg
   obtain ⟨k,s',a',J',Z',h1,h2,h3⟩:=step q hx
   exact ⟨k,s',a',J',Z',h1,h2,by simp only [AM.evOps,hg];exact h3⟩
  ·rename_i j w hg
   replace hx:=oB hx
   obtain ⟨d,h1,hx⟩:=hx
   replace hx:=oB hx
   obtain ⟨g,h2,hx⟩:=hx
   obtain ⟨y,h3,h4⟩:=q.tm d g h2
   split at hx
   ·rename_i t
    obtain ⟨_,rfl,z,rfl,h5⟩:=h4
    simp only [CR] at h5;subst h5
    have q2:=q.put (some d) (v:=.v (.sc (.bool t))) (x:=.v (.sc (.bool t))) ⟨_,rfl,_,rfl,CR.bool'⟩
    cases w<;>cases t<;>simp only [cond_true,cond_false] at hx
    ·obtain ⟨k,s',a',J',Z',h6,h7,h8⟩:=step q2 hx
     exact ⟨k,s',a',J',Z',h6,h7,by simp only [AM.evOps,hg,h1,h3,Option.bind_some,AM.setK_eq,cond_false];exact h8⟩
    ·obtain ⟨k,s',a',J',Z',h6,h7,h8⟩:=skip q2 hx
     exact ⟨k,s',a',J',Z',h6,h7,by simp only [AM.evOps,hg,h1,h3,Option.bind_some,AM.setK_eq,cond_false,cond_true];exact h8⟩
    ·obtain ⟨k,s',a',J',Z',h6,h7,h8⟩:=skip q2 hx
     exact ⟨k,s',a',J',Z',h6,h7,by simp only [AM.evOps,hg,h1,h3,Option.bind_some,AM.setK_eq,cond_false,cond_true];exact h8⟩
    ·obtain ⟨k,s',a',J',Z',h6,h7,h8⟩:=step q2 hx
     exact ⟨k,s',a',J',Z',h6,h7,by simp only [AM.evOps,hg,h1,h3,Option.bind_some,AM.setK_eq,cond_true];exact h8⟩
   ·simp only [SR] at h4;subst h4
    obtain ⟨k,s',a',J',Z',h6,h7,h8⟩:=skip q hx
    exact ⟨k,s',a',J',Z',h6,h7,by simp only [AM.evOps,hg,h1,h3,Option.bind_some,AM.setK_eq];exact h8⟩
   ·cases hx
theorem all_of_get {α:Type} {f:α→Bool} {t:Tr α}:(∀ (i:Nat) (v:α),t.get i=some v→f v=true)→t.all f=true:=by
 induction t with
 | nil=>intro _;rfl
 | leaf x=>intro h;exact h 0 x (by rw [Tr.get_leaf];rfl)
 | node l r il ir=>
  intro h
  have h1:=il fun i v hv=>h (2*i) v (by rw [Tr.get_node,if_pos (by omega),show 2*i / 2=i by omega];exact hv)
  have h2:=ir fun i v hv=>h (2*i+1) v (by rw [Tr.get_node,if_neg (by omega),show (2*i+1) / 2=i by omega];exact hv)
  show cond (l.all f) (r.all f) false=true
  rw [h1,h2];rfl
theorem freshAll_rel (q:StR P J0 Z0 H0 h0 J Z s a) {F:FAn} {ops:Array Oper} (hx:TM.freshAll F ops s=true):AM.freshAll F ops a=true:=by
 have key:∀ d:Nat,(s.sl.all fun v=>!(TM.isRef d v))=true→(a.sl.all fun v=>!(AM.isRef d v))=true:=by
  intro d hd
  refine all_of_get fun i x hi=>?_
  obtain ⟨v,hv⟩:=q.mt i x hi
  obtain ⟨x',hx',hr⟩:=q.tm i v hv
  rw [hi] at hx';cases hx'
  have h1:=Tr.all_get hd hv
  cases v with
  | l k o=>simp only [SR] at hr;subst hr;exact h1
  | s k n=>simp only [SR] at hr;subst hr;exact h1
  | u=>cases x<;>simp_all [SR,YG,AM.isRef]
  | w=>simp [TM.isRef] at h1
  | no=>simp only [SR] at hr;subst hr;rfl
  | v y=>obtain ⟨_,rfl,_⟩:=hr;rfl
  | t y=>obtain ⟨_,rfl,_⟩:=hr;rfl
  | e t xs i o=>obtain ⟨_,_,_,_,rfl,_⟩:=hr;rfl
  | p id i o=>obtain ⟨_,_,_,rfl⟩:=hr;rfl
 unfold TM.freshAll at hx
 unfold AM.freshAll
 rw [List.all_eq_true] at hx ⊢
 intro o ho
 have h1:=hx o ho
 cases hop:o.op<;>simp only [hop] at h1 ⊢
 all_goals
  cases hd:o.dst with
  | none=>rfl
  | some d=>
   simp only [hd,Bool.or_eq_true] at h1 ⊢
   rcases h1 with h1 | h1
   ·exact .inl h1
   ·exact .inr (key d h1)
def xB (P:Program) (A:TAn) (An:FuncId→FAn) (dOk:FAn→Array Oper→Bool) (p:Nat×Code×Nat):Prop:=
 ∀ s alts e s',A.tell p.1 s=some alts→xk alts (fun e s=>some (e,s))=some (e,s')→
  ∀ J0 Z0 H0 h0 J Z a,StR P J0 Z0 H0 h0 J Z (wm A.nt s) (cond (Nat.beq (p.1 % 8) 0) (AM.maskAt A.a p.2.2 a) a)→
  ∃ k a' J' Z',StR P J0 Z0 H0 h0 J' Z' (wm A.nt s') a'∧AM.evCode P A.a (AM.evF P An dOk k) dOk k p.2.1 p.2.2 a (fun e s=>some (e,s))=some (e,a')
theorem WC:∀ {alts:List (Bool×Ex×CS)} {c:Ex→CS→Option R},xk alts c=some r→∃ e s,xk alts (fun e s=>some (e,s))=some (e,s)∧c e s=some r
 | [],c,hx=>by cases hx
 | (b,e,s)::l,c,hx=>by
  simp only [xk] at hx ⊢
  cases b with
  | true=>exact ⟨e,s,rfl,hx⟩
  | false=>exact WC hx
def Led (P:Program) (A:TAn) (An:FuncId→FAn) (dOk:FAn→Array Oper→Bool) (J0:List JE) (Z0:Nat→Prop) (H0:TH) (h0:AH) (c:Code) (blk:Nat) (a:AM.St) (K:Ex→TS→Option R) (r:R):Prop:=
 ∃ k e s' a' J' Z',K e s'=some r∧StR P J0 Z0 H0 h0 J' Z' s' a'∧AM.evCode P A.a (AM.evF P An dOk k) dOk k c blk a (fun e s=>some (e,s))=some (e,a')
theorem yZ (hrj:∀ f,(An f).rj=[]) (hrjA:A.a.rj=[]) {c:Code} {blk k k':Nat} {a:AM.St} {e:Ex} {a':AM.St} (hk:k≤k') (he:AM.evCode P A.a (AM.evF P An dOk k) dOk k c blk a (fun e s=>some (e,s))=some (e,a')) :
  ∀ {S:Type} (K:Ex→AM.St→Option S),AM.evCode P A.a (AM.evF P An dOk k') dOk k' c blk a K=K e a':=by
 intro S K
 have h1:=AM.evCode_le (P:=P) (A:=A.a) hrjA (AM.evF_le (P:=P) (dOk:=dOk) (An:=An) hrj hk) hk c blk a (K':=fun e s=>some (e,s)) (fun _ _ _ h=>h) he
 have h2:=AM.evCode_bind P A.a (AM.evF P An dOk k') dOk (fun p:Ex×AM.St=>K p.1 p.2) hrjA k' c blk a (fun e s=>some (e,s))
 simp only [Option.bind_some] at h2
 rw [← h2,h1];rfl
theorem UG {p:Nat×Code×Nat} {c:Code} {blk:Nat} {K:Ex→TS→Option R} {d:CS→Option R} {s:CS} (hx:tellK A p.1 s K d=some r):(∃ alts e s',A.tell p.1 s=some alts∧xk alts (fun e s=>some (e,s))=some (e,s')∧K e (wm A.nt s')=some r)∨d s=some r:=by
 unfold tellK at hx
 split at hx
 ·rename_i alts hal
  obtain ⟨e,s',h1,h2⟩:=WC hx
  exact .inl ⟨alts,e,s',hal,h1,h2⟩
 ·exact .inr hx
theorem slots_rel (q:StR P J0 Z0 H0 h0 J Z s a) {key:Nat} {p:Nat×TV} (hp:p∈VH A key s):∃ x,a.sl.get p.1=some x∧SR P a.h Z J p.2 x∧YG x=false:=by
 unfold VH at hp
 obtain ⟨i,_,h2⟩:=List.mem_filterMap.1 hp
 obtain ⟨v,h3,h4⟩:=oB h2
 rcases cond_some.1 h4 with ⟨h5,h6⟩ | ⟨_,h6⟩
 ·cases h6
  obtain ⟨x,h7,h8⟩:=q.tm i v h3
  refine ⟨x,h7,h8,?_⟩
  cases v with
  | u=>cases h5
  | w=>cases h5
  | l k o=>cases h5
  | s k n=>cases h5
  | no=>simp only [SR] at h8;subst h8;rfl
  | v y=>obtain ⟨_,rfl,_⟩:=h8;rfl
  | t y=>obtain ⟨_,rfl,_⟩:=h8;rfl
  | e t xs i o=>obtain ⟨_,_,_,_,rfl,_⟩:=h8;rfl
  | p id i o=>obtain ⟨_,_,_,rfl⟩:=h8;rfl
 ·cases h6
theorem noLoc_id {x:AM.SV} (h:YG x=false):AM.noLoc x=x:=by cases x<;>first | rfl | cases h
theorem noLoc_loc (x:AM.SV):YG (AM.noLoc x)=false:=by cases x<;>rfl
theorem range_rel (hrj:∀ f,(An f).rj=[]) (hrjA:A.a.rj=[]) (hiso:A.a.iso=[]) (hev:ZJ P An dOk ev) (horc:Zs P An dOk A) (q:StR P J0 Z0 H0 h0 J Z s a) {g:Operand} {ps:Array Tmp} {x y:Code} {blk:Nat} {K:Ex→TS→Option R}
  (hf:ZH P A.a.self (YH y)=some (ps.toList,x,y)) (hx:rangeT P A ev g x y s K=some r):Led P A An dOk J0 Z0 H0 h0 (.rangeFunc g ps x y) blk a K r:=by
 unfold rangeT at hx
 replace hx:=oB hx
 obtain ⟨fv,hfv,hx⟩:=hx
 replace hx:=TM.asSc_some.1 hx
 obtain ⟨fc,rfl,hx⟩:=hx
 obtain ⟨_,h1,fs,rfl,h2⟩:=zK q hfv
 split at hx
 case h_2=>cases hx
 rename_i f nf sh cs
 replace hx:=oB hx
 obtain ⟨vs,hvs,hx⟩:=hx
 replace hx:=gB.1 hx
 obtain ⟨hg,hx⟩:=hx
 obtain ⟨hg123,hg4⟩:=Bool.and_eq_true_iff.1 hg
 obtain ⟨g4,hrov⟩:=Bool.and_eq_true_iff.1 hg4
 simp only [Bool.and_eq_true] at hg123
 obtain ⟨⟨g1,g2⟩,g3⟩:=hg123
 have hny:f≠YF:=fun e=>by subst e;simp at g4
 obtain ⟨ss,rfl,hcs⟩:=h2
 obtain ⟨vs',h5,h6⟩:=xd hvs hcs
 let al:AM.ALoop:=⟨0,none,A.a.self,a.sl.map AM.noLoc,ps.toList,x,y⟩
 let lo:TO:=.loop 0 none A.a.self (YH y) A.nt (VH A (YH y) s)
 let je:JE:=⟨false,a.h.length,0,0,0⟩
 have hpre:J <+: J++[je]:=List.prefix_append _ _
 have dom:∀ i,(a.sl.get i).isSome=(s.sl.get i).isSome:=fun i=>by
  cases h:a.sl.get i with
  | some v=>obtain ⟨w,hw⟩:=q.mt i v h;rw [hw];rfl
  | none=>
   cases h':s.sl.get i with
   | none=>rfl
   | some v=>obtain ⟨w,hw,_⟩:=q.tm i v h';rw [hw] at h;cases h
 have st1:Step P J Z s.h a.h (J++[je]) Z (s.h++[lo]) (a.h++[.loop al]):=by
  refine Wn q.hp rfl ⟨rfl,al,by simp [je],rfl,rfl,rfl,hf,fun i=>?_,fun i v hv=>?_,fun p hp=>?_⟩
  ·show ((a.sl.map AM.noLoc).get i).isSome=_
   rw [Tr.get_map,← TX g3 i,← dom i]
   cases a.sl.get i<;>rfl
  ·have hv:(a.sl.map AM.noLoc).get i=some v:=hv
   rw [Tr.get_map] at hv
   obtain ⟨u,_,rfl⟩:=oM hv
   exact noLoc_loc u
  ·obtain ⟨v,k1,k2,k3⟩:=slots_rel q hp
   refine ⟨v,?_,k2.mono ⟨fun _ h=>h,fun id hz=>?_⟩ hpre⟩
   ·show (a.sl.map AM.noLoc).get p.1=_
    rw [Tr.get_map,k1,Option.map_some,noLoc_id k3]
   ·exact List.getElem?_append_left (q.hp.zlt id hz)
 have q1:=q.mem st1
 have hlen:=q.hp.len
 have hJ1:(J++[je])[s.h.length]?=some je:=by rw [← hlen];simp
 have x1:=st1.ext q.hp
 have ha:ARs P (a.h++[.loop al]) Z (J++[je]) (vs.take nf++[.sc (.yl s.h.length)]++vs.drop nf) (vs'.take nf++[.sc (.fn (.yield a.h.length) 0 [] [])]++vs'.drop nf):=by
  refine ((ARs.mono x1 hpre (h6.take nf)).append ?_).append (ARs.mono x1 hpre (h6.drop nf))
  exact ⟨⟨_,rfl,je,hJ1,rfl,rfl⟩,trivial⟩
 obtain ⟨k,rs,H',avs',h',J',Z',he,hx,st,hrs⟩:=Vd q1 hev horc hx (.inl ⟨hny,rfl,rfl⟩) ha
 have q2:=q1.mem st
 have hJ2:J'[s.h.length]?=some je:=zU st.kp.pre hJ1
 unfold TM.rangeEnd at hx
 split at hx
 case h_2=>cases hx
 rename_i st0 pe f0 key0 nt0 sl0 ho
 replace hx:=gB.1 hx
 obtain ⟨hb,hx⟩:=hx
 have ho':=zE ho rfl
 have hor:=st.hr.obj _ _ _ ho' hJ2
 obtain ⟨_,al2,k1,k2,k3,_⟩:=hor
 have st3:Step P J' Z' H' h' J' Z' (H'.set s.h.length .dead) (h'.set je.id .dead):=wc st.hr ho' rfl hJ2 rfl trivial
 have q3:=q2.mem st3
 have fin:∀ e,(pe=none∧e=Ex.normal∨pe=some e∧e≠.normal)→K e { s with h:=H'.set s.h.length .dead }=some r→Led P A An dOk J0 Z0 H0 h0 (.rangeFunc g ps x y) blk a K r:=by
  intro e hpe hK
  refine ⟨k,e,_,_,J',Z',hK,q3,?_⟩
  have hb':(!(Nat.beq al2.st 1))=true:=by rw [k2];exact hb
  have hb3:Nat.beq al2.st 1=false:=by simpa using hb'
  have e1:AM.rangeEnd a (fun e s=>some (e,s)) h'=some (e,{ a with h:=h'.set je.id .dead }):=by
   unfold AM.rangeEnd
   have:h'[a.h.length]?=some (.loop al2):=k1
   simp only [this,hb3,Bool.not_false,AM.guardB,cond_true]
   rcases hpe with ⟨rfl,rfl⟩ | ⟨rfl,hne⟩
   ·have hp:al2.pend=none:=k3
    simp only [hp]<;>rfl
   ·cases e with
    | normal=>exact absurd rfl hne
    | exit i=>have hp:al2.pend=some (.exit i):=k3;simp only [hp]<;>rfl
    | ret=>have hp:al2.pend=some .ret:=k3;simp only [hp]<;>rfl
  simp only [AM.evCode,AM.rangeK,h1,AM.asSc,AM.asF,h5,Option.bind_some,g1,g2,AM.fnName,Bool.and_self,AM.guardB,cond_true,AM.callK,hrov,hiso,List.contains_nil,Bool.false_and,cond_false]
  rw [he,Option.bind_some]
  exact e1
 split at hx
 ·exact fin _ (.inl ⟨rfl,rfl⟩) hx
 ·exact fin _ (.inr ⟨rfl,by simp⟩) hx
 ·exact fin _ (.inr ⟨rfl,by simp⟩) hx
 ·cases hx
theorem yQ (hrj:∀ f,(An f).rj=[]) (hrjA:A.a.rj=[]) (hiso:A.a.iso=[]) (hev:ZJ P An dOk ev) (horc:Zs P An dOk A) {k0:Nat}:∀ (c:Code) (blk:Nat) {s:TS} {a:AM.St} {J:List JE} {Z:Nat→Prop} {K:Ex→TS→Option R},(∀ p∈zw A blk c,xB P A An dOk p)→(∀ p∈rfs c,ZH P A.a.self p.1=some p.2)→
  StR P J0 Z0 H0 h0 J Z s a→TM.evCode P A ev dOk k0 c blk s K=some r→Led P A An dOk J0 Z0 H0 h0 c blk a K r
 | .skip,blk,s,a,J,Z,K,hp,hf,q,hx=>⟨0,.normal,s,a,J,Z,hx,q,rfl⟩
 | .label _,blk,s,a,J,Z,K,hp,hf,q,hx=>⟨0,.normal,s,a,J,Z,hx,q,rfl⟩
 | .exit i,blk,s,a,J,Z,K,hp,hf,q,hx=>⟨0,.exit i,s,a,J,Z,hx,q,rfl⟩
 | .ret,blk,s,a,J,Z,K,hp,hf,q,hx=>⟨0,.ret,s,a,J,Z,hx,q,rfl⟩
 | .region id ops draw,blk,s,a,J,Z,K,hp,hf,q,hx=>by
  simp only [TM.evCode,TM.evRegion] at hx
  replace hx:=gB.1 hx
  obtain ⟨hg,hx⟩:=hx
  obtain ⟨k,s',a',J',Z',hx,q',he⟩:=Vu hrj hiso hev horc ops.toList q hx
  have hg2:(!draw||(dOk A.a ops&&AM.freshAll A.a ops a))=true:=by
   simp only [Bool.or_eq_true,Bool.and_eq_true] at hg ⊢
   rcases hg with hg | ⟨h1,h2⟩
   ·exact .inl hg
   ·exact .inr ⟨h1,freshAll_rel q h2⟩
  refine ⟨k,.normal,_,_,J',Z',hx,Vm q' A id,?_⟩
  simp only [AM.evCode,AM.evRegion,hg2,AM.guardB,cond_true,hrjA,List.find?_nil]
  have h2:=AM.evOps_bind P A.a (AM.evF P An dOk k) (fun s=>some (Ex.normal,AM.maskR A.a id s)) ops ops.toList a some
  simp only [Option.bind_some] at h2
  rw [← h2,he];rfl
 | .seq x y,blk,s,a,J,Z,K,hp,hf,q,hx=>by
  simp only [TM.evCode] at hx
  have hpx:∀ p∈zw A blk x,xB P A An dOk p:=fun p h=>hp p (by simp only [zw,List.mem_append];exact .inl (.inl h))
  have hpy:∀ p∈zw A blk y,xB P A An dOk p:=fun p h=>hp p (by simp only [zw,List.mem_append];exact .inr h)
  have hfx:∀ p∈rfs x,ZH P A.a.self p.1=some p.2:=fun p h=>hf p (by simp only [rfs,List.mem_append];exact .inl h)
  have hfy:∀ p∈rfs y,ZH P A.a.self p.1=some p.2:=fun p h=>hf p (by simp only [rfs,List.mem_append];exact .inr h)
  obtain ⟨k1,e,s1,a1,J1,Z1,hx,q1,he1⟩:=yQ hrj hrjA hiso hev horc x blk hpx hfx q hx
  cases e with
  | exit i=>
   refine ⟨k1,.exit i,s1,a1,J1,Z1,hx,q1,?_⟩
   simp only [AM.evCode,yZ hrj hrjA (Nat.le_refl _) he1,AM.kSeq]
  | ret=>
   refine ⟨k1,.ret,s1,a1,J1,Z1,hx,q1,?_⟩
   simp only [AM.evCode,yZ hrj hrjA (Nat.le_refl _) he1,AM.kSeq]
  | normal=>
   have fin:Led P A An dOk J0 Z0 H0 h0 y blk a1 K r→Led P A An dOk J0 Z0 H0 h0 (.seq x y) blk a K r:=by
    rintro ⟨k2,e2,s2,a2,J2,Z2,hx,q2,he2⟩
    refine ⟨max k1 k2,e2,s2,a2,J2,Z2,hx,q2,?_⟩
    simp only [AM.evCode,yZ hrj hrjA (Nat.le_max_left k1 k2) he1,AM.kSeq,yZ hrj hrjA (Nat.le_max_right k1 k2) he2]
   simp only [TM.kSeq] at hx
   split at hx
   ·rename_i id hid
    rcases cond_some.1 hx with ⟨hcut,hx⟩ | ⟨_,hx⟩
    ·obtain ⟨s2,J2,Z2,hx,q2⟩:=Zq q1 hx
     have hpp:xB P A An dOk (8*id+4,y,blk):=hp _ (by
      simp only [zw,List.mem_append]
      refine .inl (.inr ?_)
      rw [hid];simp only [hcut,cond_true,List.mem_singleton])
     rcases UG (p:=(8*id+4,y,blk)) (c:=y) (blk:=blk) hx with ⟨alts,e,s',h1,h2,h3⟩ | hx
     ·obtain ⟨k,a',J',Z',q',he⟩:=hpp s2 alts e s' h1 h2 J0 Z0 H0 h0 J2 Z2 a1 (by
       have:Nat.beq ((8*id+4) % 8) 0=false:=by rw [show (8*id+4) % 8=4 by omega];rfl
       simp only [this,cond_false];exact q2)
      exact fin ⟨k,e,_,a',J',Z',h3,q',he⟩
     ·exact fin (yQ hrj hrjA hiso hev horc y blk hpy hfy q2 hx)
    ·exact fin (yQ hrj hrjA hiso hev horc y blk hpy hfy q1 hx)
   ·exact fin (yQ hrj hrjA hiso hev horc y blk hpy hfy q1 hx)
 | .cond g x y,blk,s,a,J,Z,K,hp,hf,q,hx=>by
  simp only [TM.evCode] at hx
  obtain ⟨t,hx,hg⟩:=evB_rel q hx
  cases t with
  | true=>
   obtain ⟨k,e,s',a',J',Z',h1,h2,h3⟩:=yQ hrj hrjA hiso hev horc x blk (fun p h=>hp p (by simp only [zw,List.mem_append];exact .inl h)) (fun p h=>hf p (by simp only [rfs,List.mem_append];exact .inl h)) q hx
   exact ⟨k,e,s',a',J',Z',h1,h2,by simp only [AM.evCode,hg,Option.bind_some,AM.asSc,AM.asB,cond_true];exact h3⟩
  | false=>
   obtain ⟨k,e,s',a',J',Z',h1,h2,h3⟩:=yQ hrj hrjA hiso hev horc y blk (fun p h=>hp p (by simp only [zw,List.mem_append];exact .inr h)) (fun p h=>hf p (by simp only [rfs,List.mem_append];exact .inr h)) q hx
   exact ⟨k,e,s',a',J',Z',h1,h2,by simp only [AM.evCode,hg,Option.bind_some,AM.asSc,AM.asB,cond_false];exact h3⟩
 | .block id b,blk,s,a,J,Z,K,hp,hf,q,hx=>by
  simp only [TM.evCode] at hx
  obtain ⟨k,e,s',a',J',Z',h1,h2,h3⟩:=yQ hrj hrjA hiso hev horc b id hp hf q hx
  cases e with
  | normal=>exact ⟨k,.normal,s',a',J',Z',h1,h2,by simp only [AM.evCode,yZ hrj hrjA (Nat.le_refl _) h3,AM.kBlock]⟩
  | ret=>exact ⟨k,.ret,s',a',J',Z',h1,h2,by simp only [AM.evCode,yZ hrj hrjA (Nat.le_refl _) h3,AM.kBlock]⟩
  | exit i=>
   simp only [TM.kBlock] at h1
   rcases cond_some.1 h1 with ⟨hb,h1⟩ | ⟨hb,h1⟩
   ·exact ⟨k,.normal,s',a',J',Z',h1,h2,by simp only [AM.evCode,yZ hrj hrjA (Nat.le_refl _) h3,AM.kBlock,hb,cond_true]⟩
   ·exact ⟨k,.exit i,s',a',J',Z',h1,h2,by simp only [AM.evCode,yZ hrj hrjA (Nat.le_refl _) h3,AM.kBlock,hb,cond_false]⟩
 | .loop b,blk,s,a,J,Z,K,hp,hf,q,hx=>by
  simp only [TM.evCode,Zn] at hx
  obtain ⟨s1,J1,Z1,hx,q1⟩:=Zq (wW q A blk) hx
  have hpb:∀ p∈zw A blk b,xB P A An dOk p:=fun p h=>hp p (by simp only [zw,List.mem_cons];exact .inr h)
  have hpp:xB P A An dOk (8*blk,.loop b,blk):=hp _ (by simp only [zw];exact List.mem_cons_self)
  have loop:∀ (n:Nat) {s:CS} {a:AM.St} {J:List JE} {Z:Nat→Prop},StR P J0 Z0 H0 h0 J Z (wm A.nt s) (AM.maskAt A.a blk a)→TM.loopN A.nt (fun s c=>Zn P A blk s c) (TM.evCode P A ev dOk k0 b blk) K n s=some r→Led P A An dOk J0 Z0 H0 h0 (.loop b) blk a K r:=by
   intro n
   induction n with
   | zero=>intro s a J Z _ hx;cases hx
   | succ n ih=>
    intro s a J Z q hx
    simp only [TM.loopN] at hx
    obtain ⟨k1,e,s1,a1,J1,Z1,hx,q1,he1⟩:=yQ hrj hrjA hiso hev horc b blk hpb hf q hx
    cases e with
    | normal=>
     simp only [Zn] at hx
     obtain ⟨s2,J2,Z2,hx,q2⟩:=Zq (wW q1 A blk) hx
     obtain ⟨k2,e2,s3,a3,J3,Z3,hx,q3,he3⟩:=ih q2 hx
     refine ⟨max k1 k2+1,e2,s3,a3,J3,Z3,hx,q3,?_⟩
     simp only [AM.evCode,AM.loopN]
     rw [yZ hrj hrjA (Nat.le_succ_of_le (Nat.le_max_left k1 k2)) he1]
     simp only [AM.evCode] at he3
     exact AM.loopN_le (fun s c c' x hc hx=>AM.evCode_le hrjA (AM.evF_le hrj (Nat.le_succ_of_le (Nat.le_max_right k1 k2))) (Nat.le_succ_of_le (Nat.le_max_right k1 k2)) b blk s hc hx) (fun _ _ _ h=>h) k2 (max k1 k2) (Nat.le_max_right k1 k2) he3
    | exit i=>
     refine ⟨k1+1,.exit i,s1,a1,J1,Z1,hx,q1,?_⟩
     simp only [AM.evCode,AM.loopN]
     rw [yZ hrj hrjA (Nat.le_succ k1) he1]
    | ret=>
     refine ⟨k1+1,.ret,s1,a1,J1,Z1,hx,q1,?_⟩
     simp only [AM.evCode,AM.loopN]
     rw [yZ hrj hrjA (Nat.le_succ k1) he1]
  rcases UG (p:=(8*blk,.loop b,blk)) (c:=.loop b) (blk:=blk) hx with ⟨alts,e,s',h1,h2,h3⟩ | hx
  ·obtain ⟨k,a',J',Z',q',he⟩:=hpp s1 alts e s' h1 h2 J0 Z0 H0 h0 J1 Z1 a (by
    have:Nat.beq ((8*blk) % 8) 0=true:=by rw [show (8*blk) % 8=0 by omega];rfl
    simp only [this,cond_true];exact q1)
   exact ⟨k,e,_,a',J',Z',h3,q',he⟩
  ·exact loop k0 q1 hx
 | .rangeFunc g ps x y,blk,s,a,J,Z,K,hp,hf,q,hx=>by
  simp only [TM.evCode] at hx
  exact range_rel hrj hrjA hiso hev horc q (hf (YH y,ps.toList,x,y) (by simp only [rfs];exact List.mem_cons_self)) hx
 | .scope b,blk,s,a,J,Z,K,hp,hf,q,hx=>by
  simp only [TM.evCode] at hx
  obtain ⟨k,e,s',a',J',Z',h1,h2,h3⟩:=yQ hrj hrjA hiso hev horc b blk hp hf q hx
  exact ⟨k,e,s',a',J',Z',h1,h2,by simp only [AM.evCode];exact h3⟩
 | .goto _,_,_,_,_,_,_,_,_,_,hx=>by cases hx
 | .refuse _,_,_,_,_,_,_,_,_,_,hx=>by cases hx
theorem loop_rel (hrj:∀ f,(An f).rj=[]) (hrjA:A.a.rj=[]) (hiso:A.a.iso=[]) (hev:ZJ P An dOk ev) (horc:Zs P An dOk A) {k0:Nat} {b:Code} {blk:Nat} (hpb:∀ p∈zw A blk b,xB P A An dOk p) (hfb:∀ p∈rfs b,ZH P A.a.self p.1=some p.2) {K:Ex→TS→Option R} :
  ∀ (n:Nat) {s:CS} {a:AM.St} {J:List JE} {Z:Nat→Prop},StR P J0 Z0 H0 h0 J Z (wm A.nt s) (AM.maskAt A.a blk a)→TM.loopN A.nt (fun s c=>Zn P A blk s c) (TM.evCode P A ev dOk k0 b blk) K n s=some r→Led P A An dOk J0 Z0 H0 h0 (.loop b) blk a K r:=by
 intro n
 induction n with
 | zero=>intro s a J Z _ hx;cases hx
 | succ n ih=>
  intro s a J Z q hx
  simp only [TM.loopN] at hx
  obtain ⟨k1,e,s1,a1,J1,Z1,hx,q1,he1⟩:=yQ hrj hrjA hiso hev horc b blk hpb hfb q hx
  cases e with
  | normal=>
   simp only [Zn] at hx
   obtain ⟨s2,J2,Z2,hx,q2⟩:=Zq (wW q1 A blk) hx
   obtain ⟨k2,e2,s3,a3,J3,Z3,hx,q3,he3⟩:=ih q2 hx
   refine ⟨max k1 k2+1,e2,s3,a3,J3,Z3,hx,q3,?_⟩
   simp only [AM.evCode,AM.loopN]
   rw [yZ hrj hrjA (Nat.le_succ_of_le (Nat.le_max_left k1 k2)) he1]
   simp only [AM.evCode] at he3
   exact AM.loopN_le (fun s c c' x hc hx=>AM.evCode_le hrjA (AM.evF_le hrj (Nat.le_succ_of_le (Nat.le_max_right k1 k2))) (Nat.le_succ_of_le (Nat.le_max_right k1 k2)) b blk s hc hx) (fun _ _ _ h=>h) k2 (max k1 k2) (Nat.le_max_right k1 k2) he3
  | exit i=>
   refine ⟨k1+1,.exit i,s1,a1,J1,Z1,hx,q1,?_⟩
   simp only [AM.evCode,AM.loopN]
   rw [yZ hrj hrjA (Nat.le_succ k1) he1]
  | ret=>
   refine ⟨k1+1,.ret,s1,a1,J1,Z1,hx,q1,?_⟩
   simp only [AM.evCode,AM.loopN]
   rw [yZ hrj hrjA (Nat.le_succ k1) he1]
variable {P : Program} {A : TAn} {ev : TEv} {An : FuncId → FAn} {dOk : FAn → Array Oper → Bool} {J0 J J' : List JE} {Z0 Z Z' : Nat → Prop} {H0 H H' : TH} {h0 h h' : AH} {s : TS} {a : AM.St} {R : Type} {r : R}
theorem QW {α β:Type}:∀ {l:List α} {m:List β},l.length=m.length→(Tr.evens l).length=(Tr.evens m).length
 | [],[],_=>rfl
 | [_],[_],_=>rfl
 | _::_::l,_::_::m,h=>by simp only [Tr.evens,List.length_cons];rw [QW (by simpa using h)]
 | [],_::_,h=>by simp at h
 | _::_,[],h=>by simp at h
 | [_],_::_::_,h=>by simp at h
 | _::_::_,[_],h=>by simp at h
theorem odds_len {α β:Type}:∀ {l:List α} {m:List β},l.length=m.length→(Tr.odds l).length=(Tr.odds m).length
 | [],[],_=>rfl
 | [_],[_],_=>rfl
 | _::_::l,_::_::m,h=>by simp only [Tr.odds,List.length_cons];rw [odds_len (by simpa using h)]
 | [],_::_,h=>by simp at h
 | _::_,[],h=>by simp at h
 | [_],_::_::_,h=>by simp at h
 | _::_::_,[_],h=>by simp at h
theorem ZQ {α β:Type}:∀ (d:Nat) {l:List α} {m:List β} (i:Nat) {v:α},l.length=m.length→(Tr.ofL d l).get i=some v→∃ w,(Tr.ofL d m).get i=some w
 | _,[],m,i,v,hl,h=>by simp [Tr.ofL,Tr.get_nil] at h
 | 0,x::l,[],i,v,hl,h=>by simp at hl
 | 0,x::l,y::m,i,v,hl,h=>by
  rw [show Tr.ofL 0 (x::l)=.leaf x from rfl,Tr.get_leaf] at h
  rw [show Tr.ofL 0 (y::m)=.leaf y from rfl,Tr.get_leaf]
  split at h
  ·exact ⟨y,by simp [*]⟩
  ·cases h
 | d+1,x::l,[],i,v,hl,h=>by simp at hl
 | d+1,x::l,y::m,i,v,hl,h=>by
  rw [show Tr.ofL (d+1) (x::l)=.node (Tr.ofL d (Tr.evens (x::l))) (Tr.ofL d (Tr.odds (x::l))) from rfl,Tr.get_node] at h
  rw [show Tr.ofL (d+1) (y::m)=.node (Tr.ofL d (Tr.evens (y::m))) (Tr.ofL d (Tr.odds (y::m))) from rfl,Tr.get_node]
  split at h
  ·rename_i hi;rw [if_pos hi];exact ZQ d _ (QW hl) h
  ·rename_i hi;rw [if_neg hi];exact ZQ d _ (odds_len hl) h
theorem WK (hr:HR P J Z H h) {args:List TA} {avs:List AV} (ha:ARs P h Z J args avs) (fn:Func):StR P J Z H h J Z (TM.enterSt fn args H) (AM.enterSt fn avs h):=by
 have hl:=ha.length
 refine ⟨fun i v hv=>?_,fun i x hx=>?_,fun k cs hk=>?_,fun k x hk=>?_,hr,Kp.refl ..,rfl,hr.len⟩
 ·simp only [TM.enterSt] at hv
  have h1:=Tr.ofL_get _ _ _ _ hv
  obtain ⟨x,h2⟩:=ZQ (m:=avs.map AM.SV.v++List.replicate (fn.ntmps - avs.length) AM.SV.no) _ i (by simp [hl]) hv
  have h3:=Tr.ofL_get _ _ _ _ h2
  refine ⟨x,h2,?_⟩
  rcases Nat.lt_or_ge i args.length with hi | hi
  ·rw [List.getElem?_append_left (by simpa using hi),List.getElem?_map] at h1
   rw [List.getElem?_append_left (by simp;omega),List.getElem?_map] at h3
   obtain ⟨u,h4,rfl⟩:=oM h1
   obtain ⟨w,h5,rfl⟩:=oM h3
   obtain ⟨y,h6,h7⟩:=ha.get h4
   rw [h5] at h6;cases h6
   exact ⟨w,rfl,h7⟩
  ·rw [List.getElem?_append_right (by simpa using hi),List.getElem?_replicate] at h1
   rw [List.getElem?_append_right (by simp;omega),List.getElem?_replicate] at h3
   split at h1<;>cases h1
   split at h3<;>cases h3
   rfl
 ·simp only [AM.enterSt] at hx
  exact ZQ _ i (by simp [hl]) hx
 ·simp only [TM.enterSt] at hk
  have h1:=Tr.ofL_get _ _ _ _ hk
  rw [List.getElem?_replicate] at h1
  split at h1<;>cases h1
 ·simp only [TM.enterSt] at hk
  exact ZQ _ k (by simp) hk
theorem Yg (q:StR P J0 Z0 H0 h0 J Z s a):∀ {l:List ResultVar} {c:List TA→Option R},TM.resOf P s l c=some r→∃ vs avs,c vs=some r∧ARs P a.h Z J vs avs∧∀ {S:Type} (k:List AV→Option S),AM.resOf P a l k=k avs
 | [],c,hx=>⟨[],[],hx,trivial,fun k=>rfl⟩
 | .tmp t::l,c,hx=>by
  simp only [TM.resOf] at hx
  replace hx:=oB hx
  obtain ⟨v,h1,hx⟩:=hx
  replace hx:=oB hx
  obtain ⟨w,h2,hx⟩:=hx
  obtain ⟨x,h3,h4⟩:=q.tm t v h1
  cases v<;>simp [TV.val] at h2
  subst h2
  obtain ⟨y,rfl,h5⟩:=h4
  obtain ⟨vs,avs,hx,h6,h7⟩:=Yg q hx
  exact ⟨_::vs,y::avs,hx,⟨h5,h6⟩,fun k=>by simp only [AM.resOf,h3,Option.bind_some,AM.SV.val,h7]⟩
 | .cell t ty::l,c,hx=>by
  simp only [TM.resOf] at hx
  replace hx:=gB.1 hx
  obtain ⟨hg,hx⟩:=hx
  replace hx:=oB hx
  obtain ⟨v,h1,hx⟩:=hx
  obtain ⟨x,h3,h4⟩:=q.tm t v h1
  rcases cond_some.1 hx with ⟨hag,hx⟩ | ⟨hag,hx⟩
  ·obtain ⟨u,u',hx,hu,_,hk⟩:=Wx q hx h4
   obtain ⟨vs,avs,hx,h6,h7⟩:=Yg q hx
   exact ⟨_::vs,.agg u'::avs,hx,⟨⟨u',rfl,hu⟩,h6⟩,fun k=>by simp only [AM.resOf,hg,AM.guardB,cond_true,h3,Option.bind_some,hag,hk,h7]⟩
  ·obtain ⟨u,u',hx,hu,hk⟩:=QT q hx h4
   obtain ⟨vs,avs,hx,h6,h7⟩:=Yg q hx
   exact ⟨_::vs,.sc u'::avs,hx,⟨⟨u',rfl,hu⟩,h6⟩,fun k=>by simp only [AM.resOf,hg,AM.guardB,cond_true,cond_false,h3,Option.bind_some,hag,hk,h7]⟩
theorem finC_rel (hr:HR P J Z H h) {own:Bool} {t:Option TypeId} {v:TC} {c:TC→TH→Option R} {x:Sc} (hx:finC P own t v H c=some r) (hv:CR P h Z J v x) :
  ∃ v' H' J' Z',c v' H'=some r∧Step P J Z H h J' Z' H' h∧CR P h Z' J' v' x:=by
 unfold finC at hx
 split at hx
 ·split at hx
  ·exact coeC_rel hr hx hv
  ·exact ⟨v,H,J,Z,hx,Step.refl hr,hv⟩
 ·exact ⟨v,H,J,Z,hx,Step.refl hr,hv⟩
theorem finL_rel {own:Bool}:∀ {l:List TC} {t:List (Option TypeId)} {J:List JE} {Z:Nat→Prop} {H:TH} {c:List TC→TH→Option R} {x:List Sc},HR P J Z H h→finL P own t l H c=some r→CRs P h Z J l x→
  ∃ l' H' J' Z',c l' H'=some r∧Step P J Z H h J' Z' H' h∧CRs P h Z' J' l' x
 | [],t,J,Z,H,c,x,hr,hx,hc=>by
  cases x with
  | nil=>exact ⟨[],H,J,Z,by simpa [finL] using hx,Step.refl hr,trivial⟩
  | cons _ _=>simp [CRs] at hc
 | v::l,t,J,Z,H,c,x,hr,hx,hc=>by
  cases x with
  | nil=>simp [CRs] at hc
  | cons y ys=>
   simp only [CRs] at hc
   simp only [finL] at hx
   obtain ⟨v',H1,J1,Z1,hx,st1,c1⟩:=finC_rel hr hx hc.1
   obtain ⟨l',H2,J2,Z2,hx,st2,c2⟩:=finL_rel st1.hr hx (CRs.mono (st1.ext hr) st1.kp.pre _ _ hc.2)
   exact ⟨v'::l',H2,J2,Z2,hx,st1.trans st2,by simp only [CRs];exact ⟨CR.mono (st2.ext st1.hr) st2.kp.pre _ _ c1,c2⟩⟩
theorem finA_rel (hr:HR P J Z H h) {own:Bool} {t:Option TypeId} {v:TA} {c:TA→TH→Option R} {x:AV} (hx:finA P own t v H c=some r) (hv:AR P h Z J v x) :
  ∃ v' H' J' Z',c v' H'=some r∧Step P J Z H h J' Z' H' h∧AR P h Z' J' v' x:=by
 unfold finA at hx
 split at hx
 ·obtain ⟨y,rfl,hv⟩:=hv
  obtain ⟨v',H',J',Z',hx,st,hc⟩:=finC_rel hr hx hv
  exact ⟨_,H',J',Z',hx,st,y,rfl,hc⟩
 ·obtain ⟨y,rfl,hv⟩:=hv
  obtain ⟨v',H',J',Z',hx,st,hc⟩:=finL_rel hr hx hv
  exact ⟨_,H',J',Z',hx,st,y,rfl,hc⟩
theorem Qt {own:Bool}:∀ {l:List TA} {t:List TypeId} {J:List JE} {Z:Nat→Prop} {H:TH} {c:List TA→TH→Option R} {x:List AV},HR P J Z H h→VG P own t l H c=some r→ARs P h Z J l x→
  ∃ l' H' J' Z',c l' H'=some r∧Step P J Z H h J' Z' H' h∧ARs P h Z' J' l' x
 | [],t,J,Z,H,c,x,hr,hx,hc=>by
  cases x with
  | nil=>exact ⟨[],H,J,Z,by simpa [VG] using hx,Step.refl hr,trivial⟩
  | cons _ _=>simp [ARs] at hc
 | v::l,t,J,Z,H,c,x,hr,hx,hc=>by
  cases x with
  | nil=>simp [ARs] at hc
  | cons y ys=>
   simp only [ARs] at hc
   simp only [VG] at hx
   obtain ⟨v',H1,J1,Z1,hx,st1,c1⟩:=finA_rel hr hx hc.1
   obtain ⟨l',H2,J2,Z2,hx,st2,c2⟩:=Qt st1.hr hx (hc.2.mono (st1.ext hr) st1.kp.pre)
   exact ⟨v'::l',H2,J2,Z2,hx,st1.trans st2,by simp only [ARs];exact ⟨c1.mono (st2.ext st1.hr) st2.kp.pre,c2⟩⟩
theorem Ql (hr:HR P J Z H h) (k:Kp J0 Z0 H0 h0 J Z H h) (hn:J0.length=H0.length) {rs:List TA} {c:List TA→TH→Option R} {x:List AV} (hx:YT H0.length rs H c=some r) (hc:ARs P h Z J rs x) :
  ∃ rs' H' J',c rs' H'=some r∧HR P J' Z H' h∧Kp J0 Z0 H0 h0 J' Z H' h∧ARs P h Z J' rs' x:=by
 unfold YT at hx
 simp only at hx
 generalize Wv H 200 _ (List.range H0.length)=ord at hx
 replace hx:=gB.1 hx
 obtain ⟨hg,hx⟩:=hx
 simp only [Bool.and_eq_true] at hg
 obtain ⟨⟨g1,g2⟩,g3⟩:=hg
 have ok:=Ug g1
 rw [List.all_eq_true] at g3
 refine ⟨_,_,yC J ord,hx,sub_hr hr ok (fun _ h=>h) (fun i o je h1 h2 h3 h4 _=>hr.sep i o je h1 h2 h3 h4) hr.zlt,sub_kp hr k ok hn g2,hc.ren (YD fun i hi=>?_)⟩
 obtain ⟨v,h1,h2⟩:=List.mem_flatMap.1 hi
 have:=g3 v h1
 rw [List.all_eq_true] at this
 exact memN_iff.1 (this i h2)
structure TnOk (P:Program) (Tn:FuncId→TAn) (An:FuncId→FAn) (dOk:FAn→Array Oper→Bool):Prop where
 an:∀ f,An f=(Tn f).a
 rj:∀ f,(Tn f).a.rj=[]
 iso:∀ f,(Tn f).a.iso=[]
 orc:∀ f,Zs P An dOk (Tn f)
 rf:∀ f fn code,P.funcs[f]?=some fn→fn.body=some code→∀ p∈rfs code,ZH P (Tn f).a.self p.1=some p.2
 self:∀ f,(Tn f).a.self=f
 tell:∀ f fn code,P.funcs[f]?=some fn→fn.body=some code→∀ p∈zw (Tn f) 0 code,xB P (Tn f) An dOk p
theorem yW:∀ {c:Code},zN c=true→rfs c=[]
 | .rangeFunc _ _ _ _,h=>by cases h
 | .seq a b,h=>by simp only [zN,Bool.and_eq_true] at h;simp only [rfs,yW h.1,yW h.2,List.append_nil]
 | .cond _ a b,h=>by simp only [zN,Bool.and_eq_true] at h;simp only [rfs,yW h.1,yW h.2,List.append_nil]
 | .block _ b,h=>by simp only [rfs];exact yW (c:=b) h
 | .loop b,h=>by simp only [rfs];exact yW (c:=b) h
 | .scope b,h=>by simp only [rfs];exact yW (c:=b) h
 | .skip,_=>rfl
 | .region _ _ _,_=>rfl
 | .exit _,_=>rfl
 | .label _,_=>rfl
 | .goto _,_=>rfl
 | .ret,_=>rfl
 | .refuse _,_=>rfl
theorem yN {A:TAn}:∀ {c:Code} {blk:Nat} {p:Nat×List Tmp×Code×Code},p∈rfs c→∀ q,q∈zw A 0 p.2.2.1∨q∈zw A 0 p.2.2.2→q∈zw A blk c
 | .rangeFunc _ ps a b,blk,p,hp,q,hq=>by
  simp only [rfs,List.mem_cons,List.mem_append] at hp
  simp only [zw,List.mem_append]
  rcases hp with rfl | hp | hp
  ·exact hq
  ·exact .inl (yN hp q hq)
  ·exact .inr (yN hp q hq)
 | .seq a b,blk,p,hp,q,hq=>by
  simp only [rfs,List.mem_append] at hp
  simp only [zw,List.mem_append]
  rcases hp with hp | hp
  ·exact .inl (.inl (yN hp q hq))
  ·exact .inr (yN hp q hq)
 | .cond _ a b,blk,p,hp,q,hq=>by
  simp only [rfs,List.mem_append] at hp
  simp only [zw,List.mem_append]
  rcases hp with hp | hp
  ·exact .inl (yN hp q hq)
  ·exact .inr (yN hp q hq)
 | .block _ b,blk,p,hp,q,hq=>by simp only [rfs] at hp;simp only [zw];exact yN hp q hq
 | .loop b,blk,p,hp,q,hq=>by simp only [rfs] at hp;simp only [zw,List.mem_cons];exact .inr (yN hp q hq)
 | .scope b,blk,p,hp,q,hq=>by simp only [rfs] at hp;simp only [zw];exact yN hp q hq
 | .skip,_,_,hp,_,_=>by simp [rfs] at hp
 | .region _ _ _,_,_,hp,_,_=>by simp [rfs] at hp
 | .exit _,_,_,hp,_,_=>by simp [rfs] at hp
 | .label _,_,_,hp,_,_=>by simp [rfs] at hp
 | .goto _,_,_,hp,_,_=>by simp [rfs] at hp
 | .ret,_,_,hp,_,_=>by simp [rfs] at hp
 | .refuse _,_,_,hp,_,_=>by simp [rfs] at hp
theorem Qq {i:Nat} {v:TV}:∀ (l:List (Nat×TV)) (t:Tr TV),(l.foldl (fun t p=>t.set p.1 p.2) t).get i=some v→(i,v)∈l∨t.get i=some v
 | [],t,h=>.inr h
 | p::l,t,h=>by
  rcases Qq l _ h with h1 | h1
  ·exact .inl (List.mem_cons_of_mem _ h1)
  ·by_cases e:p.1=i
   ·subst e
    rw [Tr.get_set_self] at h1
    obtain ⟨_,_,rfl⟩:=oM h1
    exact .inl List.mem_cons_self
   ·rw [Tr.get_set_ne _ e] at h1;exact .inr h1
theorem set_dom {α:Type} {t:Tr α} {i j:Nat} {x:α}:((t.set i x).get j).isSome=(t.get j).isSome:=by
 by_cases e:i=j
 ·subst e;rw [Tr.get_set_self];cases t.get i<;>rfl
 ·rw [Tr.get_set_ne _ e]
theorem Qk {α:Type} {i:Nat}:∀ (l:List (Nat×α)) (t:Tr α),((l.foldl (fun t p=>t.set p.1 p.2) t).get i).isSome=(t.get i).isSome
 | [],t=>rfl
 | p::l,t=>by rw [List.foldl_cons,Qk l,set_dom]
theorem Up {α β:Type} (k:β→α) {i:Nat}:∀ (ps:List Tmp) (as:List β) (t:Tr α),(((ps.zip as).foldl (fun t p=>t.set p.1 (k p.2)) t).get i).isSome=(t.get i).isSome
 | [],_,t=>rfl
 | _::_,[],t=>rfl
 | p::ps,a::as,t=>by rw [List.zip_cons_cons,List.foldl_cons,Up k ps as,set_dom]
theorem zip_rel {i:Nat} {v:TV}:∀ (ps:List Tmp) {as:List TA} {avs:List AV},ARs P h Z J as avs→∀ {t:Tr TV} {u:Tr AM.SV},(∀ v,t.get i=some v→∃ x,u.get i=some x∧SR P h Z J v x)→
  ((ps.zip as).foldl (fun t p=>t.set p.1 (TV.v p.2)) t).get i=some v→∃ x,((ps.zip avs).foldl (fun t p=>t.set p.1 (AM.SV.v p.2)) u).get i=some x∧SR P h Z J v x
 | [],_,_,_,t,u,ht,hv=>ht v hv
 | _::_,[],[],_,t,u,ht,hv=>ht v hv
 | p::ps,a::as,b::avs,⟨h1,h2⟩,t,u,ht,hv=>by
  simp only [List.zip_cons_cons,List.foldl_cons] at hv ⊢
  refine zip_rel ps h2 (fun v hv=>?_) hv
  by_cases e:p=i
  ·subst e
   rw [Tr.get_set_self] at hv
   obtain ⟨w,hw,rfl⟩:=oM hv
   obtain ⟨x,hx,_⟩:=ht w hw
   exact ⟨.v b,by rw [Tr.get_set_self,hx];rfl,b,rfl,h1⟩
  ·rw [Tr.get_set_ne _ e] at hv
   obtain ⟨x,hx,hr⟩:=ht v hv
   exact ⟨x,by rw [Tr.get_set_ne _ e];exact hx,hr⟩
 | _::_,[],_::_,h,_,_,_,_=>h.elim
 | _::_,_::_,[],h,_,_,_,_=>h.elim
theorem evY_rel {Tn:FuncId→TAn} (ok:TnOk P Tn An dOk) {k0:Nat} (hev:ZJ P An dOk (TM.evF P Tn dOk k0)) {args rs:List TA} {H H':TH} (hx:evY P Tn (TM.evF P Tn dOk k0) dOk k0 args H=some (rs,H')):UL P An dOk YF args H rs H':=by
 intro J Z h g avs avs0 hgf ha hr
 rcases hgf with ⟨e,_⟩ | ⟨_,i,rfl,rfl⟩
 ·exact absurd rfl e
 have hrj:∀ f,(An f).rj=[]:=fun f=>by rw [ok.an];exact ok.rj f
 unfold evY at hx
 split at hx
 case h_2=>cases hx
 rename_i id rest
 obtain ⟨ha1,ha2⟩:=ha
 obtain ⟨_,e1,je,hj,hjv,e2⟩:=ha1
 cases e1
 cases e2
 split at hx
 case h_2=>cases hx
 rename_i st pe f key nt sl ho
 have ho':=zE ho rfl
 obtain ⟨_,al,k1,k2,k3,k4,k5,k6,k7,k8⟩:=hr.obj _ _ _ ho' hj
 rw [k5,Option.bind_some] at hx
 replace hx:=gB.1 hx
 obtain ⟨hg,hx⟩:=hx
 simp only [Bool.and_eq_true] at hg
 obtain ⟨⟨g1,g2⟩,g3⟩:=hg
 have enter:StR P J Z H h J Z (TM.roundSt nt sl al.params rest H) (AM.roundSt al avs h):=by
  refine ⟨fun i v hv=>?_,fun i x hx=>?_,fun k cs hk=>?_,fun k x hk=>?_,hr,Kp.refl ..,rfl,hr.len⟩
  ·refine zip_rel al.params ha2 (fun v hv=>?_) hv
   rcases Qq sl _ hv with h1 | h1
   ·exact k8 _ h1
   ·have hs:(al.sl.get i).isSome=true:=by rw [k6 i,h1];rfl
    obtain ⟨x,hx⟩:=Option.isSome_iff_exists.1 hs
    obtain ⟨_,rfl⟩:=Tm h1
    exact ⟨x,hx,k7 i x hx⟩
  ·have:((TM.roundSt nt sl al.params rest H).sl.get i).isSome=true:=by
    simp only [TM.roundSt]
    rw [Up,Qk,← k6 i]
    have:=congrArg Option.isSome hx
    simp only [AM.roundSt] at this
    rw [Up] at this
    exact this
   exact Option.isSome_iff_exists.1 this
  ·simp only [TM.roundSt] at hk
   obtain ⟨_,h1⟩:=Tw hk
   cases h1
  ·simp only [TM.roundSt] at hk
   have h1:((Ya nt).get k).isSome=true:=by
    obtain ⟨w,hw⟩:=ZQ (m:=List.replicate nt TV.u) _ k (by simp) hk
    show ((Tr.ofL _ _).get k).isSome=true
    rw [hw];rfl
   rw [← k6 k] at h1
   obtain ⟨w,hw⟩:=Option.isSome_iff_exists.1 h1
   exact ⟨none,by simp only [AM.roundSt];rw [Tr.get_map,hw];rfl⟩
 have hfn:∃ fn code,P.funcs[f]?=some fn∧fn.body=some code∧(key,al.params,al.assign,al.body)∈rfs code:=by
  unfold ZH at k5
  obtain ⟨p,hp,e⟩:=oM k5
  obtain ⟨fn,h1,hp⟩:=oB hp
  obtain ⟨code,h2,hp⟩:=oB hp
  refine ⟨fn,code,h1,h2,?_⟩
  have hm:=List.mem_of_find?_eq_some hp
  have hk:=zH (List.find?_some (p:=fun p:Nat×List Tmp×Code×Code=>Nat.beq p.1 key) hp)
  obtain ⟨pk,pr⟩:=p
  cases e
  cases hk
  exact hm
 obtain ⟨fn,code,hfn,hcode,hmem⟩:=hfn
 have hp1:∀ p∈zw (Tn f) 0 al.assign,xB P (Tn f) An dOk p:=fun p hp=>ok.tell f fn code hfn hcode p (yN hmem p (.inl hp))
 have hp2:∀ p∈zw (Tn f) 0 al.body,xB P (Tn f) An dOk p:=fun p hp=>ok.tell f fn code hfn hcode p (yN hmem p (.inr hp))
 obtain ⟨n1,e,s1,a1,J1,Z1,hx,q1,he1⟩:=yQ (A:=Tn f) hrj (ok.rj f) (ok.iso f) hev (ok.orc f) al.assign 0 hp1 (by rw [yW g2];intro p hp;cases hp) enter hx
 unfold TM.kBegin at hx
 split at hx
 case h_2=>cases hx
 rename_i st1 pe1 f1 key1 nt1 sl1 ho1
 replace hx:=gB.1 hx
 obtain ⟨hst,hx⟩:=hx
 have ho1':=zE ho1 rfl
 have hj1:J1[id]?=some je:=zU q1.kp.pre hj
 obtain ⟨_,al1,m1,m2,m3,m4,m5,m6,m7,m8⟩:=q1.hp.obj _ _ _ ho1' hj1
 have hlt1:=(List.getElem?_eq_some_iff.1 m1).1
 have notZ1:¬ Z1 je.id:=q1.hp.sep _ _ _ ho1' rfl hj1 hjv
 have q2:=q1.mem (wc (o':=.loop 1 pe1 f1 key1 nt1 sl1) (ao:=.loop { al1 with st:=1 }) q1.hp ho1' rfl hj1 hjv
  ⟨hjv,_,List.getElem?_set_self hlt1,rfl,m3,m4,m5,m6,m7,fun p hp=>let ⟨x,y1,y2⟩:=m8 p hp;⟨x,y1,y2.mono ⟨fun _ h=>h,fun id hz=>List.getElem?_set_ne (fun e=>notZ1 (by rw [e];exact hz))⟩ (List.prefix_refl _)⟩⟩)
 obtain ⟨n2,e2,s3,a3,J3,Z3,hx,q3,he3⟩:=yQ (A:=Tn f) hrj (ok.rj f) (ok.iso f) hev (ok.orc f) al.body 0 hp2 (by rw [yW g3];intro p hp;cases hp) q2 hx
 unfold TM.kRound at hx
 split at hx
 case h_2=>cases hx
 rename_i st3 pe3 f3 key3 nt3 sl3 ho3
 have ho3':=zE ho3 rfl
 have hj3:J3[id]?=some je:=zU q3.kp.pre hj
 obtain ⟨_,al3,r1,r2,r3,r4,r5,r6,r7,r8⟩:=q3.hp.obj _ _ _ ho3' hj3
 have hlt3:=(List.getElem?_eq_some_iff.1 r1).1
 have notZ3:¬ Z3 je.id:=q3.hp.sep _ _ _ ho3' rfl hj3 hjv
 have fin:∀ (b:Bool) (st:Nat) (pe:Option Ex) (pend:Option Code),PeR pe pend→YT s3.n0 [.sc (.bool b)] (s3.h.set id (.loop st pe f3 key3 nt3 sl3)) (fun rs h=>some (rs,h))=some (rs,H')→
   AM.kRound je.id e2 a3=some ([.sc (.bool b)],a3.h.set je.id (.loop { al3 with st:=st,pend:=pend }))→
   ∃ k avs' h' J' Z',AM.evF P An dOk k (.yield je.id) avs h=some (avs',h')∧Step P J Z H h J' Z' H' h'∧ARs P h' Z' J' rs avs':=by
  intro b st pe pend hpe hx hk
  have stp:=wc (o':=.loop st pe f3 key3 nt3 sl3) (ao:=.loop { al3 with st:=st,pend:=pend }) q3.hp ho3' rfl hj3 hjv
   ⟨hjv,_,List.getElem?_set_self hlt3,rfl,hpe,r4,r5,r6,r7,fun p hp=>let ⟨x,y1,y2⟩:=r8 p hp;⟨x,y1,y2.mono ⟨fun _ h=>h,fun id hz=>List.getElem?_set_ne (fun e=>notZ3 (by rw [e];exact hz))⟩ (List.prefix_refl _)⟩⟩
  rw [q3.n0] at hx
  obtain ⟨rs',H4,J4,hx,h4,h5,h6⟩:=Ql (R:=List TA×TH) stp.hr (q3.kp.trans stp.kp) q3.j0 hx (show ARs P _ Z3 J3 [.sc (.bool b)] [.sc (.bool b)] from ⟨⟨_,rfl,rfl⟩,trivial⟩)
  cases hx
  refine ⟨max n1 n2+1,_,_,J4,Z3,?_,⟨h4,h5⟩,h6⟩
  have gA:(Nat.beq avs.length al.params.length&&zN al.assign&&zN al.body)=true:=by
   rw [← ha2.length,g2,g3,g1];rfl
  have hA:An al.fn=(Tn f).a:=by rw [k4];exact ok.an f
  simp only [AM.evF,k1,gA,AM.guardB,cond_true,hA]
  rw [yZ (A:=Tn f) hrj (ok.rj f) (Nat.le_max_left n1 n2) he1]
  unfold AM.kBegin
  simp only [m1]
  have hst':Nat.beq al1.st 0=true:=by rw [m2];exact hst
  rw [hst',AM.guardB,cond_true]
  rw [yZ (A:=Tn f) hrj (ok.rj f) (Nat.le_max_right n1 n2) he3]
  exact hk
 cases e2 with
 | normal=>exact fin true 0 none none rfl hx (by unfold AM.kRound;simp only [r1])
 | exit i=>exact fin false 2 (some (.exit i)) (some (.exit i)) rfl hx (by unfold AM.kRound;simp only [r1])
 | ret=>exact fin false 2 (some .ret) (some .ret) rfl hx (by unfold AM.kRound;simp only [r1])
theorem ZN {Tn:FuncId→TAn} (ok:TnOk P Tn An dOk):∀ k,ZJ P An dOk (TM.evF P Tn dOk k)
 | 0=>fun f args H rs H' hx=>by cases hx
 | k+1=>fun f args H rs H' hx=>by
  simp only [TM.evF] at hx
  rcases cond_some.1 hx with ⟨hy,hx⟩ | ⟨hy,hx⟩
  ·rw [zH hy];exact evY_rel ok (ZN ok k) hx
  intro J Z h g avs' avs hgf ha hr
  have hne:f≠YF:=fun e=>by subst e;simp at hy
  rcases hgf with ⟨_,rfl,rfl⟩ | ⟨e,_⟩
  case inr=>exact absurd e hne
  replace hx:=oB hx
  obtain ⟨fn,hfn,hx⟩:=hx
  replace hx:=oB hx
  obtain ⟨code,hcode,hx⟩:=hx
  replace hx:=gB.1 hx
  obtain ⟨hg,hx⟩:=hx
  have hrj:∀ f,(An f).rj=[]:=fun f=>by rw [ok.an];exact ok.rj f
  obtain ⟨k',e,s',a',J',Z',hx,q,he⟩:=yQ (A:=Tn f) hrj (ok.rj f) (ok.iso f) (ZN ok k) (ok.orc f) code 0 (ok.tell f fn code hfn hcode) (ok.rf f fn code hfn hcode) (WK hr ha fn) hx
  have fin:(e=.normal∨e=.ret)→(TM.resOf P s' fn.results.toList fun vs=>VG P (Tn f).own fn.resultTypes.toList vs s'.h fun rs h=>YT s'.n0 rs h fun rs h=>some (rs,h))=some (rs,H')→
    ∃ k avs' h' J' Z',AM.evF P An dOk k (.func f) avs h=some (avs',h')∧Step P J Z H h J' Z' H' h'∧ARs P h' Z' J' rs avs':=by
   intro hen hx
   obtain ⟨vs,avs',hx,h1,h2⟩:=Yg q hx
   obtain ⟨l',H2,J2,Z2,hx,st,h3⟩:=Qt q.hp hx h1
   rw [q.n0] at hx
   obtain ⟨rs',H3,J3,hx,h4,h5,h6⟩:=Ql (R:=List TA×TH) st.hr (q.kp.trans st.kp) q.j0 hx h3
   cases hx
   refine ⟨k'+1,avs',a'.h,J3,Z2,?_,⟨h4,h5⟩,h6⟩
   simp only [AM.evF,hfn,hcode,Option.bind_some]
   rw [ha.length] at hg
   simp only [hg,AM.guardB,cond_true,ok.an f]
   rw [yZ (A:=Tn f) hrj (ok.rj f) (Nat.le_refl k') he]
   rcases hen with rfl | rfl<;>simp only [AM.kFin,h2]
  cases e with
  | normal=>exact fin (.inl rfl) hx
  | ret=>exact fin (.inr rfl) hx
  | exit i=>cases hx
abbrev OrcS:=List TA→TH→Option (List (Bool×List TA×TH))
abbrev TellS:=CS→Option (List (Bool×Ex×CS))
abbrev OrcT:=List (FuncId×OrcS)
abbrev TellT:=List ((FuncId×Nat)×TellS)
def lookO:OrcT→FuncId→List TA→TH→Option (List (Bool×List TA×TH))
 | [],_,_,_=>none
 | p::r,f,as,h=>match cond (Nat.beq f p.1) (p.2 as h) none with
  | some x=>some x
  | none=>lookO r f as h
def lookT:TellT→FuncId→Nat→CS→Option (List (Bool×Ex×CS))
 | [],_,_,_=>none
 | p::r,f,k,s=>match cond (Nat.beq f p.1.1) (cond (Nat.beq k p.1.2) (p.2 s) none) none with
  | some x=>some x
  | none=>lookT r f k s
def yk (base:List (FuncId×TAn)) (f:FuncId):TAn:=match base.find? (fun p=>Nat.beq p.1 f) with
 | some p=>p.2
 | none=>{}
def mkA (base:List (FuncId×TAn)):FuncId→FAn:=fun f=>{ loc:=(yk base f).a.loc,keep:=(yk base f).a.keep,keepR:=(yk base f).a.keepR,hst:=(yk base f).a.hst,rt:=(yk base f).a.rt,ldb:=(yk base f).a.ldb,ro:=(yk base f).a.ro,rov:=(yk base f).a.rov,grv:=(yk base f).a.grv,fsh:=(yk base f).a.fsh,fsl:=(yk base f).a.fsl,gr:=(yk base f).a.gr,fr:=(yk base f).a.fr,self:=f }
def zd (base:List (FuncId×TAn)) (O:OrcT) (T:TellT):FuncId→TAn:=fun f=>
 let B:=yk base f
 { a:=mkA base f,own:=B.own,crow:=B.crow,cuts:=B.cuts,live:=B.live,coe:=B.coe,orc:=lookO O,tell:=lookT T f,nt:=B.nt }
section
variable {P : Program} {dOk : FAn → Array Oper → Bool} {base : List (FuncId × TAn)} {O : OrcT} {T : TellT}
theorem yu {A B:TAn} (h:A.cuts=B.cuts):∀ (c:Code) (blk:Nat),zw A blk c=zw B blk c
 | .loop b,blk=>by simp only [zw,yu h b]
 | .seq a b,blk=>by simp only [zw,yu h a,yu h b,h]
 | .cond _ a b,blk=>by simp only [zw,yu h a,yu h b]
 | .block id b,blk=>by simp only [zw,yu h b]
 | .skip,_=>rfl
 | .region _ _ _,_=>rfl
 | .rangeFunc _ _ a b,_=>by simp only [zw,yu h a,yu h b]
 | .exit _,_=>rfl
 | .scope b,blk=>by simp only [zw,yu h b]
 | .label _,_=>rfl
 | .goto _,_=>rfl
 | .ret,_=>rfl
 | .refuse _,_=>rfl
def UR:List Nat→Bool
 | []=>true
 | x::r=>!(yP r x)&&UR r
def rfsOk (P:Program):Bool:=P.funcs.toList.all fun fn=>match fn.body with | some c=>UR ((rfs c).map (·.1)) | none=>true
theorem UD {β:Type}:∀ {l:List (Nat×β)},UR (l.map (·.1))=true→∀ {p:Nat×β},p∈l→(l.find? fun q=>Nat.beq q.1 p.1)=some p
 | [],_,p,hp=>by cases hp
 | q::l,hn,p,hp=>by
  simp only [List.map_cons,UR,Bool.and_eq_true] at hn
  rcases List.mem_cons.1 hp with rfl | hp
  ·simp
  ·have hne:Nat.beq q.1 p.1=false:=by
    cases hb:Nat.beq q.1 p.1 with
    | false=>rfl
    | true=>
     have e:=zH hb
     have:yP (l.map (·.1)) q.1=true:=memN_iff.2 (by rw [e];exact List.mem_map_of_mem hp)
     rw [this] at hn;simp at hn
   rw [List.find?_cons,hne]
   exact UD hn.2 hp
theorem rfsOk_at (h:rfsOk P=true) {f:FuncId} {fn:Func} {code:Code} (h1:P.funcs[f]?=some fn) (h2:fn.body=some code):∀ p∈rfs code,ZH P f p.1=some p.2:=by
 intro p hp
 have h3:=List.all_eq_true.1 h fn (by rw [Array.mem_toList_iff];exact Array.mem_of_getElem? h1)
 rw [h2] at h3
 unfold ZH
 rw [h1,Option.bind_some,h2,Option.bind_some,UD h3 hp]
 rfl
theorem tn_nil (hr:rfsOk P=true):TnOk P (zd base [] []) (mkA base) dOk where
 an f:=rfl
 rj f:=rfl
 iso f:=rfl
 rf f fn code h1 h2:=rfsOk_at hr h1 h2
 self f:=rfl
 orc f:=fun g args H p hp=>by cases hp
 tell f fn code _ _:=fun p hp s alts e s' hs=>by cases hs
def zq (P:Program) (dOk:FAn→Array Oper→Bool) (base:List (FuncId×TAn)) (O:OrcT) (T:TellT) (p:FuncId×OrcS):Prop:=
 ∀ as H alts,p.2 as H=some alts→∀ rs H',xN alts (fun rs H=>some (rs,H))=some (rs,H')→∃ k,TM.evF P (zd base O T) dOk k p.1 as H=some (rs,H')
theorem zr {O':OrcT} {T':TellT} (ok0:TnOk P (zd base O T) (mkA base) dOk) (ok:TnOk P (zd base O' T') (mkA base) dOk) {p:FuncId×OrcS} (hn:zq P dOk base O T p):TnOk P (zd base (p::O') T') (mkA base) dOk where
 an f:=rfl
 rj f:=ok.rj f
 iso f:=ok.iso f
 rf:=ok.rf
 self:=ok.self
 orc f:=by
  intro g args H q hq rs H' hq1
  simp only [zd,lookO] at hq
  split at hq
  ·rename_i x hx
   cases hq
   rcases cond_some.1 hx with ⟨hb,hx⟩ | ⟨_,hx⟩
   ·rw [zH hb]
    obtain ⟨k,hk⟩:=hn args H q hx rs H' hq1
    exact ZN ok0 k p.1 args H rs H' hk
   ·cases hx
  ·exact ok.orc f g args H q hq rs H' hq1
 tell f fn code h1 h2 p hp:=ok.tell f fn code h1 h2 p (by rw [yu (A:=zd base O' T' f) (B:=zd base (_::O') T' f) rfl];exact hp)
def TJ (P:Program) (A:TAn) (f:FuncId) (key:Nat):Option (Code×Nat):=
 (P.funcs[f]?).bind fun fn=>fn.body.bind fun code=>match (zw A 0 code).filter fun p=>Nat.beq p.1 key with
 | [p]=>some p.2
 | _=>none
def zh (P:Program) (dOk:FAn→Array Oper→Bool) (base:List (FuncId×TAn)) (O:OrcT) (T:TellT) (p:(FuncId×Nat)×TellS):Prop:=
 ∃ c blk,TJ P (zd base O T p.1.1) p.1.1 p.1.2=some (c,blk)∧∀ s alts e s',p.2 s=some alts→xk alts (fun e s=>some (e,s))=some (e,s')→
  ∃ k,ZO P (zd base O T p.1.1) (TM.evF P (zd base O T) dOk k) dOk k p.1.2 c blk s (fun e s=>wN P (zd base O T p.1.1) (Uf p.1.2 e) s fun s=>some (e,s))=some (e,s')
theorem xO {A:TAn}:∀ {c:Code} {blk:Nat} {p:Nat×Code×Nat},p∈zw A blk c→∀ q∈zw A p.2.2 p.2.1,q∈zw A blk c
 | .loop b,blk,p,hp,q,hq=>by
  simp only [zw,List.mem_cons] at hp ⊢
  rcases hp with rfl | hp
  ·simp only [zw,List.mem_cons] at hq;exact hq
  ·exact .inr (xO hp q hq)
 | .seq a b,blk,p,hp,q,hq=>by
  simp only [zw,List.mem_append] at hp ⊢
  rcases hp with (hp | hp) | hp
  ·exact .inl (.inl (xO hp q hq))
  ·split at hp
   ·rename_i id _
    cases hc:A.cuts.contains id with
    | true=>rw [hc] at hp;simp at hp;subst hp;exact .inr hq
    | false=>rw [hc] at hp;simp at hp
   ·simp at hp
  ·exact .inr (xO hp q hq)
 | .cond _ a b,blk,p,hp,q,hq=>by
  simp only [zw,List.mem_append] at hp ⊢
  rcases hp with hp | hp
  ·exact .inl (xO hp q hq)
  ·exact .inr (xO hp q hq)
 | .block id b,blk,p,hp,q,hq=>by
  simp only [zw] at hp ⊢;exact xO hp q hq
 | .skip,_,_,hp,_,_=>by simp [zw] at hp
 | .region _ _ _,_,_,hp,_,_=>by simp [zw] at hp
 | .rangeFunc _ _ a b,blk,p,hp,q,hq=>by
  simp only [zw,List.mem_append] at hp ⊢
  rcases hp with hp | hp
  ·exact .inl (xO hp q hq)
  ·exact .inr (xO hp q hq)
 | .exit _,_,_,hp,_,_=>by simp [zw] at hp
 | .scope b,blk,p,hp,q,hq=>by
  simp only [zw] at hp ⊢;exact xO hp q hq
 | .label _,_,_,hp,_,_=>by simp [zw] at hp
 | .goto _,_,_,hp,_,_=>by simp [zw] at hp
 | .ret,_,_,hp,_,_=>by simp [zw] at hp
 | .refuse _,_,_,hp,_,_=>by simp [zw] at hp
theorem xK {A:TAn}:∀ {c:Code} {blk:Nat} {p:Nat×Code×Nat},p∈zw A blk c→∀ q∈rfs p.2.1,q∈rfs c
 | .loop b,blk,p,hp,q,hq=>by
  simp only [zw,List.mem_cons] at hp
  simp only [rfs]
  rcases hp with rfl | hp
  ·exact hq
  ·exact xK hp q hq
 | .seq a b,blk,p,hp,q,hq=>by
  simp only [zw,List.mem_append] at hp
  simp only [rfs,List.mem_append]
  rcases hp with (hp | hp) | hp
  ·exact .inl (xK hp q hq)
  ·split at hp
   ·rename_i id _
    cases hc:A.cuts.contains id with
    | true=>rw [hc] at hp;simp at hp;subst hp;exact .inr hq
    | false=>rw [hc] at hp;simp at hp
   ·simp at hp
  ·exact .inr (xK hp q hq)
 | .cond _ a b,blk,p,hp,q,hq=>by
  simp only [zw,List.mem_append] at hp
  simp only [rfs,List.mem_append]
  rcases hp with hp | hp
  ·exact .inl (xK hp q hq)
  ·exact .inr (xK hp q hq)
 | .block id b,blk,p,hp,q,hq=>by
  simp only [zw] at hp;simp only [rfs];exact xK hp q hq
 | .rangeFunc _ _ a b,blk,p,hp,q,hq=>by
  simp only [zw,List.mem_append] at hp
  simp only [rfs,List.mem_cons,List.mem_append]
  rcases hp with hp | hp
  ·exact .inr (.inl (xK hp q hq))
  ·exact .inr (.inr (xK hp q hq))
 | .skip,_,_,hp,_,_=>by simp [zw] at hp
 | .region _ _ _,_,_,hp,_,_=>by simp [zw] at hp
 | .exit _,_,_,hp,_,_=>by simp [zw] at hp
 | .scope b,blk,p,hp,q,hq=>by
  simp only [zw] at hp;simp only [rfs];exact xK hp q hq
 | .label _,_,_,hp,_,_=>by simp [zw] at hp
 | .goto _,_,_,hp,_,_=>by simp [zw] at hp
 | .ret,_,_,hp,_,_=>by simp [zw] at hp
 | .refuse _,_,_,hp,_,_=>by simp [zw] at hp
theorem zi {O':OrcT} {T':TellT} (ok:TnOk P (zd base O T) (mkA base) dOk) (ok':TnOk P (zd base O' T') (mkA base) dOk) {p:(FuncId×Nat)×TellS} (hn:zh P dOk base O T p):TnOk P (zd base O' (p::T')) (mkA base) dOk where
 an f:=rfl
 rj f:=ok'.rj f
 iso f:=ok'.iso f
 rf:=ok'.rf
 self:=ok'.self
 orc f:=ok'.orc f
 tell f fn code h1 h2 q hq:=by
  have hq':q∈zw (zd base O T f) 0 code:=by rw [yu (A:=zd base O T f) (B:=zd base O' (p::T') f) rfl];exact hq
  have hold:=ok.tell f fn code h1 h2
  have hq2:q∈zw (zd base O' T' f) 0 code:=by rw [yu (A:=zd base O' T' f) (B:=zd base O' (p::T') f) rfl];exact hq
  have hold':=ok'.tell f fn code h1 h2
  intro s alts e s' ht hp J0 Z0 H0 h0 J Z a qa
  simp only [zd,lookT] at ht
  split at ht
  ·rename_i x hx
   cases ht
   rcases cond_some.1 hx with ⟨hb,hx1⟩ | ⟨_,hx1⟩
   ·rcases cond_some.1 hx1 with ⟨hb2,hx2⟩ | ⟨_,hx2⟩
    ·have ef:=zH hb
     have ek:=zH hb2
     subst ef
     obtain ⟨c,blk,hpc,hall⟩:=hn
     obtain ⟨k,hk⟩:=hall s alts e s' hx2 hp
     have hqc:q.2=(c,blk):=by
      unfold TJ at hpc
      rw [h1,Option.bind_some,h2,Option.bind_some] at hpc
      split at hpc
      ·rename_i p0 hf
       have hpc:=Option.some.inj hpc
       have:q∈(zw (zd base O T p.1.1) 0 code).filter fun x=>Nat.beq x.1 p.1.2:=List.mem_filter.2 ⟨hq',hb2⟩
       rw [hf] at this
       simp only [List.mem_singleton] at this
       rw [this,hpc]
      ·cases hpc
     obtain ⟨qk,qc,qb⟩:=q
     cases hqc
     simp only at ek
     subst ek
     have hsub:∀ x∈zw (zd base O T p.1.1) blk c,xB P (zd base O T p.1.1) (mkA base) dOk x:=fun x hx=>hold x (xO hq' x hx)
     have hrj:∀ f,(mkA base f).rj=[]:=fun f=>ok.rj f
     have hrf:∀ x∈rfs c,ZH P (zd base O T p.1.1).a.self x.1=some x.2:=fun x hx=>ok.rf p.1.1 fn code h1 h2 x (xK hq' x hx)
     have fin:Led P (zd base O T p.1.1) (mkA base) dOk J0 Z0 H0 h0 c blk a (fun e s=>wN P (zd base O T p.1.1) (Uf p.1.2 e) s fun s=>some (e,s)) (e,s')→
       ∃ k a' J' Z',StR P J0 Z0 H0 h0 J' Z' (wm (zd base O T p.1.1).nt s') a'∧AM.evCode P (zd base O' (p::T') p.1.1).a (AM.evF P (mkA base) dOk k) dOk k c blk a (fun e s=>some (e,s))=some (e,a'):=by
      rintro ⟨k,e1,s1,a1,J1,Z1,hK,q1,he⟩
      obtain ⟨s2,J2,Z2,hK,q2⟩:=Zq q1 hK
      cases hK
      exact ⟨k,a1,J2,Z2,q2,he⟩
     refine fin ?_
     unfold ZO at hk
     rcases cond_some.1 hk with ⟨hm,hk⟩ | ⟨hm,hk⟩
     ·simp only [hm,cond_true] at qa
      split at hk
      ·rename_i b _
       exact loop_rel (b:=b) hrj (ok.rj _) (ok.iso _) (ZN ok k) (ok.orc _) (fun x hx=>hsub x (by simp only [zw,List.mem_cons];exact .inr hx)) (fun x hx=>hrf x hx) k qa hk
      ·cases hk
     ·simp only [hm,cond_false] at qa
      exact yQ hrj (ok.rj _) (ok.iso _) (ZN ok k) (ok.orc _) c blk hsub hrf qa hk
    ·cases hx2
   ·cases hx1
  ·exact hold' q hq2 s alts e s' ht hp J0 Z0 H0 h0 J Z a qa
end
noncomputable section
def zt (P:Program) (A:TAn) (ev:TEv) (dOk:FAn→Array Oper→Bool) (k:Nat) (f:FuncId) (args:List TA) (h:TH):Option (List TA×TH):=
 (P.funcs[f]?).bind fun fn=>fn.body.bind fun code=>guardB (Th A.a fn args.length)<|
  evCode P A ev dOk k code 0 (enterSt fn args h) (kFin P A fn fun rs h=>some (rs,h))
theorem zy {P:Program} {Tn:FuncId→TAn} {dOk:FAn→Array Oper→Bool} {k:Nat} {f:FuncId} {args:List TA} {h:TH} (hf:Nat.beq f YF=false):TM.evF P Tn dOk (k+1) f args h=zt P (Tn f) (TM.evF P Tn dOk k) dOk k f args h:=by
 simp only [TM.evF,hf,cond_false]
 rfl
theorem fnY_eq {P:Program} {Tn:FuncId→TAn} {dOk:FAn→Array Oper→Bool} {k:Nat} {args:List TA} {h:TH}:TM.evF P Tn dOk (k+1) YF args h=evY P Tn (TM.evF P Tn dOk k) dOk k args h:=by
 have hf:Nat.beq YF YF=true:=by decide +kernel
 simp only [TM.evF,hf,cond_true]
section
variable {R : Type} (P : Program) (A : TAn) (ev : TEv) (dOk : FAn → Array Oper → Bool)
def zo (k:Nat) (b:Code) (blk key:Nat) (s:CS) (cN:CS→Option R) (cX:Ex→CS→Option R):Option R:=
 evCode P A ev dOk k b blk (wm A.nt s) fun e s=>match e with
  | .normal=>Zn P A blk s cN
  | e=>wN P A (Uf key e) s (cX e)
def outK (key:Nat) (e:Ex) (s:TS):Option (Ex×CS):=wN P A (Uf key e) s fun s=>some (e,s)
def zA (k:Nat) (b:Code) (blk key n:Nat) (s:CS):Option (Ex×CS):=loopN A.nt (fun s c=>Zn P A blk s c) (evCode P A ev dOk k b blk) (outK P A key) n s
theorem zk {k:Nat} {b:Code} {blk key n:Nat} {s:CS}:zA P A ev dOk k b blk key (n+1) s=zo P A ev dOk k b blk key s (zA P A ev dOk k b blk key n) (fun e s=>some (e,s)):=by
 unfold zA zo
 simp only [loopN]
 apply congrArg
 funext e s'
 cases e<;>rfl
def zl (k:Nat) (c:Code) (blk key:Nat) (s:CS) (cX:Ex→CS→Option R):Option R:=
 evCode P A ev dOk k c blk (wm A.nt s) fun e s=>wN P A (Uf key e) s (cX e)
end
theorem zb {P:Program} {A:TAn} {ev:TEv} {dOk:FAn→Array Oper→Bool} {k key blk:Nat} {b:Code} {s:CS} (h:Nat.beq (key % 8) 0=true) :
  ZO P A ev dOk k key (.loop b) blk s (fun e s=>wN P A (Uf key e) s fun s=>some (e,s))=zA P A ev dOk k b blk key k s:=by
 unfold ZO;rw [h];rfl
theorem zx {P:Program} {A:TAn} {ev:TEv} {dOk:FAn→Array Oper→Bool} {k key blk:Nat} {c:Code} {s:CS} (h:Nat.beq (key % 8) 0=false) :
  ZO P A ev dOk k key c blk s (fun e s=>wN P A (Uf key e) s fun s=>some (e,s))=zl P A ev dOk k c blk key s (fun e s=>some (e,s)):=by
 unfold ZO;rw [h];rfl
def za (P:Program) (A:TAn) (f:FuncId) (key:Nat):Code:=match TJ P A f key with | some (.loop b,_)=>cond (Nat.beq (key % 8) 0) b (.loop b) | some (c,_)=>c | none=>.skip
def ok {α:Type} (x:Option α):Bool:=x.isSome
def val {α:Type} [Inhabited α] (x:Option α):α:=x.getD default
def isL {α β:Type} (x:Option (α ⊕ β)):Bool:=match x with | some (.inl _)=>true | _=>false
def zz {α β:Type} [Inhabited α] (x:Option (α ⊕ β)):α:=match x with | some (.inl a)=>a | _=>default
def zn {α β:Type} (x:Option (α ⊕ β)):Option β:=match x with | some (.inr b)=>some b | _=>none
theorem zf {b:Bool} {e0 e:Ex} {S0 s:CS} (h:xk [(b,e0,S0)] (fun e s=>some (e,s))=some (e,s)):b=true∧e0=e∧S0=s:=by
 cases b with
 | true=>cases h;exact ⟨rfl,rfl,rfl⟩
 | false=>cases h
theorem zD {b:Bool} {e0 e:Ex} {S0 s:CS} {r:List (Bool×Ex×CS)} (h:xk ((b,e0,S0)::r) (fun e s=>some (e,s))=some (e,s)):(b=true∧e0=e∧S0=s)∨xk r (fun e s=>some (e,s))=some (e,s):=by
 cases b with
 | true=>cases h;exact .inl ⟨rfl,rfl,rfl⟩
 | false=>exact .inr h
theorem zc {α:Type} [Inhabited α] {x:Option α} (h:ok x=true):x=some (val x):=by
 cases x with
 | none=>cases h
 | some a=>rfl
theorem zm {α β:Type} {x:Option α} {a:α} {g:α→β} (h:x=some a):(x.bind fun r=>some (g r))=some (g a):=by rw [h];rfl
theorem zg {b:Bool} {r0 rs:List TA} {H0 H:TH} (h:xN [(b,r0,H0)] (fun rs H=>some (rs,H))=some (rs,H)):b=true∧r0=rs∧H0=H:=by
 cases b with
 | true=>cases h;exact ⟨rfl,rfl,rfl⟩
 | false=>cases h
theorem UY {b:Bool} {r0 rs:List TA} {H0 H:TH} {l:List (Bool×List TA×TH)} (h:xN ((b,r0,H0)::l) (fun rs H=>some (rs,H))=some (rs,H)):(b=true∧r0=rs∧H0=H)∨xN l (fun rs H=>some (rs,H))=some (rs,H):=by
 cases b with
 | true=>cases h;exact .inl ⟨rfl,rfl,rfl⟩
 | false=>exact .inr h
theorem zM {α β:Type} [Inhabited α] {x:Option (α ⊕ β)} (h:isL x=true):x=some (.inl (zz x)):=by
 cases x with
 | none=>cases h
 | some a=>cases a with
  | inl a=>rfl
  | inr b=>cases h
theorem zG {α β:Type} {x:Option (α ⊕ β)} {b:β} (h:zn x=some b):x=some (.inr b):=by
 cases x with
 | none=>cases h
 | some a=>cases a with
  | inl a=>cases h
  | inr b=>cases h;rfl
def FU:Nat:=18446744073709551616
end
noncomputable section
section
variable {R : Type} {r : R}
def dN (x c:Nat) (K:Option R):Option R:=cond (Nat.beq x c) K none
theorem dNq {x c:Nat} {K:Option R} (h:dN x c K=some r):x=c∧K=some r:=by
 unfold dN at h
 cases hb:Nat.beq x c with
 | true=>rw [hb] at h;exact ⟨Nat.eq_of_beq_eq_true hb,h⟩
 | false=>rw [hb] at h;cases h
def dE {α:Type} (l:List α) (K:Option R):Option R:=match l with | []=>K | _::_=>none
theorem dEq {α:Type} {l:List α} {K:Option R} (h:dE l K=some r):l=[]∧K=some r:=by
 cases l with
 | nil=>exact ⟨rfl,h⟩
 | cons x l=>cases h
def dC {α:Type} (l:List α) (K:α→List α→Option R):Option R:=match l with | []=>none | x::l=>K x l
theorem dCq {α:Type} {l:List α} {K:α→List α→Option R} (h:dC l K=some r):∃ x m,l=x::m∧K x m=some r:=by
 cases l with
 | nil=>cases h
 | cons x l=>exact ⟨x,l,rfl,h⟩
def dP {α β:Type} (p:α×β) (K:α→β→Option R):Option R:=K p.1 p.2
theorem dPq {α β:Type} {p:α×β} {K:α→β→Option R} (h:dP p K=some r):∃ x y,p=(x,y)∧K x y=some r:=⟨p.1,p.2,rfl,h⟩
def VL (v:TC) (K:Bool→Option R):Option R:=match v with | .bool b=>K b | _=>none
theorem WW {v:TC} {K:Bool→Option R} (h:VL v K=some r):∃ b,v=.bool b∧K b=some r:=by
 cases v<;>first | exact ⟨_,rfl,h⟩ | cases h
def Vy (k:IntKind) (v:TC) (K:Int→Option R):Option R:=match v with | .int k' n=>if k'=k then K n else none | _=>none
theorem dIntq {k:IntKind} {v:TC} {K:Int→Option R} (h:Vy k v K=some r):∃ n,v=.int k n∧K n=some r:=by
 cases v<;>first | (cases h;done) | skip
 rename_i k' n
 by_cases e:k'=k
 ·subst e;exact ⟨n,rfl,by simpa [Vy] using h⟩
 ·simp [Vy,e] at h
def dStr (v:TC) (K:ByteArray→Option R):Option R:=match v with | .str b=>K b | _=>none
def dD (e:TypeId) (t:Ty) (v:TC) (K:List t.T→Option R):Option R:=match v with | .d e' t' xs=>dN e' e (if h:t'=t then K (h▸xs) else none) | _=>none
theorem dDq {e:TypeId} {t:Ty} {v:TC} {K:List t.T→Option R} (h:dD e t v K=some r):∃ xs,v=.d e t xs∧K xs=some r:=by
 cases v<;>first | (cases h;done) | skip
 rename_i e' t' xs
 replace h:=dNq (show dN _ _ _=some r from h);obtain ⟨rfl,h⟩:=h
 by_cases e:t'=t
 ·subst e;exact ⟨xs,rfl,by simpa using h⟩
 ·simp [e] at h
def dNil (v:TC) (K:Option R):Option R:=match v with | .nil=>K | _=>none
theorem dNilq {v:TC} {K:Option R} (h:dNil v K=some r):v=.nil∧K=some r:=by
 cases v<;>first | exact ⟨rfl,h⟩ | cases h
def dNilp (v:TC) (K:Option R):Option R:=match v with | .nilp=>K | _=>none
def dNilf (v:TC) (K:Option R):Option R:=match v with | .nilf=>K | _=>none
def dNili (v:TC) (K:Option R):Option R:=match v with | .nili=>K | _=>none
def dG (i:Nat) (v:TC) (K:Option R):Option R:=match v with | .g j=>dN j i K | _=>none
theorem dGq {i:Nat} {v:TC} {K:Option R} (h:dG i v K=some r):v=.g i∧K=some r:=by
 cases v<;>first | (cases h;done) | skip
 replace h:=dNq (show dN _ _ _=some r from h);obtain ⟨rfl,h⟩:=h;exact ⟨rfl,h⟩
def dSl (i:Nat) (v:TC) (K:Nat→Nat→Option R):Option R:=match v with | .sl j a b=>dN j i (K a b) | _=>none
def dSc (i:Nat) (v:TC) (K:Nat→Nat→Option R):Option R:=match v with | .sc j a b=>dN j i (K a b) | _=>none
def yd (i o:Nat) (v:TC) (K:Option R):Option R:=match v with | .ptr j p=>dN j i (dN p o K) | _=>none
theorem Zo {i o:Nat} {v:TC} {K:Option R} (h:yd i o v K=some r):v=.ptr i o∧K=some r:=by
 cases v<;>first | (cases h;done) | skip
 replace h:=dNq (show dN _ _ _=some r from h);obtain ⟨rfl,h⟩:=h
 replace h:=dNq (show dN _ _ _=some r from h);obtain ⟨rfl,h⟩:=h
 exact ⟨rfl,h⟩
def dFn (f nf:Nat) (sh:List (Option Nat)) (v:TC) (K:List TC→Option R):Option R:=match v with | .fn g n s cs=>dN g f (dN n nf (if s=sh then K cs else none)) | _=>none
theorem dFnq {f nf:Nat} {sh:List (Option Nat)} {v:TC} {K:List TC→Option R} (h:dFn f nf sh v K=some r):∃ cs,v=.fn f nf sh cs∧K cs=some r:=by
 cases v<;>first | (cases h;done) | skip
 rename_i g n s cs
 replace h:=dNq (show dN _ _ _=some r from h);obtain ⟨rfl,h⟩:=h
 replace h:=dNq (show dN _ _ _=some r from h);obtain ⟨rfl,h⟩:=h
 by_cases e:s=sh
 ·subst e;exact ⟨cs,rfl,by simpa using h⟩
 ·simp [e] at h
def dS (v:TA) (K:TC→Option R):Option R:=match v with | .sc c=>K c | .agg _=>none
theorem dSq {v:TA} {K:TC→Option R} (h:dS v K=some r):∃ c,v=.sc c∧K c=some r:=by
 cases v<;>first | exact ⟨_,rfl,h⟩ | cases h
def dA (v:TA) (K:List TC→Option R):Option R:=match v with | .sc _=>none | .agg c=>K c
theorem dAq {v:TA} {K:List TC→Option R} (h:dA v K=some r):∃ c,v=.agg c∧K c=some r:=by
 cases v<;>first | exact ⟨_,rfl,h⟩ | cases h
def dNo (v:TV) (K:Option R):Option R:=match v with | .no=>K | _=>none
def dV (v:TV) (K:TA→Option R):Option R:=match v with | .v a=>K a | _=>none
theorem dVq {v:TV} {K:TA→Option R} (h:dV v K=some r):∃ a,v=.v a∧K a=some r:=by
 cases v<;>first | exact ⟨_,rfl,h⟩ | cases h
def dT (v:TV) (K:List TA→Option R):Option R:=match v with | .t a=>K a | _=>none
def dL (a b:Nat) (v:TV) (K:Option R):Option R:=match v with | .l x y=>dN x a (dN y b K) | _=>none
theorem dLq {a b:Nat} {v:TV} {K:Option R} (h:dL a b v K=some r):v=.l a b∧K=some r:=by
 cases v<;>first | (cases h;done) | skip
 replace h:=dNq (show dN _ _ _=some r from h);obtain ⟨rfl,h⟩:=h
 replace h:=dNq (show dN _ _ _=some r from h);obtain ⟨rfl,h⟩:=h
 exact ⟨rfl,h⟩
def dSS (a b:Nat) (v:TV) (K:Option R):Option R:=match v with | .s x y=>dN x a (dN y b K) | _=>none
def dEl (t:Ty) (o:Nat) (v:TV) (K:List t.T→Nat→Option R):Option R:=match v with | .e t' xs i p=>dN p o (if h:t'=t then K (h▸xs) i else none) | _=>none
def dPl (i o:Nat) (v:TV) (K:Nat→Option R):Option R:=match v with | .p j n p=>dN j i (dN p o (K n)) | _=>none
def dRow (e:TypeId) (t:Ty) (v:TO) (K:List t.T→Option R):Option R:=match v with | .row e' t' xs=>dN e' e (if h:t'=t then K (h▸xs) else none) | _=>none
theorem dRowq {e:TypeId} {t:Ty} {v:TO} {K:List t.T→Option R} (h:dRow e t v K=some r):∃ xs,v=.row e t xs∧K xs=some r:=by
 cases v<;>first | (cases h;done) | skip
 rename_i e' t' xs
 replace h:=dNq (show dN _ _ _=some r from h);obtain ⟨rfl,h⟩:=h
 by_cases e:t'=t
 ·subst e;exact ⟨xs,rfl,by simpa using h⟩
 ·simp [e] at h
def dCrow (e:TypeId) (v:TO) (K:List TC→Option R):Option R:=match v with | .crow e' c=>dN e' e (K c) | _=>none
def dBox (e:TypeId) (v:TO) (K:List TC→Option R):Option R:=match v with | .box e' c=>dN e' e (K c) | _=>none
theorem dBoxq {e:TypeId} {v:TO} {K:List TC→Option R} (h:dBox e v K=some r):∃ c,v=.box e c∧K c=some r:=by
 cases v<;>first | (cases h;done) | skip
 replace h:=dNq (show dN _ _ _=some r from h);obtain ⟨rfl,h⟩:=h;exact ⟨_,rfl,h⟩
def dDead (v:TO) (K:Option R):Option R:=match v with | .dead=>K | _=>none
def dYl (i:Nat) (v:TC) (K:Option R):Option R:=match v with | .yl j=>dN j i K | _=>none
theorem WM {i:Nat} {v:TC} {K:Option R} (h:dYl i v K=some r):v=.yl i∧K=some r:=by
 cases v<;>first | (cases h;done) | skip
 replace h:=dNq (show dN _ _ _=some r from h);obtain ⟨rfl,h⟩:=h;exact ⟨rfl,h⟩
def wK (st:Nat) (pe:Option Ex) (f key nt:Nat) (v:TO) (K:List (Nat×TV)→Option R):Option R:=match v with | .loop a b c d e sl=>dN a st (dN c f (dN d key (dN e nt (if b=pe then K sl else none)))) | _=>none
theorem wq {st:Nat} {pe:Option Ex} {f key nt:Nat} {v:TO} {K:List (Nat×TV)→Option R} (h:wK st pe f key nt v K=some r):∃ sl,v=.loop st pe f key nt sl∧K sl=some r:=by
 cases v<;>first | (cases h;done) | skip
 rename_i a b c d e sl
 replace h:=dNq (show dN _ _ _=some r from h);obtain ⟨rfl,h⟩:=h
 replace h:=dNq (show dN _ _ _=some r from h);obtain ⟨rfl,h⟩:=h
 replace h:=dNq (show dN _ _ _=some r from h);obtain ⟨rfl,h⟩:=h
 replace h:=dNq (show dN _ _ _=some r from h);obtain ⟨rfl,h⟩:=h
 by_cases q:b=pe
 ·subst q;exact ⟨sl,rfl,by simpa using h⟩
 ·simp [q] at h
def dCS (n:Nat) (S:CS) (K:List (Nat×TV)→List (Nat×List TC)→TH→Option R):Option R:=cond S.w none (dN S.n0 n (K S.sl S.lo S.h))
theorem Qd {n:Nat} {S:CS} {K:List (Nat×TV)→List (Nat×List TC)→TH→Option R} (h:dCS n S K=some r):∃ a b c,S={ sl:=a,lo:=b,h:=c,n0:=n,w:=false }∧K a b c=some r:=by
 obtain ⟨a,b,c,m,w⟩:=S
 cases w with
 | true=>cases h
 | false=>
  replace h:=dNq (show dN _ _ _=some r from h);obtain ⟨h1,h⟩:=h
  have h1:m=n:=h1
  subst h1
  exact ⟨a,b,c,rfl,h⟩
def dSt (i:Nat) (l:List (Nat×TV)) (K:TV→List (Nat×TV)→Option R):Option R:=dC l fun y m=>dP y fun a b=>dN a i (K b m)
theorem dStq {i:Nat} {l:List (Nat×TV)} {K:TV→List (Nat×TV)→Option R} (h:dSt i l K=some r):∃ v m,l=(i,v)::m∧K v m=some r:=by
 unfold dSt at h
 replace h:=dCq h;obtain ⟨y,m,rfl,h⟩:=h
 replace h:=dPq h;obtain ⟨a,b,rfl,h⟩:=h
 replace h:=dNq h;obtain ⟨rfl,h⟩:=h
 exact ⟨b,m,rfl,h⟩
def dSs (i:Nat) (l:List (Nat×TV)) (K:TC→List (Nat×TV)→Option R):Option R:=dSt i l fun v m=>dV v fun a=>dS a fun c=>K c m
theorem ZS {i:Nat} {l:List (Nat×TV)} {K:TC→List (Nat×TV)→Option R} (h:dSs i l K=some r):∃ c m,l=(i,.v (.sc c))::m∧K c m=some r:=by
 unfold dSs at h
 replace h:=dStq h;obtain ⟨v,m,rfl,h⟩:=h
 replace h:=dVq h;obtain ⟨a,rfl,h⟩:=h
 replace h:=dSq h;obtain ⟨c,rfl,h⟩:=h
 exact ⟨c,m,rfl,h⟩
def dSI (i:Nat) (k:IntKind) (l:List (Nat×TV)) (K:Int→List (Nat×TV)→Option R):Option R:=dSs i l fun c m=>Vy k c fun x=>K x m
theorem TQ {i:Nat} {k:IntKind} {l:List (Nat×TV)} {K:Int→List (Nat×TV)→Option R} (h:dSI i k l K=some r):∃ x m,l=(i,.v (.sc (.int k x)))::m∧K x m=some r:=by
 unfold dSI at h
 replace h:=ZS h;obtain ⟨c,m,rfl,h⟩:=h
 replace h:=dIntq h;obtain ⟨x,rfl,h⟩:=h
 exact ⟨x,m,rfl,h⟩
def dCI (k:IntKind) (l:List TC) (K:Int→List TC→Option R):Option R:=dC l fun c m=>Vy k c fun x=>K x m
theorem zT {k:IntKind} {l:List TC} {K:Int→List TC→Option R} (h:dCI k l K=some r):∃ x m,l=.int k x::m∧K x m=some r:=by
 unfold dCI at h
 replace h:=dCq h;obtain ⟨c,m,rfl,h⟩:=h
 replace h:=dIntq h;obtain ⟨x,rfl,h⟩:=h
 exact ⟨x,m,rfl,h⟩
def dLo (k:Nat) (l:List (Nat×List TC)) (K:List TC→List (Nat×List TC)→Option R):Option R:=dC l fun y m=>dP y fun a b=>dN a k (K b m)
theorem dLoq {k:Nat} {l:List (Nat×List TC)} {K:List TC→List (Nat×List TC)→Option R} (h:dLo k l K=some r):∃ v m,l=(k,v)::m∧K v m=some r:=by
 unfold dLo at h
 replace h:=dCq h;obtain ⟨y,m,rfl,h⟩:=h
 replace h:=dPq h;obtain ⟨a,b,rfl,h⟩:=h
 replace h:=dNq h;obtain ⟨rfl,h⟩:=h
 exact ⟨b,m,rfl,h⟩
def dHR (e:TypeId) (t:Ty) (l:TH) (K:List t.T→TH→Option R):Option R:=dC l fun o m=>dRow e t o fun x=>K x m
theorem Yr {e:TypeId} {t:Ty} {l:TH} {K:List t.T→TH→Option R} (h:dHR e t l K=some r):∃ x m,l=.row e t x::m∧K x m=some r:=by
 unfold dHR at h
 replace h:=dCq h;obtain ⟨c,m,rfl,h⟩:=h
 replace h:=dRowq h;obtain ⟨x,rfl,h⟩:=h
 exact ⟨x,m,rfl,h⟩
def dHB (e:TypeId) (l:TH) (K:List TC→TH→Option R):Option R:=dC l fun o m=>dBox e o fun x=>K x m
theorem Yp {e:TypeId} {l:TH} {K:List TC→TH→Option R} (h:dHB e l K=some r):∃ x m,l=.box e x::m∧K x m=some r:=by
 unfold dHB at h
 replace h:=dCq h;obtain ⟨c,m,rfl,h⟩:=h
 replace h:=dBoxq h;obtain ⟨x,rfl,h⟩:=h
 exact ⟨x,m,rfl,h⟩
theorem ze {ρ σ:Type} {c:Bool} {a b:Option ρ} {a' b':Option σ} {r:ρ} {y:σ} (h1:a=some r→a'=some y) (h2:b=some r→b'=some y):cond c a b=some r→cond c a' b'=some y:=by
 cases c
 ·exact h2
 ·exact h1
theorem zp {ρ σ:Type} {c:Bool} {a b:Option σ} {a' b':Option ρ} {f:ρ→Option σ} (h1:a=a'.bind f) (h2:b=b'.bind f):cond c a b=(cond c a' b').bind f:=by
 cases c
 ·exact h2
 ·exact h1
end
end
end Go.TM
