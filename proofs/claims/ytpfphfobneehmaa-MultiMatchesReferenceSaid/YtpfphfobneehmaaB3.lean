/- The typed machine: calls. -/
import Derived.Test.YtpfphfobneehmaaB2
set_option linter.all false
namespace Go.TM
open Go Go.AM
variable {P : Program} {A : TAn} {ev : TEv} {J0 J J' : List JE} {Z0 Z Z' : Nat -> Prop} {H0 H H' : TH} {h0 h h' : AH} {s : TS} {a : AM.St} {R : Type} {r : R}
theorem YS {l m:List Nat} (hs:∀ b,LentZ J H Z l b->LentZ J H Z m b):Ext h (LentZ J H Z l) h (LentZ J H Z m):=⟨hs,fun _ _=>rfl⟩
theorem Qr (hr:HR P J Z H h) {ord:List Nat}:∀ {l:List TC} {t:List (Option TypeId)} {c:List TC->List Nat->Option R} {x:List Sc},UH P H ord t l c=some r->CRs P h Z J l x->
  ∃ l' m,c l' m=some r/\CRs P h (LentZ J H Z m) (yd J ord) l' x/\∀ i∈m,i ∉ ord
 | [],t,c,x,hx,hc=>by
  cases x with
  | nil=>exact ⟨[],[],by simpa [UH] using hx,trivial,fun i hi=>by cases hi⟩
  | cons _ _=>simp [CRs] at hc
 | v::l,t,c,x,hx,hc=>by
  cases x with
  | nil=>simp [CRs] at hc
  | cons s ss=>
   simp only [CRs] at hc
   simp only [UH] at hx
   obtain ⟨v',m1,hx1,c1,n1⟩:=Qq hr hx hc.1
   obtain ⟨l',m2,hx2,c2,n2⟩:=Qr hr hx1 hc.2
   refine ⟨v'::l',m1++m2,hx2,?_,fun i hi=>?_⟩
   ·simp only [CRs]
    exact ⟨CR.mono (YS fun b=>LentZ.app) (List.prefix_refl _) _ _ c1,CRs.mono (YS fun b=>LentZ.app') (List.prefix_refl _) _ _ c2⟩
   ·rcases List.mem_append.1 hi with hi | hi
    ·exact n1 i hi
    ·exact n2 i hi
theorem lendA_rel (hr:HR P J Z H h) {ord:List Nat} {v:TA} {t:Option TypeId} {c:TA->List Nat->Option R} {x:AV} (hx:lendA P H ord t v c=some r) (hc:AR P h Z J v x) :
  ∃ v' m,c v' m=some r/\AR P h (LentZ J H Z m) (yd J ord) v' x/\∀ i∈m,i ∉ ord:=by
 unfold lendA at hx
 split at hx
 ·obtain ⟨y,rfl,hc⟩:=hc
  obtain ⟨v',m,hx,c1,n1⟩:=Qq hr hx hc
  exact ⟨.sc v',m,hx,⟨y,rfl,c1⟩,n1⟩
 ·obtain ⟨y,rfl,hc⟩:=hc
  obtain ⟨v',m,hx,c1,n1⟩:=Qr hr hx hc
  exact ⟨.agg v',m,hx,⟨y,rfl,c1⟩,n1⟩
theorem UG (hr:HR P J Z H h) {ord:List Nat}:∀ {l:List TA} {t:List (Option TypeId)} {c:List TA->List Nat->Option R} {x:List AV},WX P H ord t l c=some r->ARs P h Z J l x->
  ∃ l' m,c l' m=some r/\ARs P h (LentZ J H Z m) (yd J ord) l' x/\∀ i∈m,i ∉ ord
 | [],t,c,x,hx,hc=>by
  cases x with
  | nil=>exact ⟨[],[],by simpa [WX] using hx,trivial,fun i hi=>by cases hi⟩
  | cons _ _=>simp [ARs] at hc
 | v::l,t,c,x,hx,hc=>by
  cases x with
  | nil=>simp [ARs] at hc
  | cons s ss=>
   simp only [ARs] at hc
   simp only [WX] at hx
   obtain ⟨v',m1,hx1,c1,n1⟩:=lendA_rel hr hx hc.1
   obtain ⟨l',m2,hx2,c2,n2⟩:=UG hr hx1 hc.2
   refine ⟨v'::l',m1++m2,hx2,?_,fun i hi=>?_⟩
   ·simp only [ARs]
    exact ⟨c1.mono (YS fun b=>LentZ.app) (List.prefix_refl _),c2.mono (YS fun b=>LentZ.app') (List.prefix_refl _)⟩
   ·rcases List.mem_append.1 hi with hi | hi
    ·exact n1 i hi
    ·exact n2 i hi
def fnCall (f:FuncId) (g:Fn) (avs avs0:List AV):Prop:=
 (f≠YF/\g=.func f/\avs0=avs)\/(f=YF/\∃ i,g=.yield i/\avs0=.sc (.fn (.yield i) 0 [] [])::avs)
def Uj (P:Program) (An:FuncId->FAn) (dOk:FAn->Array Oper->Bool) (f:FuncId) (args:List TA) (H:TH) (rs:List TA) (H':TH):Prop:=
 ∀ J Z h g avs avs0,fnCall f g avs avs0->ARs P h Z J args avs0->HR P J Z H h->∃ k avs' h' J' Z',AM.evF P An dOk k g avs h=some (avs',h')/\Step P J Z H h J' Z' H' h'/\ARs P h' Z' J' rs avs'
def Zv (P:Program) (An:FuncId->FAn) (dOk:FAn->Array Oper->Bool) (ev:TEv):Prop:=∀ f args H rs H',ev f args H=some (rs,H')->Uj P An dOk f args H rs H'
def Zd (P:Program) (An:FuncId->FAn) (dOk:FAn->Array Oper->Bool) (A:TAn):Prop:=∀ f args H alts,A.orc f args H=some alts->∀ rs H',wp alts (fun rs H=>some (rs,H))=some (rs,H')->Uj P An dOk f args H rs H'
theorem Vd {R:Type} {r:R}:∀ {alts:List (Bool×List TA×TH)} {c:List TA->TH->Option R},wp alts c=some r->∃ rs H,wp alts (fun rs H=>some (rs,H))=some (rs,H)/\c rs H=some r
 | [],c,h=>by cases h
 | (b,rs,H)::l,c,h=>by
  simp only [wp] at h ⊢
  cases b with
  | true=>exact ⟨rs,H,rfl,h⟩
  | false=>exact Vd h
theorem zip_get {α:Type} {l:List α} {i:Nat}:l.zipIdx[i]?=l[i]?.map fun x=>(x,i):=by simp
theorem Qu {ord lent:List Nat} {H2:TH} {i:Nat} {o:TO} (hx:(xi H ord lent H2)[i]?=some o) :
  (i < H.length/\i∈ord/\o=(zi H2 (yF ord i)).ren (Zo H ord))\/(i < H.length/\i ∉ ord/\i∈lent/\o=.dead)\/(i ∉ ord/\i ∉ lent/\H[i]?=some o)\/
   (H.length<=i/\∃ o2,H2[i - H.length+ord.length]?=some o2/\o=o2.ren (Zo H ord)):=by
 unfold xi at hx
 rcases Nat.lt_or_ge i H.length with hi | hi
 ·rw [List.getElem?_append_left (by simp;exact hi),List.getElem?_map,zip_get,List.getElem?_eq_getElem hi] at hx
  simp only [Option.map_some,Option.some.injEq] at hx
  by_cases h1:i∈ord
  ·rw [memN_iff.2 h1,cond_true] at hx;exact .inl ⟨hi,h1,hx.symm⟩
  ·have h1':yu ord i=false:=by cases hm:yu ord i;rfl;exact absurd (memN_iff.1 hm) h1
   rw [h1',cond_false] at hx
   by_cases h2:i∈lent
   ·rw [memN_iff.2 h2,cond_true] at hx;exact .inr (.inl ⟨hi,h1,h2,hx.symm⟩)
   ·have h2':yu lent i=false:=by cases hm:yu lent i;rfl;exact absurd (memN_iff.1 hm) h2
    rw [h2',cond_false] at hx
    exact .inr (.inr (.inl ⟨h1,h2,by rw [<- hx];exact List.getElem?_eq_getElem hi⟩))
 ·rw [List.getElem?_append_right (by simp;exact hi),List.getElem?_map,List.getElem?_drop] at hx
  simp only [List.length_map,List.length_zipIdx] at hx
  obtain ⟨o2,h1,h2⟩:=oM hx
  exact .inr (.inr (.inr ⟨hi,o2,by rw [<- h1];congr 1;omega,h2.symm⟩))
theorem back_get {ord:List Nat} (hl:J.length=H.length) (ok:OrdOk H ord) {J2:List JE} (hp:yd J ord <+: J2) {k:Nat} {je:JE} (hk:J2[k]?=some je):(J++J2.drop ord.length)[Zo H ord k]?=some je:=by
 unfold Zo
 have hs:(yd J ord).length=ord.length:=by simp [yd]
 cases hb:Nat.blt k ord.length with
 | true=>
  have hlt:k < ord.length:=Nat.le_of_ble_eq_true hb
  simp only [cond_true]
  have h1:(yd J ord)[k]?=some je:=by
   obtain ⟨t,rfl⟩:=hp
   rwa [List.getElem?_append_left (by omega)] at hk
  have h2:ord.getD k 0=ord[k]:=by simp [List.getD_eq_getElem?_getD,hlt]
  have h3:=ok.lt ord[k] (List.getElem_mem hlt)
  have h4:J[ord[k]]?=some J[ord[k]]:=List.getElem?_eq_getElem (by omega)
  simp only [yd,List.getElem?_map,List.getElem?_eq_getElem hlt,Option.map_some,List.getD_eq_getElem?_getD,h4,Option.getD_some] at h1
  rw [h2,List.getElem?_append_left (by omega),h4,<- h1]
 | false=>
  have hge:ord.length<=k:=by
   rcases Nat.lt_or_ge k ord.length with h | h
   ·have:Nat.blt k ord.length=true:=Nat.ble_eq_true_of_le h
    rw [this] at hb;cases hb
   ·exact h
  simp only [cond_false]
  rw [List.getElem?_append_right (by omega),List.getElem?_drop,hl,show ord.length+(H.length+(k - ord.length) - H.length)=k by omega]
  exact hk
theorem QE {l:List TC} {x:List Sc} {J':List JE} {h':AH} (hp:l.all Ve=true) (hc:CRs P h Z J l x):CRs P h' Z' J' l x:=by
 induction l generalizing x with
 | nil=>
  cases x with
  | nil=>trivial
  | cons _ _=>simp [CRs] at hc
 | cons c l ih=>
  cases x with
  | nil=>simp [CRs] at hc
  | cons y ys=>
   simp only [CRs] at hc ⊢
   simp only [List.all_cons,Bool.and_eq_true] at hp
   refine ⟨?_,ih hp.2 hc.2⟩
   have h1:=hp.1
   have h2:=hc.1
   cases c<;>simp [Ve] at h1<;>simpa [CR] using h2
theorem UV {J':List JE} {h':AH}:∀ {l:List TA} {x:List AV},(l.all fun v=>v.cells.all Ve)=true->ARs P h Z J l x->ARs P h' Z' J' l x
 | [],[],_,_=>trivial
 | v::l,y::ys,hp,hc=>by
  simp only [ARs] at hc ⊢
  simp only [List.all_cons,Bool.and_eq_true] at hp
  refine ⟨?_,UV hp.2 hc.2⟩
  cases v with
  | sc c=>
   obtain ⟨s,rfl,h1⟩:=hc.1
   have:=QE (P:=P) (h:=h) (Z:=Z) (J:=J) (J':=J') (h':=h') (Z':=Z') (l:=[c]) (x:=[s]) hp.1 (by simp only [CRs];exact ⟨h1,trivial⟩)
   simp only [CRs] at this
   exact ⟨s,rfl,this.1⟩
  | agg cs=>obtain ⟨s,rfl,h1⟩:=hc.1;exact ⟨s,rfl,QE hp.1 h1⟩
 | [],_::_,_,h=>h.elim
 | _::_,[],_,h=>h.elim
theorem merge_step (hr:HR P J Z H h) {ord lent:List Nat} (ok:OrdOk H ord) (hlent:∀ i∈lent,i ∉ ord) {J2:List JE} {Z2:Nat->Prop} {H2:TH} {h2:AH}
  (st:Step P (yd J ord) (LentZ J H Z lent) (Zr H ord) h J2 Z2 H2 h2) (hle:ord.length<=H2.length) :
  Step P J Z H h (J++J2.drop ord.length) Z2 (xi H ord lent H2) h2/\Ext h2 Z2 h2 Z2:=by
 have hl:=hr.len
 have hl2:=st.hr.len
 have hJ:∀ (i:Nat),i < H.length->(J++J2.drop ord.length)[i]?=J[i]?:=fun i hi=>List.getElem?_append_left (by omega)
 have inner:∀ (i:Nat) (o:TO) (je:JE),(xi H ord lent H2)[i]?=some o->(J++J2.drop ord.length)[i]?=some je->(i∈ord\/H.length<=i)->∃ k o2,H2[k]?=some o2/\J2[k]?=some je/\o=o2.ren (Zo H ord)/\i=Zo H ord k/\(i∈ord->k < ord.length)/\(H.length<=i->ord.length<=k):=by
  intro i o je h1 h3 h4
  rcases Qu h1 with ⟨a1,a2,rfl⟩ | ⟨a1,a2,_⟩ | ⟨a1,_,a3⟩ | ⟨a1,o2,a2,rfl⟩
  ·have b1:=VZ a2
   have b2:yF ord i < ord.length:=(List.getElem?_eq_some_iff.1 b1).1
   have b3:(yd J ord)[yF ord i]?=some je:=wj a2 (by rw [<- hJ i a1];exact h3)
   refine ⟨yF ord i,_,objAt_lt (by omega),zu st.kp.pre b3,rfl,?_,fun _=>b2,fun h=>by omega⟩
   unfold Zo
   have:Nat.blt (yF ord i) ord.length=true:=Nat.ble_eq_true_of_le b2
   rw [this,cond_true,List.getD_eq_getElem?_getD,b1];rfl
  ·rcases h4 with h4 | h4
   ·exact absurd h4 a2
   ·omega
  ·have:=(List.getElem?_eq_some_iff.1 a3).1
   rcases h4 with h4 | h4
   ·exact absurd h4 a1
   ·omega
  ·refine ⟨i - H.length+ord.length,o2,a2,?_,rfl,?_,fun hi=>by have:=ok.lt i hi;omega,fun _=>by omega⟩
   ·rw [List.getElem?_append_right (by omega),List.getElem?_drop] at h3
    rw [<- h3];congr 1;omega
   ·unfold Zo
    have:Nat.blt (i - H.length+ord.length) ord.length=false:=by
     cases hb:Nat.blt (i - H.length+ord.length) ord.length with
     | false=>rfl
     | true=>have:i - H.length+ord.length < ord.length:=Nat.le_of_ble_eq_true hb;omega
    rw [this,cond_false];omega
 have outer:∀ (i:Nat) (o:TO) (je:JE),(xi H ord lent H2)[i]?=some o->(J++J2.drop ord.length)[i]?=some je->¬ (i∈ord\/H.length<=i)->o=.dead\/(H[i]?=some o/\J[i]?=some je/\i ∉ lent/\i ∉ ord):=by
  intro i o je h1 h3 h4
  rcases Qu h1 with ⟨a1,a2,_⟩ | ⟨_,_,_,rfl⟩ | ⟨a1,a2,a3⟩ | ⟨a1,_⟩
  ·exact absurd (.inl a2) h4
  ·exact .inl rfl
  ·have hlt:=(List.getElem?_eq_some_iff.1 a3).1
   exact .inr ⟨a3,by rw [<- hJ i hlt];exact h3,a2,a1⟩
  ·exact absurd (.inr a1) h4
 have hzE:Ext h Z h (LentZ J H Z lent):=⟨fun _ h=>.inl h,fun _ _=>rfl⟩
 have x1:Ext h (LentZ J H Z lent) h2 Z2:=by
  refine ⟨st.kp.zin,fun id hz=>st.kp.same id ?_ fun ho=>?_⟩
  ·rcases hz with hz | ⟨i,_,je,o,h1,h3,rfl,h4,h5⟩
   ·exact hr.zlt id hz
   ·exact OR.lt h5 h3 (hr.obj i o je h4 h1)
  ·obtain ⟨i,o,je,a1,a2,a3,a4,a5,rfl⟩:=ZE hl ok ho
   rcases hz with hz | ⟨i',b0,je',o',b1,b2,b3,b4,b5⟩
   ·exact hr.sep i o je a2 a3 a4 a5 hz
   ·have:=hr.uniq i i' o o' je je' a2 b4 a3 b5 a4 b1 a5 b2 b3.symm
    subst this
    exact hlent i b0 a1
 have x2:=hzE.trans x1
 have notsub:∀ (i:Nat) (o:TO) (je:JE),H[i]?=some o->o.live=true->J[i]?=some je->je.v=false->i ∉ ord->¬ OwnJ (yd J ord) (Zr H ord) je.id:=by
  intro i o je h1 h3 h4 h5 h6 ho
  obtain ⟨i',o',je',a1,a2,a3,a4,a5,a6⟩:=ZE hl ok ho
  have:=hr.uniq i i' o o' je je' h1 a2 h3 a3 h4 a4 h5 a5 a6.symm
  subst this
  exact h6 a1
 have sameO:∀ (i:Nat) (o:TO) (je:JE),H[i]?=some o->o.live=true->J[i]?=some je->je.v=false->i ∉ ord->h2[je.id]?=h[je.id]?:=fun i o je h1 h3 h4 h5 h6=>
  st.kp.same je.id (OR.lt h3 h5 (hr.obj i o je h1 h4)) (notsub i o je h1 h3 h4 h5 h6)
 have innerOwn:∀ (k:Nat) (o2:TO) (je:JE),H2[k]?=some o2->o2.live=true->J2[k]?=some je->je.v=false->(∃ (i:Nat) (o:TO) (je':JE),i∈ord/\H[i]?=some o/\o.live=true/\J[i]?=some je'/\je'.v=false/\je'.id=je.id)\/h.length<=je.id:=by
  intro k o2 je h1 h3 h4 h5
  rcases st.kp.own je.id ⟨k,o2,je,h1,h3,h4,h5,rfl⟩ with ho | ho
  ·exact .inl (ZE hl ok ho)
  ·exact .inr ho
 have cross:∀ (i k:Nat) (o o2:TO) (je je2:JE),H[i]?=some o->o.live=true->J[i]?=some je->je.v=false->i ∉ ord->H2[k]?=some o2->o2.live=true->J2[k]?=some je2->je2.v=false->je.id=je2.id->False:=by
  intro i k o o2 je je2 h1 h3 h4 h5 h6 a1 a2 a3 a4 e
  rcases innerOwn k o2 je2 a1 a2 a3 a4 with ⟨i',o',je',b1,b2,b3,b4,b5,b6⟩ | hb
  ·have:=hr.uniq i i' o o' je je' h1 b2 h3 b3 h4 b4 h5 b5 (by rw [b6];exact e)
   subst this;exact h6 b1
  ·have:=OR.lt h3 h5 (hr.obj i o je h1 h4);omega
 refine ⟨⟨⟨by simp [xi];omega,fun i o je h1 h3=>?_,fun i j o1 o2 j1 j2 h1 h3 l1 l2 k1 k2 v1 v2 e=>?_,fun i o je h1 h3 h4 h5 h6=>?_,st.hr.zlt⟩,⟨st.kp.len,List.prefix_append _ _,fun id hlt hn=>st.kp.same id hlt fun ho=>?_,fun id ho=>?_,fun id hz=>x2.z id hz,fun id hz=>?_⟩⟩,Ext.refl _ _⟩
 ·by_cases hc:i∈ord\/H.length<=i
  ·obtain ⟨k,o2,a1,a2,rfl,_⟩:=inner i o je h1 h3 hc
   exact OR.ren (fun j _ je' hj=>back_get hl ok st.kp.pre hj) (st.hr.obj k o2 je a1 a2)
  ·rcases outer i o je h1 h3 hc with rfl | ⟨a1,a2,a3,a4⟩
   ·trivial
   ·exact (hr.obj i o je a1 a2).mono x2 (List.prefix_append _ _) fun hlv hv=>sameO i o je a1 hlv a2 hv a4
 ·by_cases hc:i∈ord\/H.length<=i<;>by_cases hd:j∈ord\/H.length<=j
  ·obtain ⟨k,o3,a1,a2,rfl,a3,_⟩:=inner i o1 j1 h1 k1 hc
   obtain ⟨k',o4,b1,b2,rfl,b3,_⟩:=inner j o2 j2 h3 k2 hd
   rw [xE] at l1 l2
   have:=st.hr.uniq k k' o3 o4 j1 j2 a1 b1 l1 l2 a2 b2 v1 v2 e
   rw [a3,b3,this]
  ·obtain ⟨k,o3,a1,a2,rfl,a3,_⟩:=inner i o1 j1 h1 k1 hc
   rw [xE] at l1
   rcases outer j o2 j2 h3 k2 hd with rfl | ⟨b1,b2,b3,b4⟩
   ·simp [TO.live] at l2
   ·exact (cross j k o2 o3 j2 j1 b1 l2 b2 v2 b4 a1 l1 a2 v1 e.symm).elim
  ·obtain ⟨k,o3,a1,a2,rfl,a3,_⟩:=inner j o2 j2 h3 k2 hd
   rw [xE] at l2
   rcases outer i o1 j1 h1 k1 hc with rfl | ⟨b1,b2,b3,b4⟩
   ·simp [TO.live] at l1
   ·exact (cross i k o1 o3 j1 j2 b1 l1 b2 v1 b4 a1 l2 a2 v2 e).elim
  ·rcases outer i o1 j1 h1 k1 hc with rfl | ⟨a1,a2,_⟩
   ·simp [TO.live] at l1
   rcases outer j o2 j2 h3 k2 hd with rfl | ⟨b1,b2,_⟩
   ·simp [TO.live] at l2
   exact hr.uniq i j o1 o2 j1 j2 a1 b1 l1 l2 a2 b2 v1 v2 e
 ·by_cases hc:i∈ord\/H.length<=i
  ·obtain ⟨k,o3,a1,a2,rfl,a3,_⟩:=inner i o je h1 h4 hc
   rw [xE] at h3
   exact st.hr.sep k o3 je a1 h3 a2 h5 h6
  ·rcases outer i o je h1 h4 hc with rfl | ⟨a1,a2,a3,a4⟩
   ·simp [TO.live] at h3
   rcases st.kp.zout je.id h6 with hz | hz | hz
   ·rcases hz with hz | ⟨i',b0,je',o',b1,b2,b3,b4,b5⟩
    ·exact hr.sep i o je a1 h3 a2 h5 hz
    ·have:=hr.uniq i i' o o' je je' a1 b4 h3 b5 a2 b1 h5 b2 b3.symm
     subst this;exact a3 b0
   ·exact notsub i o je a1 h3 a2 h5 a4 hz
   ·have:=OR.lt h3 h5 (hr.obj i o je a1 a2);omega
 ·obtain ⟨i,o,je,a1,a2,a3,a4,a5,a6⟩:=ZE hl ok ho
  exact hn ⟨i,o,je,a2,a3,a4,a5,a6⟩
 ·obtain ⟨i,o,je,h1,h3,h4,h5,rfl⟩:=ho
  by_cases hc:i∈ord\/H.length<=i
  ·obtain ⟨k,o3,a1,a2,rfl,a3,_⟩:=inner i o je h1 h4 hc
   rw [xE] at h3
   rcases innerOwn k o3 je a1 h3 a2 h5 with ⟨i',o',je',b1,b2,b3,b4,b5,b6⟩ | hb
   ·exact .inl ⟨i',o',je',b2,b3,b4,b5,b6⟩
   ·exact .inr hb
  ·rcases outer i o je h1 h4 hc with rfl | ⟨a1,a2,_⟩
   ·simp [TO.live] at h3
   ·exact .inl ⟨i,o,je,a1,h3,a2,h5,rfl⟩
 ·rcases st.kp.zout id hz with hz | hz | hz
  ·rcases hz with hz | ⟨i',b0,je',o',b1,b2,b3,b4,b5⟩
   ·exact .inl hz
   ·exact .inr (.inl ⟨i',o',je',b4,b5,b1,b2,b3⟩)
  ·obtain ⟨i,o,je,a1,a2,a3,a4,a5,a6⟩:=ZE hl ok hz
   exact .inr (.inl ⟨i,o,je,a2,a3,a4,a5,a6⟩)
  ·exact .inr (.inr hz)
theorem Wz (q:StR P J0 Z0 H0 h0 J Z s a) {An:FuncId->FAn} {dOk:FAn->Array Oper->Bool} (hev:Zv P An dOk ev) (horc:Zd P An dOk A) {f:FuncId} {ts:List (Option TypeId)} {as:List TA} {g:Fn} {avs avs0:List AV} {c:List TA->TH->Option R} (hx:YB P A ev f ts as s.h c=some r) (hg:fnCall f g avs avs0) (ha:ARs P a.h Z J as avs0) :
  ∃ k rs H' avs' h' J' Z',AM.evF P An dOk k g avs a.h=some (avs',h')/\c rs H'=some r/\Step P J Z s.h a.h J' Z' H' h'/\ARs P h' Z' J' rs avs':=by
 unfold YB at hx
 simp only at hx
 generalize hord:Wb s.h 100 (as.flatMap rootsA) []=ord at hx
 replace hx:=gB.1 hx
 obtain ⟨hok,hx⟩:=hx
 have ok:=Ud hok
 obtain ⟨as',lent,hx,hA,hnl⟩:=UG q.hp hx ha
 have hsub:HR P (yd J ord) (LentZ J s.h Z lent) (Zr s.h ord) a.h:=by
  refine sub_hr q.hp ok (fun i h=>.inl h) (fun i o je h1 h2 h3 h4 h5 h6=>?_) fun id hz=>?_
  ·rcases h6 with h6 | ⟨i',b0,je',o',b1,b2,b3,b4,b5⟩
   ·exact q.hp.sep i o je h1 h2 h3 h4 h6
   ·have:=q.hp.uniq i i' o o' je je' h1 b4 h2 b5 h3 b1 h4 b2 b3.symm
    subst this;exact hnl i b0 h5
  ·rcases hz with hz | ⟨i,_,je,o,h1,h3,rfl,h4,h5⟩
   ·exact q.hp.zlt id hz
   ·exact OR.lt h5 h3 (q.hp.obj i o je h4 h1)
 have fin:∀ (rs:List TA) (H2:TH),Uj P An dOk f as' (Zr s.h ord) rs H2->
   (cond (ord.isEmpty&&H2.isEmpty&&rs.all fun v=>v.cells.all Ve) (c rs s.h)<|guardB (Nat.ble ord.length H2.length) (c (rs.map (TA.ren (Zo s.h ord))) (xi s.h ord lent H2)))=some r->
   ∃ k rs H' avs' h' J' Z',AM.evF P An dOk k g avs a.h=some (avs',h')/\c rs H'=some r/\Step P J Z s.h a.h J' Z' H' h'/\ARs P h' Z' J' rs avs':=by
  intro rs H2 hco hx
  obtain ⟨k,avs',h2,J2,Z2,he,st,hrs⟩:=hco _ _ _ _ _ _ hg hA hsub
  rcases cond_some.1 hx with ⟨hp,hx1⟩ | ⟨_,hx⟩
  ·simp only [Bool.and_eq_true,List.isEmpty_iff] at hp
   obtain ⟨⟨rfl,rfl⟩,hp⟩:=hp
   have hno:∀ id,¬ OwnJ (yd J []) (Zr s.h []) id:=by rintro id ⟨i,o,je,h1,_⟩;simp [Zr] at h1
   have hsame:∀ id,id < a.h.length->h2[id]?=a.h[id]?:=fun id hid=>st.kp.same id hid (hno id)
   have x:Ext a.h Z h2 Z:=⟨fun _ h=>h,fun id hz=>hsame id (q.hp.zlt id hz)⟩
   refine ⟨k,rs,s.h,avs',h2,J,Z,he,hx1,⟨⟨q.hp.len,fun i o je h1 h3=>?_,q.hp.uniq,q.hp.sep,fun id hz=>Nat.lt_of_lt_of_le (q.hp.zlt id hz) st.kp.len⟩,⟨st.kp.len,List.prefix_refl _,fun id hid _=>hsame id hid,fun id ho=>.inl ho,fun _ h=>h,fun _ h=>.inl h⟩⟩,UV hp hrs⟩
   have hob:=q.hp.obj i o je h1 h3
   exact hob.mono x (List.prefix_refl _) fun hlv hv=>hsame _ (OR.lt hlv hv hob)
  ·replace hx:=gB.1 hx
   obtain ⟨hle,hx⟩:=hx
   obtain ⟨st2,_⟩:=merge_step q.hp ok hnl st (Nat.le_of_ble_eq_true hle)
   exact ⟨k,_,_,avs',h2,_,Z2,he,hx,st2,hrs.ren fun i _ je hj=>back_get q.hp.len ok st.kp.pre hj⟩
 split at hx
 ·rename_i alts hp
  obtain ⟨rs,H2,h1,h2⟩:=Vd hx
  exact fin rs H2 (horc f as' _ alts hp rs H2 h1) h2
 ·replace hx:=oB hx
  obtain ⟨⟨rs,H2⟩,hev1,hx⟩:=hx
  exact fin rs H2 (hev f as' _ rs H2 hev1) hx
variable {P : Program} {A : TAn} {ev : TEv} {J0 J J' : List JE} {Z0 Z Z' : Nat -> Prop} {H0 H H' : TH} {h0 h h' : AH} {s : TS} {a : AM.St} {R : Type} {r : R}
section
variable {α : Type} {f : α -> α} {t : Tr α} {d : Nat} {g : Tr α -> Nat -> Tr α}
theorem YL (hg:∀ u i,g u i=match t.get i with | some v=>u.set i v | none=>u):∀ (l:List Nat) (u:Tr α),d ∉ l->(l.foldl g u).get d=u.get d
 | [],u,_=>rfl
 | j::l,u,hd=>by
  rw [List.foldl_cons,YL hg l _ fun h=>hd (List.mem_cons_of_mem _ h),hg]
  cases t.get j with
  | none=>rfl
  | some w=>exact Tr.get_set_ne _ (fun (e:j=d)=>hd (by rw [e];exact List.mem_cons_self)) _
theorem fold_dom (hg:∀ u i,g u i=match t.get i with | some v=>u.set i v | none=>u) {u:Tr α} (i:Nat) (hu:(u.get d).isSome=(t.get d).isSome):((g u i).get d).isSome=(t.get d).isSome:=by
 rw [hg]
 cases hi:t.get i with
 | none=>exact hu
 | some w=>
  simp only
  by_cases e:i=d
  ·subst e;rw [Tr.get_set_self,Option.isSome_map];exact hu
  ·rw [Tr.get_set_ne _ e];exact hu
theorem Ts (hg:∀ u i,g u i=match t.get i with | some v=>u.set i v | none=>u):∀ (l:List Nat) (u:Tr α),(u.get d).isSome=(t.get d).isSome->d∈l->(l.foldl g u).get d=t.get d
 | [],u,_,hd=>by cases hd
 | j::l,u,hu,hd=>by
  rw [List.foldl_cons]
  by_cases hl:d∈l
  ·exact Ts hg l _ (fold_dom hg j hu) hl
  ·have:d=j:=by rcases List.mem_cons.1 hd with h | h;exact h;exact absurd h hl
   subst this
   rw [YL hg l _ hl,hg]
   cases hi:t.get d with
   | none=>
    simp only
    rw [hi] at hu
    cases hh:u.get d with
    | none=>rfl
    | some w=>rw [hh] at hu;cases hu
   | some w=>
    simp only
    rw [Tr.get_set_self]
    rw [hi] at hu
    cases hh:u.get d with
    | none=>rw [hh] at hu;cases hu
    | some w=>rfl
theorem map_dom:((t.map f).get d).isSome=(t.get d).isSome:=by rw [Tr.get_map,Option.isSome_map]
theorem yZ {l:List Nat} (hd:d∈l):(TM.keepT f t l).get d=t.get d:=Ts (fun u i=>by cases t.get i<;>rfl) l _ map_dom hd
theorem wS {l:List Nat} (hd:d∈l):(AM.keepT f t l).get d=t.get d:=Ts (fun u i=>by cases t.get i<;>rfl) l _ map_dom hd
theorem yN {l:List Nat} (hd:d ∉ l):(TM.keepT f t l).get d=(t.get d).map f:=(YL (t:=t) (fun u i=>by cases t.get i<;>rfl) l _ hd).trans (Tr.get_map f t d)
theorem Zj {l:List Nat} (hd:d ∉ l):(AM.keepT f t l).get d=(t.get d).map f:=(YL (t:=t) (fun u i=>by cases t.get i<;>rfl) l _ hd).trans (Tr.get_map f t d)
end
theorem WZ (q:StR P J0 Z0 H0 h0 J Z s a) (A:TAn) (id:Nat):StR P J0 Z0 H0 h0 J Z (TM.maskR A id s) (AM.maskR A.a id a):=by
 unfold TM.maskR AM.maskR
 generalize A.a.keepR.find? (fun p=>Nat.beq p.1 id)=o
 rcases o with _ | ⟨p,l⟩
 ·exact q
 ·refine ⟨fun i v hv=>?_,fun i x hx=>?_,q.lo,q.lt,q.hp,q.kp,q.n0,q.j0⟩
  ·by_cases hi:i∈l
   ·simp only [yZ hi] at hv
    simp only [wS hi]
    exact q.tm i v hv
   ·simp only [yN hi] at hv
    simp only [Zj hi]
    obtain ⟨w,h1,rfl⟩:=oM hv
    obtain ⟨x,h2,_⟩:=q.tm i w h1
    exact ⟨.u,by simp [h2],rfl⟩
  ·by_cases hi:i∈l
   ·simp only [wS hi] at hx
    simp only [yZ hi]
    exact q.mt i x hx
   ·simp only [Zj hi] at hx
    simp only [yN hi]
    obtain ⟨w,h1,rfl⟩:=oM hx
    obtain ⟨v,h2⟩:=q.mt i w h1
    exact ⟨.u,by simp [h2]⟩
theorem wF (q:StR P J0 Z0 H0 h0 J Z s a) (A:TAn) (blk:Nat):StR P J0 Z0 H0 h0 J Z (TM.maskAt A blk s) (AM.maskAt A.a blk a):=by
 unfold TM.maskAt AM.maskAt
 generalize A.a.keep.find? (fun p=>Nat.beq p.1 blk)=o
 rcases o with _ | ⟨p,l,m⟩
 ·exact q
 ·refine ⟨fun i v hv=>?_,fun i x hx=>?_,fun k cs hk=>?_,fun k x hk=>?_,q.hp,q.kp,q.n0,q.j0⟩
  ·by_cases hi:i∈l
   ·simp only [yZ hi] at hv
    simp only [wS hi]
    exact q.tm i v hv
   ·simp only [yN hi] at hv
    simp only [Zj hi]
    obtain ⟨w,h1,rfl⟩:=oM hv
    obtain ⟨x,h2,_⟩:=q.tm i w h1
    exact ⟨.u,by simp [h2],rfl⟩
  ·by_cases hi:i∈l
   ·simp only [wS hi] at hx
    simp only [yZ hi]
    exact q.mt i x hx
   ·simp only [Zj hi] at hx
    simp only [yN hi]
    obtain ⟨w,h1,rfl⟩:=oM hx
    obtain ⟨v,h2⟩:=q.mt i w h1
    exact ⟨.u,by simp [h2]⟩
  ·by_cases hi:k∈m
   ·simp only [yZ hi] at hk
    simp only [wS hi]
    exact q.lo k cs hk
   ·simp only [yN hi] at hk
    obtain ⟨w,h1,h2⟩:=oM hk
    cases h2
  ·by_cases hi:k∈m
   ·simp only [yZ hi] at hk
    simp only [wS hi]
    exact q.lt k x hk
   ·simp only [yN hi] at hk
    simp only [Zj hi]
    obtain ⟨w,h1,rfl⟩:=oM hk
    obtain ⟨y,h2⟩:=q.lt k w h1
    exact ⟨none,by simp [h2]⟩
theorem SR.forget {v:TV} {x:AM.SV} (q:SR P h Z J v x):SR P h Z J (cond (isLoc v) v .u) x:=by
 cases v with
 | l k o=>exact q
 | s k n=>exact q
 | u=>exact q
 | w=>exact q
 | no=>simp only [SR] at q;subst q;rfl
 | v y=>obtain ⟨_,rfl,_⟩:=q;rfl
 | t y=>obtain ⟨_,rfl,_⟩:=q;rfl
 | e t xs i o=>obtain ⟨_,_,_,_,rfl,_⟩:=q;rfl
 | p id i o=>obtain ⟨_,_,_,rfl⟩:=q;rfl
theorem SR.drop {key:Nat} {v:TV} {x:AM.SV} (q:SR P h Z J v x):SR P h Z J (dropV key v) x:=by
 unfold dropV
 cases isRetK key with
 | true=>trivial
 | false=>exact q.forget
theorem maskL_rel (q:StR P J0 Z0 H0 h0 J Z s a) (A:TAn) (key:Nat):StR P J0 Z0 H0 h0 J Z (TM.maskL A key s) a:=by
 unfold TM.maskL
 split
 ·exact q
 ·rename_i p l m _
  refine ⟨fun i v hv=>?_,fun i x hx=>?_,fun k cs hk=>?_,fun k x hk=>?_,q.hp,q.kp,q.n0,q.j0⟩
  ·by_cases hi:i∈l
   ·simp only [yZ hi] at hv;exact q.tm i v hv
   ·simp only [yN hi] at hv
    obtain ⟨w,h1,rfl⟩:=oM hv
    obtain ⟨x,h2,h3⟩:=q.tm i w h1
    exact ⟨x,h2,h3.drop⟩
  ·obtain ⟨v,h2⟩:=q.mt i x hx
   by_cases hi:i∈l
   ·exact ⟨v,by simp only [yZ hi];exact h2⟩
   ·exact ⟨dropV key v,by simp only [yN hi,h2,Option.map_some]⟩
  ·by_cases hi:k∈m
   ·simp only [yZ hi] at hk;exact q.lo k cs hk
   ·simp only [yN hi] at hk
    obtain ⟨w,h1,h2⟩:=oM hk
    cases h2
  ·by_cases hi:k∈m
   ·simp only [yZ hi] at hk;exact q.lt k x hk
   ·simp only [yN hi] at hk
    obtain ⟨w,h1,rfl⟩:=oM hk
    exact q.lt k w h1
theorem coeC_rel (hr:HR P J Z H h) {v:TC} {e:TypeId} {own:Bool} {c:TC->TH->Option R} {x:Sc} (hx:coeC P H v e own c=some r) (hv:CR P h Z J v x) :
  ∃ v' H' J' Z',c v' H'=some r/\Step P J Z H h J' Z' H' h/\CR P h Z' J' v' x:=by
 unfold coeC at hx
 split at hx
 ·replace hx:=xx hx
  obtain ⟨t,hsz,hinf,hx⟩:=hx
  simp only [CR] at hv;obtain ⟨eb,rfl⟩:=hv
  exact ⟨_,_,_,Z,hx,Wd hr hsz hinf,_,by rw [<- hr.len,zS],.inl ⟨rfl,eb,rfl⟩⟩
 ·rename_i id o n
  split at hx
  ·rename_i e' t xs ho
   replace hx:=gB.1 hx
   obtain ⟨he0,hx⟩:=hx
   simp only [Bool.and_eq_true] at he0
   replace hx:=gB.1 hx
   obtain ⟨hg,hx⟩:=hx
   have hg:=zj hg
   have he:=zj he0.1
   subst he
   obtain ⟨je,hj,ra⟩:=hr.row ho
   obtain ⟨je2,hj2,hs⟩:=hv
   rw [hj] at hj2;cases hj2
   have hgo:=zh ho rfl
   rcases hs with ⟨hvv,rfl,eb,rfl⟩ | ⟨hvv,rfl⟩
   ·have s1:=Wi hr id
    have e1:xs.drop o=[]:=by apply List.drop_of_length_le;omega
    rw [e1] at hx
    exact ⟨_,_,_,Z,hx,s1.trans (Wd s1.hr ra.sz ra.inf),_,by rw [<- hr.len,zS],.inl ⟨rfl,eb,rfl⟩⟩
   ·rcases ra.at' with ⟨hv',_⟩ | ⟨_,cs,h1,h2,h3⟩
    ·rw [hvv] at hv';cases hv'
    ·have hz:=fun x cs (q:DR P h Z t x cs)=>q.length
     obtain ⟨_,k1⟩:=Seg.split hz o h3
     have hln:(xs.drop o).length=n:=by simp;omega
     have st:=QI (je':=⟨false,je.id,je.off+o*je.z,n,t.size⟩) (o':=.row e t (xs.drop o)) hr hgo rfl hj hvv rfl
      ⟨rfl,hln.symm,ra.sz,ra.inf,.inr ⟨rfl,cs,h1,by rw [h2,hln,ra.z,Nat.add_assoc,<- Nat.add_mul,hg],by rw [ra.z,<- List.drop_drop];exact k1⟩⟩
     exact ⟨_,_,_,Z,hx,st,_,by rw [<- hr.len,zS],.inr ⟨rfl,rfl⟩⟩
  ·cases hx
 ·replace hx:=xx hx
  obtain ⟨t,hsz,hinf,hx⟩:=hx
  simp only [CR] at hv;obtain ⟨eb,rfl⟩:=hv
  exact ⟨_,_,J,Z,hx,Step.refl hr,by simp only [CR];exact .inl ⟨rfl,eb,rfl⟩⟩
 ·obtain ⟨v',H',Z',m,hc,hx⟩:=WP 3 hx hr hv
  exact ⟨v',H',J,Z',hx,Mv.step (hr:=hr) m,hc⟩
 ·exact ⟨_,_,J,Z,hx,Step.refl hr,hv⟩
theorem Zg (hr:HR P J Z H h) {l:List TC} {j:Nat} {e:TypeId} {own:Bool} {c:List TC->TH->Option R} {x:List Sc} (hx:YD P l j H e own c=some r) (hc:CRs P h Z J l x) :
  ∃ l' H' J' Z',c l' H'=some r/\Step P J Z H h J' Z' H' h/\CRs P h Z' J' l' x:=by
 unfold YD at hx
 split at hx
 ·rename_i v hv
  obtain ⟨y,hy,hvy⟩:=hc.get hv
  obtain ⟨v',H',J',Z',hx,st,hn⟩:=coeC_rel hr hx hvy
  exact ⟨_,H',J',Z',hx,st,(CRs.mono (st.ext hr) st.kp.pre _ _ hc).set hn hy⟩
 ·cases hx
theorem StR.put' (q:StR P J0 Z0 H0 h0 J Z s a) {i:Nat} {v:TV} {x:AM.SV} (hx:a.sl.get i=some x) (hv:SR P a.h Z J v x):StR P J0 Z0 H0 h0 J Z { s with sl:=s.sl.set i v } a:=by
 have:=q.put (some i) hv
 simp only [TM.setSl,AM.setSl,Tr.set_same hx] at this
 exact this
theorem StR.setLocal' (q:StR P J0 Z0 H0 h0 J Z s a) {k:Nat} {cs0:List TC} (hk0:s.lo.get k=some (some cs0)) {cs:List TC} {cs':List Sc} (ha:a.lo.get k=some (some cs')) (hc:CRs P a.h Z J cs cs') :
  StR P J0 Z0 H0 h0 J Z { s with lo:=s.lo.set k (some cs) } a:=by
 have:=q.setLocal hk0 hc
 simp only [Tr.set_same ha] at this
 exact this
theorem coe1_rel (q:StR P J0 Z0 H0 h0 J Z s a) {p:(Nat×Nat×Nat)×TypeId×Bool} {c:TS->Option R} (hx:coe1 P p s c=some r):∃ s' J' Z',c s'=some r/\StR P J0 Z0 H0 h0 J' Z' s' a:=by
 unfold coe1 at hx
 split at hx
 ·rename_i i j e own
  split at hx
  ·rename_i v hv
   obtain ⟨x,h1,_,rfl,y,rfl,h2⟩:=q.tm i _ hv
   obtain ⟨l',H',J',Z',hx,st,hc⟩:=Zg (x:=[y]) q.hp hx (by simp only [CRs];exact ⟨h2,trivial⟩)
   replace hx:=TM.asC_some.1 hx
   obtain ⟨w,ws,rfl,hx⟩:=hx
   rw [Tr.setT_eq] at hx
   simp only [CRs] at hc
   exact ⟨_,J',Z',hx,(q.mem st).put' (s:={ s with h:=H' }) h1 ⟨_,rfl,_,rfl,hc.1⟩⟩
  ·rename_i l hv
   obtain ⟨x,h1,_,rfl,y,rfl,h2⟩:=q.tm i _ hv
   obtain ⟨l',H',J',Z',hx,st,hc⟩:=Zg q.hp hx h2
   rw [Tr.setT_eq] at hx
   exact ⟨_,J',Z',hx,(q.mem st).put' (s:={ s with h:=H' }) h1 ⟨_,rfl,_,rfl,hc⟩⟩
  ·exact ⟨s,J,Z,hx,q⟩
 ·rename_i k j e own
  split at hx
  ·rename_i l hl
   obtain ⟨y,h1,h2⟩:=q.lo k l hl
   obtain ⟨l',H',J',Z',hx,st,hc⟩:=Zg q.hp hx h2
   rw [Tr.setT_eq] at hx
   exact ⟨_,J',Z',hx,(q.mem st).setLocal' (s:={ s with h:=H' }) hl h1 hc⟩
  ·exact ⟨s,J,Z,hx,q⟩
 ·rename_i i j e own
  split at hx
  ·rename_i b l ho
   have hgo:=zh ho rfl
   have hlt:=(List.getElem?_eq_some_iff.1 hgo).1
   have hltJ:i < J.length:=by rw [q.hp.len];exact hlt
   have hj:J[i]?=some J[i]:=List.getElem?_eq_getElem hltJ
   obtain ⟨hv,cs,h1,h2⟩:=q.hp.obj i _ _ hgo hj
   obtain ⟨l',H',J',Z',hx,st,hc⟩:=Zg q.hp hx h2
   have q2:=q.mem st
   split at hx
   ·rename_i b' l0 ho'
    have hj':=zu st.kp.pre hj
    have hi:=zh ho' rfl
    obtain ⟨_,cs2,h3,_⟩:=q2.hp.obj i _ _ hi hj'
    have h3':a.h[J[i].id]?=some (.box b' cs2):=h3
    rw [h1] at h3'
    simp only [Option.some.injEq,AO.box.injEq] at h3'
    obtain ⟨rfl,rfl⟩:=h3'
    have st2:=Wk (o':=.box b l') q2.hp hi rfl hj' ⟨hv,cs,h1,hc⟩
    exact ⟨_,J',Z',hx,q2.mem st2⟩
   ·cases hx
  ·rename_i b l ho
   have hgo:=zh ho rfl
   have hlt:=(List.getElem?_eq_some_iff.1 hgo).1
   have hltJ:i < J.length:=by rw [q.hp.len];exact hlt
   have hj:J[i]?=some J[i]:=List.getElem?_eq_getElem hltJ
   obtain ⟨hv,cs,h1,h2⟩:=q.hp.obj i _ _ hgo hj
   obtain ⟨l',H',J',Z',hx,st,hc⟩:=Zg q.hp hx h2
   have q2:=q.mem st
   split at hx
   ·rename_i b' l0 ho'
    have hj':=zu st.kp.pre hj
    have hi:=zh ho' rfl
    obtain ⟨_,cs2,h3,_⟩:=q2.hp.obj i _ _ hi hj'
    have h3':a.h[J[i].id]?=some (.row true b' cs2):=h3
    rw [h1] at h3'
    simp only [Option.some.injEq,AO.row.injEq,true_and] at h3'
    obtain ⟨rfl,rfl⟩:=h3'
    have st2:=Wk (o':=.crow b l') q2.hp hi rfl hj' ⟨hv,cs,h1,hc⟩
    exact ⟨_,J',Z',hx,q2.mem st2⟩
   ·cases hx
  ·exact ⟨s,J,Z,hx,q⟩
 ·exact ⟨s,J,Z,hx,q⟩
theorem Us:∀ {l:List ((Nat×Nat×Nat)×TypeId×Bool)} {s:TS} {J:List JE} {Z:Nat->Prop} {c:TS->Option R},StR P J0 Z0 H0 h0 J Z s a->Ur P l s c=some r->∃ s' J' Z',c s'=some r/\StR P J0 Z0 H0 h0 J' Z' s' a
 | [],s,J,Z,c,q,hx=>⟨s,J,Z,hx,q⟩
 | p::l,s,J,Z,c,q,hx=>by
  simp only [Ur] at hx
  obtain ⟨s',J',Z',hx,q'⟩:=coe1_rel q hx
  exact Us q' hx
theorem isPre_ok:∀ {l m:List Nat},YQ l m=true->l <+: m
 | [],m,_=>List.nil_prefix
 | x::l,[],h=>by cases h
 | x::l,y::m,h=>by
  simp only [YQ,Bool.and_eq_true] at h
  rw [zj h.1]
  exact List.cons_prefix_cons.2 ⟨rfl,isPre_ok h.2⟩
theorem sub_prefix {ord:List Nat} {n:Nat} (hp:J0 <+: J) (hn:J0.length=n) (ho:YQ (List.range n) ord=true):J0 <+: yd J ord:=by
 have h1:=isPre_ok ho
 obtain ⟨t,rfl⟩:=h1
 obtain ⟨u,rfl⟩:=hp
 refine ⟨yd (J0++u) t,?_⟩
 have h2:yd (J0++u) (List.range n)=J0:=by
  apply List.ext_getElem?
  intro i
  simp only [yd,List.getElem?_map]
  by_cases hi:i < n
  ·rw [List.getElem?_range hi]
   have:(J0++u)[i]?=some J0[i]:=by rw [List.getElem?_append_left (by omega)];exact List.getElem?_eq_getElem (by omega)
   simp only [Option.map_some,List.getD_eq_getElem?_getD,this,Option.getD_some]
   rw [List.getElem?_eq_getElem (by omega)]
  ·rw [List.getElem?_eq_none (by simp;omega),List.getElem?_eq_none (by omega)];rfl
 have h3:yd (J0++u) (List.range n++t)=yd (J0++u) (List.range n)++yd (J0++u) t:=by simp [yd]
 rw [h3,h2]
theorem sub_kp (hr:HR P J Z H h) (k:Kp J0 Z0 H0 h0 J Z H h) {ord:List Nat} (ok:OrdOk H ord) (hn:J0.length=H0.length) (ho:YQ (List.range H0.length) ord=true):Kp J0 Z0 H0 h0 (yd J ord) Z (Zr H ord) h:=
 ⟨k.len,sub_prefix k.pre hn ho,k.same,fun id hw=>by
  obtain ⟨i,o,je,a1,a2,a3,a4,a5,a6⟩:=ZE hr.len ok hw
  exact k.own id ⟨i,o,je,a2,a3,a4,a5,a6⟩,k.zin,k.zout⟩
theorem gc_rel (q:StR P J0 Z0 H0 h0 J Z s a) {c:TS->Option R} (hx:gc s c=some r):∃ s' J',c s'=some r/\StR P J0 Z0 H0 h0 J' Z s' a:=by
 unfold gc at hx
 simp only at hx
 generalize order s=ord at hx
 replace hx:=gB.1 hx
 obtain ⟨hg,hx⟩:=hx
 simp only [Bool.and_eq_true] at hg
 obtain ⟨⟨⟨g1,g2⟩,g3⟩,g4⟩:=hg
 have ok:=Ud g1
 rw [q.n0] at g2
 refine ⟨_,yd J ord,hx,⟨fun i v hv=>?_,fun i x hv=>?_,fun k cs hk=>?_,fun k x hk=>?_,sub_hr q.hp ok (fun _ h=>h) (fun i o je h1 h2 h3 h4 _=>q.hp.sep i o je h1 h2 h3 h4) q.hp.zlt,sub_kp q.hp q.kp ok q.j0 g2,q.n0,q.j0⟩⟩
 ·simp only [Tr.get_map] at hv
  obtain ⟨w,h1,rfl⟩:=oM hv
  obtain ⟨x,h2,h3⟩:=q.tm i w h1
  have:=Tr.all_get g3 h1
  rw [List.all_eq_true] at this
  exact ⟨x,h2,h3.ren (Yo fun j hj=>memN_iff.1 (this j hj))⟩
 ·obtain ⟨w,h1⟩:=q.mt i x hv
  exact ⟨TV.ren (yF ord) w,by simp only [Tr.get_map,h1,Option.map_some]⟩
 ·simp only [Tr.get_map] at hk
  obtain ⟨w,h1,h2⟩:=oM hk
  cases w with
  | none=>cases h2
  | some l=>
   simp only [Option.map_some,Option.some.injEq] at h2
   subst h2
   obtain ⟨cs',h3,h4⟩:=q.lo k l h1
   have:=Tr.all_get g4 h1
   simp only [List.all_eq_true] at this
   exact ⟨cs',h3,CRs.ren _ _ (Yo fun j hj=>memN_iff.1 (this j hj)) h4⟩
 ·simp only [Tr.get_map] at hk
  obtain ⟨w,h1,h2⟩:=oM hk
  exact q.lt k w h1
theorem TK {α β:Type} {t:Tr α}:∀ {u:Tr β},shp t u=true->∀ i,(t.get i).isSome=(u.get i).isSome:=by
 induction t with
 | nil=>intro u h i;cases u<;>first | rfl | cases h
 | leaf v=>
  intro u h i
  cases u with
  | leaf w=>rw [Tr.get_leaf,Tr.get_leaf];split<;>rfl
  | _=>cases h
 | node l r il ir=>
  intro u h i
  cases u with
  | node l' r'=>
   have h':cond (shp l l') (shp r r') false=true:=h
   cases hl:shp l l' with
   | false=>rw [hl] at h';cases h'
   | true=>
    rw [hl] at h'
    rw [Tr.get_node,Tr.get_node]
    split
    ·exact il hl _
    ·exact ir h' _
  | _=>cases h
theorem YM {α:Type} {g:Nat->Option α}:∀ (l:List Nat) (t:Tr α) (j:Nat),(((l.filterMap fun i=>(g i).map fun v=>(i,v)).foldl (fun t p=>t.set p.1 p.2) t).get j)=(match (cond (yu l j) (g j) none) with | some v=>(t.get j).map fun _=>v | none=>t.get j)
 | [],t,j=>rfl
 | i::l,t,j=>by
  rw [List.filterMap_cons]
  have hm:yu (i::l) j=(Nat.beq j i||yu l j):=rfl
  cases hg:g i with
  | none=>
   simp only [Option.map_none]
   rw [YM l t j,hm]
   by_cases e:j=i
   ·subst e;rw [hg];cases yu l j<;>cases Nat.beq j j<;>rfl
   ·have:Nat.beq j i=false:=by cases hb:Nat.beq j i;rfl;exact absurd (zj hb) e
    rw [this];rfl
  | some v=>
   simp only [Option.map_some,List.foldl_cons]
   rw [YM l _ j,hm]
   by_cases e:j=i
   ·subst e
    rw [Tr.get_set_self,hg,Nat.beq_refl]
    cases yu l j<;>cases t.get j<;>rfl
   ·have:Nat.beq j i=false:=by cases hb:Nat.beq j i;rfl;exact absurd (zj hb) e
    rw [this,Tr.get_set_ne _ (Ne.symm e)];rfl
theorem UN {n i:Nat}:yu (List.range n) i=decide (i < n):=by
 cases h:yu (List.range n) i with
 | true=>have:=memN_iff.1 h;rw [List.mem_range] at this;simp [this]
 | false=>
  have:¬ i < n:=fun hi=>by have:=memN_iff.2 (List.mem_range.2 hi);rw [this] at h;cases h
  simp [this]
theorem Uo {n i:Nat} {v u:TV} (h:(xg u n).get i=some v):i < n/\v=u:=by
 have:=Tr.ofL_get _ _ _ _ h
 rw [List.getElem?_replicate] at this
 split at this
 ·rename_i hi;exact ⟨hi,(Option.some.inj this).symm⟩
 ·cases this
theorem Zi {α β:Type} (f:α->β):∀ (l:List α),Tr.evens (l.map f)=(Tr.evens l).map f
 | []=>rfl
 | [_]=>rfl
 | x::_::r=>by simp only [List.map_cons,Tr.evens,Zi f r]
theorem ZP {α β:Type} (f:α->β):∀ (l:List α),Tr.odds (l.map f)=(Tr.odds l).map f
 | []=>rfl
 | [_]=>rfl
 | _::y::r=>by simp only [List.map_cons,Tr.odds,ZP f r]
theorem wW {α β:Type} (f:α->β):∀ (d:Nat) (l:List α),Tr.ofL d (l.map f)=(Tr.ofL d l).map f
 | 0,[]=>rfl
 | _+1,[]=>rfl
 | 0,_::_=>rfl
 | d+1,x::l=>by
  show Tr.node (Tr.ofL d (Tr.evens ((x::l).map f))) (Tr.ofL d (Tr.odds ((x::l).map f)))=_
  rw [Zi,ZP,wW f d,wW f d]
  rfl
theorem blankV_dom (u v:TV) (n i:Nat):((xg u n).get i).isSome=((xg v n).get i).isSome:=by
 have e:xg u n=(xg v n).map fun _=>u:=by
  unfold xg
  rw [<- wW,List.map_replicate]
 rw [e,Tr.get_map];cases (xg v n).get i<;>rfl
theorem Un {n i:Nat} {v:Option (List TC)} (h:(ww n).get i=some v):i < n/\v=none:=by
 have:=Tr.ofL_get _ _ _ _ h
 rw [List.getElem?_replicate] at this
 split at this
 ·rename_i hi;exact ⟨hi,(Option.some.inj this).symm⟩
 ·cases this
def isUW:TV->Bool
 | .u=>true
 | .w=>true
 | _=>false
theorem ofCS_sl {n:Nat} {s:TS} (h:shp s.sl (ZJ n)=true) (i:Nat):(xR n (toCS n s)).sl.get i=(s.sl.get i).map fun v=>cond (isUW v) (cond (Ye s.sl) .w .u) v:=by
 have hd:=TK h i
 have e:(List.range n).filterMap (pickS s.sl)=(List.range n).filterMap fun i=>((match s.sl.get i with | some .u=>none | some .w=>none | x=>x).map fun v=>(i,v)):=by
  congr 1;funext i
  unfold pickS
  cases hi:s.sl.get i with
  | none=>rfl
  | some v=>cases v<;>rfl
 show (((List.range n).filterMap (pickS s.sl)).foldl (fun t p=>t.set p.1 p.2) (xg (cond (Ye s.sl) .w .u) n)).get i=_
 rw [e,YM (g:=fun i=>match s.sl.get i with | some .u=>none | some .w=>none | x=>x),UN]
 replace hd:(s.sl.get i).isSome=((xg (cond (Ye s.sl) .w .u) n).get i).isSome:=hd.trans (blankV_dom _ _ _ _)
 cases hi:s.sl.get i with
 | none=>
  rw [hi] at hd
  cases hb:(xg (cond (Ye s.sl) .w .u) n).get i with
  | none=>cases decide (i < n)<;>rfl
  | some v=>rw [hb] at hd;cases hd
 | some v=>
  rw [hi] at hd
  cases hb:(xg (cond (Ye s.sl) .w .u) n).get i with
  | none=>rw [hb] at hd;cases hd
  | some w=>
   obtain ⟨h1,rfl⟩:=Uo hb
   rw [decide_eq_true h1]
   cases v<;>rfl
theorem hasW_no {t:Tr TV} (h:Ye t=false) {i:Nat} (hi:t.get i=some .w):False:=by
 unfold Ye at h
 have h2:(t.all fun v=>!(isW v))=true:=by simpa using h
 have:=Tr.all_get h2 hi
 cases this
theorem SR.blank {t:Tr TV} {i:Nat} {v:TV} (hi:t.get i=some v) {x:AM.SV} (q:SR P h Z J v x):SR P h Z J (cond (isUW v) (cond (Ye t) .w .u) v) x:=by
 cases hu:isUW v with
 | false=>exact q
 | true=>
  cases hw:Ye t with
  | true=>trivial
  | false=>
   cases v<;>first | exact q | (cases hu;done) | exact (hasW_no hw hi).elim
theorem ofCS_lo {n:Nat} {s:TS} (h:shp s.lo (ww n)=true) (i:Nat):(xR n (toCS n s)).lo.get i=s.lo.get i:=by
 have hd:=TK h i
 have e:∀ (t:Tr (Option (List TC))),((List.range n).filterMap (pickL s.lo)).foldl (fun t p=>t.set p.1 (some p.2)) t=((List.range n).filterMap fun i=>((match s.lo.get i with | some (some v)=>some (some v) | _=>none).map fun v=>(i,v))).foldl (fun t p=>t.set p.1 p.2) t:=by
  generalize List.range n=l
  induction l with
  | nil=>intro t;rfl
  | cons i l ih=>
   intro t
   rw [List.filterMap_cons,List.filterMap_cons]
   unfold pickL
   cases hi:s.lo.get i with
   | none=>exact ih t
   | some v=>
    cases v with
    | none=>exact ih t
    | some v=>exact ih _
 show (((List.range n).filterMap (pickL s.lo)).foldl (fun t p=>t.set p.1 (some p.2)) (ww n)).get i=_
 rw [e,YM (g:=fun i=>match s.lo.get i with | some (some v)=>some (some v) | _=>none),UN]
 cases hi:s.lo.get i with
 | none=>
  rw [hi] at hd
  cases hb:(ww n).get i with
  | none=>cases decide (i < n)<;>rfl
  | some v=>rw [hb] at hd;cases hd
 | some v=>
  rw [hi] at hd
  cases hb:(ww n).get i with
  | none=>rw [hb] at hd;cases hd
  | some w=>
   obtain ⟨h1,rfl⟩:=Un hb
   rw [decide_eq_true h1]
   cases v<;>rfl
theorem ofCS_rel (q:StR P J0 Z0 H0 h0 J Z s a) {n:Nat} (h1:shp s.sl (ZJ n)=true) (h2:shp s.lo (ww n)=true):StR P J0 Z0 H0 h0 J Z (xR n (toCS n s)) a:=
 ⟨fun i v hv=>by
  rw [ofCS_sl h1] at hv
  obtain ⟨u,hu,rfl⟩:=oM hv
  obtain ⟨x,h3,h4⟩:=q.tm i u hu
  exact ⟨x,h3,h4.blank hu⟩,fun i x hx=>by
  rw [ofCS_sl h1]
  obtain ⟨v,hv⟩:=q.mt i x hx
  exact ⟨_,by rw [hv];rfl⟩,fun k cs hk=>by rw [ofCS_lo h2] at hk;exact q.lo k cs hk,fun k x hk=>by rw [ofCS_lo h2] at hk;exact q.lt k x hk,q.hp,q.kp,q.n0,q.j0⟩
theorem Ze (q:StR P J0 Z0 H0 h0 J Z s a) {key:Nat} {c:CS->Option R} (hx:wA P A key s c=some r):∃ s' J' Z',c s'=some r/\StR P J0 Z0 H0 h0 J' Z' (xR A.nt s') a:=by
 unfold wA at hx
 obtain ⟨s1,J1,Z1,hx,q1⟩:=Us (maskL_rel q A key) hx
 obtain ⟨s2,J2,hx,q2⟩:=gc_rel q1 hx
 replace hx:=gB.1 hx
 obtain ⟨hg,hx⟩:=hx
 simp only [Bool.and_eq_true] at hg
 exact ⟨_,J2,Z1,hx,ofCS_rel q2 hg.1 hg.2⟩
variable {P : Program} {A : TAn} {ev : TEv} {An : FuncId -> FAn} {dOk : FAn -> Array Oper -> Bool} {J0 J J' : List JE} {Z0 Z Z' : Nat -> Prop} {H0 H H' : TH} {h0 h h' : AH} {s : TS} {a : AM.St} {R : Type} {r : R}
theorem yL:∀ {sh:List (Option Nat)} {cs:List TC} {vs:List TA} {ss:List Sc},TM.spread sh cs=some vs->CRs P h Z J cs ss->∃ vs',AM.spread sh ss=some vs'/\ARs P h Z J vs vs'
 | [],[],vs,ss,hx,hc=>by
  simp [TM.spread] at hx;subst hx
  cases ss with
  | nil=>exact ⟨[],rfl,trivial⟩
  | cons _ _=>simp [CRs] at hc
 | [],_::_,vs,ss,hx,hc=>by simp [TM.spread] at hx
 | none::sh,cs,vs,ss,hx,hc=>by
  simp only [TM.spread] at hx
  replace hx:=TM.asC_some.1 hx
  obtain ⟨x,xs,rfl,hx⟩:=hx
  replace hx:=oB hx
  obtain ⟨ws,h1,hx⟩:=hx
  cases hx
  cases ss with
  | nil=>simp [CRs] at hc
  | cons y ys=>
   simp only [CRs] at hc
   obtain ⟨vs',h2,h3⟩:=yL h1 hc.2
   exact ⟨.sc y::vs',by simp only [AM.spread,AM.asC,h2,Option.bind_some],⟨y,rfl,hc.1⟩,h3⟩
 | some n::sh,cs,vs,ss,hx,hc=>by
  simp only [TM.spread] at hx
  replace hx:=gB.1 hx
  obtain ⟨hg,hx⟩:=hx
  replace hx:=oB hx
  obtain ⟨ws,h1,hx⟩:=hx
  cases hx
  obtain ⟨vs',h2,h3⟩:=yL h1 (hc.drop n)
  rw [hc.length] at hg
  exact ⟨.agg (ss.take n)::vs',by simp only [AM.spread,hg,guardB,cond_true,h2,Option.bind_some],⟨_,rfl,hc.take n⟩,h3⟩
theorem ARs.take (n:Nat):∀ {c:List TA} {x:List AV},ARs P h Z J c x->ARs P h Z J (c.take n) (x.take n):=by
 induction n with
 | zero=>intro c x _;simp [ARs]
 | succ n ih=>intro c x h;cases c<;>cases x<;>simp_all [ARs]
theorem ARs.drop (n:Nat):∀ {c:List TA} {x:List AV},ARs P h Z J c x->ARs P h Z J (c.drop n) (x.drop n):=by
 induction n with
 | zero=>intro c x h;simpa using h
 | succ n ih=>intro c x h;cases c<;>cases x<;>simp_all [ARs]
def ToldK (P:Program) (A:TAn) (An:FuncId->FAn) (dOk:FAn->Array Oper->Bool) (J0:List JE) (Z0:Nat->Prop) (H0:TH) (h0:AH) (o:Oper) (a:AM.St) (c:TS->Option R) (r:R):Prop:=
 ∃ k s' a' J' Z',c s'=some r/\StR P J0 Z0 H0 h0 J' Z' s' a'/\AM.evOp P A.a (AM.evF P An dOk k) o a some=some a'
theorem told_call (q:StR P J0 Z0 H0 h0 J Z s a) (hiso:A.a.iso=[]) (hev:Zv P An dOk ev) (horc:Zd P An dOk A) {o:Oper} {f:Operand} {args:Array Operand} {ts:Array TypeId} (ho:o.op=.call { callee:=.value f,args:=args,argTypes:=ts }) {c:TS->Option R}
  (hx:((TM.evV s f).bind fun f=>TM.asSc f fun f=>match f with
  | .fn g nf sh cs=>AM.guardB (!(Nat.beq g YF)&&AM.okv A.a g)<|(TM.evVs s args.toList).bind fun as=>(TM.spread sh cs).bind fun vs=>
   YB P A ev g (List.replicate nf none++ts.toList.map some) (vs.take nf++as++vs.drop nf) s.h fun rs h=>TM.typed P o.type rs fun v=>TM.setK { s with h:=h } o.dst v c
  | .yl id=>AM.guardB (AM.oky A.a)<|(TM.evVs s args.toList).bind fun as=>YB P A ev YF (none::ts.toList.map some) (.sc (.yl id)::as) s.h fun rs h=>TM.typed P o.type rs fun v=>TM.setK { s with h:=h } o.dst v c
  | _=>none)=some r):ToldK P A An dOk J0 Z0 H0 h0 o a c r:=by
 replace hx:=oB hx
 obtain ⟨fv,hf,hx⟩:=hx
 replace hx:=TM.asSc_some.1 hx
 obtain ⟨fc,rfl,hx⟩:=hx
 obtain ⟨_,h1,fs,rfl,h2⟩:=zm q hf
 split at hx
 ·rename_i g nf sh cs
  replace hx:=gB.1 hx
  obtain ⟨hny0,hx⟩:=hx
  obtain ⟨hny,hrov⟩:=Bool.and_eq_true_iff.1 hny0
  have hny:g≠YF:=fun e=>by subst e;simp at hny
  replace hx:=oB hx
  obtain ⟨as,has,hx⟩:=hx
  replace hx:=oB hx
  obtain ⟨vs,hvs,hx⟩:=hx
  obtain ⟨ss,rfl,hcs⟩:=h2
  obtain ⟨as',h3,h4⟩:=yn q has
  obtain ⟨vs',h5,h6⟩:=yL hvs hcs
  obtain ⟨k,rs,H',avs',h',J',Z',he,hx,st,hrs⟩:=Wz q hev horc hx (.inl ⟨hny,rfl,rfl⟩) (((h6.take nf).append h4).append (h6.drop nf))
  obtain ⟨v,y,hx,hv,hk⟩:=Zm hx hrs
  rw [xd] at hx
  have q2:=q.mem st
  refine ⟨k,_,_,J',Z',hx,q2.put o.dst hv,?_⟩
  simp only [AM.evOp,ho,h1,AM.asSc,AM.asF,h3,h5,Option.bind_some,AM.callK,hrov,AM.guardB,cond_true,hiso,List.contains_nil,Bool.false_and,cond_false,he,hk,AM.setK_eq]
 ·rename_i id
  replace hx:=AM.gB.1 hx
  obtain ⟨hrov,hx⟩:=hx
  replace hx:=oB hx
  obtain ⟨as,has,hx⟩:=hx
  have h2':=h2
  obtain ⟨je,hj,hjv,rfl⟩:=h2
  obtain ⟨as',h3,h4⟩:=yn q has
  obtain ⟨k,rs,H',avs',h',J',Z',he,hx,st,hrs⟩:=Wz q hev horc hx (g:=.yield je.id) (.inr ⟨rfl,_,rfl,rfl⟩) (show ARs P a.h Z J (_::_) (_::_) from ⟨⟨_,rfl,h2'⟩,h4⟩)
  obtain ⟨v,y,hx,hv,hk⟩:=Zm hx hrs
  rw [xd] at hx
  have q2:=q.mem st
  refine ⟨k,_,_,J',Z',hx,q2.put o.dst hv,?_⟩
  simp only [AM.evOp,ho,h1,AM.asSc,AM.asF,h3,AM.spread,Option.bind_some,AM.callK,hrov,AM.guardB,cond_true,List.take_nil,List.drop_nil,List.nil_append,List.append_nil,he,hk,AM.setK_eq]
 ·cases hx
theorem op_in (q:StR P J0 Z0 H0 h0 J Z s a) (hiso:A.a.iso=[]) (hev:Zv P An dOk ev) (horc:Zd P An dOk A) {o:Oper} {c:TS->Option R} (hx:TM.evOp P A ev o s c=some r):ToldK P A An dOk J0 Z0 H0 h0 o a c r:=by
 cases hc:Vp o.op with
 | false=>
  obtain ⟨s',a',J',Z',h1,h2,h3⟩:=op_told q hc hx
  exact ⟨0,s',a',J',Z',h1,h2,h3 _⟩
 | true=>
  unfold Vp at hc
  split at hc
  ·rename_i f args ts ho
   unfold TM.evOp at hx
   rw [ho] at hx
   exact told_call q hiso hev horc ho hx
  ·cases hc
theorem WE (hrj:∀ f,(An f).rj=[]) (hiso:A.a.iso=[]) (hev:Zv P An dOk ev) (horc:Zd P An dOk A) {ops:Array Oper}:∀ (l:List Oper) {s:TS} {a:AM.St} {J:List JE} {Z:Nat->Prop} {c:TS->Option R},StR P J0 Z0 H0 h0 J Z s a->TM.evOps P A ev ops l s c=some r->
  ∃ k s' a' J' Z',c s'=some r/\StR P J0 Z0 H0 h0 J' Z' s' a'/\AM.evOps P A.a (AM.evF P An dOk k) ops l a some=some a'
 | [],s,a,J,Z,c,q,hx=>⟨0,s,a,J,Z,hx,q,rfl⟩
 | o::l,s,a,J,Z,c,q,hx=>by
  have step:∀ {s:TS} {a:AM.St},StR P J0 Z0 H0 h0 J Z s a->TM.evOp P A ev o s (fun s=>TM.evOps P A ev ops l s c)=some r->
    ∃ k s' a' J' Z',c s'=some r/\StR P J0 Z0 H0 h0 J' Z' s' a'/\AM.evOp P A.a (AM.evF P An dOk k) o a (fun s=>AM.evOps P A.a (AM.evF P An dOk k) ops l s some)=some a':=by
   intro s a q hx
   obtain ⟨k1,s1,a1,J1,Z1,hx,q1,he1⟩:=op_in q hiso hev horc hx
   obtain ⟨k2,s2,a2,J2,Z2,hx,q2,he2⟩:=WE hrj hiso hev horc l q1 hx
   refine ⟨max k1 k2,s2,a2,J2,Z2,hx,q2,?_⟩
   have l1:=AM.evOp_le (P:=P) (A:=A.a) (AM.evF_le (P:=P) (dOk:=dOk) (An:=An) hrj (Nat.le_max_left k1 k2)) he1
   have l2:=AM.evOps_le (P:=P) (A:=A.a) (AM.evF_le (P:=P) (dOk:=dOk) (An:=An) hrj (Nat.le_max_right k1 k2)) (ops:=ops) l (c:=some) (c':=some) (fun _ _ h=>h) he2
   have:=AM.evOp_bind (fun s=>AM.evOps P A.a (AM.evF P An dOk (max k1 k2)) ops l s some) P A.a (AM.evF P An dOk (max k1 k2)) o a some
   simp only [Option.bind_some] at this
   rw [<- this,l1,Option.bind_some,l2]
  have skip:∀ {s:TS} {a:AM.St},StR P J0 Z0 H0 h0 J Z s a->TM.evOps P A ev ops l (TM.setSl s o.dst .no) c=some r->
    ∃ k s' a' J' Z',c s'=some r/\StR P J0 Z0 H0 h0 J' Z' s' a'/\AM.evOps P A.a (AM.evF P An dOk k) ops l (AM.setSl a o.dst .no) some=some a':=
   fun q hx=>WE hrj hiso hev horc l (q.put o.dst (v:=.no) rfl) hx
  simp only [TM.evOps,xd] at hx
  split at hx
  ·rename_i hg
   obtain ⟨k,s',a',J',Z',h1,h2,h3⟩:=step q hx
   exact ⟨k,s',a',J',Z',h1,h2,by simp only [AM.evOps,hg];exact h3⟩
  ·rename_i j w hg
   replace hx:=oB hx
   obtain ⟨d,h1,hx⟩:=hx
   replace hx:=oB hx
   obtain ⟨g,h2,hx⟩:=hx
   obtain ⟨y,h3,h4⟩:=q.tm d g h2
   split at hx
   ·rename_i t
    obtain ⟨_,rfl,z,rfl,h5⟩:=h4
    simp only [CR] at h5;subst h5
    have q2:=q.put (some d) (v:=.v (.sc (.bool t))) (x:=.v (.sc (.bool t))) ⟨_,rfl,_,rfl,CR.bool'⟩
    cases w<;>cases t<;>simp only [cond_true,cond_false] at hx
    ·obtain ⟨k,s',a',J',Z',h6,h7,h8⟩:=step q2 hx
     exact ⟨k,s',a',J',Z',h6,h7,by simp only [AM.evOps,hg,h1,h3,Option.bind_some,AM.setK_eq,cond_false];exact h8⟩
    ·obtain ⟨k,s',a',J',Z',h6,h7,h8⟩:=skip q2 hx
     exact ⟨k,s',a',J',Z',h6,h7,by simp only [AM.evOps,hg,h1,h3,Option.bind_some,AM.setK_eq,cond_false,cond_true];exact h8⟩
    ·obtain ⟨k,s',a',J',Z',h6,h7,h8⟩:=skip q2 hx
     exact ⟨k,s',a',J',Z',h6,h7,by simp only [AM.evOps,hg,h1,h3,Option.bind_some,AM.setK_eq,cond_false,cond_true];exact h8⟩
    ·obtain ⟨k,s',a',J',Z',h6,h7,h8⟩:=step q2 hx
     exact ⟨k,s',a',J',Z',h6,h7,by simp only [AM.evOps,hg,h1,h3,Option.bind_some,AM.setK_eq,cond_true];exact h8⟩
   ·simp only [SR] at h4;subst h4
    obtain ⟨k,s',a',J',Z',h6,h7,h8⟩:=skip q hx
    exact ⟨k,s',a',J',Z',h6,h7,by simp only [AM.evOps,hg,h1,h3,Option.bind_some,AM.setK_eq];exact h8⟩
   ·cases hx
theorem all_of_get {α:Type} {f:α->Bool} {t:Tr α}:(∀ (i:Nat) (v:α),t.get i=some v->f v=true)->t.all f=true:=by
 induction t with
 | nil=>intro _;rfl
 | leaf x=>intro h;exact h 0 x (by rw [Tr.get_leaf];rfl)
 | node l r il ir=>
  intro h
  have h1:=il fun i v hv=>h (2*i) v (by rw [Tr.get_node,if_pos (by omega),show 2*i / 2=i by omega];exact hv)
  have h2:=ir fun i v hv=>h (2*i+1) v (by rw [Tr.get_node,if_neg (by omega),show (2*i+1) / 2=i by omega];exact hv)
  show cond (l.all f) (r.all f) false=true
  rw [h1,h2];rfl
theorem freshAll_rel (q:StR P J0 Z0 H0 h0 J Z s a) {F:FAn} {ops:Array Oper} (hx:TM.freshAll F ops s=true):AM.freshAll F ops a=true:=by
 have key:∀ d:Nat,(s.sl.all fun v=>!(TM.isRef d v))=true->(a.sl.all fun v=>!(AM.isRef d v))=true:=by
  intro d hd
  refine all_of_get fun i x hi=>?_
  obtain ⟨v,hv⟩:=q.mt i x hi
  obtain ⟨x',hx',hr⟩:=q.tm i v hv
  rw [hi] at hx';cases hx'
  have h1:=Tr.all_get hd hv
  cases v with
  | l k o=>simp only [SR] at hr;subst hr;exact h1
  | s k n=>simp only [SR] at hr;subst hr;exact h1
  | u=>cases x<;>simp_all [SR,YU,AM.isRef]
  | w=>simp [TM.isRef] at h1
  | no=>simp only [SR] at hr;subst hr;rfl
  | v y=>obtain ⟨_,rfl,_⟩:=hr;rfl
  | t y=>obtain ⟨_,rfl,_⟩:=hr;rfl
  | e t xs i o=>obtain ⟨_,_,_,_,rfl,_⟩:=hr;rfl
  | p id i o=>obtain ⟨_,_,_,rfl⟩:=hr;rfl
 unfold TM.freshAll at hx
 unfold AM.freshAll
 rw [List.all_eq_true] at hx ⊢
 intro o ho
 have h1:=hx o ho
 cases hop:o.op<;>simp only [hop] at h1 ⊢
 all_goals
  cases hd:o.dst with
  | none=>rfl
  | some d=>
   simp only [hd,Bool.or_eq_true] at h1 ⊢
   rcases h1 with h1 | h1
   ·exact .inl h1
   ·exact .inr (key d h1)
def xf (P:Program) (A:TAn) (An:FuncId->FAn) (dOk:FAn->Array Oper->Bool) (p:Nat×Code×Nat):Prop:=
 ∀ s alts e s',A.tell p.1 s=some alts->xm alts (fun e s=>some (e,s))=some (e,s')->
  ∀ J0 Z0 H0 h0 J Z a,StR P J0 Z0 H0 h0 J Z (xR A.nt s) (cond (Nat.beq (p.1 % 8) 0) (AM.maskAt A.a p.2.2 a) a)->
  ∃ k a' J' Z',StR P J0 Z0 H0 h0 J' Z' (xR A.nt s') a'/\AM.evCode P A.a (AM.evF P An dOk k) dOk k p.2.1 p.2.2 a (fun e s=>some (e,s))=some (e,a')
theorem Wp:∀ {alts:List (Bool×Ex×CS)} {c:Ex->CS->Option R},xm alts c=some r->∃ e s,xm alts (fun e s=>some (e,s))=some (e,s)/\c e s=some r
 | [],c,hx=>by cases hx
 | (b,e,s)::l,c,hx=>by
  simp only [xm] at hx ⊢
  cases b with
  | true=>exact ⟨e,s,rfl,hx⟩
  | false=>exact Wp hx
def Led (P:Program) (A:TAn) (An:FuncId->FAn) (dOk:FAn->Array Oper->Bool) (J0:List JE) (Z0:Nat->Prop) (H0:TH) (h0:AH) (c:Code) (blk:Nat) (a:AM.St) (K:Ex->TS->Option R) (r:R):Prop:=
 ∃ k e s' a' J' Z',K e s'=some r/\StR P J0 Z0 H0 h0 J' Z' s' a'/\AM.evCode P A.a (AM.evF P An dOk k) dOk k c blk a (fun e s=>some (e,s))=some (e,a')
theorem yG (hrj:∀ f,(An f).rj=[]) (hrjA:A.a.rj=[]) {c:Code} {blk k k':Nat} {a:AM.St} {e:Ex} {a':AM.St} (hk:k<=k') (he:AM.evCode P A.a (AM.evF P An dOk k) dOk k c blk a (fun e s=>some (e,s))=some (e,a')) :
  ∀ {S:Type} (K:Ex->AM.St->Option S),AM.evCode P A.a (AM.evF P An dOk k') dOk k' c blk a K=K e a':=by
 intro S K
 have h1:=AM.evCode_le (P:=P) (A:=A.a) hrjA (AM.evF_le (P:=P) (dOk:=dOk) (An:=An) hrj hk) hk c blk a (K':=fun e s=>some (e,s)) (fun _ _ _ h=>h) he
 have h2:=AM.evCode_bind P A.a (AM.evF P An dOk k') dOk (fun p:Ex×AM.St=>K p.1 p.2) hrjA k' c blk a (fun e s=>some (e,s))
 simp only [Option.bind_some] at h2
 rw [<- h2,h1];rfl
theorem Td {p:Nat×Code×Nat} {c:Code} {blk:Nat} {K:Ex->TS->Option R} {d:CS->Option R} {s:CS} (hx:tellK A p.1 s K d=some r):(∃ alts e s',A.tell p.1 s=some alts/\xm alts (fun e s=>some (e,s))=some (e,s')/\K e (xR A.nt s')=some r)\/d s=some r:=by
 unfold tellK at hx
 split at hx
 ·rename_i alts hal
  obtain ⟨e,s',h1,h2⟩:=Wp hx
  exact .inl ⟨alts,e,s',hal,h1,h2⟩
 ·exact .inr hx
theorem slots_rel (q:StR P J0 Z0 H0 h0 J Z s a) {key:Nat} {p:Nat×TV} (hp:p∈Vx A key s):∃ x,a.sl.get p.1=some x/\SR P a.h Z J p.2 x/\YU x=false:=by
 unfold Vx at hp
 obtain ⟨i,_,h2⟩:=List.mem_filterMap.1 hp
 obtain ⟨v,h3,h4⟩:=oB h2
 rcases cond_some.1 h4 with ⟨h5,h6⟩ | ⟨_,h6⟩
 ·cases h6
  obtain ⟨x,h7,h8⟩:=q.tm i v h3
  refine ⟨x,h7,h8,?_⟩
  cases v with
  | u=>cases h5
  | w=>cases h5
  | l k o=>cases h5
  | s k n=>cases h5
  | no=>simp only [SR] at h8;subst h8;rfl
  | v y=>obtain ⟨_,rfl,_⟩:=h8;rfl
  | t y=>obtain ⟨_,rfl,_⟩:=h8;rfl
  | e t xs i o=>obtain ⟨_,_,_,_,rfl,_⟩:=h8;rfl
  | p id i o=>obtain ⟨_,_,_,rfl⟩:=h8;rfl
 ·cases h6
theorem noLoc_id {x:AM.SV} (h:YU x=false):AM.noLoc x=x:=by cases x<;>first | rfl | cases h
theorem noLoc_loc (x:AM.SV):YU (AM.noLoc x)=false:=by cases x<;>rfl
theorem range_rel (hrj:∀ f,(An f).rj=[]) (hrjA:A.a.rj=[]) (hiso:A.a.iso=[]) (hev:Zv P An dOk ev) (horc:Zd P An dOk A) (q:StR P J0 Z0 H0 h0 J Z s a) {g:Operand} {ps:Array Tmp} {x y:Code} {blk:Nat} {K:Ex->TS->Option R}
  (hf:Zq P A.a.self (Wc y)=some (ps.toList,x,y)) (hx:rangeT P A ev g x y s K=some r):Led P A An dOk J0 Z0 H0 h0 (.rangeFunc g ps x y) blk a K r:=by
 unfold rangeT at hx
 replace hx:=oB hx
 obtain ⟨fv,hfv,hx⟩:=hx
 replace hx:=TM.asSc_some.1 hx
 obtain ⟨fc,rfl,hx⟩:=hx
 obtain ⟨_,h1,fs,rfl,h2⟩:=zm q hfv
 split at hx
 case h_2=>cases hx
 rename_i f nf sh cs
 replace hx:=oB hx
 obtain ⟨vs,hvs,hx⟩:=hx
 replace hx:=gB.1 hx
 obtain ⟨hg,hx⟩:=hx
 obtain ⟨hg123,hg4⟩:=Bool.and_eq_true_iff.1 hg
 obtain ⟨g4,hrov⟩:=Bool.and_eq_true_iff.1 hg4
 simp only [Bool.and_eq_true] at hg123
 obtain ⟨⟨g1,g2⟩,g3⟩:=hg123
 have hny:f≠YF:=fun e=>by subst e;simp at g4
 obtain ⟨ss,rfl,hcs⟩:=h2
 obtain ⟨vs',h5,h6⟩:=yL hvs hcs
 let al:AM.ALoop:=⟨0,none,A.a.self,a.sl.map AM.noLoc,ps.toList,x,y⟩
 let lo:TO:=.loop 0 none A.a.self (Wc y) A.nt (Vx A (Wc y) s)
 let je:JE:=⟨false,a.h.length,0,0,0⟩
 have hpre:J <+: J++[je]:=List.prefix_append _ _
 have dom:∀ i,(a.sl.get i).isSome=(s.sl.get i).isSome:=fun i=>by
  cases h:a.sl.get i with
  | some v=>obtain ⟨w,hw⟩:=q.mt i v h;rw [hw];rfl
  | none=>
   cases h':s.sl.get i with
   | none=>rfl
   | some v=>obtain ⟨w,hw,_⟩:=q.tm i v h';rw [hw] at h;cases h
 have st1:Step P J Z s.h a.h (J++[je]) Z (s.h++[lo]) (a.h++[.loop al]):=by
  refine Wj q.hp rfl ⟨rfl,al,by simp [je],rfl,rfl,rfl,hf,fun i=>?_,fun i v hv=>?_,fun p hp=>?_⟩
  ·show ((a.sl.map AM.noLoc).get i).isSome=_
   rw [Tr.get_map,<- TK g3 i,<- dom i]
   cases a.sl.get i<;>rfl
  ·have hv:(a.sl.map AM.noLoc).get i=some v:=hv
   rw [Tr.get_map] at hv
   obtain ⟨u,_,rfl⟩:=oM hv
   exact noLoc_loc u
  ·obtain ⟨v,k1,k2,k3⟩:=slots_rel q hp
   refine ⟨v,?_,k2.mono ⟨fun _ h=>h,fun id hz=>?_⟩ hpre⟩
   ·show (a.sl.map AM.noLoc).get p.1=_
    rw [Tr.get_map,k1,Option.map_some,noLoc_id k3]
   ·exact List.getElem?_append_left (q.hp.zlt id hz)
 have q1:=q.mem st1
 have hlen:=q.hp.len
 have hJ1:(J++[je])[s.h.length]?=some je:=by rw [<- hlen];simp
 have x1:=st1.ext q.hp
 have ha:ARs P (a.h++[.loop al]) Z (J++[je]) (vs.take nf++[.sc (.yl s.h.length)]++vs.drop nf) (vs'.take nf++[.sc (.fn (.yield a.h.length) 0 [] [])]++vs'.drop nf):=by
  refine ((ARs.mono x1 hpre (h6.take nf)).append ?_).append (ARs.mono x1 hpre (h6.drop nf))
  exact ⟨⟨_,rfl,je,hJ1,rfl,rfl⟩,trivial⟩
 obtain ⟨k,rs,H',avs',h',J',Z',he,hx,st,hrs⟩:=Wz q1 hev horc hx (.inl ⟨hny,rfl,rfl⟩) ha
 have q2:=q1.mem st
 have hJ2:J'[s.h.length]?=some je:=zu st.kp.pre hJ1
 unfold TM.rangeEnd at hx
 split at hx
 case h_2=>cases hx
 rename_i st0 pe f0 key0 nt0 sl0 ho
 replace hx:=gB.1 hx
 obtain ⟨hb,hx⟩:=hx
 have ho':=zh ho rfl
 have hor:=st.hr.obj _ _ _ ho' hJ2
 obtain ⟨_,al2,k1,k2,k3,_⟩:=hor
 have st3:Step P J' Z' H' h' J' Z' (H'.set s.h.length .dead) (h'.set je.id .dead):=xK st.hr ho' rfl hJ2 rfl trivial
 have q3:=q2.mem st3
 have fin:∀ e,(pe=none/\e=Ex.normal\/pe=some e/\e≠.normal)->K e { s with h:=H'.set s.h.length .dead }=some r->Led P A An dOk J0 Z0 H0 h0 (.rangeFunc g ps x y) blk a K r:=by
  intro e hpe hK
  refine ⟨k,e,_,_,J',Z',hK,q3,?_⟩
  have hb':(!(Nat.beq al2.st 1))=true:=by rw [k2];exact hb
  have hb3:Nat.beq al2.st 1=false:=by simpa using hb'
  have e1:AM.rangeEnd a (fun e s=>some (e,s)) h'=some (e,{ a with h:=h'.set je.id .dead }):=by
   unfold AM.rangeEnd
   have:h'[a.h.length]?=some (.loop al2):=k1
   simp only [this,hb3,Bool.not_false,AM.guardB,cond_true]
   rcases hpe with ⟨rfl,rfl⟩ | ⟨rfl,hne⟩
   ·have hp:al2.pend=none:=k3
    simp only [hp]<;>rfl
   ·cases e with
    | normal=>exact absurd rfl hne
    | exit i=>have hp:al2.pend=some (.exit i):=k3;simp only [hp]<;>rfl
    | ret=>have hp:al2.pend=some .ret:=k3;simp only [hp]<;>rfl
  simp only [AM.evCode,AM.rangeK,h1,AM.asSc,AM.asF,h5,Option.bind_some,g1,g2,AM.fnName,Bool.and_self,AM.guardB,cond_true,AM.callK,hrov,hiso,List.contains_nil,Bool.false_and,cond_false]
  rw [he,Option.bind_some]
  exact e1
 split at hx
 ·exact fin _ (.inl ⟨rfl,rfl⟩) hx
 ·exact fin _ (.inr ⟨rfl,by simp⟩) hx
 ·exact fin _ (.inr ⟨rfl,by simp⟩) hx
 ·cases hx
theorem yq (hrj:∀ f,(An f).rj=[]) (hrjA:A.a.rj=[]) (hiso:A.a.iso=[]) (hev:Zv P An dOk ev) (horc:Zd P An dOk A) {k0:Nat}:∀ (c:Code) (blk:Nat) {s:TS} {a:AM.St} {J:List JE} {Z:Nat->Prop} {K:Ex->TS->Option R},(∀ p∈ze A blk c,xf P A An dOk p)->(∀ p∈rfs c,Zq P A.a.self p.1=some p.2)->
  StR P J0 Z0 H0 h0 J Z s a->TM.evCode P A ev dOk k0 c blk s K=some r->Led P A An dOk J0 Z0 H0 h0 c blk a K r
 | .skip,blk,s,a,J,Z,K,hp,hf,q,hx=>⟨0,.normal,s,a,J,Z,hx,q,rfl⟩
 | .label _,blk,s,a,J,Z,K,hp,hf,q,hx=>⟨0,.normal,s,a,J,Z,hx,q,rfl⟩
 | .exit i,blk,s,a,J,Z,K,hp,hf,q,hx=>⟨0,.exit i,s,a,J,Z,hx,q,rfl⟩
 | .ret,blk,s,a,J,Z,K,hp,hf,q,hx=>⟨0,.ret,s,a,J,Z,hx,q,rfl⟩
 | .region id ops draw,blk,s,a,J,Z,K,hp,hf,q,hx=>by
  simp only [TM.evCode,TM.evRegion] at hx
  replace hx:=gB.1 hx
  obtain ⟨hg,hx⟩:=hx
  obtain ⟨k,s',a',J',Z',hx,q',he⟩:=WE hrj hiso hev horc ops.toList q hx
  have hg2:(!draw||(dOk A.a ops&&AM.freshAll A.a ops a))=true:=by
   simp only [Bool.or_eq_true,Bool.and_eq_true] at hg ⊢
   rcases hg with hg | ⟨h1,h2⟩
   ·exact .inl hg
   ·exact .inr ⟨h1,freshAll_rel q h2⟩
  refine ⟨k,.normal,_,_,J',Z',hx,WZ q' A id,?_⟩
  simp only [AM.evCode,AM.evRegion,hg2,AM.guardB,cond_true,hrjA,List.find?_nil]
  have h2:=AM.evOps_bind P A.a (AM.evF P An dOk k) (fun s=>some (Ex.normal,AM.maskR A.a id s)) ops ops.toList a some
  simp only [Option.bind_some] at h2
  rw [<- h2,he];rfl
 | .seq x y,blk,s,a,J,Z,K,hp,hf,q,hx=>by
  simp only [TM.evCode] at hx
  have hpx:∀ p∈ze A blk x,xf P A An dOk p:=fun p h=>hp p (by simp only [ze,List.mem_append];exact .inl (.inl h))
  have hpy:∀ p∈ze A blk y,xf P A An dOk p:=fun p h=>hp p (by simp only [ze,List.mem_append];exact .inr h)
  have hfx:∀ p∈rfs x,Zq P A.a.self p.1=some p.2:=fun p h=>hf p (by simp only [rfs,List.mem_append];exact .inl h)
  have hfy:∀ p∈rfs y,Zq P A.a.self p.1=some p.2:=fun p h=>hf p (by simp only [rfs,List.mem_append];exact .inr h)
  obtain ⟨k1,e,s1,a1,J1,Z1,hx,q1,he1⟩:=yq hrj hrjA hiso hev horc x blk hpx hfx q hx
  cases e with
  | exit i=>
   refine ⟨k1,.exit i,s1,a1,J1,Z1,hx,q1,?_⟩
   simp only [AM.evCode,yG hrj hrjA (Nat.le_refl _) he1,AM.kSeq]
  | ret=>
   refine ⟨k1,.ret,s1,a1,J1,Z1,hx,q1,?_⟩
   simp only [AM.evCode,yG hrj hrjA (Nat.le_refl _) he1,AM.kSeq]
  | normal=>
   have fin:Led P A An dOk J0 Z0 H0 h0 y blk a1 K r->Led P A An dOk J0 Z0 H0 h0 (.seq x y) blk a K r:=by
    rintro ⟨k2,e2,s2,a2,J2,Z2,hx,q2,he2⟩
    refine ⟨max k1 k2,e2,s2,a2,J2,Z2,hx,q2,?_⟩
    simp only [AM.evCode,yG hrj hrjA (Nat.le_max_left k1 k2) he1,AM.kSeq,yG hrj hrjA (Nat.le_max_right k1 k2) he2]
   simp only [TM.kSeq] at hx
   split at hx
   ·rename_i id hid
    rcases cond_some.1 hx with ⟨hcut,hx⟩ | ⟨_,hx⟩
    ·obtain ⟨s2,J2,Z2,hx,q2⟩:=Ze q1 hx
     have hpp:xf P A An dOk (8*id+4,y,blk):=hp _ (by
      simp only [ze,List.mem_append]
      refine .inl (.inr ?_)
      rw [hid];simp only [hcut,cond_true,List.mem_singleton])
     rcases Td (p:=(8*id+4,y,blk)) (c:=y) (blk:=blk) hx with ⟨alts,e,s',h1,h2,h3⟩ | hx
     ·obtain ⟨k,a',J',Z',q',he⟩:=hpp s2 alts e s' h1 h2 J0 Z0 H0 h0 J2 Z2 a1 (by
       have:Nat.beq ((8*id+4) % 8) 0=false:=by rw [show (8*id+4) % 8=4 by omega];rfl
       simp only [this,cond_false];exact q2)
      exact fin ⟨k,e,_,a',J',Z',h3,q',he⟩
     ·exact fin (yq hrj hrjA hiso hev horc y blk hpy hfy q2 hx)
    ·exact fin (yq hrj hrjA hiso hev horc y blk hpy hfy q1 hx)
   ·exact fin (yq hrj hrjA hiso hev horc y blk hpy hfy q1 hx)
 | .cond g x y,blk,s,a,J,Z,K,hp,hf,q,hx=>by
  simp only [TM.evCode] at hx
  obtain ⟨t,hx,hg⟩:=evB_rel q hx
  cases t with
  | true=>
   obtain ⟨k,e,s',a',J',Z',h1,h2,h3⟩:=yq hrj hrjA hiso hev horc x blk (fun p h=>hp p (by simp only [ze,List.mem_append];exact .inl h)) (fun p h=>hf p (by simp only [rfs,List.mem_append];exact .inl h)) q hx
   exact ⟨k,e,s',a',J',Z',h1,h2,by simp only [AM.evCode,hg,Option.bind_some,AM.asSc,AM.asB,cond_true];exact h3⟩
  | false=>
   obtain ⟨k,e,s',a',J',Z',h1,h2,h3⟩:=yq hrj hrjA hiso hev horc y blk (fun p h=>hp p (by simp only [ze,List.mem_append];exact .inr h)) (fun p h=>hf p (by simp only [rfs,List.mem_append];exact .inr h)) q hx
   exact ⟨k,e,s',a',J',Z',h1,h2,by simp only [AM.evCode,hg,Option.bind_some,AM.asSc,AM.asB,cond_false];exact h3⟩
 | .block id b,blk,s,a,J,Z,K,hp,hf,q,hx=>by
  simp only [TM.evCode] at hx
  obtain ⟨k,e,s',a',J',Z',h1,h2,h3⟩:=yq hrj hrjA hiso hev horc b id hp hf q hx
  cases e with
  | normal=>exact ⟨k,.normal,s',a',J',Z',h1,h2,by simp only [AM.evCode,yG hrj hrjA (Nat.le_refl _) h3,AM.kBlock]⟩
  | ret=>exact ⟨k,.ret,s',a',J',Z',h1,h2,by simp only [AM.evCode,yG hrj hrjA (Nat.le_refl _) h3,AM.kBlock]⟩
  | exit i=>
   simp only [TM.kBlock] at h1
   rcases cond_some.1 h1 with ⟨hb,h1⟩ | ⟨hb,h1⟩
   ·exact ⟨k,.normal,s',a',J',Z',h1,h2,by simp only [AM.evCode,yG hrj hrjA (Nat.le_refl _) h3,AM.kBlock,hb,cond_true]⟩
   ·exact ⟨k,.exit i,s',a',J',Z',h1,h2,by simp only [AM.evCode,yG hrj hrjA (Nat.le_refl _) h3,AM.kBlock,hb,cond_false]⟩
 | .loop b,blk,s,a,J,Z,K,hp,hf,q,hx=>by
  simp only [TM.evCode,wZ] at hx
  obtain ⟨s1,J1,Z1,hx,q1⟩:=Ze (wF q A blk) hx
  have hpb:∀ p∈ze A blk b,xf P A An dOk p:=fun p h=>hp p (by simp only [ze,List.mem_cons];exact .inr h)
  have hpp:xf P A An dOk (8*blk,.loop b,blk):=hp _ (by simp only [ze];exact List.mem_cons_self)
  have loop:∀ (n:Nat) {s:CS} {a:AM.St} {J:List JE} {Z:Nat->Prop},StR P J0 Z0 H0 h0 J Z (xR A.nt s) (AM.maskAt A.a blk a)->TM.loopN A.nt (fun s c=>wZ P A blk s c) (TM.evCode P A ev dOk k0 b blk) K n s=some r->Led P A An dOk J0 Z0 H0 h0 (.loop b) blk a K r:=by
   intro n
   induction n with
   | zero=>intro s a J Z _ hx;cases hx
   | succ n ih=>
    intro s a J Z q hx
    simp only [TM.loopN] at hx
    obtain ⟨k1,e,s1,a1,J1,Z1,hx,q1,he1⟩:=yq hrj hrjA hiso hev horc b blk hpb hf q hx
    cases e with
    | normal=>
     simp only [wZ] at hx
     obtain ⟨s2,J2,Z2,hx,q2⟩:=Ze (wF q1 A blk) hx
     obtain ⟨k2,e2,s3,a3,J3,Z3,hx,q3,he3⟩:=ih q2 hx
     refine ⟨max k1 k2+1,e2,s3,a3,J3,Z3,hx,q3,?_⟩
     simp only [AM.evCode,AM.loopN]
     rw [yG hrj hrjA (Nat.le_succ_of_le (Nat.le_max_left k1 k2)) he1]
     simp only [AM.evCode] at he3
     exact AM.loopN_le (fun s c c' x hc hx=>AM.evCode_le hrjA (AM.evF_le hrj (Nat.le_succ_of_le (Nat.le_max_right k1 k2))) (Nat.le_succ_of_le (Nat.le_max_right k1 k2)) b blk s hc hx) (fun _ _ _ h=>h) k2 (max k1 k2) (Nat.le_max_right k1 k2) he3
    | exit i=>
     refine ⟨k1+1,.exit i,s1,a1,J1,Z1,hx,q1,?_⟩
     simp only [AM.evCode,AM.loopN]
     rw [yG hrj hrjA (Nat.le_succ k1) he1]
    | ret=>
     refine ⟨k1+1,.ret,s1,a1,J1,Z1,hx,q1,?_⟩
     simp only [AM.evCode,AM.loopN]
     rw [yG hrj hrjA (Nat.le_succ k1) he1]
  rcases Td (p:=(8*blk,.loop b,blk)) (c:=.loop b) (blk:=blk) hx with ⟨alts,e,s',h1,h2,h3⟩ | hx
  ·obtain ⟨k,a',J',Z',q',he⟩:=hpp s1 alts e s' h1 h2 J0 Z0 H0 h0 J1 Z1 a (by
    have:Nat.beq ((8*blk) % 8) 0=true:=by rw [show (8*blk) % 8=0 by omega];rfl
    simp only [this,cond_true];exact q1)
   exact ⟨k,e,_,a',J',Z',h3,q',he⟩
  ·exact loop k0 q1 hx
 | .rangeFunc g ps x y,blk,s,a,J,Z,K,hp,hf,q,hx=>by
  simp only [TM.evCode] at hx
  exact range_rel hrj hrjA hiso hev horc q (hf (Wc y,ps.toList,x,y) (by simp only [rfs];exact List.mem_cons_self)) hx
 | .scope b,blk,s,a,J,Z,K,hp,hf,q,hx=>by
  simp only [TM.evCode] at hx
  obtain ⟨k,e,s',a',J',Z',h1,h2,h3⟩:=yq hrj hrjA hiso hev horc b blk hp hf q hx
  exact ⟨k,e,s',a',J',Z',h1,h2,by simp only [AM.evCode];exact h3⟩
 | .goto _,_,_,_,_,_,_,_,_,_,hx=>by cases hx
 | .refuse _,_,_,_,_,_,_,_,_,_,hx=>by cases hx
theorem loop_rel (hrj:∀ f,(An f).rj=[]) (hrjA:A.a.rj=[]) (hiso:A.a.iso=[]) (hev:Zv P An dOk ev) (horc:Zd P An dOk A) {k0:Nat} {b:Code} {blk:Nat} (hpb:∀ p∈ze A blk b,xf P A An dOk p) (hfb:∀ p∈rfs b,Zq P A.a.self p.1=some p.2) {K:Ex->TS->Option R} :
  ∀ (n:Nat) {s:CS} {a:AM.St} {J:List JE} {Z:Nat->Prop},StR P J0 Z0 H0 h0 J Z (xR A.nt s) (AM.maskAt A.a blk a)->TM.loopN A.nt (fun s c=>wZ P A blk s c) (TM.evCode P A ev dOk k0 b blk) K n s=some r->Led P A An dOk J0 Z0 H0 h0 (.loop b) blk a K r:=by
 intro n
 induction n with
 | zero=>intro s a J Z _ hx;cases hx
 | succ n ih=>
  intro s a J Z q hx
  simp only [TM.loopN] at hx
  obtain ⟨k1,e,s1,a1,J1,Z1,hx,q1,he1⟩:=yq hrj hrjA hiso hev horc b blk hpb hfb q hx
  cases e with
  | normal=>
   simp only [wZ] at hx
   obtain ⟨s2,J2,Z2,hx,q2⟩:=Ze (wF q1 A blk) hx
   obtain ⟨k2,e2,s3,a3,J3,Z3,hx,q3,he3⟩:=ih q2 hx
   refine ⟨max k1 k2+1,e2,s3,a3,J3,Z3,hx,q3,?_⟩
   simp only [AM.evCode,AM.loopN]
   rw [yG hrj hrjA (Nat.le_succ_of_le (Nat.le_max_left k1 k2)) he1]
   simp only [AM.evCode] at he3
   exact AM.loopN_le (fun s c c' x hc hx=>AM.evCode_le hrjA (AM.evF_le hrj (Nat.le_succ_of_le (Nat.le_max_right k1 k2))) (Nat.le_succ_of_le (Nat.le_max_right k1 k2)) b blk s hc hx) (fun _ _ _ h=>h) k2 (max k1 k2) (Nat.le_max_right k1 k2) he3
  | exit i=>
   refine ⟨k1+1,.exit i,s1,a1,J1,Z1,hx,q1,?_⟩
   simp only [AM.evCode,AM.loopN]
   rw [yG hrj hrjA (Nat.le_succ k1) he1]
  | ret=>
   refine ⟨k1+1,.ret,s1,a1,J1,Z1,hx,q1,?_⟩
   simp only [AM.evCode,AM.loopN]
   rw [yG hrj hrjA (Nat.le_succ k1) he1]
variable {P : Program} {A : TAn} {ev : TEv} {An : FuncId -> FAn} {dOk : FAn -> Array Oper -> Bool} {J0 J J' : List JE} {Z0 Z Z' : Nat -> Prop} {H0 H H' : TH} {h0 h h' : AH} {s : TS} {a : AM.St} {R : Type} {r : R}
theorem Qg {α β:Type}:∀ {l:List α} {m:List β},l.length=m.length->(Tr.evens l).length=(Tr.evens m).length
 | [],[],_=>rfl
 | [_],[_],_=>rfl
 | _::_::l,_::_::m,h=>by simp only [Tr.evens,List.length_cons];rw [Qg (by simpa using h)]
 | [],_::_,h=>by simp at h
 | _::_,[],h=>by simp at h
 | [_],_::_::_,h=>by simp at h
 | _::_::_,[_],h=>by simp at h
theorem odds_len {α β:Type}:∀ {l:List α} {m:List β},l.length=m.length->(Tr.odds l).length=(Tr.odds m).length
 | [],[],_=>rfl
 | [_],[_],_=>rfl
 | _::_::l,_::_::m,h=>by simp only [Tr.odds,List.length_cons];rw [odds_len (by simpa using h)]
 | [],_::_,h=>by simp at h
 | _::_,[],h=>by simp at h
 | [_],_::_::_,h=>by simp at h
 | _::_::_,[_],h=>by simp at h
theorem ZD {α β:Type}:∀ (d:Nat) {l:List α} {m:List β} (i:Nat) {v:α},l.length=m.length->(Tr.ofL d l).get i=some v->∃ w,(Tr.ofL d m).get i=some w
 | _,[],m,i,v,hl,h=>by simp [Tr.ofL,Tr.get_nil] at h
 | 0,x::l,[],i,v,hl,h=>by simp at hl
 | 0,x::l,y::m,i,v,hl,h=>by
  rw [show Tr.ofL 0 (x::l)=.leaf x from rfl,Tr.get_leaf] at h
  rw [show Tr.ofL 0 (y::m)=.leaf y from rfl,Tr.get_leaf]
  split at h
  ·exact ⟨y,by simp [*]⟩
  ·cases h
 | d+1,x::l,[],i,v,hl,h=>by simp at hl
 | d+1,x::l,y::m,i,v,hl,h=>by
  rw [show Tr.ofL (d+1) (x::l)=.node (Tr.ofL d (Tr.evens (x::l))) (Tr.ofL d (Tr.odds (x::l))) from rfl,Tr.get_node] at h
  rw [show Tr.ofL (d+1) (y::m)=.node (Tr.ofL d (Tr.evens (y::m))) (Tr.ofL d (Tr.odds (y::m))) from rfl,Tr.get_node]
  split at h
  ·rename_i hi;rw [if_pos hi];exact ZD d _ (Qg hl) h
  ·rename_i hi;rw [if_neg hi];exact ZD d _ (odds_len hl) h
theorem WC (hr:HR P J Z H h) {args:List TA} {avs:List AV} (ha:ARs P h Z J args avs) (fn:Func):StR P J Z H h J Z (TM.enterSt fn args H) (AM.enterSt fn avs h):=by
 have hl:=ha.length
 refine ⟨fun i v hv=>?_,fun i x hx=>?_,fun k cs hk=>?_,fun k x hk=>?_,hr,Kp.refl ..,rfl,hr.len⟩
 ·simp only [TM.enterSt] at hv
  have h1:=Tr.ofL_get _ _ _ _ hv
  obtain ⟨x,h2⟩:=ZD (m:=avs.map AM.SV.v++List.replicate (fn.ntmps - avs.length) AM.SV.no) _ i (by simp [hl]) hv
  have h3:=Tr.ofL_get _ _ _ _ h2
  refine ⟨x,h2,?_⟩
  rcases Nat.lt_or_ge i args.length with hi | hi
  ·rw [List.getElem?_append_left (by simpa using hi),List.getElem?_map] at h1
   rw [List.getElem?_append_left (by simp;omega),List.getElem?_map] at h3
   obtain ⟨u,h4,rfl⟩:=oM h1
   obtain ⟨w,h5,rfl⟩:=oM h3
   obtain ⟨y,h6,h7⟩:=ha.get h4
   rw [h5] at h6;cases h6
   exact ⟨w,rfl,h7⟩
  ·rw [List.getElem?_append_right (by simpa using hi),List.getElem?_replicate] at h1
   rw [List.getElem?_append_right (by simp;omega),List.getElem?_replicate] at h3
   split at h1<;>cases h1
   split at h3<;>cases h3
   rfl
 ·simp only [AM.enterSt] at hx
  exact ZD _ i (by simp [hl]) hx
 ·simp only [TM.enterSt] at hk
  have h1:=Tr.ofL_get _ _ _ _ hk
  rw [List.getElem?_replicate] at h1
  split at h1<;>cases h1
 ·simp only [TM.enterSt] at hk
  exact ZD _ k (by simp) hk
theorem ZX (q:StR P J0 Z0 H0 h0 J Z s a):∀ {l:List ResultVar} {c:List TA->Option R},TM.resOf P s l c=some r->∃ vs avs,c vs=some r/\ARs P a.h Z J vs avs/\∀ {S:Type} (k:List AV->Option S),AM.resOf P a l k=k avs
 | [],c,hx=>⟨[],[],hx,trivial,fun k=>rfl⟩
 | .tmp t::l,c,hx=>by
  simp only [TM.resOf] at hx
  replace hx:=oB hx
  obtain ⟨v,h1,hx⟩:=hx
  replace hx:=oB hx
  obtain ⟨w,h2,hx⟩:=hx
  obtain ⟨x,h3,h4⟩:=q.tm t v h1
  cases v<;>simp [TV.val] at h2
  subst h2
  obtain ⟨y,rfl,h5⟩:=h4
  obtain ⟨vs,avs,hx,h6,h7⟩:=ZX q hx
  exact ⟨_::vs,y::avs,hx,⟨h5,h6⟩,fun k=>by simp only [AM.resOf,h3,Option.bind_some,AM.SV.val,h7]⟩
 | .cell t ty::l,c,hx=>by
  simp only [TM.resOf] at hx
  replace hx:=gB.1 hx
  obtain ⟨hg,hx⟩:=hx
  replace hx:=oB hx
  obtain ⟨v,h1,hx⟩:=hx
  obtain ⟨x,h3,h4⟩:=q.tm t v h1
  rcases cond_some.1 hx with ⟨hag,hx⟩ | ⟨hag,hx⟩
  ·obtain ⟨u,u',hx,hu,_,hk⟩:=YT q hx h4
   obtain ⟨vs,avs,hx,h6,h7⟩:=ZX q hx
   exact ⟨_::vs,.agg u'::avs,hx,⟨⟨u',rfl,hu⟩,h6⟩,fun k=>by simp only [AM.resOf,hg,AM.guardB,cond_true,h3,Option.bind_some,hag,hk,h7]⟩
  ·obtain ⟨u,u',hx,hu,hk⟩:=Qs q hx h4
   obtain ⟨vs,avs,hx,h6,h7⟩:=ZX q hx
   exact ⟨_::vs,.sc u'::avs,hx,⟨⟨u',rfl,hu⟩,h6⟩,fun k=>by simp only [AM.resOf,hg,AM.guardB,cond_true,cond_false,h3,Option.bind_some,hag,hk,h7]⟩
theorem finC_rel (hr:HR P J Z H h) {own:Bool} {t:Option TypeId} {v:TC} {c:TC->TH->Option R} {x:Sc} (hx:finC P own t v H c=some r) (hv:CR P h Z J v x) :
  ∃ v' H' J' Z',c v' H'=some r/\Step P J Z H h J' Z' H' h/\CR P h Z' J' v' x:=by
 unfold finC at hx
 split at hx
 ·split at hx
  ·exact coeC_rel hr hx hv
  ·exact ⟨v,H,J,Z,hx,Step.refl hr,hv⟩
 ·exact ⟨v,H,J,Z,hx,Step.refl hr,hv⟩
theorem finL_rel {own:Bool}:∀ {l:List TC} {t:List (Option TypeId)} {J:List JE} {Z:Nat->Prop} {H:TH} {c:List TC->TH->Option R} {x:List Sc},HR P J Z H h->finL P own t l H c=some r->CRs P h Z J l x->
  ∃ l' H' J' Z',c l' H'=some r/\Step P J Z H h J' Z' H' h/\CRs P h Z' J' l' x
 | [],t,J,Z,H,c,x,hr,hx,hc=>by
  cases x with
  | nil=>exact ⟨[],H,J,Z,by simpa [finL] using hx,Step.refl hr,trivial⟩
  | cons _ _=>simp [CRs] at hc
 | v::l,t,J,Z,H,c,x,hr,hx,hc=>by
  cases x with
  | nil=>simp [CRs] at hc
  | cons y ys=>
   simp only [CRs] at hc
   simp only [finL] at hx
   obtain ⟨v',H1,J1,Z1,hx,st1,c1⟩:=finC_rel hr hx hc.1
   obtain ⟨l',H2,J2,Z2,hx,st2,c2⟩:=finL_rel st1.hr hx (CRs.mono (st1.ext hr) st1.kp.pre _ _ hc.2)
   exact ⟨v'::l',H2,J2,Z2,hx,st1.trans st2,by simp only [CRs];exact ⟨CR.mono (st2.ext st1.hr) st2.kp.pre _ _ c1,c2⟩⟩
theorem finA_rel (hr:HR P J Z H h) {own:Bool} {t:Option TypeId} {v:TA} {c:TA->TH->Option R} {x:AV} (hx:finA P own t v H c=some r) (hv:AR P h Z J v x) :
  ∃ v' H' J' Z',c v' H'=some r/\Step P J Z H h J' Z' H' h/\AR P h Z' J' v' x:=by
 unfold finA at hx
 split at hx
 ·obtain ⟨y,rfl,hv⟩:=hv
  obtain ⟨v',H',J',Z',hx,st,hc⟩:=finC_rel hr hx hv
  exact ⟨_,H',J',Z',hx,st,y,rfl,hc⟩
 ·obtain ⟨y,rfl,hv⟩:=hv
  obtain ⟨v',H',J',Z',hx,st,hc⟩:=finL_rel hr hx hv
  exact ⟨_,H',J',Z',hx,st,y,rfl,hc⟩
theorem Qh {own:Bool}:∀ {l:List TA} {t:List TypeId} {J:List JE} {Z:Nat->Prop} {H:TH} {c:List TA->TH->Option R} {x:List AV},HR P J Z H h->Vo P own t l H c=some r->ARs P h Z J l x->
  ∃ l' H' J' Z',c l' H'=some r/\Step P J Z H h J' Z' H' h/\ARs P h Z' J' l' x
 | [],t,J,Z,H,c,x,hr,hx,hc=>by
  cases x with
  | nil=>exact ⟨[],H,J,Z,by simpa [Vo] using hx,Step.refl hr,trivial⟩
  | cons _ _=>simp [ARs] at hc
 | v::l,t,J,Z,H,c,x,hr,hx,hc=>by
  cases x with
  | nil=>simp [ARs] at hc
  | cons y ys=>
   simp only [ARs] at hc
   simp only [Vo] at hx
   obtain ⟨v',H1,J1,Z1,hx,st1,c1⟩:=finA_rel hr hx hc.1
   obtain ⟨l',H2,J2,Z2,hx,st2,c2⟩:=Qh st1.hr hx (hc.2.mono (st1.ext hr) st1.kp.pre)
   exact ⟨v'::l',H2,J2,Z2,hx,st1.trans st2,by simp only [ARs];exact ⟨c1.mono (st2.ext st1.hr) st2.kp.pre,c2⟩⟩
theorem QA (hr:HR P J Z H h) (k:Kp J0 Z0 H0 h0 J Z H h) (hn:J0.length=H0.length) {rs:List TA} {c:List TA->TH->Option R} {x:List AV} (hx:YY H0.length rs H c=some r) (hc:ARs P h Z J rs x) :
  ∃ rs' H' J',c rs' H'=some r/\HR P J' Z H' h/\Kp J0 Z0 H0 h0 J' Z H' h/\ARs P h Z J' rs' x:=by
 unfold YY at hx
 simp only at hx
 generalize Wb H 200 _ (List.range H0.length)=ord at hx
 replace hx:=gB.1 hx
 obtain ⟨hg,hx⟩:=hx
 simp only [Bool.and_eq_true] at hg
 obtain ⟨⟨g1,g2⟩,g3⟩:=hg
 have ok:=Ud g1
 rw [List.all_eq_true] at g3
 refine ⟨_,_,yd J ord,hx,sub_hr hr ok (fun _ h=>h) (fun i o je h1 h2 h3 h4 _=>hr.sep i o je h1 h2 h3 h4) hr.zlt,sub_kp hr k ok hn g2,hc.ren (Yo fun i hi=>?_)⟩
 obtain ⟨v,h1,h2⟩:=List.mem_flatMap.1 hi
 have:=g3 v h1
 rw [List.all_eq_true] at this
 exact memN_iff.1 (this i h2)
structure TnOk (P:Program) (Tn:FuncId->TAn) (An:FuncId->FAn) (dOk:FAn->Array Oper->Bool):Prop where
 an:∀ f,An f=(Tn f).a
 rj:∀ f,(Tn f).a.rj=[]
 iso:∀ f,(Tn f).a.iso=[]
 orc:∀ f,Zd P An dOk (Tn f)
 rf:∀ f fn code,P.funcs[f]?=some fn->fn.body=some code->∀ p∈rfs code,Zq P (Tn f).a.self p.1=some p.2
 self:∀ f,(Tn f).a.self=f
 tell:∀ f fn code,P.funcs[f]?=some fn->fn.body=some code->∀ p∈ze (Tn f) 0 code,xf P (Tn f) An dOk p
theorem yD:∀ {c:Code},zo c=true->rfs c=[]
 | .rangeFunc _ _ _ _,h=>by cases h
 | .seq a b,h=>by simp only [zo,Bool.and_eq_true] at h;simp only [rfs,yD h.1,yD h.2,List.append_nil]
 | .cond _ a b,h=>by simp only [zo,Bool.and_eq_true] at h;simp only [rfs,yD h.1,yD h.2,List.append_nil]
 | .block _ b,h=>by simp only [rfs];exact yD (c:=b) h
 | .loop b,h=>by simp only [rfs];exact yD (c:=b) h
 | .scope b,h=>by simp only [rfs];exact yD (c:=b) h
 | .skip,_=>rfl
 | .region _ _ _,_=>rfl
 | .exit _,_=>rfl
 | .label _,_=>rfl
 | .goto _,_=>rfl
 | .ret,_=>rfl
 | .refuse _,_=>rfl
theorem yx {A:TAn}:∀ {c:Code} {blk:Nat} {p:Nat×List Tmp×Code×Code},p∈rfs c->∀ q,q∈ze A 0 p.2.2.1\/q∈ze A 0 p.2.2.2->q∈ze A blk c
 | .rangeFunc _ ps a b,blk,p,hp,q,hq=>by
  simp only [rfs,List.mem_cons,List.mem_append] at hp
  simp only [ze,List.mem_append]
  rcases hp with rfl | hp | hp
  ·exact hq
  ·exact .inl (yx hp q hq)
  ·exact .inr (yx hp q hq)
 | .seq a b,blk,p,hp,q,hq=>by
  simp only [rfs,List.mem_append] at hp
  simp only [ze,List.mem_append]
  rcases hp with hp | hp
  ·exact .inl (.inl (yx hp q hq))
  ·exact .inr (yx hp q hq)
 | .cond _ a b,blk,p,hp,q,hq=>by
  simp only [rfs,List.mem_append] at hp
  simp only [ze,List.mem_append]
  rcases hp with hp | hp
  ·exact .inl (yx hp q hq)
  ·exact .inr (yx hp q hq)
 | .block _ b,blk,p,hp,q,hq=>by simp only [rfs] at hp;simp only [ze];exact yx hp q hq
 | .loop b,blk,p,hp,q,hq=>by simp only [rfs] at hp;simp only [ze,List.mem_cons];exact .inr (yx hp q hq)
 | .scope b,blk,p,hp,q,hq=>by simp only [rfs] at hp;simp only [ze];exact yx hp q hq
 | .skip,_,_,hp,_,_=>by simp [rfs] at hp
 | .region _ _ _,_,_,hp,_,_=>by simp [rfs] at hp
 | .exit _,_,_,hp,_,_=>by simp [rfs] at hp
 | .label _,_,_,hp,_,_=>by simp [rfs] at hp
 | .goto _,_,_,hp,_,_=>by simp [rfs] at hp
 | .ret,_,_,hp,_,_=>by simp [rfs] at hp
 | .refuse _,_,_,hp,_,_=>by simp [rfs] at hp
theorem Qj {i:Nat} {v:TV}:∀ (l:List (Nat×TV)) (t:Tr TV),(l.foldl (fun t p=>t.set p.1 p.2) t).get i=some v->(i,v)∈l\/t.get i=some v
 | [],t,h=>.inr h
 | p::l,t,h=>by
  rcases Qj l _ h with h1 | h1
  ·exact .inl (List.mem_cons_of_mem _ h1)
  ·by_cases e:p.1=i
   ·subst e
    rw [Tr.get_set_self] at h1
    obtain ⟨_,_,rfl⟩:=oM h1
    exact .inl List.mem_cons_self
   ·rw [Tr.get_set_ne _ e] at h1;exact .inr h1
theorem set_dom {α:Type} {t:Tr α} {i j:Nat} {x:α}:((t.set i x).get j).isSome=(t.get j).isSome:=by
 by_cases e:i=j
 ·subst e;rw [Tr.get_set_self];cases t.get i<;>rfl
 ·rw [Tr.get_set_ne _ e]
theorem Qi {α:Type} {i:Nat}:∀ (l:List (Nat×α)) (t:Tr α),((l.foldl (fun t p=>t.set p.1 p.2) t).get i).isSome=(t.get i).isSome
 | [],t=>rfl
 | p::l,t=>by rw [List.foldl_cons,Qi l,set_dom]
theorem Uh {α β:Type} (k:β->α) {i:Nat}:∀ (ps:List Tmp) (as:List β) (t:Tr α),(((ps.zip as).foldl (fun t p=>t.set p.1 (k p.2)) t).get i).isSome=(t.get i).isSome
 | [],_,t=>rfl
 | _::_,[],t=>rfl
 | p::ps,a::as,t=>by rw [List.zip_cons_cons,List.foldl_cons,Uh k ps as,set_dom]
theorem zip_rel {i:Nat} {v:TV}:∀ (ps:List Tmp) {as:List TA} {avs:List AV},ARs P h Z J as avs->∀ {t:Tr TV} {u:Tr AM.SV},(∀ v,t.get i=some v->∃ x,u.get i=some x/\SR P h Z J v x)->
  ((ps.zip as).foldl (fun t p=>t.set p.1 (TV.v p.2)) t).get i=some v->∃ x,((ps.zip avs).foldl (fun t p=>t.set p.1 (AM.SV.v p.2)) u).get i=some x/\SR P h Z J v x
 | [],_,_,_,t,u,ht,hv=>ht v hv
 | _::_,[],[],_,t,u,ht,hv=>ht v hv
 | p::ps,a::as,b::avs,⟨h1,h2⟩,t,u,ht,hv=>by
  simp only [List.zip_cons_cons,List.foldl_cons] at hv ⊢
  refine zip_rel ps h2 (fun v hv=>?_) hv
  by_cases e:p=i
  ·subst e
   rw [Tr.get_set_self] at hv
   obtain ⟨w,hw,rfl⟩:=oM hv
   obtain ⟨x,hx,_⟩:=ht w hw
   exact ⟨.v b,by rw [Tr.get_set_self,hx];rfl,b,rfl,h1⟩
  ·rw [Tr.get_set_ne _ e] at hv
   obtain ⟨x,hx,hr⟩:=ht v hv
   exact ⟨x,by rw [Tr.get_set_ne _ e];exact hx,hr⟩
 | _::_,[],_::_,h,_,_,_,_=>h.elim
 | _::_,_::_,[],h,_,_,_,_=>h.elim
theorem evY_rel {Tn:FuncId->TAn} (ok:TnOk P Tn An dOk) {k0:Nat} (hev:Zv P An dOk (TM.evF P Tn dOk k0)) {args rs:List TA} {H H':TH} (hx:evY P Tn (TM.evF P Tn dOk k0) dOk k0 args H=some (rs,H')):Uj P An dOk YF args H rs H':=by
 intro J Z h g avs avs0 hgf ha hr
 rcases hgf with ⟨e,_⟩ | ⟨_,i,rfl,rfl⟩
 ·exact absurd rfl e
 have hrj:∀ f,(An f).rj=[]:=fun f=>by rw [ok.an];exact ok.rj f
 unfold evY at hx
 split at hx
 case h_2=>cases hx
 rename_i id rest
 obtain ⟨ha1,ha2⟩:=ha
 obtain ⟨_,e1,je,hj,hjv,e2⟩:=ha1
 cases e1
 cases e2
 split at hx
 case h_2=>cases hx
 rename_i st pe f key nt sl ho
 have ho':=zh ho rfl
 obtain ⟨_,al,k1,k2,k3,k4,k5,k6,k7,k8⟩:=hr.obj _ _ _ ho' hj
 rw [k5,Option.bind_some] at hx
 replace hx:=gB.1 hx
 obtain ⟨hg,hx⟩:=hx
 simp only [Bool.and_eq_true] at hg
 obtain ⟨⟨g1,g2⟩,g3⟩:=hg
 have enter:StR P J Z H h J Z (TM.roundSt nt sl al.params rest H) (AM.roundSt al avs h):=by
  refine ⟨fun i v hv=>?_,fun i x hx=>?_,fun k cs hk=>?_,fun k x hk=>?_,hr,Kp.refl ..,rfl,hr.len⟩
  ·refine zip_rel al.params ha2 (fun v hv=>?_) hv
   rcases Qj sl _ hv with h1 | h1
   ·exact k8 _ h1
   ·have hs:(al.sl.get i).isSome=true:=by rw [k6 i,h1];rfl
    obtain ⟨x,hx⟩:=Option.isSome_iff_exists.1 hs
    obtain ⟨_,rfl⟩:=Uo h1
    exact ⟨x,hx,k7 i x hx⟩
  ·have:((TM.roundSt nt sl al.params rest H).sl.get i).isSome=true:=by
    simp only [TM.roundSt]
    rw [Uh,Qi,<- k6 i]
    have:=congrArg Option.isSome hx
    simp only [AM.roundSt] at this
    rw [Uh] at this
    exact this
   exact Option.isSome_iff_exists.1 this
  ·simp only [TM.roundSt] at hk
   obtain ⟨_,h1⟩:=Un hk
   cases h1
  ·simp only [TM.roundSt] at hk
   have h1:((ZJ nt).get k).isSome=true:=by
    obtain ⟨w,hw⟩:=ZD (m:=List.replicate nt TV.u) _ k (by simp) hk
    show ((Tr.ofL _ _).get k).isSome=true
    rw [hw];rfl
   rw [<- k6 k] at h1
   obtain ⟨w,hw⟩:=Option.isSome_iff_exists.1 h1
   exact ⟨none,by simp only [AM.roundSt];rw [Tr.get_map,hw];rfl⟩
 have hfn:∃ fn code,P.funcs[f]?=some fn/\fn.body=some code/\(key,al.params,al.assign,al.body)∈rfs code:=by
  unfold Zq at k5
  obtain ⟨p,hp,e⟩:=oM k5
  obtain ⟨fn,h1,hp⟩:=oB hp
  obtain ⟨code,h2,hp⟩:=oB hp
  refine ⟨fn,code,h1,h2,?_⟩
  have hm:=List.mem_of_find?_eq_some hp
  have hk:=zj (List.find?_some (p:=fun p:Nat×List Tmp×Code×Code=>Nat.beq p.1 key) hp)
  obtain ⟨pk,pr⟩:=p
  cases e
  cases hk
  exact hm
 obtain ⟨fn,code,hfn,hcode,hmem⟩:=hfn
 have hp1:∀ p∈ze (Tn f) 0 al.assign,xf P (Tn f) An dOk p:=fun p hp=>ok.tell f fn code hfn hcode p (yx hmem p (.inl hp))
 have hp2:∀ p∈ze (Tn f) 0 al.body,xf P (Tn f) An dOk p:=fun p hp=>ok.tell f fn code hfn hcode p (yx hmem p (.inr hp))
 obtain ⟨n1,e,s1,a1,J1,Z1,hx,q1,he1⟩:=yq (A:=Tn f) hrj (ok.rj f) (ok.iso f) hev (ok.orc f) al.assign 0 hp1 (by rw [yD g2];intro p hp;cases hp) enter hx
 unfold TM.kBegin at hx
 split at hx
 case h_2=>cases hx
 rename_i st1 pe1 f1 key1 nt1 sl1 ho1
 replace hx:=gB.1 hx
 obtain ⟨hst,hx⟩:=hx
 have ho1':=zh ho1 rfl
 have hj1:J1[id]?=some je:=zu q1.kp.pre hj
 obtain ⟨_,al1,m1,m2,m3,m4,m5,m6,m7,m8⟩:=q1.hp.obj _ _ _ ho1' hj1
 have hlt1:=(List.getElem?_eq_some_iff.1 m1).1
 have notZ1:¬ Z1 je.id:=q1.hp.sep _ _ _ ho1' rfl hj1 hjv
 have q2:=q1.mem (xK (o':=.loop 1 pe1 f1 key1 nt1 sl1) (ao:=.loop { al1 with st:=1 }) q1.hp ho1' rfl hj1 hjv
  ⟨hjv,_,List.getElem?_set_self hlt1,rfl,m3,m4,m5,m6,m7,fun p hp=>let ⟨x,y1,y2⟩:=m8 p hp;⟨x,y1,y2.mono ⟨fun _ h=>h,fun id hz=>List.getElem?_set_ne (fun e=>notZ1 (by rw [e];exact hz))⟩ (List.prefix_refl _)⟩⟩)
 obtain ⟨n2,e2,s3,a3,J3,Z3,hx,q3,he3⟩:=yq (A:=Tn f) hrj (ok.rj f) (ok.iso f) hev (ok.orc f) al.body 0 hp2 (by rw [yD g3];intro p hp;cases hp) q2 hx
 unfold TM.kRound at hx
 split at hx
 case h_2=>cases hx
 rename_i st3 pe3 f3 key3 nt3 sl3 ho3
 have ho3':=zh ho3 rfl
 have hj3:J3[id]?=some je:=zu q3.kp.pre hj
 obtain ⟨_,al3,r1,r2,r3,r4,r5,r6,r7,r8⟩:=q3.hp.obj _ _ _ ho3' hj3
 have hlt3:=(List.getElem?_eq_some_iff.1 r1).1
 have notZ3:¬ Z3 je.id:=q3.hp.sep _ _ _ ho3' rfl hj3 hjv
 have fin:∀ (b:Bool) (st:Nat) (pe:Option Ex) (pend:Option Code),PeR pe pend->YY s3.n0 [.sc (.bool b)] (s3.h.set id (.loop st pe f3 key3 nt3 sl3)) (fun rs h=>some (rs,h))=some (rs,H')->
   AM.kRound je.id e2 a3=some ([.sc (.bool b)],a3.h.set je.id (.loop { al3 with st:=st,pend:=pend }))->
   ∃ k avs' h' J' Z',AM.evF P An dOk k (.yield je.id) avs h=some (avs',h')/\Step P J Z H h J' Z' H' h'/\ARs P h' Z' J' rs avs':=by
  intro b st pe pend hpe hx hk
  have stp:=xK (o':=.loop st pe f3 key3 nt3 sl3) (ao:=.loop { al3 with st:=st,pend:=pend }) q3.hp ho3' rfl hj3 hjv
   ⟨hjv,_,List.getElem?_set_self hlt3,rfl,hpe,r4,r5,r6,r7,fun p hp=>let ⟨x,y1,y2⟩:=r8 p hp;⟨x,y1,y2.mono ⟨fun _ h=>h,fun id hz=>List.getElem?_set_ne (fun e=>notZ3 (by rw [e];exact hz))⟩ (List.prefix_refl _)⟩⟩
  rw [q3.n0] at hx
  obtain ⟨rs',H4,J4,hx,h4,h5,h6⟩:=QA (R:=List TA×TH) stp.hr (q3.kp.trans stp.kp) q3.j0 hx (show ARs P _ Z3 J3 [.sc (.bool b)] [.sc (.bool b)] from ⟨⟨_,rfl,rfl⟩,trivial⟩)
  cases hx
  refine ⟨max n1 n2+1,_,_,J4,Z3,?_,⟨h4,h5⟩,h6⟩
  have gA:(Nat.beq avs.length al.params.length&&zo al.assign&&zo al.body)=true:=by
   rw [<- ha2.length,g2,g3,g1];rfl
  have hA:An al.fn=(Tn f).a:=by rw [k4];exact ok.an f
  simp only [AM.evF,k1,gA,AM.guardB,cond_true,hA]
  rw [yG (A:=Tn f) hrj (ok.rj f) (Nat.le_max_left n1 n2) he1]
  unfold AM.kBegin
  simp only [m1]
  have hst':Nat.beq al1.st 0=true:=by rw [m2];exact hst
  rw [hst',AM.guardB,cond_true]
  rw [yG (A:=Tn f) hrj (ok.rj f) (Nat.le_max_right n1 n2) he3]
  exact hk
 cases e2 with
 | normal=>exact fin true 0 none none rfl hx (by unfold AM.kRound;simp only [r1])
 | exit i=>exact fin false 2 (some (.exit i)) (some (.exit i)) rfl hx (by unfold AM.kRound;simp only [r1])
 | ret=>exact fin false 2 (some .ret) (some .ret) rfl hx (by unfold AM.kRound;simp only [r1])
theorem ZB {Tn:FuncId->TAn} (ok:TnOk P Tn An dOk):∀ k,Zv P An dOk (TM.evF P Tn dOk k)
 | 0=>fun f args H rs H' hx=>by cases hx
 | k+1=>fun f args H rs H' hx=>by
  simp only [TM.evF] at hx
  rcases cond_some.1 hx with ⟨hy,hx⟩ | ⟨hy,hx⟩
  ·rw [zj hy];exact evY_rel ok (ZB ok k) hx
  intro J Z h g avs' avs hgf ha hr
  have hne:f≠YF:=fun e=>by subst e;simp at hy
  rcases hgf with ⟨_,rfl,rfl⟩ | ⟨e,_⟩
  case inr=>exact absurd e hne
  replace hx:=oB hx
  obtain ⟨fn,hfn,hx⟩:=hx
  replace hx:=oB hx
  obtain ⟨code,hcode,hx⟩:=hx
  replace hx:=gB.1 hx
  obtain ⟨hg,hx⟩:=hx
  have hrj:∀ f,(An f).rj=[]:=fun f=>by rw [ok.an];exact ok.rj f
  obtain ⟨k',e,s',a',J',Z',hx,q,he⟩:=yq (A:=Tn f) hrj (ok.rj f) (ok.iso f) (ZB ok k) (ok.orc f) code 0 (ok.tell f fn code hfn hcode) (ok.rf f fn code hfn hcode) (WC hr ha fn) hx
  have fin:(e=.normal\/e=.ret)->(TM.resOf P s' fn.results.toList fun vs=>Vo P (Tn f).own fn.resultTypes.toList vs s'.h fun rs h=>YY s'.n0 rs h fun rs h=>some (rs,h))=some (rs,H')->
    ∃ k avs' h' J' Z',AM.evF P An dOk k (.func f) avs h=some (avs',h')/\Step P J Z H h J' Z' H' h'/\ARs P h' Z' J' rs avs':=by
   intro hen hx
   obtain ⟨vs,avs',hx,h1,h2⟩:=ZX q hx
   obtain ⟨l',H2,J2,Z2,hx,st,h3⟩:=Qh q.hp hx h1
   rw [q.n0] at hx
   obtain ⟨rs',H3,J3,hx,h4,h5,h6⟩:=QA (R:=List TA×TH) st.hr (q.kp.trans st.kp) q.j0 hx h3
   cases hx
   refine ⟨k'+1,avs',a'.h,J3,Z2,?_,⟨h4,h5⟩,h6⟩
   simp only [AM.evF,hfn,hcode,Option.bind_some]
   rw [ha.length] at hg
   simp only [hg,AM.guardB,cond_true,ok.an f]
   rw [yG (A:=Tn f) hrj (ok.rj f) (Nat.le_refl k') he]
   rcases hen with rfl | rfl<;>simp only [AM.kFin,h2]
  cases e with
  | normal=>exact fin (.inl rfl) hx
  | ret=>exact fin (.inr rfl) hx
  | exit i=>cases hx
abbrev OrcS:=List TA->TH->Option (List (Bool×List TA×TH))
abbrev TellS:=CS->Option (List (Bool×Ex×CS))
abbrev Yt:=List (FuncId×OrcS)
abbrev Zu:=List ((FuncId×Nat)×TellS)
def lookO:Yt->FuncId->List TA->TH->Option (List (Bool×List TA×TH))
 | [],_,_,_=>none
 | p::r,f,as,h=>match cond (Nat.beq f p.1) (p.2 as h) none with
  | some x=>some x
  | none=>lookO r f as h
def lookT:Zu->FuncId->Nat->CS->Option (List (Bool×Ex×CS))
 | [],_,_,_=>none
 | p::r,f,k,s=>match cond (Nat.beq f p.1.1) (cond (Nat.beq k p.1.2) (p.2 s) none) none with
  | some x=>some x
  | none=>lookT r f k s
def zM (base:List (FuncId×TAn)) (f:FuncId):TAn:=match base.find? (fun p=>Nat.beq p.1 f) with
 | some p=>p.2
 | none=>{}
def mkA (base:List (FuncId×TAn)):FuncId->FAn:=fun f=>{ loc:=(zM base f).a.loc,keep:=(zM base f).a.keep,keepR:=(zM base f).a.keepR,hst:=(zM base f).a.hst,rt:=(zM base f).a.rt,ldb:=(zM base f).a.ldb,ro:=(zM base f).a.ro,rov:=(zM base f).a.rov,grv:=(zM base f).a.grv,fsh:=(zM base f).a.fsh,fsl:=(zM base f).a.fsl,gr:=(zM base f).a.gr,fr:=(zM base f).a.fr,self:=f }
def zT (base:List (FuncId×TAn)) (O:Yt) (T:Zu):FuncId->TAn:=fun f=>
 let B:=zM base f
 { a:=mkA base f,own:=B.own,crow:=B.crow,cuts:=B.cuts,live:=B.live,coe:=B.coe,orc:=lookO O,tell:=lookT T f,nt:=B.nt }
section
variable {P : Program} {dOk : FAn -> Array Oper -> Bool} {base : List (FuncId × TAn)} {O : Yt} {T : Zu}
theorem zX {A B:TAn} (h:A.cuts=B.cuts):∀ (c:Code) (blk:Nat),ze A blk c=ze B blk c
 | .loop b,blk=>by simp only [ze,zX h b]
 | .seq a b,blk=>by simp only [ze,zX h a,zX h b,h]
 | .cond _ a b,blk=>by simp only [ze,zX h a,zX h b]
 | .block id b,blk=>by simp only [ze,zX h b]
 | .skip,_=>rfl
 | .region _ _ _,_=>rfl
 | .rangeFunc _ _ a b,_=>by simp only [ze,zX h a,zX h b]
 | .exit _,_=>rfl
 | .scope b,blk=>by simp only [ze,zX h b]
 | .label _,_=>rfl
 | .goto _,_=>rfl
 | .ret,_=>rfl
 | .refuse _,_=>rfl
def UO:List Nat->Bool
 | []=>true
 | x::r=>!(yu r x)&&UO r
def rfsOk (P:Program):Bool:=P.funcs.toList.all fun fn=>match fn.body with | some c=>UO ((rfs c).map (·.1)) | none=>true
theorem UR {β:Type}:∀ {l:List (Nat×β)},UO (l.map (·.1))=true->∀ {p:Nat×β},p∈l->(l.find? fun q=>Nat.beq q.1 p.1)=some p
 | [],_,p,hp=>by cases hp
 | q::l,hn,p,hp=>by
  simp only [List.map_cons,UO,Bool.and_eq_true] at hn
  rcases List.mem_cons.1 hp with rfl | hp
  ·simp
  ·have hne:Nat.beq q.1 p.1=false:=by
    cases hb:Nat.beq q.1 p.1 with
    | false=>rfl
    | true=>
     have e:=zj hb
     have:yu (l.map (·.1)) q.1=true:=memN_iff.2 (by rw [e];exact List.mem_map_of_mem hp)
     rw [this] at hn;simp at hn
   rw [List.find?_cons,hne]
   exact UR hn.2 hp
theorem rfsOk_at (h:rfsOk P=true) {f:FuncId} {fn:Func} {code:Code} (h1:P.funcs[f]?=some fn) (h2:fn.body=some code):∀ p∈rfs code,Zq P f p.1=some p.2:=by
 intro p hp
 have h3:=List.all_eq_true.1 h fn (by rw [Array.mem_toList_iff];exact Array.mem_of_getElem? h1)
 rw [h2] at h3
 unfold Zq
 rw [h1,Option.bind_some,h2,Option.bind_some,UR h3 hp]
 rfl
theorem tn_nil (hr:rfsOk P=true):TnOk P (zT base [] []) (mkA base) dOk where
 an f:=rfl
 rj f:=rfl
 iso f:=rfl
 rf f fn code h1 h2:=rfsOk_at hr h1 h2
 self f:=rfl
 orc f:=fun g args H p hp=>by cases hp
 tell f fn code _ _:=fun p hp s alts e s' hs=>by cases hs
def NewOrc (P:Program) (dOk:FAn->Array Oper->Bool) (base:List (FuncId×TAn)) (O:Yt) (T:Zu) (p:FuncId×OrcS):Prop:=
 ∀ as H alts,p.2 as H=some alts->∀ rs H',wp alts (fun rs H=>some (rs,H))=some (rs,H')->∃ k,TM.evF P (zT base O T) dOk k p.1 as H=some (rs,H')
theorem tn_orc {O':Yt} {T':Zu} (ok0:TnOk P (zT base O T) (mkA base) dOk) (ok:TnOk P (zT base O' T') (mkA base) dOk) {p:FuncId×OrcS} (hn:NewOrc P dOk base O T p):TnOk P (zT base (p::O') T') (mkA base) dOk where
 an f:=rfl
 rj f:=ok.rj f
 iso f:=ok.iso f
 rf:=ok.rf
 self:=ok.self
 orc f:=by
  intro g args H q hq rs H' hq1
  simp only [zT,lookO] at hq
  split at hq
  ·rename_i x hx
   cases hq
   rcases cond_some.1 hx with ⟨hb,hx⟩ | ⟨_,hx⟩
   ·rw [zj hb]
    obtain ⟨k,hk⟩:=hn args H q hx rs H' hq1
    exact ZB ok0 k p.1 args H rs H' hk
   ·cases hx
  ·exact ok.orc f g args H q hq rs H' hq1
 tell f fn code h1 h2 p hp:=ok.tell f fn code h1 h2 p (by rw [zX (A:=zT base O' T' f) (B:=zT base (_::O') T' f) rfl];exact hp)
def Ym (P:Program) (A:TAn) (f:FuncId) (key:Nat):Option (Code×Nat):=
 (P.funcs[f]?).bind fun fn=>fn.body.bind fun code=>match (ze A 0 code).filter fun p=>Nat.beq p.1 key with
 | [p]=>some p.2
 | _=>none
def NewTell (P:Program) (dOk:FAn->Array Oper->Bool) (base:List (FuncId×TAn)) (O:Yt) (T:Zu) (p:(FuncId×Nat)×TellS):Prop:=
 ∃ c blk,Ym P (zT base O T p.1.1) p.1.1 p.1.2=some (c,blk)/\∀ s alts e s',p.2 s=some alts->xm alts (fun e s=>some (e,s))=some (e,s')->
  ∃ k,ZC P (zT base O T p.1.1) (TM.evF P (zT base O T) dOk k) dOk k p.1.2 c blk s (fun e s=>wA P (zT base O T p.1.1) (Ug p.1.2 e) s fun s=>some (e,s))=some (e,s')
theorem xq {A:TAn}:∀ {c:Code} {blk:Nat} {p:Nat×Code×Nat},p∈ze A blk c->∀ q∈ze A p.2.2 p.2.1,q∈ze A blk c
 | .loop b,blk,p,hp,q,hq=>by
  simp only [ze,List.mem_cons] at hp ⊢
  rcases hp with rfl | hp
  ·simp only [ze,List.mem_cons] at hq;exact hq
  ·exact .inr (xq hp q hq)
 | .seq a b,blk,p,hp,q,hq=>by
  simp only [ze,List.mem_append] at hp ⊢
  rcases hp with (hp | hp) | hp
  ·exact .inl (.inl (xq hp q hq))
  ·split at hp
   ·rename_i id _
    cases hc:A.cuts.contains id with
    | true=>rw [hc] at hp;simp at hp;subst hp;exact .inr hq
    | false=>rw [hc] at hp;simp at hp
   ·simp at hp
  ·exact .inr (xq hp q hq)
 | .cond _ a b,blk,p,hp,q,hq=>by
  simp only [ze,List.mem_append] at hp ⊢
  rcases hp with hp | hp
  ·exact .inl (xq hp q hq)
  ·exact .inr (xq hp q hq)
 | .block id b,blk,p,hp,q,hq=>by
  simp only [ze] at hp ⊢;exact xq hp q hq
 | .skip,_,_,hp,_,_=>by simp [ze] at hp
 | .region _ _ _,_,_,hp,_,_=>by simp [ze] at hp
 | .rangeFunc _ _ a b,blk,p,hp,q,hq=>by
  simp only [ze,List.mem_append] at hp ⊢
  rcases hp with hp | hp
  ·exact .inl (xq hp q hq)
  ·exact .inr (xq hp q hq)
 | .exit _,_,_,hp,_,_=>by simp [ze] at hp
 | .scope b,blk,p,hp,q,hq=>by
  simp only [ze] at hp ⊢;exact xq hp q hq
 | .label _,_,_,hp,_,_=>by simp [ze] at hp
 | .goto _,_,_,hp,_,_=>by simp [ze] at hp
 | .ret,_,_,hp,_,_=>by simp [ze] at hp
 | .refuse _,_,_,hp,_,_=>by simp [ze] at hp
theorem xu {A:TAn}:∀ {c:Code} {blk:Nat} {p:Nat×Code×Nat},p∈ze A blk c->∀ q∈rfs p.2.1,q∈rfs c
 | .loop b,blk,p,hp,q,hq=>by
  simp only [ze,List.mem_cons] at hp
  simp only [rfs]
  rcases hp with rfl | hp
  ·exact hq
  ·exact xu hp q hq
 | .seq a b,blk,p,hp,q,hq=>by
  simp only [ze,List.mem_append] at hp
  simp only [rfs,List.mem_append]
  rcases hp with (hp | hp) | hp
  ·exact .inl (xu hp q hq)
  ·split at hp
   ·rename_i id _
    cases hc:A.cuts.contains id with
    | true=>rw [hc] at hp;simp at hp;subst hp;exact .inr hq
    | false=>rw [hc] at hp;simp at hp
   ·simp at hp
  ·exact .inr (xu hp q hq)
 | .cond _ a b,blk,p,hp,q,hq=>by
  simp only [ze,List.mem_append] at hp
  simp only [rfs,List.mem_append]
  rcases hp with hp | hp
  ·exact .inl (xu hp q hq)
  ·exact .inr (xu hp q hq)
 | .block id b,blk,p,hp,q,hq=>by
  simp only [ze] at hp;simp only [rfs];exact xu hp q hq
 | .rangeFunc _ _ a b,blk,p,hp,q,hq=>by
  simp only [ze,List.mem_append] at hp
  simp only [rfs,List.mem_cons,List.mem_append]
  rcases hp with hp | hp
  ·exact .inr (.inl (xu hp q hq))
  ·exact .inr (.inr (xu hp q hq))
 | .skip,_,_,hp,_,_=>by simp [ze] at hp
 | .region _ _ _,_,_,hp,_,_=>by simp [ze] at hp
 | .exit _,_,_,hp,_,_=>by simp [ze] at hp
 | .scope b,blk,p,hp,q,hq=>by
  simp only [ze] at hp;simp only [rfs];exact xu hp q hq
 | .label _,_,_,hp,_,_=>by simp [ze] at hp
 | .goto _,_,_,hp,_,_=>by simp [ze] at hp
 | .ret,_,_,hp,_,_=>by simp [ze] at hp
 | .refuse _,_,_,hp,_,_=>by simp [ze] at hp
theorem tn_tell {O':Yt} {T':Zu} (ok:TnOk P (zT base O T) (mkA base) dOk) (ok':TnOk P (zT base O' T') (mkA base) dOk) {p:(FuncId×Nat)×TellS} (hn:NewTell P dOk base O T p):TnOk P (zT base O' (p::T')) (mkA base) dOk where
 an f:=rfl
 rj f:=ok'.rj f
 iso f:=ok'.iso f
 rf:=ok'.rf
 self:=ok'.self
 orc f:=ok'.orc f
 tell f fn code h1 h2 q hq:=by
  have hq':q∈ze (zT base O T f) 0 code:=by rw [zX (A:=zT base O T f) (B:=zT base O' (p::T') f) rfl];exact hq
  have hold:=ok.tell f fn code h1 h2
  have hq2:q∈ze (zT base O' T' f) 0 code:=by rw [zX (A:=zT base O' T' f) (B:=zT base O' (p::T') f) rfl];exact hq
  have hold':=ok'.tell f fn code h1 h2
  intro s alts e s' ht hp J0 Z0 H0 h0 J Z a qa
  simp only [zT,lookT] at ht
  split at ht
  ·rename_i x hx
   cases ht
   rcases cond_some.1 hx with ⟨hb,hx1⟩ | ⟨_,hx1⟩
   ·rcases cond_some.1 hx1 with ⟨hb2,hx2⟩ | ⟨_,hx2⟩
    ·have ef:=zj hb
     have ek:=zj hb2
     subst ef
     obtain ⟨c,blk,hpc,hall⟩:=hn
     obtain ⟨k,hk⟩:=hall s alts e s' hx2 hp
     have hqc:q.2=(c,blk):=by
      unfold Ym at hpc
      rw [h1,Option.bind_some,h2,Option.bind_some] at hpc
      split at hpc
      ·rename_i p0 hf
       have hpc:=Option.some.inj hpc
       have:q∈(ze (zT base O T p.1.1) 0 code).filter fun x=>Nat.beq x.1 p.1.2:=List.mem_filter.2 ⟨hq',hb2⟩
       rw [hf] at this
       simp only [List.mem_singleton] at this
       rw [this,hpc]
      ·cases hpc
     obtain ⟨qk,qc,qb⟩:=q
     cases hqc
     simp only at ek
     subst ek
     have hsub:∀ x∈ze (zT base O T p.1.1) blk c,xf P (zT base O T p.1.1) (mkA base) dOk x:=fun x hx=>hold x (xq hq' x hx)
     have hrj:∀ f,(mkA base f).rj=[]:=fun f=>ok.rj f
     have hrf:∀ x∈rfs c,Zq P (zT base O T p.1.1).a.self x.1=some x.2:=fun x hx=>ok.rf p.1.1 fn code h1 h2 x (xu hq' x hx)
     have fin:Led P (zT base O T p.1.1) (mkA base) dOk J0 Z0 H0 h0 c blk a (fun e s=>wA P (zT base O T p.1.1) (Ug p.1.2 e) s fun s=>some (e,s)) (e,s')->
       ∃ k a' J' Z',StR P J0 Z0 H0 h0 J' Z' (xR (zT base O T p.1.1).nt s') a'/\AM.evCode P (zT base O' (p::T') p.1.1).a (AM.evF P (mkA base) dOk k) dOk k c blk a (fun e s=>some (e,s))=some (e,a'):=by
      rintro ⟨k,e1,s1,a1,J1,Z1,hK,q1,he⟩
      obtain ⟨s2,J2,Z2,hK,q2⟩:=Ze q1 hK
      cases hK
      exact ⟨k,a1,J2,Z2,q2,he⟩
     refine fin ?_
     unfold ZC at hk
     rcases cond_some.1 hk with ⟨hm,hk⟩ | ⟨hm,hk⟩
     ·simp only [hm,cond_true] at qa
      split at hk
      ·rename_i b _
       exact loop_rel (b:=b) hrj (ok.rj _) (ok.iso _) (ZB ok k) (ok.orc _) (fun x hx=>hsub x (by simp only [ze,List.mem_cons];exact .inr hx)) (fun x hx=>hrf x hx) k qa hk
      ·cases hk
     ·simp only [hm,cond_false] at qa
      exact yq hrj (ok.rj _) (ok.iso _) (ZB ok k) (ok.orc _) c blk hsub hrf qa hk
    ·cases hx2
   ·cases hx1
  ·exact hold' q hq2 s alts e s' ht hp J0 Z0 H0 h0 J Z a qa
end
noncomputable section
def fnBody (P:Program) (A:TAn) (ev:TEv) (dOk:FAn->Array Oper->Bool) (k:Nat) (f:FuncId) (args:List TA) (h:TH):Option (List TA×TH):=
 (P.funcs[f]?).bind fun fn=>fn.body.bind fun code=>guardB (Uk A.a fn args.length)<|
  evCode P A ev dOk k code 0 (enterSt fn args h) (kFin P A fn fun rs h=>some (rs,h))
theorem fn_eq {P:Program} {Tn:FuncId->TAn} {dOk:FAn->Array Oper->Bool} {k:Nat} {f:FuncId} {args:List TA} {h:TH} (hf:Nat.beq f YF=false):TM.evF P Tn dOk (k+1) f args h=fnBody P (Tn f) (TM.evF P Tn dOk k) dOk k f args h:=by
 simp only [TM.evF,hf,cond_false]
 rfl
theorem fnY_eq {P:Program} {Tn:FuncId->TAn} {dOk:FAn->Array Oper->Bool} {k:Nat} {args:List TA} {h:TH}:TM.evF P Tn dOk (k+1) YF args h=evY P Tn (TM.evF P Tn dOk k) dOk k args h:=by
 have hf:Nat.beq YF YF=true:=by decide +kernel
 simp only [TM.evF,hf,cond_true]
section
variable {R : Type} (P : Program) (A : TAn) (ev : TEv) (dOk : FAn -> Array Oper -> Bool)
def Uc (k:Nat) (b:Code) (blk key:Nat) (s:CS) (cN:CS->Option R) (cX:Ex->CS->Option R):Option R:=
 evCode P A ev dOk k b blk (xR A.nt s) fun e s=>match e with
  | .normal=>wZ P A blk s cN
  | e=>wA P A (Ug key e) s (cX e)
def outK (key:Nat) (e:Ex) (s:TS):Option (Ex×CS):=wA P A (Ug key e) s fun s=>some (e,s)
def UJ (k:Nat) (b:Code) (blk key n:Nat) (s:CS):Option (Ex×CS):=loopN A.nt (fun s c=>wZ P A blk s c) (evCode P A ev dOk k b blk) (outK P A key) n s
theorem loop_step {k:Nat} {b:Code} {blk key n:Nat} {s:CS}:UJ P A ev dOk k b blk key (n+1) s=Uc P A ev dOk k b blk key s (UJ P A ev dOk k b blk key n) (fun e s=>some (e,s)):=by
 unfold UJ Uc
 simp only [loopN]
 apply congrArg
 funext e s'
 cases e<;>rfl
def QD (k:Nat) (c:Code) (blk key:Nat) (s:CS) (cX:Ex->CS->Option R):Option R:=
 evCode P A ev dOk k c blk (xR A.nt s) fun e s=>wA P A (Ug key e) s (cX e)
end
theorem evPiece_loop {P:Program} {A:TAn} {ev:TEv} {dOk:FAn->Array Oper->Bool} {k key blk:Nat} {b:Code} {s:CS} (h:Nat.beq (key % 8) 0=true) :
  ZC P A ev dOk k key (.loop b) blk s (fun e s=>wA P A (Ug key e) s fun s=>some (e,s))=UJ P A ev dOk k b blk key k s:=by
 unfold ZC;rw [h];rfl
theorem evPiece_code {P:Program} {A:TAn} {ev:TEv} {dOk:FAn->Array Oper->Bool} {k key blk:Nat} {c:Code} {s:CS} (h:Nat.beq (key % 8) 0=false) :
  ZC P A ev dOk k key c blk s (fun e s=>wA P A (Ug key e) s fun s=>some (e,s))=QD P A ev dOk k c blk key s (fun e s=>some (e,s)):=by
 unfold ZC;rw [h];rfl
def codeAt (P:Program) (A:TAn) (f:FuncId) (key:Nat):Code:=match Ym P A f key with | some (.loop b,_)=>cond (Nat.beq (key % 8) 0) b (.loop b) | some (c,_)=>c | none=>.skip
def ok {α:Type} (x:Option α):Bool:=x.isSome
def val {α:Type} [Inhabited α] (x:Option α):α:=x.getD default
def isL {α β:Type} (x:Option (α ⊕ β)):Bool:=match x with | some (.inl _)=>true | _=>false
def zx {α β:Type} [Inhabited α] (x:Option (α ⊕ β)):α:=match x with | some (.inl a)=>a | _=>default
def zB {α β:Type} (x:Option (α ⊕ β)):Option β:=match x with | some (.inr b)=>some b | _=>none
theorem ok_val {α:Type} [Inhabited α] {x:Option α} (h:ok x=true):x=some (val x):=by
 cases x with
 | none=>cases h
 | some a=>rfl
theorem Tx {α β:Type} [Inhabited α] {x:Option (α ⊕ β)} (h:isL x=true):x=some (.inl (zx x)):=by
 cases x with
 | none=>cases h
 | some a=>cases a with
  | inl a=>rfl
  | inr b=>cases h
theorem VY {α β:Type} {x:Option (α ⊕ β)} {b:β} (h:zB x=some b):x=some (.inr b):=by
 cases x with
 | none=>cases h
 | some a=>cases a with
  | inl a=>cases h
  | inr b=>cases h;rfl
def FU:Nat:=18446744073709551616
end
end Go.TM
