/- The typed machine's values and the abstract machine's: what it is that one stands for the other; that this abides more memory. -/
import Derived.Test.YtpfphfobneehmaaB0
import Derived.Below
import Derived.WalkKit
import Derived.Laws.CopyRow
import Derived.Laws.IdiomCopy
import Derived.Laws.MakeOwn
import Derived.Deep.AppendSrc
set_option linter.all false
namespace Go.TM
open Go Go.AM
def Seg {α:Type} (R:α->List Sc->Prop):List α->List Sc->Prop
 | [],cs=>cs=[]
 | x::xs,cs=>∃ a b,cs=a++b/\R x a/\Seg R xs b
def rowE (e:TypeId):AO->Prop
 | .row true e' _=>e=e'
 | .row false _ _ | .box _ _=>True
 | _=>False
def SlR (P:Program) (h:AH) (Z:Nat->Prop) (e:TypeId) (z:Nat) {α:Type} (R:α->List Sc->Prop) (xs:List α) (s:Sc):Prop:=
 (xs=[]/\∃ b,s=.nils b)\/∃ id off o cs,s=.sl id off xs.length/\Z id/\h[id]?=some o/\rowE e o/\zU o=some cs/\z=P.cellsOf e/\off+xs.length*z<=cs.length/\Seg R xs ((cs.drop off).take (xs.length*z))
def DR (P:Program) (h:AH) (Z:Nat->Prop):(t:Ty)->t.T->List Sc->Prop
 | .int k,n,cs=>cs=[.int k n]
 | .bool,b,cs=>cs=[.bool b]
 | .str,s,cs=>cs=[.str s]
 | .list e t,xs,cs=>∃ s,cs=[s]/\SlR P h Z e t.size (DR P h Z t) xs s
 | .pair a b,p,cs=>∃ x y,cs=x++y/\DR P h Z a p.1 x/\DR P h Z b p.2 y
 | .unit,_,cs=>cs=[]
structure JE where
 v:Bool
 id:Nat
 off:Nat
 n:Nat
 z:Nat
mutual
def CR (P:Program) (h:AH) (Z:Nat->Prop) (J:List JE):TC->Sc->Prop
 | .bool b,s=>s=.bool b
 | .int k n,s=>s=.int k n
 | .str b,s=>s=.str b
 | .d e t xs,s=>SlR P h Z e t.size (DR P h Z t) xs s
 | .nil,s=>∃ b,s=.nils b
 | .g id,s=>∃ je,J[id]?=some je/\((je.v=true/\∃ b,s=.nils b)\/(je.v=false/\s=.sl je.id je.off je.n))
 | .sl id o n,s=>∃ je,J[id]?=some je/\((je.v=true/\n=0/\∃ b,s=.nils b)\/(je.v=false/\s=.sl je.id (je.off+o*je.z) n))
 | .sc id o n,s=>∃ je,J[id]?=some je/\je.v=false/\s=.sl je.id o n
 | .ptr id o,s=>∃ je,J[id]?=some je/\je.v=false/\s=.ptr je.id o
 | .fn f nf sh cs,s=>∃ ss,s=.fn (.func f) nf sh ss/\CRs P h Z J cs ss
 | .yl id,s=>∃ je,J[id]?=some je/\je.v=false/\s=.fn (.yield je.id) 0 [] []
 | .nilp,s=>s=.nilp
 | .nilf,s=>s=.nilf
 | .nili,s=>s=.nili
def CRs (P:Program) (h:AH) (Z:Nat->Prop) (J:List JE):List TC->List Sc->Prop
 | [],[]=>True
 | x::xs,v::vs=>CR P h Z J x v/\CRs P h Z J xs vs
 | [],_::_=>False
 | _::_,[]=>False
end
def AR (P:Program) (h:AH) (Z:Nat->Prop) (J:List JE):TA->AV->Prop
 | .sc c,v=>∃ s,v=.sc s/\CR P h Z J c s
 | .agg cs,v=>∃ ss,v=.agg ss/\CRs P h Z J cs ss
def ARs (P:Program) (h:AH) (Z:Nat->Prop) (J:List JE):List TA->List AV->Prop
 | [],[]=>True
 | x::xs,v::vs=>AR P h Z J x v/\ARs P h Z J xs vs
 | [],_::_=>False
 | _::_,[]=>False
def YU:AM.SV->Bool
 | .l _ _ | .s _ _=>true
 | _=>false
def SR (P:Program) (h:AH) (Z:Nat->Prop) (J:List JE):TV->AM.SV->Prop
 | .u,v=>YU v=false
 | .w,_=>True
 | .no,v=>v=.no
 | .v a,v=>∃ x,v=.v x/\AR P h Z J a x
 | .t vs,v=>∃ xs,v=.t xs/\ARs P h Z J vs xs
 | .l k o,v=>v=.l k o
 | .s k n,v=>v=.s k n
 | .e t xs i off,v=>∃ id o ob cs,v=.v (.sc (.ptr id (o+i*t.size+off)))/\Z id/\h[id]?=some ob/\zU ob=some cs/\o+xs.length*t.size<=cs.length/\i < xs.length/\Seg (DR P h Z t) xs ((cs.drop o).take (xs.length*t.size))
 | .p id i off,v=>∃ je,J[id]?=some je/\je.v=false/\v=.v (.sc (.ptr je.id (je.off+i*je.z+off)))
def TO.live:TO->Bool
 | .dead=>false
 | _=>true
def PeR:Option Ex->Option Code->Prop
 | none,c=>c=none
 | some (.exit i),c=>c=some (.exit i)
 | some .ret,c=>c=some .ret
 | some .normal,_=>False
def OR (P:Program) (h:AH) (Z:Nat->Prop) (J:List JE) (je:JE):TO->Prop
 | .row e t xs=>je.z=t.size/\je.n=xs.length/\t.size=P.cellsOf e/\(P.info? e).isSome=true/\((je.v=true/\xs=[])\/(je.v=false/\∃ cs,h[je.id]?=some (.row true e cs)/\cs.length=je.off+xs.length*t.size/\Seg (DR P h Z t) xs (cs.drop je.off)))
 | .crow e cells=>je.v=false/\∃ cs,h[je.id]?=some (.row true e cs)/\CRs P h Z J cells cs
 | .box e cells=>je.v=false/\∃ cs,h[je.id]?=some (.box e cs)/\CRs P h Z J cells cs
 | .dead=>True
 | .loop st pe f key nt sl=>je.v=false/\∃ al,h[je.id]?=some (.loop al)/\al.st=st/\PeR pe al.pend/\al.fn=f/\Zq P f key=some (al.params,al.assign,al.body)/\
   (∀ i,(al.sl.get i).isSome=((ZJ nt).get i).isSome)/\(∀ i x,al.sl.get i=some x->YU x=false)/\∀ p∈sl,∃ x,al.sl.get p.1=some x/\SR P h Z J p.2 x
structure HR (P:Program) (J:List JE) (Z:Nat->Prop) (H:TH) (h:AH):Prop where
 len:J.length=H.length
 obj:∀ (i:Nat) o je,H[i]?=some o->J[i]?=some je->OR P h Z J je o
 uniq:∀ (i j:Nat) o o' je je',H[i]?=some o->H[j]?=some o'->o.live=true->o'.live=true->J[i]?=some je->J[j]?=some je'->je.v=false->je'.v=false->je.id=je'.id->i=j
 sep:∀ (i:Nat) o je,H[i]?=some o->o.live=true->J[i]?=some je->je.v=false->¬ Z je.id
 zlt:∀ id,Z id->id < h.length
def OwnJ (J:List JE) (H:TH) (id:Nat):Prop:=∃ (i:Nat) (o:TO) (je:JE),H[i]?=some o/\o.live=true/\J[i]?=some je/\je.v=false/\je.id=id
structure Kp (J0:List JE) (Z0:Nat->Prop) (H0:TH) (h0:AH) (J:List JE) (Z:Nat->Prop) (H:TH) (h:AH):Prop where
 len:h0.length<=h.length
 pre:J0 <+: J
 same:∀ id,id < h0.length->¬ OwnJ J0 H0 id->h[id]?=h0[id]?
 own:∀ id,OwnJ J H id->OwnJ J0 H0 id\/h0.length<=id
 zin:∀ id,Z0 id->Z id
 zout:∀ id,Z id->Z0 id\/OwnJ J0 H0 id\/h0.length<=id
structure StR (P:Program) (J0:List JE) (Z0:Nat->Prop) (H0:TH) (h0:AH) (J:List JE) (Z:Nat->Prop) (s:TS) (a:AM.St):Prop where
 tm:∀ (i:Nat) v,s.sl.get i=some v->∃ x,a.sl.get i=some x/\SR P a.h Z J v x
 mt:∀ (i:Nat) x,a.sl.get i=some x->∃ v,s.sl.get i=some v
 lo:∀ (k:Nat) cs,s.lo.get k=some (some cs)->∃ cs',a.lo.get k=some (some cs')/\CRs P a.h Z J cs cs'
 lt:∀ (k:Nat) x,s.lo.get k=some x->∃ y,a.lo.get k=some y
 hp:HR P J Z s.h a.h
 kp:Kp J0 Z0 H0 h0 J Z s.h a.h
 n0:s.n0=H0.length
 j0:J0.length=H0.length
structure Ext (h:AH) (Z:Nat->Prop) (h':AH) (Z':Nat->Prop):Prop where
 z:∀ id,Z id->Z' id
 same:∀ id,Z id->h'[id]?=h[id]?
theorem Ext.refl (h:AH) (Z:Nat->Prop):Ext h Z h Z:=⟨fun _ h=>h,fun _ _=>rfl⟩
theorem Ext.trans {h h1 h2:AH} {Z Z1 Z2:Nat->Prop} (a:Ext h Z h1 Z1) (b:Ext h1 Z1 h2 Z2):Ext h Z h2 Z2:=
 ⟨fun id h=>b.z id (a.z id h),fun id h=>(b.same id (a.z id h)).trans (a.same id h)⟩
variable {P : Program} {h h' : AH} {Z Z' : Nat -> Prop} {J J' : List JE}
theorem Seg.mono {α:Type} {R R':α->List Sc->Prop} (hr:∀ x cs,R x cs->R' x cs):∀ {xs:List α} {cs:List Sc},Seg R xs cs->Seg R' xs cs
 | [],_,h=>h
 | _::_,_,⟨a,b,h1,h2,h3⟩=>⟨a,b,h1,hr _ _ h2,Seg.mono hr h3⟩
theorem SlR.mono (x:Ext h Z h' Z') {e:TypeId} {z:Nat} {α:Type} {R R':α->List Sc->Prop} (hr:∀ x cs,R x cs->R' x cs) {xs:List α} {s:Sc} (r:SlR P h Z e z R xs s):SlR P h' Z' e z R' xs s:=by
 rcases r with r | ⟨id,off,o,cs,h1,h2,h3,h4,h5,h6,h7,h8⟩
 ·exact .inl r
 ·exact .inr ⟨id,off,o,cs,h1,x.z _ h2,(x.same _ h2).trans h3,h4,h5,h6,h7,h8.mono hr⟩
theorem DR.mono (x:Ext h Z h' Z'):∀ (t:Ty) {d:t.T} {cs:List Sc},DR P h Z t d cs->DR P h' Z' t d cs
 | .int _,_,_,r=>r
 | .bool,_,_,r=>r
 | .str,_,_,r=>r
 | .list e t,_,_,⟨s,h1,h2⟩=>⟨s,h1,h2.mono x fun _ _=>DR.mono x t⟩
 | .pair a b,_,_,⟨p,q,h1,h2,h3⟩=>⟨p,q,h1,DR.mono x a h2,DR.mono x b h3⟩
 | .unit,_,_,r=>r
theorem zu {α:Type} {I I':List α} (h:I <+: I') {i:Nat} {x:α} (hx:I[i]?=some x):I'[i]?=some x:=by
 obtain ⟨t,rfl⟩:=h
 rw [List.getElem?_append_left (List.getElem?_eq_some_iff.1 hx).1];exact hx
mutual
theorem CR.mono (x:Ext h Z h' Z') (p:J <+: J'):∀ (c:TC) (s:Sc),CR P h Z J c s->CR P h' Z' J' c s
 | .bool _,_,r=>r
 | .int _ _,_,r=>r
 | .str _,_,r=>r
 | .d e t xs,_,r=>SlR.mono x (fun _ _=>DR.mono x t) r
 | .nil,_,r=>r
 | .g _,_,⟨je,h1,h2⟩=>⟨je,zu p h1,h2⟩
 | .sl _ _ _,_,⟨je,h1,h2⟩=>⟨je,zu p h1,h2⟩
 | .sc _ _ _,_,⟨je,h1,h2⟩=>⟨je,zu p h1,h2⟩
 | .ptr _ _,_,⟨je,h1,h2⟩=>⟨je,zu p h1,h2⟩
 | .fn _ _ _ cs,_,⟨ss,h1,h2⟩=>⟨ss,h1,CRs.mono x p cs ss h2⟩
 | .yl _,_,⟨je,h1,h2⟩=>⟨je,zu p h1,h2⟩
 | .nilp,_,r=>r
 | .nilf,_,r=>r
 | .nili,_,r=>r
theorem CRs.mono (x:Ext h Z h' Z') (p:J <+: J'):∀ (c:List TC) (s:List Sc),CRs P h Z J c s->CRs P h' Z' J' c s
 | [],[],_=>trivial
 | c::cs,s::ss,⟨h1,h2⟩=>⟨CR.mono x p c s h1,CRs.mono x p cs ss h2⟩
 | [],_::_,r=>r
 | _::_,[],r=>r
end
theorem AR.mono (x:Ext h Z h' Z') (p:J <+: J') {c:TA} {s:AV} (r:AR P h Z J c s):AR P h' Z' J' c s:=by
 cases c with
 | sc c=>obtain ⟨s',h1,h2⟩:=r;exact ⟨s',h1,CR.mono x p _ _ h2⟩
 | agg cs=>obtain ⟨s',h1,h2⟩:=r;exact ⟨s',h1,CRs.mono x p _ _ h2⟩
theorem ARs.mono (x:Ext h Z h' Z') (p:J <+: J'):∀ {c:List TA} {s:List AV},ARs P h Z J c s->ARs P h' Z' J' c s
 | [],[],_=>trivial
 | _::_,_::_,⟨h1,h2⟩=>⟨h1.mono x p,ARs.mono x p h2⟩
 | [],_::_,r=>r.elim
 | _::_,[],r=>r.elim
theorem SR.mono (x:Ext h Z h' Z') (p:J <+: J') {c:TV} {s:AM.SV} (r:SR P h Z J c s):SR P h' Z' J' c s:=by
 cases c with
 | u=>exact r
 | w=>exact r
 | no=>exact r
 | v a=>obtain ⟨s',h1,h2⟩:=r;exact ⟨s',h1,h2.mono x p⟩
 | t vs=>obtain ⟨s',h1,h2⟩:=r;exact ⟨s',h1,h2.mono x p⟩
 | l k o=>exact r
 | s k n=>exact r
 | e t xs i off=>obtain ⟨id,o,ob,cs,h1,h2,h3,h4,h5,h6,h7⟩:=r;exact ⟨id,o,ob,cs,h1,x.z _ h2,(x.same _ h2).trans h3,h4,h5,h6,h7.mono fun _ _=>DR.mono x t⟩
 | p id i off=>obtain ⟨je,h1,h2⟩:=r;exact ⟨je,zu p h1,h2⟩
theorem CRs.length:∀ {c:List TC} {s:List Sc},CRs P h Z J c s->c.length=s.length
 | [],[],_=>rfl
 | _::_,_::_,⟨_,h2⟩=>by simp [CRs.length h2]
 | [],_::_,r=>by simp [CRs] at r
 | _::_,[],r=>by simp [CRs] at r
theorem ARs.length:∀ {c:List TA} {s:List AV},ARs P h Z J c s->c.length=s.length
 | [],[],_=>rfl
 | _::_,_::_,⟨_,h2⟩=>by simp [ARs.length h2]
 | [],_::_,r=>r.elim
 | _::_,[],r=>r.elim
theorem CRs.append:∀ {c d:List TC} {s t:List Sc},CRs P h Z J c s->CRs P h Z J d t->CRs P h Z J (c++d) (s++t)
 | [],_,[],_,_,k=>k
 | _::_,_,_::_,_,h,k=>by simp only [CRs,List.cons_append] at h ⊢;exact ⟨h.1,CRs.append h.2 k⟩
 | [],_,_::_,_,h,_=>by simp [CRs] at h
 | _::_,_,[],_,h,_=>by simp [CRs] at h
theorem CRs.take (n:Nat):∀ {c:List TC} {s:List Sc},CRs P h Z J c s->CRs P h Z J (c.take n) (s.take n):=by
 induction n with
 | zero=>intro c s _;simp [CRs]
 | succ n ih=>intro c s h;cases c<;>cases s<;>simp_all [CRs]
theorem CRs.drop (n:Nat):∀ {c:List TC} {s:List Sc},CRs P h Z J c s->CRs P h Z J (c.drop n) (s.drop n):=by
 induction n with
 | zero=>intro c s h;simpa using h
 | succ n ih=>intro c s h;cases c<;>cases s<;>simp_all [CRs]
theorem CRs.get:∀ {c:List TC} {s:List Sc},CRs P h Z J c s->∀ {i:Nat} {x:TC},c[i]?=some x->∃ y,s[i]?=some y/\CR P h Z J x y
 | [],[],_,_,_,h=>by simp at h
 | a::_,b::_,⟨h1,h2⟩,i,x,h=>by
  cases i with
  | zero=>simp at h;subst h;exact ⟨b,rfl,h1⟩
  | succ i=>simpa using CRs.get h2 (by simpa using h)
 | [],_::_,r,_,_,_=>by simp [CRs] at r
 | _::_,[],r,_,_,_=>by simp [CRs] at r
theorem CRs.splice {c v:List TC} {cs vs:List Sc} (off:Nat) (h1:CRs P h Z J c cs) (k:CRs P h Z J v vs):CRs P h Z J (AM.splice c off v) (AM.splice cs off vs):=by
 unfold AM.splice
 rw [k.length]
 exact ((h1.take off).append k).append (h1.drop _)
theorem CRs.set {c:List TC} {s:List Sc} (r:CRs P h Z J c s) {j:Nat} {x:TC} {y:Sc} (hx:CR P h Z J x y) (hy:s[j]?=some y):CRs P h Z J (c.set j x) s:=by
 induction c generalizing s j with
 | nil=>simpa using r
 | cons a c ih=>
  cases s with
  | nil=>simp [CRs] at r
  | cons b s=>
   simp only [CRs] at r
   cases j with
   | zero=>simp at hy;subst hy;simp only [List.set_cons_zero,CRs];exact ⟨hx,r.2⟩
   | succ j=>simp only [List.set_cons_succ,CRs];exact ⟨r.1,ih r.2 (by simpa using hy)⟩
theorem AR.cells {c:TA} {s:AV} (r:AR P h Z J c s):CRs P h Z J c.cells s.cells:=by
 cases c with
 | sc c=>obtain ⟨s',rfl,h2⟩:=r;simp only [TA.cells,AV.cells,CRs];exact ⟨h2,trivial⟩
 | agg cs=>obtain ⟨s',rfl,h2⟩:=r;exact h2
theorem AR.shape {c:TA} {s:AV} (r:AR P h Z J c s):TM.shapeOf c=AM.shapeOf s:=by
 cases c with
 | sc c=>obtain ⟨s',rfl,h2⟩:=r;rfl
 | agg cs=>obtain ⟨s',rfl,h2⟩:=r;simp only [TM.shapeOf,AM.shapeOf,h2.length]
theorem DR.length:∀ (t:Ty) {d:t.T} {cs:List Sc},DR P h Z t d cs->cs.length=t.size
 | .int _,_,_,r=>by simp only [DR] at r;subst r;rfl
 | .bool,_,_,r=>by simp only [DR] at r;subst r;rfl
 | .str,_,_,r=>by simp only [DR] at r;subst r;rfl
 | .list e t,_,_,⟨s,h1,_⟩=>by subst h1;rfl
 | .pair a b,_,_,⟨p,q,h1,h2,h3⟩=>by subst h1;simp [Ty.size,DR.length a h2,DR.length b h3]
 | .unit,_,_,r=>by simp only [DR] at r;subst r;rfl
theorem DR.cells:∀ (t:Ty) {d:t.T} {cs:List Sc},DR P h Z t d cs->CRs P h Z J (t.cells d) cs
 | .int _,_,_,r=>by simp only [DR] at r;subst r;simp [Ty.cells,CRs,CR]
 | .bool,_,_,r=>by simp only [DR] at r;subst r;simp [Ty.cells,CRs,CR]
 | .str,_,_,r=>by simp only [DR] at r;subst r;simp [Ty.cells,CRs,CR]
 | .list e t,_,_,⟨s,h1,h2⟩=>by subst h1;simp only [Ty.cells,CRs,CR];exact ⟨h2,trivial⟩
 | .pair a b,_,_,⟨p,q,h1,h2,h3⟩=>by subst h1;exact (DR.cells a h2).append (DR.cells b h3)
 | .unit,_,_,r=>by simp only [DR] at r;subst r;simp [Ty.cells,CRs]
theorem Seg.length {α:Type} {R:α->List Sc->Prop} {z:Nat} (hz:∀ x cs,R x cs->cs.length=z):∀ {xs:List α} {cs:List Sc},Seg R xs cs->cs.length=xs.length*z
 | [],_,h=>by simp only [Seg] at h;subst h;simp
 | _::xs,_,⟨a,b,h1,h2,h3⟩=>by subst h1;simp [hz _ _ h2,Seg.length hz h3,Nat.succ_mul,Nat.add_comm]
theorem Seg.append {α:Type} {R:α->List Sc->Prop}:∀ {xs ys:List α} {c d:List Sc},Seg R xs c->Seg R ys d->Seg R (xs++ys) (c++d)
 | [],_,_,_,h,k=>by simp only [Seg] at h;subst h;exact k
 | x::xs,ys,_,d,⟨a,b,h1,h2,h3⟩,k=>⟨a,b++d,by rw [h1,List.append_assoc],h2,Seg.append h3 k⟩
theorem Seg.split {α:Type} {R:α->List Sc->Prop} {z:Nat} (hz:∀ x cs,R x cs->cs.length=z):∀ (n:Nat) {xs:List α} {c:List Sc},Seg R xs c->Seg R (xs.take n) (c.take (n*z))/\Seg R (xs.drop n) (c.drop (n*z))
 | 0,xs,c,h=>by simpa [Seg] using h
 | n+1,[],c,h=>by simp only [Seg] at h;subst h;simp [Seg]
 | n+1,x::xs,c,⟨a,b,h1,h2,h3⟩=>by
  obtain ⟨k1,k2⟩:=Seg.split hz n h3
  have ha:=hz _ _ h2
  subst h1
  have e:(n+1)*z=a.length+n*z:=by rw [ha,Nat.succ_mul,Nat.add_comm]
  rw [e]
  refine ⟨⟨a,b.take (n*z),?_,h2,k1⟩,?_⟩
  ·rw [List.take_append,List.take_of_length_le (by omega)];simp
  ·rw [List.drop_append,List.drop_of_length_le (l:=a) (by omega)];simpa using k2
theorem Seg.get {α:Type} {R:α->List Sc->Prop} {z:Nat} (hz:∀ x cs,R x cs->cs.length=z) {xs:List α} {c:List Sc} (r:Seg R xs c) {i:Nat} (hi:i < xs.length):R xs[i] ((c.drop (i*z)).take z):=by
 have h1:=(Seg.split hz i r).2
 rw [List.drop_eq_getElem_cons hi] at h1
 obtain ⟨a,b,e,h2,_⟩:=h1
 rw [e]
 have:=hz _ _ h2
 rw [List.take_left' this];exact h2
theorem Seg.set {α:Type} {R:α->List Sc->Prop} {z:Nat} (hz:∀ x cs,R x cs->cs.length=z) {xs:List α} {c:List Sc} (r:Seg R xs c) {i:Nat} (hi:i < xs.length) {x:α} {v:List Sc} (hx:R x v):Seg R (xs.set i x) (AM.splice c (i*z) v):=by
 obtain ⟨k1,k2⟩:=Seg.split hz i r
 obtain ⟨_,k3⟩:=Seg.split hz (i+1) r
 rw [List.set_eq_take_append_cons_drop,if_pos hi]
 unfold AM.splice
 have e:(i+1)*z=i*z+v.length:=by rw [hz _ _ hx,Nat.succ_mul]
 rw [e] at k3
 rw [List.append_assoc]
 exact k1.append ⟨v,_,rfl,hx,k3⟩
end Go.TM
namespace Go.AM
open Go
section
variable {R S : Type} (P : Program) (A : FAn) (ev : Ev) (dOk : FAn -> Array Oper -> Bool) (g : R -> Option S)
theorem evOps_bind (ops:Array Oper):∀ (l:List Oper) (s:St) (c:St->Option R),(evOps P A ev ops l s c).bind g=evOps P A ev ops l s fun s=>(c s).bind g
 | [],s,c=>rfl
 | o::r,s,c=>by
  simp only [evOps,setK_eq]
  split
  ·rw [evOp_bind];simp only [evOps_bind ops r]
  ·rename_i j w _
   simp only [Option.bind_assoc]
   congr 1;funext o1;congr 1;funext d;congr 1;funext x
   cases x with
   | v y=>cases y with
    | sc z=>cases z with
     | bool t=>cases w<;>cases t<;>simp [evOp_bind,evOps_bind ops r]
     | _=>rfl
    | agg _=>rfl
   | no=>simp [evOps_bind ops r]
   | _=>rfl
theorem QS (hrj:A.rj=[]) (id:Nat) (ops:Array Oper) (draw:Bool) (s:St) (c:St->Option R):(evRegion P A ev dOk id ops draw s c).bind g=evRegion P A ev dOk id ops draw s fun s=>(c s).bind g:=by
 simp only [evRegion,hrj,List.find?_nil,zg,evOps_bind]
theorem UK (m:St->St) (body:St->(Ex->St->Option R)->Option R) (body':St->(Ex->St->Option S)->Option S) (hb:∀ s c,(body s c).bind g=body' s fun e s=>(c e s).bind g) (c:Ex->St->Option R):∀ (n:Nat) (s:St),(loopN m body c n s).bind g=loopN m body' (fun e s=>(c e s).bind g) n s
 | 0,_=>rfl
 | n+1,s=>by
  simp only [loopN,hb]
  congr;funext e s'
  cases e<;>simp [UK m body body' hb c n]
theorem kSeq_bind (b:St->(Ex->St->Option R)->Option R) (b':St->(Ex->St->Option S)->Option S) (hb:∀ s c,(b s c).bind g=b' s fun e s=>(c e s).bind g) (c:Ex->St->Option R):(fun e s=>(kSeq b c e s).bind g)=kSeq b' (fun e s=>(c e s).bind g):=by
 funext e s;cases e<;>simp [kSeq,hb]
theorem kBlock_bind (id:Nat) (c:Ex->St->Option R):(fun e s=>(kBlock id c e s).bind g)=kBlock id (fun e s=>(c e s).bind g):=by
 funext e s;cases e with
 | exit i=>simp only [kBlock];cases Nat.beq i id<;>rfl
 | _=>rfl
theorem QT (s:St) (c:Ex->St->Option R) (h:AH):(rangeEnd s c h).bind g=rangeEnd s (fun e s=>(c e s).bind g) h:=by
 unfold rangeEnd
 split
 ·rw [zg]
  split<;>rfl
 ·rfl
theorem rangeK_bind (q:Operand) (ps:Array Tmp) (a b:Code) (s:St) (c:Ex->St->Option R):(rangeK A ev q ps a b s c).bind g=rangeK A ev q ps a b s fun e s=>(c e s).bind g:=by
 unfold rangeK
 simp only [Option.bind_assoc,yM,VN,zg,wz,QT]
theorem evCode_bind (hrj:A.rj=[]) (k:Nat):∀ (c:Code) (blk:Nat) (s:St) (K:Ex->St->Option R),(evCode P A ev dOk k c blk s K).bind g=evCode P A ev dOk k c blk s fun e s=>(K e s).bind g
 | .skip,_,s,K=>rfl
 | .label _,_,s,K=>rfl
 | .region id ops draw,_,s,K=>by simp only [evCode,QS _ _ _ _ _ hrj]
 | .seq a b,blk,s,K=>by simp only [evCode];rw [evCode_bind hrj k a,kSeq_bind g _ (evCode P A ev dOk k b blk) (fun s c=>evCode_bind hrj k b blk s c)]
 | .cond q a b,blk,s,K=>by
  simp only [evCode,Option.bind_assoc]
  congr;funext v
  cases v with
  | agg _=>rfl
  | sc v=>cases v with
   | bool t=>cases t<;>simp [asSc,asB,evCode_bind hrj k a,evCode_bind hrj k b]
   | _=>rfl
 | .block id b,_,s,K=>by simp only [evCode];rw [evCode_bind hrj k b,kBlock_bind]
 | .loop b,blk,s,K=>by simp only [evCode];rw [UK g _ _ (evCode P A ev dOk k b blk) fun s c=>evCode_bind hrj k b blk s c]
 | .exit id,_,s,K=>rfl
 | .ret,_,s,K=>rfl
 | .rangeFunc q ps a b,_,s,K=>by simp only [evCode];exact rangeK_bind A ev g q ps a b s K
 | .scope b,blk,s,K=>by simp only [evCode];rw [evCode_bind hrj k b]
 | .goto _,_,_,_=>rfl
 | .refuse _,_,_,_=>rfl
end
def Ti (ev ev':Ev):Prop:=∀ f as h r,ev f as h=some r->ev' f as h=some r
section
variable {P : Program} {A : FAn} {ev ev' : Ev} {dOk : FAn -> Array Oper -> Bool}
theorem guardB_true {R:Type} {b:Bool} {x:Option R} {r:R}:guardB b x=some r↔b=true/\x=some r:=by cases b<;>simp [guardB]
theorem callK_le (hle:Ti ev ev') {R:Type} {f:Fn} {as:List AV} {h:AH} {c:List AV->AH->Option R} {x:R} (hx:callK A ev f as h c=some x):callK A ev' f as h c=some x:=by
 unfold callK at hx ⊢
 split at hx
 ·rename_i n
  obtain ⟨hrov,hx⟩:=guardB_true.1 hx
  simp only [hrov,guardB,cond_true]
  have key:∀ (hh:AH) (d:List AV×AH->Option R),(ev (.func n) as hh).bind d=some x->(ev' (.func n) as hh).bind d=some x:=by
   intro hh d hd
   obtain ⟨p,h1,h2⟩:=oB hd
   rw [hle _ _ _ _ h1];exact h2
  cases hc:(A.iso.contains n&&as.all AV.bare) with
  | true=>
   rw [hc] at hx
   simp only [cond_true] at hx ⊢
   split at hx
   ·exact hx
   ·exact key _ _ hx
  | false=>
   rw [hc] at hx
   simp only [cond_false] at hx ⊢
   exact key _ _ hx
 ·obtain ⟨hrov,hx⟩:=guardB_true.1 hx
  simp only [hrov,guardB,cond_true]
  obtain ⟨p,h1,h2⟩:=oB hx
  rw [hle _ _ _ _ h1];exact h2
 ·cases hx
theorem rangeEnd_le {R:Type} {s:St} {c c':Ex->St->Option R} {x:R} (hc:∀ e s y,c e s=some y->c' e s=some y) {h:AH} (hx:rangeEnd s c h=some x):rangeEnd s c' h=some x:=by
 unfold rangeEnd at hx ⊢
 split at hx
 ·cases hb:!(Nat.beq _ 1) with
  | false=>rw [hb] at hx;cases hx
  | true=>
   rw [hb] at hx
   simp only [guardB,cond_true] at hx ⊢
   split at hx
   ·exact hc _ _ _ hx
   ·exact hc _ _ _ hx
   ·exact hc _ _ _ hx
   ·cases hx
 ·cases hx
theorem rangeK_le (hle:Ti ev ev') {R:Type} {g:Operand} {ps:Array Tmp} {a b:Code} {s:St} {c c':Ex->St->Option R} {x:R} (hc:∀ e s y,c e s=some y->c' e s=some y) (hx:rangeK A ev g ps a b s c=some x):rangeK A ev' g ps a b s c'=some x:=by
 unfold rangeK at hx ⊢
 obtain ⟨v,h1,hx⟩:=oB hx
 rw [h1,Option.bind_some]
 cases v with
 | agg _=>cases hx
 | sc v=>cases v with
  | fn f nf sh cs=>
   simp only [asSc,asF] at hx ⊢
   obtain ⟨vs,h2,hx⟩:=oB hx
   rw [h2,Option.bind_some]
   cases hb:(zo a&&zo b&&fnName f) with
   | false=>rw [hb] at hx;cases hx
   | true=>
    rw [hb] at hx
    simp only [guardB,cond_true] at hx ⊢
    have h3:=callK_le hle hx
    have e1:=wz (fun p:AH=>rangeEnd s c p) A ev' f (vs.take nf++[.sc (.fn (.yield s.h.length) 0 [] [])]++vs.drop nf) (s.h++[.loop ⟨0,none,A.self,s.sl.map noLoc,ps.toList,a,b⟩]) fun _ h=>some h
    have e2:=wz (fun p:AH=>rangeEnd s c' p) A ev' f (vs.take nf++[.sc (.fn (.yield s.h.length) 0 [] [])]++vs.drop nf) (s.h++[.loop ⟨0,none,A.self,s.sl.map noLoc,ps.toList,a,b⟩]) fun _ h=>some h
    simp only [Option.bind_some] at e1 e2
    rw [<- e1] at h3
    rw [<- e2]
    obtain ⟨p,h4,h5⟩:=oB h3
    rw [h4,Option.bind_some]
    exact rangeEnd_le hc h5
  | _=>cases hx
theorem evOp_le (hle:Ti ev ev') {R:Type} {o:Oper} {s:St} {c:St->Option R} {x:R} (hx:evOp P A ev o s c=some x):evOp P A ev' o s c=some x:=by
 unfold evOp at hx ⊢
 split at hx
 case h_21=>
  obtain ⟨f,h1,hx⟩:=oB hx
  rw [h1]
  simp only [Option.bind_some]
  cases f with
  | agg _=>cases hx
  | sc f=>
   cases f with
   | fn g nf sh cs=>
    simp only [asSc,asF] at hx ⊢
    obtain ⟨as,h2,hx⟩:=oB hx
    obtain ⟨vs,h3,hx⟩:=oB hx
    rw [h2,h3]
    exact callK_le hle hx
   | _=>cases hx
 all_goals exact hx
theorem evOps_le (hle:Ti ev ev') {R:Type} {ops:Array Oper}:∀ (l:List Oper) {s:St} {c c':St->Option R} {x:R},(∀ s y,c s=some y->c' s=some y)->evOps P A ev ops l s c=some x->evOps P A ev' ops l s c'=some x
 | [],s,c,c',x,hc,hx=>hc _ _ hx
 | o::r,s,c,c',x,hc,hx=>by
  have step:∀ (s:St),evOp P A ev o s (fun s=>evOps P A ev ops r s c)=some x->evOp P A ev' o s (fun s=>evOps P A ev' ops r s c')=some x:=by
   intro s hs
   obtain ⟨s',h1,h2⟩:=evOp_some hs
   have:=evOp_bind (fun s=>evOps P A ev' ops r s c') P A ev' o s some
   simp only [Option.bind_some] at this
   rw [<- this,evOp_le hle h1]
   exact evOps_le hle r hc h2
  simp only [evOps,setK_eq] at hx ⊢
  split at hx
  ·exact step _ hx
  ·rename_i j w _
   replace hx:=oB hx
   obtain ⟨d,h1,hx⟩:=hx
   replace hx:=oB hx
   obtain ⟨y,h2,hx⟩:=hx
   rw [h1,Option.bind_some,h2,Option.bind_some]
   split at hx
   ·rename_i t
    cases w<;>cases t<;>simp only [cond_true,cond_false] at hx ⊢<;>first | exact step _ hx | exact evOps_le hle r hc hx
   ·exact evOps_le hle r hc hx
   ·cases hx
theorem loopN_le {R:Type} {m:St->St} {body body':St->(Ex->St->Option R)->Option R} (hb:∀ s c c' x,(∀ e s y,c e s=some y->c' e s=some y)->body s c=some x->body' s c'=some x) {c c':Ex->St->Option R} (hc:∀ e s y,c e s=some y->c' e s=some y) :
  ∀ (n n':Nat) {s:St} {x:R},n<=n'->loopN m body c n s=some x->loopN m body' c' n' s=some x
 | 0,_,_,_,_,hx=>by cases hx
 | n+1,0,_,_,hn,_=>by omega
 | n+1,n'+1,s,x,hn,hx=>by
  simp only [loopN] at hx ⊢
  refine hb _ _ _ _ (fun e s y hy=>?_) hx
  cases e with
  | normal=>exact loopN_le hb hc n n' (by omega) hy
  | exit i=>exact hc _ _ _ hy
  | ret=>exact hc _ _ _ hy
theorem evCode_le (hrj:A.rj=[]) (hle:Ti ev ev') {R:Type} {k k':Nat} (hk:k<=k'):∀ (c:Code) (blk:Nat) (s:St) {K K':Ex->St->Option R} {x:R},(∀ e s y,K e s=some y->K' e s=some y)->evCode P A ev dOk k c blk s K=some x->evCode P A ev' dOk k' c blk s K'=some x
 | .skip,_,s,K,K',x,hK,hx=>hK _ _ _ hx
 | .label _,_,s,K,K',x,hK,hx=>hK _ _ _ hx
 | .region id ops draw,_,s,K,K',x,hK,hx=>by
  simp only [evCode,evRegion,hrj,List.find?_nil] at hx ⊢
  cases hg:(!draw||(dOk A ops&&freshAll A ops s)) with
  | false=>rw [hg] at hx;cases hx
  | true=>
   rw [hg] at hx
   simp only [guardB,cond_true] at hx ⊢
   exact evOps_le hle _ (fun s y hy=>hK _ _ _ hy) hx
 | .seq a b,blk,s,K,K',x,hK,hx=>by
  simp only [evCode] at hx ⊢
  refine evCode_le hrj hle hk a blk s (fun e s y hy=>?_) hx
  cases e with
  | normal=>exact evCode_le hrj hle hk b blk s hK hy
  | exit i=>exact hK _ _ _ hy
  | ret=>exact hK _ _ _ hy
 | .cond q a b,blk,s,K,K',x,hK,hx=>by
  simp only [evCode] at hx ⊢
  obtain ⟨v,h1,hx⟩:=oB hx
  rw [h1]
  cases v with
  | agg _=>cases hx
  | sc v=>cases v with
   | bool t=>
    cases t with
    | true=>exact evCode_le hrj hle hk a blk s hK hx
    | false=>exact evCode_le hrj hle hk b blk s hK hx
   | _=>cases hx
 | .block id b,_,s,K,K',x,hK,hx=>by
  simp only [evCode] at hx ⊢
  refine evCode_le hrj hle hk b id s (fun e s y hy=>?_) hx
  cases e with
  | normal=>exact hK _ _ _ hy
  | exit i=>
   simp only [kBlock] at hy ⊢
   cases hb:Nat.beq i id<;>rw [hb] at hy<;>exact hK _ _ _ hy
  | ret=>exact hK _ _ _ hy
 | .loop b,blk,s,K,K',x,hK,hx=>by
  simp only [evCode] at hx ⊢
  exact loopN_le (fun s c c' x hc hx=>evCode_le hrj hle hk b blk s hc hx) hK k k' hk hx
 | .exit id,_,s,K,K',x,hK,hx=>hK _ _ _ hx
 | .ret,_,s,K,K',x,hK,hx=>hK _ _ _ hx
 | .rangeFunc _ _ _ _,_,_,_,_,_,hK,hx=>by simp only [evCode] at hx ⊢;exact rangeK_le hle hK hx
 | .scope b,blk,s,K,K',x,hK,hx=>by
  simp only [evCode] at hx ⊢
  exact evCode_le hrj hle hk b blk s hK hx
 | .goto _,_,_,_,_,_,_,hx=>by cases hx
 | .refuse _,_,_,_,_,_,_,hx=>by cases hx
theorem evF_le {An:FuncId->FAn} (hrj:∀ f,(An f).rj=[]):∀ {k k':Nat},k<=k'->Ti (evF P An dOk k) (evF P An dOk k')
 | 0,_,_,_,_,_,_,hx=>by cases hx
 | k+1,0,h,_,_,_,_,_=>by omega
 | k+1,k'+1,h,f,as,hh,r,hx=>by
  cases f with
  | func f=>
   simp only [evF] at hx ⊢
   obtain ⟨fn,h1,hx⟩:=oB hx
   obtain ⟨code,h2,hx⟩:=oB hx
   rw [h1,Option.bind_some,h2,Option.bind_some]
   cases hg:Uk (An f) fn as.length with
   | false=>rw [hg] at hx;cases hx
   | true=>
    rw [hg] at hx
    simp only [guardB,cond_true] at hx ⊢
    exact evCode_le (hrj f) (evF_le hrj (by omega)) (by omega) code 0 _ (fun _ _ _ h=>h) hx
  | yield id=>
   simp only [evF] at hx ⊢
   split at hx
   case h_2=>cases hx
   rename_i l hl
   cases hg:(Nat.beq as.length l.params.length&&zo l.assign&&zo l.body) with
   | false=>rw [hg] at hx;cases hx
   | true=>
    rw [hg] at hx
    simp only [guardB,cond_true] at hx ⊢
    refine evCode_le (hrj _) (evF_le hrj (by omega)) (by omega) l.assign 0 _ (fun e s y hy=>?_) hx
    unfold kBegin at hy ⊢
    split at hy
    case h_2=>cases hy
    rename_i l1 hl1
    cases hb:Nat.beq l1.st 0 with
    | false=>rw [hb] at hy;cases hy
    | true=>
     rw [hb] at hy
     simp only [guardB,cond_true] at hy ⊢
     exact evCode_le (hrj _) (evF_le hrj (by omega)) (by omega) l.body 0 _ (fun _ _ _ h=>h) hy
  | _=>cases hx
end
end Go.AM
namespace Go.TM
open Go Go.AM
section
variable {R : Type} {r : R}
theorem asSc_some {v:TA} {c:TC->Option R}:asSc v c=some r↔∃ s,v=.sc s/\c s=some r:=by cases v<;>simp [asSc]
theorem asAgg_some {v:TA} {c:List TC->Option R}:asAgg v c=some r↔∃ s,v=.agg s/\c s=some r:=by cases v<;>simp [asAgg]
theorem asB_some {v:TC} {c:Bool->Option R}:asB v c=some r↔∃ b,v=.bool b/\c b=some r:=by cases v<;>simp [asB]
theorem asStr_some {v:TC} {c:ByteArray->Option R}:asStr v c=some r↔∃ b,v=.str b/\c b=some r:=by cases v<;>simp [asStr]
theorem asI_some {k:IntKind} {v:TC} {c:Int->Option R}:asI k v c=some r↔∃ n,v=.int k n/\c n=some r:=by
 constructor
 ·intro h
  cases v with
  | int k' n=>simp only [asI] at h;split at h<;>simp_all
  | _=>simp [asI] at h
 ·rintro ⟨n,rfl,h⟩;simp [asI,h]
theorem asC_some {α:Type} {l:List α} {c:α->List α->Option R}:asC l c=some r↔∃ x xs,l=x::xs/\c x xs=some r:=by
 constructor
 ·intro h
  cases l with
  | nil=>simp [asC] at h
  | cons x xs=>exact ⟨x,xs,rfl,h⟩
 ·rintro ⟨x,xs,rfl,h⟩;exact h
theorem asN_some {α:Type} {l:List α} {c:Option R}:asN l c=some r↔l=[]/\c=some r:=by cases l<;>simp [asN]
theorem gB {b:Bool} {c:Option R}:guardB b c=some r↔b=true/\c=some r:=by cases b<;>simp [guardB]
theorem cond_some {b:Bool} {x y:Option R}:cond b x y=some r↔(b=true/\x=some r)\/(b=false/\y=some r):=by cases b<;>simp
theorem wd {e:TypeId} {t:Ty} {v:TC} {c:List t.T->Option R} (h:asD e t v c=some r):(∃ xs,v=.d e t xs/\c xs=some r)\/(v=.nil/\c []=some r):=by
 unfold asD at h
 split at h
 ·replace h:=gB.1 h
  obtain ⟨he,h2⟩:=h
  have he:=Nat.eq_of_beq_eq_true he
  subst he
  split at h2
  ·rename_i ht;subst ht;exact .inl ⟨_,rfl,h2⟩
  ·cases h2
 ·exact .inr ⟨rfl,h⟩
 ·cases h
end
theorem zj {a b:Nat} (h:Nat.beq a b=true):a=b:=Nat.eq_of_beq_eq_true h
variable {P : Program} {h h' : AH} {Z Z' : Nat -> Prop} {J J' : List JE} {R : Type} {r : R}
theorem YV:∀ (t:Ty) {l:List TC} {c:t.T->List TC->Option R} {cs:List Sc},mkT t l c=some r->CRs P h Z J l cs->∃ x rest a b,cs=a++b/\DR P h Z t x a/\CRs P h Z J rest b/\c x rest=some r
 | .int k,l,c,cs,hx,hr=>by
  replace hx:=asC_some.1 hx
  obtain ⟨x,xs,rfl,hx1⟩:=hx
  obtain ⟨n,rfl,hx⟩:=asI_some.1 hx1
  cases cs with
  | nil=>simp [CRs] at hr
  | cons s ss=>simp only [CRs,CR] at hr;exact ⟨n,xs,[s],ss,rfl,by simp [DR,hr.1],hr.2,hx⟩
 | .bool,l,c,cs,hx,hr=>by
  replace hx:=asC_some.1 hx
  obtain ⟨x,xs,rfl,hx1⟩:=hx
  obtain ⟨n,rfl,hx⟩:=asB_some.1 hx1
  cases cs with
  | nil=>simp [CRs] at hr
  | cons s ss=>simp only [CRs,CR] at hr;exact ⟨n,xs,[s],ss,rfl,by simp [DR,hr.1],hr.2,hx⟩
 | .str,l,c,cs,hx,hr=>by
  replace hx:=asC_some.1 hx
  obtain ⟨x,xs,rfl,hx1⟩:=hx
  obtain ⟨n,rfl,hx⟩:=asStr_some.1 hx1
  cases cs with
  | nil=>simp [CRs] at hr
  | cons s ss=>simp only [CRs,CR] at hr;exact ⟨n,xs,[s],ss,rfl,by simp [DR,hr.1],hr.2,hx⟩
 | .list e t,l,c,cs,hx,hr=>by
  replace hx:=asC_some.1 hx
  obtain ⟨x,xs,rfl,hx1⟩:=hx
  cases cs with
  | nil=>simp [CRs] at hr
  | cons s ss=>
   simp only [CRs] at hr
   rcases wd hx1 with ⟨ys,rfl,hx⟩ | ⟨rfl,hx⟩
   ·exact ⟨ys,xs,[s],ss,rfl,⟨s,rfl,hr.1⟩,hr.2,hx⟩
   ·exact ⟨[],xs,[s],ss,rfl,⟨s,rfl,.inl ⟨rfl,hr.1⟩⟩,hr.2,hx⟩
 | .pair a b,l,c,cs,hx,hr=>by
  simp only [mkT] at hx
  obtain ⟨x,l1,c1,c2,rfl,h1,h2,hx1⟩:=YV a hx hr
  obtain ⟨y,l2,c3,c4,rfl,h3,h4,hx2⟩:=YV b hx1 h2
  exact ⟨(x,y),l2,c1++c3,c4,by simp,⟨c1,c3,rfl,h1,h3⟩,h4,hx2⟩
 | .unit,l,c,cs,hx,hr=>⟨(),l,[],cs,rfl,rfl,hr,hx⟩
theorem mk1_some {t:Ty} {l:List TC} {c:t.T->Option R} {cs:List Sc} (hx:mk1 t l c=some r) (hr:CRs P h Z J l cs):∃ x,DR P h Z t x cs/\c x=some r:=by
 obtain ⟨x,rest,a,b,rfl,h1,h2,h3⟩:=YV t hx hr
 replace h3:=asN_some.1 h3
 obtain ⟨rfl,h3⟩:=h3
 cases b with
 | nil=>exact ⟨x,by simpa using h1,h3⟩
 | cons _ _=>simp [CRs] at h2
theorem wT {t:Ty}:∀ (n:Nat) {l:List TC} {c:List t.T->Option R} {cs:List Sc},mkN t n l c=some r->CRs P h Z J l cs->∃ xs,xs.length=n/\Seg (DR P h Z t) xs cs/\c xs=some r
 | 0,l,c,cs,hx,hr=>by
  replace hx:=asN_some.1 hx
  obtain ⟨rfl,hx⟩:=hx
  cases cs with
  | nil=>exact ⟨[],rfl,rfl,hx⟩
  | cons _ _=>simp [CRs] at hr
 | n+1,l,c,cs,hx,hr=>by
  simp only [mkN] at hx
  obtain ⟨x,rest,a,b,rfl,h1,h2,hx⟩:=YV t hx hr
  obtain ⟨xs,h3,h4,hx⟩:=wT n hx h2
  exact ⟨x::xs,by simp [h3],⟨a,b,rfl,h1,h4⟩,hx⟩
theorem xx {e:TypeId} {c:Ty->Option R} (hx:elT P e c=some r):∃ t,t.size=P.cellsOf e/\(P.info? e).isSome=true/\c t=some r:=by
 unfold elT at hx
 split at hx
 ·obtain ⟨hg,hx⟩:=gB.1 hx
  simp only [Bool.and_eq_true] at hg
  exact ⟨_,zj hg.1,hg.2,hx⟩
 ·cases hx
theorem yS {cs:List TC} {off n:Nat} {c:List TC->Option R} (hx:cutK cs off n c=some r):off+n<=cs.length/\c ((cs.drop off).take n)=some r:=by
 obtain ⟨h1,h2⟩:=gB.1 hx
 exact ⟨of_decide_eq_true h1,h2⟩
theorem ZW {cs v:List TC} {off:Nat} {c:List TC->Option R} (hx:putK cs off v c=some r):off+v.length<=cs.length/\c (AM.splice cs off v)=some r:=by
 obtain ⟨h1,h2⟩:=gB.1 hx
 exact ⟨of_decide_eq_true h1,h2⟩
theorem zh {H:TH} {i:Nat} {o:TO} (h:zi H i=o) (hd:o.live=true):H[i]?=some o:=by
 unfold zi at h
 rw [List.getD_eq_getElem?_getD] at h
 cases hi:H[i]? with
 | none=>rw [hi] at h;simp at h;subst h;simp [TO.live] at hd
 | some x=>rw [hi] at h;simp at h;rw [h]
structure RowAt (P:Program) (J:List JE) (h:AH) (Z:Nat->Prop) (je:JE) (e:TypeId) (t:Ty) (xs:List t.T):Prop where
 z:je.z=t.size
 n:je.n=xs.length
 sz:t.size=P.cellsOf e
 inf:(P.info? e).isSome=true
 at':(je.v=true/\xs=[])\/(je.v=false/\∃ cs,h[je.id]?=some (.row true e cs)/\cs.length=je.off+xs.length*t.size/\Seg (DR P h Z t) xs (cs.drop je.off))
theorem HR.row {H:TH} (hr:HR P J Z H h) {id:Nat} {e:TypeId} {t:Ty} {xs:List t.T} (ho:zi H id=.row e t xs):∃ je,J[id]?=some je/\RowAt P J h Z je e t xs:=by
 have hg:=zh ho rfl
 have hlt:id < J.length:=by rw [hr.len];exact (List.getElem?_eq_some_iff.1 hg).1
 obtain ⟨h1,h2,h3,h4,h5⟩:=hr.obj id _ _ hg (List.getElem?_eq_getElem hlt)
 exact ⟨_,List.getElem?_eq_getElem hlt,h1,h2,h3,h4,h5⟩
theorem yg {α:Type} {l:List α} {i j:Nat} {x y:α} (h:(l.set i x)[j]?=some y):(i=j/\y=x)\/(i≠j/\l[j]?=some y):=by
 by_cases e:i=j
 ·subst e
  rw [List.getElem?_set_self'] at h
  obtain ⟨z,_,hz⟩:=oM h
  exact .inl ⟨rfl,hz.symm⟩
 ·rw [List.getElem?_set_ne e] at h;exact .inr ⟨e,h⟩
theorem OR.mono (x:Ext h Z h' Z') (p:J <+: J') {je:JE} {o:TO} (hs:o.live=true->je.v=false->h'[je.id]?=h[je.id]?) (r:OR P h Z J je o):OR P h' Z' J' je o:=by
 cases o with
 | row e t xs=>
  obtain ⟨h1,h2,h3,h4,h5⟩:=r
  refine ⟨h1,h2,h3,h4,?_⟩
  rcases h5 with h5 | ⟨hv,cs,h5,h6,h7⟩
  ·exact .inl h5
  ·exact .inr ⟨hv,cs,(hs rfl hv).trans h5,h6,h7.mono fun _ _=>DR.mono x t⟩
 | crow e cells=>obtain ⟨hv,cs,h1,h2⟩:=r;exact ⟨hv,cs,(hs rfl hv).trans h1,CRs.mono x p _ _ h2⟩
 | box e cells=>obtain ⟨hv,cs,h1,h2⟩:=r;exact ⟨hv,cs,(hs rfl hv).trans h1,CRs.mono x p _ _ h2⟩
 | dead=>trivial
 | loop st pe f key nt sl=>
  obtain ⟨hv,al,h1,h2,h3,h4,h5,h6,h7,h8⟩:=r
  exact ⟨hv,al,(hs rfl hv).trans h1,h2,h3,h4,h5,h6,h7,fun q hq=>let ⟨y,k1,k2⟩:=h8 q hq;⟨y,k1,k2.mono x p⟩⟩
def Wu (Z:Nat->Prop) (i:Nat):Nat->Prop:=fun j=>Z j\/j=i
theorem ext_addZ (h:AH) (Z:Nat->Prop) (i:Nat):Ext h Z h (Wu Z i):=⟨fun _ h=>.inl h,fun _ _=>rfl⟩
theorem HR.kill {H:TH} (hr:HR P J Z H h) {id:Nat} {je:JE} {o:TO} (ho:H[id]?=some o) (hl:o.live=true) (hj:J[id]?=some je) (hv:je.v=false) (hz:je.id < h.length):HR P J (Wu Z je.id) (H.set id .dead) h:=by
 refine ⟨by simp [hr.len],fun i o' je' h1 h2=>?_,fun i j o1 o2 j1 j2 h1 h2 l1 l2 k1 k2 v1 v2 e=>?_,fun i o' je' h1 h2 h3 h4 h5=>?_,fun i hi=>?_⟩
 ·rcases yg h1 with ⟨_,rfl⟩ | ⟨_,h1⟩
  ·trivial
  ·exact (hr.obj i o' je' h1 h2).mono (ext_addZ h Z _) (List.prefix_refl _) fun _ _=>rfl
 ·rcases yg h1 with ⟨_,rfl⟩ | ⟨_,h1⟩
  ·simp [TO.live] at l1
  rcases yg h2 with ⟨_,rfl⟩ | ⟨_,h2⟩
  ·simp [TO.live] at l2
  exact hr.uniq i j o1 o2 j1 j2 h1 h2 l1 l2 k1 k2 v1 v2 e
 ·rcases yg h1 with ⟨_,rfl⟩ | ⟨hne,h1⟩
  ·simp [TO.live] at h2
  rcases h5 with h5 | h5
  ·exact hr.sep i o' je' h1 h2 h3 h4 h5
  ·exact hne (hr.uniq i id o' o je' je h1 ho h2 hl h3 hj h4 hv h5).symm
 ·rcases hi with hi | hi
  ·exact hr.zlt i hi
  ·rw [hi];exact hz
theorem HR.kill' {H:TH} (hr:HR P J Z H h) (id:Nat):HR P J Z (H.set id .dead) h:=by
 refine ⟨by simp [hr.len],fun i o' je' h1 h2=>?_,fun i j o1 o2 j1 j2 h1 h2 l1 l2 k1 k2 v1 v2 e=>?_,fun i o' je' h1 h2 h3 h4 h5=>?_,hr.zlt⟩
 ·rcases yg h1 with ⟨_,rfl⟩ | ⟨_,h1⟩
  ·trivial
  ·exact hr.obj i o' je' h1 h2
 ·rcases yg h1 with ⟨_,rfl⟩ | ⟨_,h1⟩
  ·simp [TO.live] at l1
  rcases yg h2 with ⟨_,rfl⟩ | ⟨_,h2⟩
  ·simp [TO.live] at l2
  exact hr.uniq i j o1 o2 j1 j2 h1 h2 l1 l2 k1 k2 v1 v2 e
 ·rcases yg h1 with ⟨_,rfl⟩ | ⟨hne,h1⟩
  ·simp [TO.live] at h2
  exact hr.sep i o' je' h1 h2 h3 h4 h5
theorem xG {H:TH} {id b:Nat} (ho:OwnJ J (H.set id .dead) b):OwnJ J H b:=by
 obtain ⟨i,o,je,h1,h2,h3,h4,h5⟩:=ho
 rcases yg h1 with ⟨_,rfl⟩ | ⟨_,h1⟩
 ·simp [TO.live] at h2
 ·exact ⟨i,o,je,h1,h2,h3,h4,h5⟩
structure Mv (P:Program) (J:List JE) (Z:Nat->Prop) (H:TH) (h:AH) (Z':Nat->Prop) (H':TH):Prop where
 hr:HR P J Z' H' h
 zin:∀ id,Z id->Z' id
 zout:∀ id,Z' id->Z id\/OwnJ J H id
 own:∀ id,OwnJ J H' id->OwnJ J H id
 len:H'.length=H.length
theorem Mv.refl {H:TH} (hr:HR P J Z H h):Mv P J Z H h Z H:=⟨hr,fun _ h=>h,fun _ h=>.inl h,fun _ h=>h,rfl⟩
theorem Mv.trans {H H1 H2:TH} {Z1 Z2:Nat->Prop} (a:Mv P J Z H h Z1 H1) (b:Mv P J Z1 H1 h Z2 H2):Mv P J Z H h Z2 H2:=
 ⟨b.hr,fun id h=>b.zin id (a.zin id h),fun id h=>by
  rcases b.zout id h with h | h
  ·exact a.zout id h
  ·exact .inr (a.own id h),fun id h=>a.own id (b.own id h),b.len.trans a.len⟩
theorem Mv.ext {H H1:TH} {Z1:Nat->Prop} (a:Mv P J Z H h Z1 H1):Ext h Z h Z1:=⟨a.zin,fun _ _=>rfl⟩
theorem RowAt.cut {je:JE} {e:TypeId} {t:Ty} {xs:List t.T} (ra:RowAt P J h Z je e t xs) {Z':Nat->Prop} (hz2:je.v=false->Z' je.id) {o n:Nat} (hn:o+n<=xs.length) {s:Sc}
  (hs:(je.v=true/\∃ b,s=.nils b)\/(je.v=false/\s=.sl je.id (je.off+o*je.z) n)):SlR P h Z' e t.size (DR P h Z t) ((xs.drop o).take n) s:=by
 rcases hs with ⟨hv,b,rfl⟩ | ⟨hv,rfl⟩
 ·rcases ra.at' with ⟨_,rfl⟩ | ⟨hv',_⟩
  ·exact .inl ⟨by simp,b,rfl⟩
  ·rw [hv] at hv';cases hv'
 ·rcases ra.at' with ⟨hv',_⟩ | ⟨_,cs,h1,h2,h3⟩
  ·rw [hv] at hv';cases hv'
  ·have hl:((xs.drop o).take n).length=n:=by simp;omega
   have hz:=fun x cs (r:DR P h Z t x cs)=>r.length
   obtain ⟨_,k1⟩:=Seg.split hz o h3
   obtain ⟨k2,_⟩:=Seg.split hz n k1
   refine .inr ⟨je.id,je.off+o*je.z,_,cs,by rw [hl],hz2 hv,h1,rfl,rfl,ra.sz,?_,?_⟩
   ·rw [hl,ra.z,h2,Nat.add_assoc,<- Nat.add_mul]
    exact Nat.add_le_add_left (Nat.mul_le_mul_right _ hn) _
   ·rw [hl,ra.z,<- List.drop_drop];exact k2
theorem RowAt.whole {je:JE} {e:TypeId} {t:Ty} {xs:List t.T} (ra:RowAt P J h Z je e t xs) {Z':Nat->Prop} (hz2:je.v=false->Z' je.id) {s:Sc}
  (hs:(je.v=true/\∃ b,s=.nils b)\/(je.v=false/\s=.sl je.id je.off je.n)):SlR P h Z' e t.size (DR P h Z t) xs s:=by
 have:=ra.cut hz2 (o:=0) (n:=xs.length) (by omega) (s:=s) (by simpa [ra.n] using hs)
 simpa using this
theorem SlR.up {e:TypeId} {z:Nat} {t:Ty} {xs:List t.T} {s:Sc} (hz:∀ i,Z i->Z' i) (q:SlR P h Z' e z (DR P h Z t) xs s):SlR P h Z' e z (DR P h Z' t) xs s:=
 q.mono (Ext.refl _ _) fun _ _=>DR.mono ⟨hz,fun _ _=>rfl⟩ t
variable {P : Program} {J J' J1 J2 : List JE} {Z Z' Z1 Z2 : Nat -> Prop} {H H' H1 H2 : TH} {h h' h1 h2 : AH}
structure Step (P:Program) (J:List JE) (Z:Nat->Prop) (H:TH) (h:AH) (J':List JE) (Z':Nat->Prop) (H':TH) (h':AH):Prop where
 hr:HR P J' Z' H' h'
 kp:Kp J Z H h J' Z' H' h'
theorem Kp.refl (J:List JE) (Z:Nat->Prop) (H:TH) (h:AH):Kp J Z H h J Z H h:=
 ⟨Nat.le_refl _,List.prefix_refl _,fun _ _ _=>rfl,fun _ h=>.inl h,fun _ h=>h,fun _ h=>.inl h⟩
theorem Kp.trans (a:Kp J Z H h J1 Z1 H1 h1) (b:Kp J1 Z1 H1 h1 J2 Z2 H2 h2):Kp J Z H h J2 Z2 H2 h2 where
 len:=Nat.le_trans a.len b.len
 pre:=a.pre.trans b.pre
 same id hl ho:=by
  refine (b.same id (Nat.lt_of_lt_of_le hl a.len) fun hw=>?_).trans (a.same id hl ho)
  rcases a.own id hw with hw | hw
  ·exact ho hw
  ·omega
 own id ho:=by
  rcases b.own id ho with ho | ho
  ·exact a.own id ho
  ·exact .inr (Nat.le_trans a.len ho)
 zin id hz:=b.zin id (a.zin id hz)
 zout id hz:=by
  rcases b.zout id hz with hz | hz | hz
  ·exact a.zout id hz
  ·rcases a.own id hz with hz | hz
   ·exact .inr (.inl hz)
   ·exact .inr (.inr hz)
  ·exact .inr (.inr (Nat.le_trans a.len hz))
theorem Step.refl (hr:HR P J Z H h):Step P J Z H h J Z H h:=⟨hr,Kp.refl ..⟩
theorem Step.trans (a:Step P J Z H h J1 Z1 H1 h1) (b:Step P J1 Z1 H1 h1 J2 Z2 H2 h2):Step P J Z H h J2 Z2 H2 h2:=⟨b.hr,a.kp.trans b.kp⟩
theorem HR.notOwn (hr:HR P J Z H h) {id:Nat} (hz:Z id):¬ OwnJ J H id:=by
 rintro ⟨i,o,je,h1,h2,h3,h4,rfl⟩
 exact hr.sep i o je h1 h2 h3 h4 hz
theorem Step.ext (hr:HR P J Z H h) (s:Step P J Z H h J' Z' H' h'):Ext h Z h' Z':=
 ⟨s.kp.zin,fun id hz=>s.kp.same id (hr.zlt id hz) (hr.notOwn hz)⟩
theorem Mv.step {hr:HR P J Z H h} (m:Mv P J Z H h Z' H'):Step P J Z H h J Z' H' h:=
 ⟨m.hr,⟨Nat.le_refl _,List.prefix_refl _,fun _ _ _=>rfl,fun id ho=>.inl (m.own id ho),m.zin,fun id hz=>by
  rcases m.zout id hz with hz | hz
  ·exact .inl hz
  ·exact .inr (.inl hz)⟩⟩
theorem OR.lt {je:JE} {o:TO} (hl:o.live=true) (hv:je.v=false) (r:OR P h Z J je o):je.id < h.length:=by
 cases o with
 | row e t xs=>
  rcases r.2.2.2.2 with ⟨h5,_⟩ | ⟨_,cs,h5,_⟩
  ·rw [hv] at h5;cases h5
  ·exact (List.getElem?_eq_some_iff.1 h5).1
 | crow e cells=>obtain ⟨_,cs,h1,_⟩:=r;exact (List.getElem?_eq_some_iff.1 h1).1
 | box e cells=>obtain ⟨_,cs,h1,_⟩:=r;exact (List.getElem?_eq_some_iff.1 h1).1
 | dead=>simp [TO.live] at hl
 | loop st pe f key nt sl=>obtain ⟨_,al,h1,_⟩:=r;exact (List.getElem?_eq_some_iff.1 h1).1
theorem OwnJ.lt (hr:HR P J Z H h) {id:Nat} (ho:OwnJ J H id):id < h.length:=by
 obtain ⟨i,o,je,h1,h2,h3,h4,rfl⟩:=ho
 exact OR.lt h2 h4 (hr.obj i o je h1 h3)
theorem get_snoc {α:Type} {l:List α} {x y:α} {i:Nat} (h:(l++[x])[i]?=some y):(i < l.length/\l[i]?=some y)\/(i=l.length/\y=x):=by
 rcases Nat.lt_or_ge i l.length with hi | hi
 ·rw [List.getElem?_append_left hi] at h;exact .inl ⟨hi,h⟩
 ·rw [List.getElem?_append_right hi] at h
  cases hk:i - l.length with
  | zero=>rw [hk] at h;simp at h;exact .inr ⟨by omega,h.symm⟩
  | succ k=>rw [hk] at h;simp at h
theorem xB {α β:Type} {l:List α} {m:List β} (hl:m.length=l.length) {x y:α} {u v:β} {i:Nat} (h:(l++[x])[i]?=some y) (k:(m++[u])[i]?=some v):(i < l.length/\l[i]?=some y/\m[i]?=some v)\/(i=l.length/\y=x/\v=u):=by
 rcases get_snoc h with ⟨h1,h2⟩ | ⟨h1,h2⟩<;>rcases get_snoc k with ⟨k1,k2⟩ | ⟨k1,k2⟩
 ·exact .inl ⟨h1,h2,k2⟩
 ·omega
 ·omega
 ·exact .inr ⟨h1,h2,k2⟩
theorem HR.add (hr:HR P J Z H h) {je:JE} {o:TO} (ho:OR P h Z (J++[je]) je o) (hn:je.v=false->¬ OwnJ J H je.id/\¬ Z je.id):HR P (J++[je]) Z (H++[o]) h:=by
 have hp:J <+: J++[je]:=List.prefix_append _ _
 refine ⟨by simp [hr.len],fun i o' je' h1 h2=>?_,fun i j o1 o2 j1 j2 h1 h2 l1 l2 k1 k2 v1 v2 e=>?_,fun i o' je' h1 h2 h3 h4 h5=>?_,hr.zlt⟩
 ·rcases xB hr.len h1 h2 with ⟨_,a,b⟩ | ⟨_,rfl,rfl⟩
  ·exact (hr.obj i o' je' a b).mono (Ext.refl _ _) hp fun _ _=>rfl
  ·exact ho
 ·rcases xB hr.len h1 k1 with ⟨_,a,b⟩ | ⟨a,rfl,rfl⟩<;>rcases xB hr.len h2 k2 with ⟨_,c,d⟩ | ⟨c,rfl,rfl⟩
  ·exact hr.uniq i j o1 o2 j1 j2 a c l1 l2 b d v1 v2 e
  ·exact absurd ⟨i,o1,j1,a,l1,b,v1,e⟩ (hn v2).1
  ·exact absurd ⟨j,o2,j2,c,l2,d,v2,e.symm⟩ (hn v1).1
  ·omega
 ·rcases xB hr.len h1 h3 with ⟨_,a,b⟩ | ⟨a,rfl,rfl⟩
  ·exact hr.sep i o' je' a h2 b h4 h5
  ·exact (hn h4).2 h5
theorem Ue {je:JE} {o:TO} (hl:J.length=H.length) {b:Nat} (ho:OwnJ (J++[je]) (H++[o]) b):OwnJ J H b\/(o.live=true/\je.v=false/\b=je.id):=by
 obtain ⟨i,o',je',h1,h2,h3,h4,h5⟩:=ho
 rcases xB hl h1 h3 with ⟨_,a,b⟩ | ⟨a,rfl,rfl⟩
 ·exact .inl ⟨i,o',je',a,h2,b,h4,h5⟩
 ·exact .inr ⟨h2,h4,h5.symm⟩
theorem HR.grow (hr:HR P J Z H h) (ao:AO):HR P J Z H (h++[ao]):=by
 have x:Ext h Z (h++[ao]) Z:=⟨fun _ h=>h,fun id hz=>List.getElem?_append_left (hr.zlt id hz)⟩
 refine ⟨hr.len,fun i o je h1 h2=>(hr.obj i o je h1 h2).mono x (List.prefix_refl _) fun hl hv=>List.getElem?_append_left (OR.lt hl hv (hr.obj i o je h1 h2)),hr.uniq,hr.sep,fun id hz=>?_⟩
 have:=hr.zlt id hz
 simp;omega
theorem Wj (hr:HR P J Z H h) {je:JE} {o:TO} {ao:AO} (hid:je.id=h.length) (ho:OR P (h++[ao]) Z (J++[je]) je o):Step P J Z H h (J++[je]) Z (H++[o]) (h++[ao]):=by
 have hg:=hr.grow ao
 have hn:¬ OwnJ J H je.id:=fun hw=>by have:=OwnJ.lt hr hw;omega
 refine ⟨hg.add ho fun _=>⟨hn,fun hz=>by have:=hr.zlt _ hz;omega⟩,⟨by simp,List.prefix_append _ _,fun id hl _=>List.getElem?_append_left hl,fun id hw=>?_,fun _ h=>h,fun _ h=>.inl h⟩⟩
 rcases Ue hr.len hw with hw | ⟨_,_,hw⟩
 ·exact .inl hw
 ·exact .inr (by omega)
theorem step_virt (hr:HR P J Z H h) {je:JE} {o:TO} (hv:je.v=true) (ho:OR P h Z (J++[je]) je o):Step P J Z H h (J++[je]) Z (H++[o]) h:=by
 refine ⟨hr.add ho (fun h=>by rw [hv] at h;cases h),⟨Nat.le_refl _,List.prefix_append _ _,fun id hl _=>rfl,fun id hw=>?_,fun _ h=>h,fun _ h=>.inl h⟩⟩
 rcases Ue hr.len hw with hw | ⟨_,hw,_⟩
 ·exact .inl hw
 ·rw [hv] at hw;cases hw
theorem xK (hr:HR P J Z H h) {i:Nat} {o o':TO} {je:JE} {ao:AO} (hi:H[i]?=some o) (hl:o.live=true) (hj:J[i]?=some je) (hv:je.v=false) (ho:OR P (h.set je.id ao) Z J je o'):Step P J Z H h J Z (H.set i o') (h.set je.id ao):=by
 have hown:OwnJ J H je.id:=⟨i,o,je,hi,hl,hj,hv,rfl⟩
 have hz:∀ id,Z id->je.id≠id:=fun id h1 h2=>hr.notOwn h1 (h2▸hown)
 have x:Ext h Z (h.set je.id ao) Z:=⟨fun _ h=>h,fun id h1=>List.getElem?_set_ne (hz id h1)⟩
 have own2:∀ b,OwnJ J (H.set i o') b->OwnJ J H b:=by
  rintro b ⟨j,o2,j2,h1,h2,h3,h4,rfl⟩
  rcases yg h1 with ⟨rfl,_⟩ | ⟨_,h1⟩
  ·rw [hj] at h3;cases h3;exact hown
  ·exact ⟨j,o2,j2,h1,h2,h3,h4,rfl⟩
 refine ⟨⟨by simp [hr.len],fun j o2 j2 h1 h2=>?_,fun j k o1 o2 j1 j2 h1 h2 l1 l2 k1 k2 v1 v2 e=>?_,fun j o2 j2 h1 h2 h3 h4 h5=>?_,fun id hz=>by simpa using hr.zlt id hz⟩,
  ⟨by simp,List.prefix_refl _,fun id _ hn=>List.getElem?_set_ne fun (he:je.id=id)=>hn (he▸hown),fun id hw=>.inl (own2 id hw),fun _ h=>h,fun _ h=>.inl h⟩⟩
 ·rcases yg h1 with ⟨rfl,rfl⟩ | ⟨hne,h1⟩
  ·rw [hj] at h2;cases h2;exact ho
  ·refine (hr.obj j o2 j2 h1 h2).mono x (List.prefix_refl _) fun l2 v2=>List.getElem?_set_ne fun he=>hne (hr.uniq i j o o2 je j2 hi h1 hl l2 hj h2 hv v2 he)
 ·rcases yg h1 with ⟨e1,_⟩ | ⟨n1,g1⟩<;>rcases yg h2 with ⟨e2,_⟩ | ⟨n2,g2⟩
  ·exact e1.symm.trans e2
  ·subst e1;rw [hj] at k1;cases k1
   exact hr.uniq i k o o2 je j2 hi g2 hl l2 hj k2 hv v2 e
  ·subst e2;rw [hj] at k2;cases k2
   exact hr.uniq j i o1 o j1 je g1 hi l1 hl k1 hj v1 hv e
  ·exact hr.uniq j k o1 o2 j1 j2 g1 g2 l1 l2 k1 k2 v1 v2 e
 ·rcases yg h1 with ⟨rfl,rfl⟩ | ⟨hne,h1⟩
  ·rw [hj] at h3;cases h3;exact hr.sep i o je hi hl hj hv h5
  ·exact hr.sep j o2 j2 h1 h2 h3 h4 h5
theorem QH (hr:HR P J Z H h) {i:Nat} {o:TO} {je:JE} (hi:H[i]?=some o) (hl:o.live=true) (hj:J[i]?=some je) (hv:je.v=false):Step P J Z H h J (Wu Z je.id) (H.set i .dead) h:=
 ⟨hr.kill hi hl hj hv (OR.lt hl hv (hr.obj i o je hi hj)),⟨Nat.le_refl _,List.prefix_refl _,fun _ _ _=>rfl,fun id ho=>.inl (xG ho),fun _ h=>.inl h,fun id hz=>by
  rcases hz with hz | hz
  ·exact .inl hz
  ·exact .inr (.inl ⟨i,o,je,hi,hl,hj,hv,hz.symm⟩)⟩⟩
theorem Wi (hr:HR P J Z H h) (i:Nat):Step P J Z H h J Z (H.set i .dead) h:=
 ⟨hr.kill' i,⟨Nat.le_refl _,List.prefix_refl _,fun _ _ _=>rfl,fun id ho=>.inl (xG ho),fun _ h=>h,fun _ h=>.inl h⟩⟩
theorem not_own_kill (hr:HR P J Z H h) {i:Nat} {o:TO} {je:JE} (hi:H[i]?=some o) (hl:o.live=true) (hj:J[i]?=some je) (hv:je.v=false):¬ OwnJ J (H.set i .dead) je.id:=by
 rintro ⟨j,o2,j2,h1,h2,h3,h4,h5⟩
 rcases yg h1 with ⟨_,rfl⟩ | ⟨hne,h1⟩
 ·simp [TO.live] at h2
 ·exact hne (hr.uniq i j o o2 je j2 hi h1 hl h2 hj h3 hv h4 h5.symm)
theorem QI (hr:HR P J Z H h) {i:Nat} {o o':TO} {je je':JE} (hi:H[i]?=some o) (hl:o.live=true) (hj:J[i]?=some je) (hv:je.v=false) (hid:je'.id=je.id) (ho:OR P h Z (J++[je']) je' o'):Step P J Z H h (J++[je']) Z (H.set i .dead++[o']) h:=by
 have hown:OwnJ J H je.id:=⟨i,o,je,hi,hl,hj,hv,rfl⟩
 have s1:=Wi hr i
 have h2:=s1.hr.add ho fun _=>by rw [hid];exact ⟨not_own_kill hr hi hl hj hv,hr.sep i o je hi hl hj hv⟩
 refine ⟨h2,⟨Nat.le_refl _,List.prefix_append _ _,fun _ _ _=>rfl,fun id hw=>?_,fun _ h=>h,fun _ h=>.inl h⟩⟩
 rcases Ue s1.hr.len hw with hw | ⟨_,_,hw⟩
 ·exact .inl (xG hw)
 ·rw [hw,hid];exact .inl hown
theorem RowAt.or {je:JE} {e:TypeId} {t:Ty} {xs:List t.T} (ra:RowAt P J h Z je e t xs):OR P h Z J je (.row e t xs):=⟨ra.z,ra.n,ra.sz,ra.inf,ra.at'⟩
theorem UA (hr:HR P J Z H h) {id:Nat} {e:TypeId} {t:Ty} {xs:List t.T} (ho:zi H id=.row e t xs):∃ je Z',J[id]?=some je/\RowAt P J h Z je e t xs/\Mv P J Z H h Z' (H.set id .dead)/\(∀ i,Z i->Z' i)/\(je.v=false->Z' je.id):=by
 obtain ⟨je,hj,ra⟩:=hr.row ho
 have hi:=zh ho rfl
 cases hv:je.v with
 | true=>
  refine ⟨je,Z,hj,ra,⟨hr.kill' id,fun _ h=>h,fun _ h=>.inl h,fun _ h=>xG h,by simp⟩,fun _ h=>h,fun h=>by rw [hv] at h;cases h⟩
 | false=>
  have s:=QH hr hi rfl hj hv
  refine ⟨je,Wu Z je.id,hj,ra,⟨s.hr,s.kp.zin,fun b hb=>?_,fun _ h=>xG h,by simp⟩,s.kp.zin,fun _=>.inr rfl⟩
  rcases hb with hb | hb
  ·exact .inl hb
  ·exact .inr ⟨id,_,je,hi,rfl,hj,hv,hb.symm⟩
theorem Vi {R:Type} {r:R} {f:TC->TH->(TC->TH->Option R)->Option R}
  (hf:∀ {v:TC} {H:TH} {c:TC->TH->Option R} {Z:Nat->Prop} {s:Sc},f v H c=some r->HR P J Z H h->CR P h Z J v s->∃ v' H' Z',Mv P J Z H h Z' H'/\CR P h Z' J v' s/\c v' H'=some r) :
  ∀ {l:List TC} {H:TH} {c:List TC->TH->Option R} {Z:Nat->Prop} {ss:List Sc},seqK f l H c=some r->HR P J Z H h->CRs P h Z J l ss->∃ l' H' Z',Mv P J Z H h Z' H'/\CRs P h Z' J l' ss/\c l' H'=some r
 | [],H,c,Z,ss,hx,hr,hc=>⟨[],H,Z,Mv.refl hr,hc,hx⟩
 | x::l,H,c,Z,ss,hx,hr,hc=>by
  cases ss with
  | nil=>simp [CRs] at hc
  | cons s ss=>
   simp only [CRs] at hc
   obtain ⟨v',H1,Z1,m1,c1,hx1⟩:=hf hx hr hc.1
   obtain ⟨l',H2,Z2,m2,c2,hx2⟩:=Vi hf hx1 m1.hr (CRs.mono m1.ext (List.prefix_refl _) _ _ hc.2)
   exact ⟨v'::l',H2,Z2,m1.trans m2,by simp only [CRs];exact ⟨CR.mono m2.ext (List.prefix_refl _) _ _ c1,c2⟩,hx2⟩
theorem WP {R:Type} {r:R}:∀ (k:Nat) {v:TC} {H:TH} {c:TC->TH->Option R} {Z:Nat->Prop} {s:Sc},frzC P k v H c=some r->HR P J Z H h->CR P h Z J v s->∃ v' H' Z',Mv P J Z H h Z' H'/\CR P h Z' J v' s/\c v' H'=some r
 | 0,v,H,c,Z,s,hx,hr,hc=>by cases hx
 | k+1,v,H,c,Z,s,hx,hr,hc=>by
  unfold frzC at hx
  split at hx
  ·rename_i id
   split at hx
   ·rename_i e t xs ho
    obtain ⟨je,Z',hj,ra,m,hz,hz2⟩:=UA hr ho
    obtain ⟨je2,hj2,hs⟩:=hc
    rw [hj] at hj2;cases hj2
    exact ⟨.d e t xs,_,Z',m,(ra.whole hz2 hs).up hz,hx⟩
   ·cases hx
  ·rename_i id o n
   split at hx
   ·rename_i e t xs ho
    obtain ⟨je,Z',hj,ra,m,hz,hz2⟩:=UA hr ho
    obtain ⟨je2,hj2,hs⟩:=hc
    rw [hj] at hj2;cases hj2
    obtain ⟨hg,hx⟩:=gB.1 hx
    have hg:=of_decide_eq_true hg
    refine ⟨.d e t ((xs.drop o).take n),_,Z',m,(ra.cut hz2 hg ?_).up hz,hx⟩
    rcases hs with ⟨h1,_,h2⟩ | hs
    ·exact .inl ⟨h1,h2⟩
    ·exact .inr hs
   ·cases hx
  ·rename_i id o n
   split at hx
   ·rename_i e cs ho
    obtain ⟨t,hsz,hinf,hx⟩:=xx hx
    obtain ⟨hle,hx⟩:=yS hx
    have hi:=zh ho rfl
    obtain ⟨je,hj,hv,rfl⟩:=hc
    have hob:=hr.obj id _ je hi hj
    obtain ⟨_,cs',hg,hcs⟩:=hob
    have st:=QH hr hi rfl hj hv
    have x1:=st.ext hr
    have hcut:=(hcs.drop o).take (n*t.size)
    obtain ⟨l',H2,Z2,m2,c2,hx⟩:=Vi (fun {v H c Z s}=>WP k) hx st.hr (CRs.mono x1 (List.prefix_refl _) _ _ hcut)
    obtain ⟨xs,hn,hseg,hx⟩:=wT n hx c2
    have hlen:=hcs.length
    refine ⟨.d e t xs,_,Z2,⟨m2.hr,fun i hi=>m2.zin i (st.kp.zin i hi),fun b hb=>?_,fun b hb=>xG (m2.own b hb),by rw [m2.len];simp⟩,.inr ⟨je.id,o,_,cs',by rw [hn],m2.zin _ (.inr rfl),hg,rfl,rfl,hsz,by rw [hn];omega,?_⟩,hx⟩
    ·rcases m2.zout b hb with hb | hb
     ·rcases hb with hb | hb
      ·exact .inl hb
      ·exact .inr ⟨id,_,je,hi,rfl,hj,hv,hb.symm⟩
     ·exact .inr (xG hb)
    ·rw [hn];exact hseg
   ·cases hx
  ·exact ⟨v,H,Z,Mv.refl hr,hc,hx⟩
theorem WQ {R:Type} {r:R} {l:List TC} {H:TH} {c:List TC->TH->Option R} {Z:Nat->Prop} {ss:List Sc} (hx:frzL P l H c=some r) (hr:HR P J Z H h) (hc:CRs P h Z J l ss):∃ l' H' Z',Mv P J Z H h Z' H'/\CRs P h Z' J l' ss/\c l' H'=some r:=
 Vi (fun {v H c Z s}=>WP 3) hx hr hc
end Go.TM
namespace Go.AM
open Go.RowKit
structure Loc where
 b:Nat
 o:Nat
 z:Nat
 tot:Nat
def Zl:Value->Option Nat
 | .agg c=>some c.size
 | _=>none
def YJ (I:List Loc):Fn->Fn
 | .yield id=>.yield ((I[id]?.map Loc.b).getD 0)
 | f=>f
def VW (I:List Loc) (cap:Array Value):Fn->Prop
 | .yield id=>id < I.length/\cap=#[]
 | _=>True
mutual
def ScRel (I:List Loc):Sc->Value->Prop
 | .bool b,v=>v=.bool b
 | .int k n,v=>v=.int k n
 | .str s,v=>v=.string s
 | .ptr id off,v=>∃ L,I[id]?=some L/\v=.pointer (some ⟨L.b,L.o+off,none⟩)
 | .nilp,v=>v=.pointer none
 | .sl id off len,v=>∃ L cap a,I[id]?=some L/\v=.slice (some a) len cap/\len<=cap/\(cap≠0->a=⟨L.b,L.o+off,none⟩)/\(L.z≠0->off+cap*L.z<=L.tot)
 | .nils e,v=>∃ a,v=.slice a 0 0/\a.isSome=e
 | .fn f nf sh cs,v=>∃ first cap,v=.func (YJ I f) first cap/\first.size=nf/\(first++cap).toList.map Zl=sh/\VW I cap f/\ScRels I cs ((first++cap).toList.flatMap fun x=>x.cells.toList)
 | .nilf,v=>v=.nilFunc
 | .nili,v=>v=.nilIface
def ScRels (I:List Loc):List Sc->List Value->Prop
 | [],[]=>True
 | x::xs,v::vs=>ScRel I x v/\ScRels I xs vs
 | [],_::_=>False
 | _::_,[]=>False
end
def AVRel (I:List Loc):AV->Value->Prop
 | .sc s,v=>ScRel I s v
 | .agg cs,v=>∃ arr,v=.agg arr/\ScRels I cs arr.toList
def AVRels (I:List Loc):List AV->List Value->Prop
 | [],[]=>True
 | x::xs,v::vs=>AVRel I x v/\AVRels I xs vs
 | [],_::_=>False
 | _::_,[]=>False
def SVRel (I:List Loc) (lam:Nat->Nat):SV->Value->Prop
 | .u,_=>True
 | .no,v=>v=undef
 | .v a,v=>AVRel I a v
 | .t vs,v=>∃ arr,v=.tuple arr/\AVRels I vs arr.toList
 | .l k off,v=>v=.pointer (some ⟨lam k,off,none⟩)
 | .s k n,v=>v=.slice (some ⟨lam k,0,none⟩) n n
theorem zu {α:Type} {I I':List α} (h:I <+: I') {i:Nat} {x:α} (hx:I[i]?=some x):I'[i]?=some x:=by
 obtain ⟨t,rfl⟩:=h
 rw [List.getElem?_append_left (List.getElem?_eq_some_iff.1 hx).1];exact hx
theorem fnOf_mono {I I':List Loc} (h:I <+: I') {f:Fn} {cap:Array Value} (hf:VW I cap f):YJ I' f=YJ I f:=by
 cases f<;>try rfl
 rename_i id
 have hi:id < I.length:=hf.1
 obtain ⟨t,rfl⟩:=h
 simp only [YJ]
 rw [List.getElem?_append_left hi]
theorem fnIn_mono {I I':List Loc} (h:I <+: I') {f:Fn} {cap:Array Value} (hf:VW I cap f):VW I' cap f:=by
 cases f<;>try trivial
 exact ⟨Nat.lt_of_lt_of_le hf.1 h.length_le,hf.2⟩
mutual
theorem ScRel.mono {I I':List Loc} (h:I <+: I'):∀ (s:Sc) (v:Value),ScRel I s v->ScRel I' s v
 | .bool _,_,r=>r
 | .int _ _,_,r=>r
 | .str _,_,r=>r
 | .nilp,_,r=>r
 | .nils _,_,r=>r
 | .nilf,_,r=>r
 | .nili,_,r=>r
 | .ptr _ _,_,⟨L,h1,h2⟩=>⟨L,zu h h1,h2⟩
 | .sl _ _ _,_,⟨L,c,a,h1,h2⟩=>⟨L,c,a,zu h h1,h2⟩
 | .fn _ _ _ cs,_,⟨f,c,h1,h2,h3,h0,h4⟩=>⟨f,c,h1.trans (by rw [fnOf_mono h h0]),h2,h3,fnIn_mono h h0,ScRels.mono h cs _ h4⟩
theorem ScRels.mono {I I':List Loc} (h:I <+: I'):∀ (s:List Sc) (v:List Value),ScRels I s v->ScRels I' s v
 | [],[],_=>trivial
 | x::xs,v::vs,⟨h1,h2⟩=>⟨ScRel.mono h x v h1,ScRels.mono h xs vs h2⟩
 | [],_::_,r=>r
 | _::_,[],r=>r
end
theorem AVRel.mono {I I':List Loc} (h:I <+: I') {s:AV} {v:Value} (r:AVRel I s v):AVRel I' s v:=by
 cases s with
 | sc s=>exact ScRel.mono h s v r
 | agg cs=>obtain ⟨arr,h1,h2⟩:=r;exact ⟨arr,h1,ScRels.mono h _ _ h2⟩
theorem AVRels.mono {I I':List Loc} (h:I <+: I'):∀ {s:List AV} {v:List Value},AVRels I s v->AVRels I' s v
 | [],[],_=>trivial
 | _::_,_::_,⟨h1,h2⟩=>⟨h1.mono h,AVRels.mono h h2⟩
 | [],_::_,r=>r.elim
 | _::_,[],r=>r.elim
theorem SVRel.mono {I I':List Loc} {lam:Nat->Nat} (h:I <+: I') {s:SV} {v:Value} (r:SVRel I lam s v):SVRel I' lam s v:=by
 cases s with
 | u=>trivial
 | no=>exact r
 | v a=>exact AVRel.mono h r
 | t vs=>obtain ⟨arr,h1,h2⟩:=r;exact ⟨arr,h1,AVRels.mono h h2⟩
 | l k o=>exact r
 | s k n=>exact r
theorem ScRels.length {I:List Loc}:∀ {s:List Sc} {v:List Value},ScRels I s v->s.length=v.length
 | [],[],_=>rfl
 | _::_,_::_,⟨_,h2⟩=>by simp [ScRels.length h2]
 | [],_::_,r=>by simp [ScRels] at r
 | _::_,[],r=>by simp [ScRels] at r
theorem AVRels.length {I:List Loc}:∀ {s:List AV} {v:List Value},AVRels I s v->s.length=v.length
 | [],[],_=>rfl
 | _::_,_::_,⟨_,h2⟩=>by simp [AVRels.length h2]
 | [],_::_,r=>r.elim
 | _::_,[],r=>r.elim
theorem ScRels.get {I:List Loc}:∀ {s:List Sc} {v:List Value},ScRels I s v->∀ {i:Nat} {x:Sc},s[i]?=some x->∃ y,v[i]?=some y/\ScRel I x y
 | [],[],_,_,_,h=>by simp at h
 | a::_,b::_,⟨h1,h2⟩,i,x,h=>by
  cases i with
  | zero=>simp at h;subst h;exact ⟨b,rfl,h1⟩
  | succ i=>simpa using ScRels.get h2 (by simpa using h)
 | [],_::_,r,_,_,_=>by simp [ScRels] at r
 | _::_,[],r,_,_,_=>by simp [ScRels] at r
theorem ScRels.of_get {I:List Loc}:∀ {s:List Sc} {v:List Value},s.length=v.length->(∀ (i:Nat) (x:Sc) (y:Value),s[i]?=some x->v[i]?=some y->ScRel I x y)->ScRels I s v
 | [],[],_,_=>by simp [ScRels]
 | a::s,b::v,hl,h=>by
  simp only [ScRels]
  exact ⟨h 0 a b rfl rfl,ScRels.of_get (by simpa using hl) fun i x y hx hy=>h (i+1) x y (by simpa using hx) (by simpa using hy)⟩
 | [],_::_,hl,_=>by simp at hl
 | _::_,[],hl,_=>by simp at hl
theorem ScRels.append {I:List Loc} {s t:List Sc} {v u:List Value} (h:ScRels I s v) (k:ScRels I t u):ScRels I (s++t) (v++u):=by
 induction s generalizing v with
 | nil=>cases v with
  | nil=>exact k
  | cons b v=>simp [ScRels] at h
 | cons a s ih=>cases v with
  | nil=>simp [ScRels] at h
  | cons b v=>simp only [ScRels,List.cons_append] at h ⊢;exact ⟨h.1,ih h.2⟩
theorem ScRels.take {I:List Loc} (n:Nat):∀ {s:List Sc} {v:List Value},ScRels I s v->ScRels I (s.take n) (v.take n):=by
 induction n with
 | zero=>intro s v h;simp [ScRels]
 | succ n ih=>intro s v h;cases s<;>cases v<;>simp_all [ScRels]
theorem ScRels.drop {I:List Loc} (n:Nat):∀ {s:List Sc} {v:List Value},ScRels I s v->ScRels I (s.drop n) (v.drop n):=by
 induction n with
 | zero=>intro s v h;simpa using h
 | succ n ih=>intro s v h;cases s<;>cases v<;>simp_all [ScRels]
theorem ScRel.cells {I:List Loc} {s:Sc} {v:Value} (h:ScRel I s v):v.cells=#[v]:=by
 cases s<;>simp only [ScRel] at h
 case ptr=>obtain ⟨L,_,rfl⟩:=h;rfl
 case sl=>obtain ⟨L,c,a,_,rfl,_⟩:=h;rfl
 case fn=>obtain ⟨f,c,rfl,_⟩:=h;rfl
 case nils=>obtain ⟨a,rfl,_⟩:=h;rfl
 all_goals subst h;rfl
theorem ScRel.shape {I:List Loc} {s:Sc} {v:Value} (h:ScRel I s v):Zl v=none:=by
 cases s<;>simp only [ScRel] at h
 case ptr=>obtain ⟨L,_,rfl⟩:=h;rfl
 case sl=>obtain ⟨L,c,a,_,rfl,_⟩:=h;rfl
 case fn=>obtain ⟨f,c,rfl,_⟩:=h;rfl
 case nils=>obtain ⟨a,rfl,_⟩:=h;rfl
 all_goals subst h;rfl
theorem AVRel.cells {I:List Loc} {s:AV} {v:Value} (h:AVRel I s v):ScRels I s.cells v.cells.toList:=by
 cases s with
 | sc s=>have h':ScRel I s v:=h;rw [h'.cells];simp only [AV.cells,ScRels];exact ⟨h',trivial⟩
 | agg cs=>obtain ⟨arr,rfl,h2⟩:=h;exact h2
theorem AVRel.shape {I:List Loc} {s:AV} {v:Value} (h:AVRel I s v):shapeOf s=Zl v:=by
 cases s with
 | sc s=>have h':ScRel I s v:=h;rw [h'.shape];rfl
 | agg cs=>obtain ⟨arr,rfl,h2⟩:=h;simp only [shapeOf,Zl];rw [h2.length];simp
def AO.own:AO->Bool
 | .row true _ _ | .box _ _ | .loop _=>true
 | _=>false
def loopSt:Nat->LoopState
 | 0=>.ready
 | 1=>.busy
 | 2=>.done
 | _=>.exhausted
def ORel (P:Program) (B:Nat) (I:List Loc) (L:Loc) (w:World):AO->Prop
 | .row false _ cs=>L.z=0/\L.b < B/\∀ (j:Nat) c,cs[j]?=some c->∃ v,w.cell? ⟨L.b,L.o+j,none⟩=some v/\ScRel I c v
 | .row true e cs=>B<=L.b/\L.z=P.cellsOf e/\∃ arr,w.heap[L.b]?=some (.cells arr e (0,0))/\L.o+L.tot=arr.size/\cs.length<=L.tot/\∀ (j:Nat) c,cs[j]?=some c->∃ v,arr[L.o+j]?=some v/\ScRel I c v
 | .box e cs=>B<=L.b/\L.z=0/\L.o=0/\∃ arr,w.heap[L.b]?=some (.cells arr e (0,0))/\ScRels I cs arr.toList
 | .dead=>True
 | .loop l=>B<=L.b/\∃ r,w.heap[L.b]?=some (.loop r)/\r.state=loopSt l.st/\r.pending=l.pend/\r.params.toList=l.params/\r.assign=l.assign/\r.body=l.body/\∀ (i:Nat) v,l.sl.get i=some v->∃ x,r.tmps[i]?=some x/\SVRel I (fun _=>0) v x/\noLoc v=v
structure HRel (P:Program) (B:Nat) (I:List Loc) (h:AH) (w:World):Prop where
 len:I.length=h.length
 obj:∀ (i:Nat) o L,h[i]?=some o->I[i]?=some L->ORel P B I L w o
 uniq:∀ (i j:Nat) o o' L L',h[i]?=some o->h[j]?=some o'->o.own=true->o'.own=true->I[i]?=some L->I[j]?=some L'->L.b=L'.b->i=j
def OwnB (I:List Loc) (h:AH) (b:Nat):Prop:=∃ (i:Nat) (o:AO) (L:Loc),h[i]?=some o/\o.own=true/\I[i]?=some L/\L.b=b
structure Keeps (B:Nat) (I:List Loc) (h:AH) (w:World) (I':List Loc) (h':AH) (w':World):Prop where
 pre:I <+: I'
 bel:Below B w w'
 size:w.heap.size<=w'.heap.size
 foot:∀ b,b < w.heap.size->¬ OwnB I h b->w'.heap[b]?=w.heap[b]?
 fresh:∀ b,OwnB I' h' b->OwnB I h b\/w.heap.size<=b
theorem Keeps.refl (B:Nat) (I:List Loc) (h:AH) (w:World):Keeps B I h w I h w:=
 ⟨List.prefix_refl _,Below.refl _ _,Nat.le_refl _,fun _ _ _=>rfl,fun _ h=>.inl h⟩
theorem Keeps.trans {B:Nat} {I I1 I2:List Loc} {h h1 h2:AH} {w w1 w2:World} (k:Keeps B I h w I1 h1 w1) (l:Keeps B I1 h1 w1 I2 h2 w2):Keeps B I h w I2 h2 w2 where
 pre:=k.pre.trans l.pre
 bel:=k.bel.trans l.bel
 size:=Nat.le_trans k.size l.size
 foot b hb hn:=by
  refine (l.foot b (Nat.lt_of_lt_of_le hb k.size) fun ho=>?_).trans (k.foot b hb hn)
  rcases k.fresh b ho with h | h
  ·exact hn h
  ·omega
 fresh b ho:=by
  rcases l.fresh b ho with h | h
  ·exact k.fresh b h
  ·exact .inr (Nat.le_trans k.size h)
structure LoRel (E:Nat) (I:List Loc) (h:AH) (lam:Nat->Nat) (lo:Tr (Option (List Sc))) (w:World):Prop where
 cells:∀ (k:Nat) cs,lo.get k=some (some cs)->E<=lam k/\(∃ arr e,w.heap[lam k]?=some (.cells arr e (0,0))/\ScRels I cs arr.toList)/\¬ OwnB I h (lam k)
 apart:∀ (k k':Nat) cs cs',lo.get k=some (some cs)->lo.get k'=some (some cs')->lam k=lam k'->k=k'
def Df (E:Nat) (a:Act) (w:World):Prop:=∃ bs:List Nat,a.defers=bs.map (fun b=>{ target:=.collected b,args:=#[] })/\bs.Nodup/\∀ b∈bs,E<=b/\w.heap[b]?=some (.deferred (some []))
structure Rel (P:Program) (B:Nat) (Ie:List Loc) (he:AH) (we:World) (I:List Loc) (lam:Nat->Nat) (s:St) (a:Act) (w:World):Prop where
 tm:∀ (i:Nat) v,s.sl.get i=some v->∃ x,a.tmps[i]?=some x/\SVRel I lam v x
 lo:LoRel we.heap.size I s.h lam s.lo w
 hp:HRel P B I s.h w
 kp:Keeps B Ie he we I s.h w
 base:B<=we.heap.size
 df:Df we.heap.size a w
variable {P : Program} {B : Nat} {Ie : List Loc} {he : AH} {we : World} {I : List Loc} {lam : Nat -> Nat} {s : St} {a : Act} {w : World}
theorem Zy (a:Act) (d:Option Tmp) (v:Value):(a.put d v).defers=a.defers:=by cases d<;>rfl
theorem Rel.put (r:Rel P B Ie he we I lam s a w) (d:Option Tmp) {sv:SV} {v:Value} (h:SVRel I lam sv v):Rel P B Ie he we I lam (setSl s d sv) (a.put d v) w:=by
 cases d with
 | none=>exact r
 | some d=>
  refine ⟨fun i y hu=>?_,r.lo,r.hp,r.kp,r.base,r.df⟩
  by_cases e:d=i
  ·subst e
   simp only [setSl,Tr.get_set_self] at hu
   obtain ⟨y,hy,rfl⟩:=oM hu
   obtain ⟨x0,hx0,_⟩:=r.tm d y hy
   have hlt:=(Array.getElem?_eq_some_iff.1 hx0).1
   exact ⟨v,by simp [Act.put,hlt],h⟩
  ·simp only [setSl,Tr.get_set_ne _ e] at hu
   obtain ⟨z,hz,hr⟩:=r.tm i y hu
   exact ⟨z,by simp only [Act.put];rw [Array.getElem?_setIfInBounds_ne e];exact hz,hr⟩
theorem ORel.mono {I I':List Loc} {L:Loc} {w w':World} (hp:I <+: I') (hb:w'.heap[L.b]?=w.heap[L.b]?):∀ {o:AO},ORel P B I L w o->ORel P B I' L w' o
 | .row false e cs,⟨h0,h1,h2⟩=>⟨h0,h1,fun j c hj=>let ⟨v,hv,hr⟩:=h2 j c hj;⟨v,(World.cell?_of_block (w:=w) (w':=w') hb).trans hv,ScRel.mono hp _ _ hr⟩⟩
 | .row true e cs,⟨h0,h1,arr,h2,h3,h4,h5⟩=>⟨h0,h1,arr,hb.trans h2,h3,h4,fun j c hj=>let ⟨v,hv,hr⟩:=h5 j c hj;⟨v,hv,ScRel.mono hp _ _ hr⟩⟩
 | .box e cs,⟨h0,h1,h2,arr,h3,h4⟩=>⟨h0,h1,h2,arr,hb.trans h3,ScRels.mono hp _ _ h4⟩
 | .dead,_=>trivial
 | .loop _,⟨h0,r,h1,h2,h3,h4,h5,h6,h7⟩=>⟨h0,r,hb.trans h1,h2,h3,h4,h5,h6,fun i v hi=>let ⟨x,hx,hr,hn⟩:=h7 i v hi;⟨x,hx,hr.mono hp,hn⟩⟩
theorem ORel.lt {L:Loc} {o:AO} (ho:o.own=true) (h:ORel P B I L w o):B<=L.b/\L.b < w.heap.size:=by
 cases o with
 | row own e cs=>
  cases own with
  | false=>simp [AO.own] at ho
  | true=>obtain ⟨h0,_,arr,h2,_⟩:=h;exact ⟨h0,(Array.getElem?_eq_some_iff.1 h2).1⟩
 | box e cs=>obtain ⟨h0,_,_,arr,h2,_⟩:=h;exact ⟨h0,(Array.getElem?_eq_some_iff.1 h2).1⟩
 | dead=>simp [AO.own] at ho
 | loop l=>obtain ⟨h0,r,h1,_⟩:=h;exact ⟨h0,(Array.getElem?_eq_some_iff.1 h1).1⟩
theorem ORel.ro {L:Loc} {e:TypeId} {cs:List Sc} (h:ORel P B I L w (.row false e cs)):L.b < B:=h.2.1
theorem Df.old {E:Nat} (d:Df E a w) {w':World} (h:∀ b,b < w.heap.size->w.heap[b]?=some (.deferred (some []))->w'.heap[b]?=w.heap[b]?):Df E a w':=by
 obtain ⟨bs,h1,h2,h3⟩:=d
 refine ⟨bs,h1,h2,fun b hb=>⟨(h3 b hb).1,?_⟩⟩
 have h4:=(h3 b hb).2
 exact (h b (Array.getElem?_eq_some_iff.1 h4).1 h4).trans h4
theorem OwnB.noDf {h:AH} (hr:HRel P B I h w) {b:Nat} (ho:OwnB I h b):w.heap[b]?≠some (.deferred (some [])):=by
 obtain ⟨i,o,L,h1,h2,h3,rfl⟩:=ho
 have hob:=hr.obj i o L h1 h3
 intro e
 cases o with
 | row own e' cs=>
  cases own with
  | false=>simp [AO.own] at h2
  | true=>obtain ⟨_,_,arr,k2,_⟩:=hob;rw [k2] at e;cases e
 | box e' cs=>obtain ⟨_,_,_,arr,k2,_⟩:=hob;rw [k2] at e;cases e
 | dead=>simp [AO.own] at h2
 | loop l=>obtain ⟨_,r,k2,_⟩:=hob;rw [k2] at e;cases e
theorem OwnB.lt {h:AH} (hr:HRel P B I h w) {b:Nat} (ho:OwnB I h b):B<=b/\b < w.heap.size:=by
 obtain ⟨i,o,L,h1,h2,h3,rfl⟩:=ho
 exact ORel.lt h2 (hr.obj i o L h1 h3)
theorem QB {h:AH} (hl:I.length=h.length) {o:AO} {L:Loc} {b:Nat} (ho:OwnB (I++[L]) (h++[o]) b):OwnB I h b\/(o.own=true/\b=L.b):=by
 obtain ⟨i,o',L',h1,h2,h3,rfl⟩:=ho
 rcases Nat.lt_or_ge i h.length with hi | hi
 ·rw [List.getElem?_append_left hi] at h1
  rw [List.getElem?_append_left (by omega)] at h3
  exact .inl ⟨i,o',L',h1,h2,h3,rfl⟩
 ·rw [List.getElem?_append_right hi] at h1
  rw [List.getElem?_append_right (by omega),hl] at h3
  cases hk:i - h.length with
  | zero=>rw [hk] at h1 h3;simp at h1 h3;subst h1;subst h3;exact .inr ⟨h2,rfl⟩
  | succ k=>rw [hk] at h1;simp at h1
theorem Keeps.alloc (hB:B<=w.heap.size) (O:Obj) (h:AH):Keeps B I h w I h (w.alloc O):=
 ⟨List.prefix_refl _,(Below.refl B w).alloc hB O,by simp,fun b hb _=>Below.heap_alloc w O b hb,fun b ho=>.inl ho⟩
theorem Keeps.size_B (k:Keeps B Ie he we I s.h w) (hb:B<=we.heap.size):B<=w.heap.size:=Nat.le_trans hb k.size
theorem Rel.newHeap (r:Rel P B Ie he we I lam s a w) {o:AO} {O:Obj} {L:Loc} (hL:L.b=w.heap.size) (ho:ORel P B (I++[L]) L (w.alloc O) o) :
  Rel P B Ie he we (I++[L]) lam { s with h:=s.h++[o] } a (w.alloc O):=by
 have hB:B<=w.heap.size:=r.kp.size_B r.base
 have hpre:I <+: I++[L]:=List.prefix_append _ _
 refine ⟨fun i v hv=>let ⟨x,hx,hr⟩:=r.tm i v hv;⟨x,hx,hr.mono hpre⟩,⟨fun k cs hk=>?_,r.lo.apart⟩,⟨by simp [r.hp.len],fun i o' L' h1 h2=>?_,fun i j o1 o2 L1 L2 h1 h2 w1 w2 k1 k2 e=>?_⟩,?_,r.base,r.df.old fun b hb _=>Below.heap_alloc w O b hb⟩
 ·obtain ⟨h1,⟨arr,e,h2,h3⟩,h4⟩:=r.lo.cells k cs hk
  have hlt:=(Array.getElem?_eq_some_iff.1 h2).1
  refine ⟨h1,⟨arr,e,(Below.heap_alloc w O _ hlt).trans h2,ScRels.mono hpre _ _ h3⟩,fun hw=>?_⟩
  rcases QB r.hp.len hw with hw | ⟨_,hw⟩
  ·exact h4 hw
  ·omega
 ·rcases Nat.lt_or_ge i s.h.length with hi | hi
  ·rw [List.getElem?_append_left hi] at h1
   rw [List.getElem?_append_left (by rw [r.hp.len];exact hi)] at h2
   have hob:=r.hp.obj i o' L' h1 h2
   by_cases hlt:L'.b < w.heap.size
   ·exact hob.mono hpre (Below.heap_alloc w O _ hlt)
   ·cases o' with
    | row own e cs=>
     cases own with
     | false=>exact absurd (Nat.lt_of_lt_of_le hob.2.1 hB) hlt
     | true=>exact absurd (ORel.lt rfl hob).2 hlt
    | box e cs=>exact absurd (ORel.lt rfl hob).2 hlt
    | dead=>trivial
    | loop l=>exact absurd (ORel.lt rfl hob).2 hlt
  ·rw [List.getElem?_append_right hi] at h1
   rw [List.getElem?_append_right (by rw [r.hp.len];exact hi),r.hp.len] at h2
   cases hk:i - s.h.length with
   | zero=>rw [hk] at h1 h2;simp at h1 h2;subst h1;subst h2;exact ho
   | succ k=>rw [hk] at h1;simp at h1
 ·have key:∀ (i:Nat) (o:AO) (L':Loc),(s.h++[o])[i]?=some o->True:=fun _ _ _ _=>trivial
  rcases Nat.lt_or_ge i s.h.length with hi | hi<;>rcases Nat.lt_or_ge j s.h.length with hj | hj
  ·rw [List.getElem?_append_left hi] at h1
   rw [List.getElem?_append_left hj] at h2
   rw [List.getElem?_append_left (by rw [r.hp.len];exact hi)] at k1
   rw [List.getElem?_append_left (by rw [r.hp.len];exact hj)] at k2
   exact r.hp.uniq i j o1 o2 L1 L2 h1 h2 w1 w2 k1 k2 e
  ·rw [List.getElem?_append_left hi] at h1
   rw [List.getElem?_append_left (by rw [r.hp.len];exact hi)] at k1
   rw [List.getElem?_append_right (by rw [r.hp.len];exact hj),r.hp.len] at k2
   have:=(ORel.lt w1 (r.hp.obj i o1 L1 h1 k1)).2
   cases hk:j - s.h.length with
   | zero=>rw [hk] at k2;simp at k2;subst k2;omega
   | succ k=>rw [hk] at k2;simp at k2
  ·rw [List.getElem?_append_left hj] at h2
   rw [List.getElem?_append_left (by rw [r.hp.len];exact hj)] at k2
   rw [List.getElem?_append_right (by rw [r.hp.len];exact hi),r.hp.len] at k1
   have:=(ORel.lt w2 (r.hp.obj j o2 L2 h2 k2)).2
   cases hk:i - s.h.length with
   | zero=>rw [hk] at k1;simp at k1;subst k1;omega
   | succ k=>rw [hk] at k1;simp at k1
  ·have hi':=(List.getElem?_eq_some_iff.1 h1).1
   have hj':=(List.getElem?_eq_some_iff.1 h2).1
   simp at hi' hj'
   omega
 ·refine r.kp.trans ⟨hpre,(Below.refl B w).alloc hB O,by simp,fun b hb _=>Below.heap_alloc w O b hb,fun b hw=>?_⟩
  rcases QB r.hp.len hw with hw | ⟨_,hw⟩
  ·exact .inl hw
  ·exact .inr (by omega)
theorem Rel.allocOnly (r:Rel P B Ie he we I lam s a w) (O:Obj):Rel P B Ie he we I lam s a (w.alloc O):=by
 have hB:B<=w.heap.size:=r.kp.size_B r.base
 refine ⟨r.tm,⟨fun k cs hk=>?_,r.lo.apart⟩,⟨r.hp.len,fun i o' L' h1 h2=>?_,r.hp.uniq⟩,r.kp.trans (Keeps.alloc hB O _),r.base,r.df.old fun b hb _=>Below.heap_alloc w O b hb⟩
 ·obtain ⟨h1,⟨arr,e,h2,h3⟩,h4⟩:=r.lo.cells k cs hk
  exact ⟨h1,⟨arr,e,(Below.heap_alloc w O _ (Array.getElem?_eq_some_iff.1 h2).1).trans h2,h3⟩,h4⟩
 ·have hob:=r.hp.obj i o' L' h1 h2
  by_cases hlt:L'.b < w.heap.size
  ·exact hob.mono (List.prefix_refl _) (Below.heap_alloc w O _ hlt)
  ·cases o' with
   | row own e cs=>
    cases own with
    | false=>exact absurd (Nat.lt_of_lt_of_le hob.2.1 hB) hlt
    | true=>exact absurd (ORel.lt rfl hob).2 hlt
   | box e cs=>exact absurd (ORel.lt rfl hob).2 hlt
   | dead=>trivial
   | loop l=>exact absurd (ORel.lt rfl hob).2 hlt
theorem Rel.drew (r:Rel P B Ie he we I lam s a w):Rel P B Ie he we I lam s a w.drew:=by
 refine ⟨r.tm,⟨r.lo.cells,r.lo.apart⟩,⟨r.hp.len,fun i o L h1 h2=>(r.hp.obj i o L h1 h2).mono (List.prefix_refl _) rfl,r.hp.uniq⟩,⟨r.kp.pre,r.kp.bel.drew,r.kp.size,r.kp.foot,r.kp.fresh⟩,r.base,r.df.old fun _ _ _=>rfl⟩
variable {P : Program} {B : Nat} {Ie : List Loc} {he : AH} {we : World} {I : List Loc} {lam : Nat -> Nat} {s : St} {a : Act} {w : World}
theorem ZI {w0:World} (h:Below B w0 w) {b:Nat} (hb:B<=b) (arr:Array Value):Below B w0 (w.setRow b arr):=
 ⟨h.os,h.tape,h.output,by rw [setRow_size];exact h.size,fun k hk=>(setRow_other w b k arr (by omega)).trans (h.block k hk)⟩
theorem Keeps.setRow_new {h:AH} (k:Keeps B Ie he we I h w) {b:Nat} (hB:B<=b) (hb:we.heap.size<=b) (arr:Array Value):Keeps B Ie he we I h (w.setRow b arr):=
 ⟨k.pre,ZI k.bel hB arr,by rw [setRow_size];exact k.size,fun j hj hn=>(setRow_other w b j arr (by omega)).trans (k.foot j hj hn),k.fresh⟩
def turn (lam:Nat->Nat) (d b:Nat):Nat->Nat:=fun k=>if k=d then b else lam k
theorem killL_rel {d b:Nat} {sv:SV} {v:Value} (h:SVRel I lam sv v):SVRel I (turn lam d b) (killL d sv) v:=by
 cases sv with
 | l k o=>
  by_cases e:k=d
  ·subst e;simp [killL,SVRel]
  ·have:Nat.beq k d=false:=by cases hb:Nat.beq k d;rfl;exact absurd (Nat.eq_of_beq_eq_true hb) e
   simp only [killL,this,cond_false,SVRel,turn,if_neg e];exact h
 | s k n=>
  by_cases e:k=d
  ·subst e;simp [killL,SVRel]
  ·have:Nat.beq k d=false:=by cases hb:Nat.beq k d;rfl;exact absurd (Nat.eq_of_beq_eq_true hb) e
   simp only [killL,this,cond_false,SVRel,turn,if_neg e];exact h
 | u=>exact h
 | no=>exact h
 | v x=>exact h
 | t vs=>exact h
theorem Rel.newLocal (r:Rel P B Ie he we I lam s a w) (d:Nat) {sv:SV} {v:Value} {cs:List Sc} {arr:Array Value} {e:TypeId}
  (hc:ScRels I cs arr.toList) (hv:SVRel I (turn lam d w.heap.size) sv v) :
  Rel P B Ie he we I (turn lam d w.heap.size) (newLocal s d sv cs) (a.put (some d) v) (w.alloc (.cells arr e)):=by
 have r2:=r.allocOnly (.cells arr e)
 have hB:we.heap.size<=w.heap.size:=r.kp.size
 refine ⟨fun i y0 hu=>?_,⟨fun k cs' hk=>?_,fun k k' cs1 cs2 h1 h2 hl=>?_⟩,r2.hp,r2.kp,r.base,r2.df⟩
 ·by_cases e:d=i
  ·subst e
   simp only [AM.newLocal,Tr.get_set_self,Tr.get_map] at hu
   obtain ⟨y,hy,rfl⟩:=oM hu
   obtain ⟨y0,hy0,_⟩:=oM hy
   obtain ⟨x0,hx0,_⟩:=r.tm d y0 hy0
   have hlt:=(Array.getElem?_eq_some_iff.1 hx0).1
   exact ⟨v,by simp [Act.put,hlt],hv⟩
  ·simp only [AM.newLocal,Tr.get_set_ne _ e,Tr.get_map] at hu
   obtain ⟨y,hy,rfl⟩:=oM hu
   obtain ⟨z,hz,hr⟩:=r.tm i y hy
   exact ⟨z,by simp only [Act.put];rw [Array.getElem?_setIfInBounds_ne e];exact hz,killL_rel hr⟩
 ·by_cases e:d=k
  ·subst e
   simp only [AM.newLocal,Tr.get_set_self] at hk
   obtain ⟨y,hy,hk⟩:=oM hk
   simp at hk;subst hk
   refine ⟨by simp [turn];exact hB,⟨arr,_,by simp only [turn,if_true];exact heap_alloc_new w _,hc⟩,fun ho=>?_⟩
   have:=(OwnB.lt r.hp (b:=turn lam d w.heap.size d) ho).2
   simp [turn] at this
  ·simp only [AM.newLocal,Tr.get_set_ne _ e] at hk
   have:=r2.lo.cells k cs' hk
   rw [show turn lam d w.heap.size k=lam k by simp [turn,Ne.symm e]]
   exact this
 ·by_cases e1:d=k<;>by_cases e2:d=k'
  ·exact e1.symm.trans e2
  ·subst e1
   simp only [AM.newLocal,Tr.get_set_ne _ e2] at h2
   obtain ⟨_,⟨arr',_,h3,_⟩,_⟩:=r.lo.cells k' cs2 h2
   have:=(Array.getElem?_eq_some_iff.1 h3).1
   simp [turn,Ne.symm e2] at hl
   omega
  ·subst e2
   simp only [AM.newLocal,Tr.get_set_ne _ e1] at h1
   obtain ⟨_,⟨arr',_,h3,_⟩,_⟩:=r.lo.cells k cs1 h1
   have:=(Array.getElem?_eq_some_iff.1 h3).1
   simp [turn,Ne.symm e1] at hl
   omega
  ·simp only [AM.newLocal,Tr.get_set_ne _ e1] at h1
   simp only [AM.newLocal,Tr.get_set_ne _ e2] at h2
   simp [turn,Ne.symm e1,Ne.symm e2] at hl
   exact r.lo.apart k k' cs1 cs2 h1 h2 hl
theorem Rel.setLocal (r:Rel P B Ie he we I lam s a w) {k:Nat} {cs cs':List Sc} (hk:s.lo.get k=some (some cs)) {arr':Array Value} (hc:ScRels I cs' arr'.toList) :
  Rel P B Ie he we I lam { s with lo:=s.lo.set k (some cs') } a (w.setRow (lam k) arr'):=by
 obtain ⟨hE,⟨arr,e,hg,_⟩,hno⟩:=r.lo.cells k cs hk
 refine ⟨r.tm,⟨fun k' cs2 hk'=>?_,fun k1 k2 cs1 cs2 h1 h2 hl=>?_⟩,⟨r.hp.len,fun i o L h1 h2=>?_,r.hp.uniq⟩,r.kp.setRow_new (Nat.le_trans r.base hE) hE arr',r.base,r.df.old fun b _ hd=>setRow_other w _ _ _ fun he=>by rw [he,hg] at hd;cases hd⟩
 ·by_cases ek:k=k'
  ·subst ek
   rw [Tr.get_set_self] at hk'
   obtain ⟨y,hy,hk'⟩:=oM hk'
   simp at hk';subst hk'
   exact ⟨hE,⟨arr',e,setRow_heap w _ arr arr' e (0,0) hg,hc⟩,hno⟩
  ·rw [Tr.get_set_ne _ ek] at hk'
   obtain ⟨h1,⟨arr2,e2,h2,h3⟩,h4⟩:=r.lo.cells k' cs2 hk'
   have hne:lam k'≠lam k:=fun he=>ek (r.lo.apart k' k cs2 cs hk' hk he).symm
   exact ⟨h1,⟨arr2,e2,(setRow_other w _ _ _ hne).trans h2,h3⟩,h4⟩
 ·have f1:∃ c,s.lo.get k1=some (some c):=by
   by_cases e1:k=k1
   ·subst e1;exact ⟨cs,hk⟩
   ·rw [Tr.get_set_ne _ e1] at h1;exact ⟨cs1,h1⟩
  have f2:∃ c,s.lo.get k2=some (some c):=by
   by_cases e2:k=k2
   ·subst e2;exact ⟨cs,hk⟩
   ·rw [Tr.get_set_ne _ e2] at h2;exact ⟨cs2,h2⟩
  obtain ⟨c1,f1⟩:=f1;obtain ⟨c2,f2⟩:=f2
  exact r.lo.apart k1 k2 c1 c2 f1 f2 hl
 ·have hob:=r.hp.obj i o L h1 h2
  have hne:o.own=true->L.b≠lam k:=fun ho he=>hno ⟨i,o,L,h1,ho,h2,he⟩
  have hBE:=r.base
  cases o with
  | row own e' cs2=>
   cases own with
   | false=>exact hob.mono (List.prefix_refl _) (setRow_other w _ _ _ (by have:=ORel.ro hob;omega))
   | true=>exact hob.mono (List.prefix_refl _) (setRow_other w _ _ _ (hne rfl))
  | box e' cs2=>exact hob.mono (List.prefix_refl _) (setRow_other w _ _ _ (hne rfl))
  | dead=>trivial
  | loop l=>exact hob.mono (List.prefix_refl _) (setRow_other w _ _ _ (hne rfl))
theorem Rel.setOwn (r:Rel P B Ie he we I lam s a w) {i:Nat} {o o':AO} {L:Loc} {arr':Array Value} (hi:s.h[i]?=some o) (hL:I[i]?=some L) (ho:o.own=true) (ho':o'.own=true)
  (hr:ORel P B I L (w.setRow L.b arr') o') :
  Rel P B Ie he we I lam { s with h:=s.h.set i o' } a (w.setRow L.b arr'):=by
 have hown:OwnB I s.h L.b:=⟨i,o,L,hi,ho,hL,rfl⟩
 have hlt:=OwnB.lt r.hp hown
 have get:∀ (j:Nat) (o2:AO),(s.h.set i o')[j]?=some o2->(i=j/\o2=o')\/(i≠j/\s.h[j]?=some o2):=by
  intro j o2 hj
  by_cases e1:i=j
  ·subst e1
   rw [List.getElem?_set_self (List.getElem?_eq_some_iff.1 hi).1] at hj
   exact .inl ⟨rfl,(Option.some.inj hj).symm⟩
  ·rw [List.getElem?_set_ne e1] at hj;exact .inr ⟨e1,hj⟩
 have own2:∀ b,OwnB I (s.h.set i o') b->OwnB I s.h b:=by
  rintro b ⟨j,o2,L2,h1,h2,h3,rfl⟩
  rcases get j o2 h1 with ⟨rfl,rfl⟩ | ⟨_,h1⟩
  ·rw [hL] at h3;cases h3;exact hown
  ·exact ⟨j,o2,L2,h1,h2,h3,rfl⟩
 refine ⟨r.tm,⟨fun k cs hk=>?_,r.lo.apart⟩,⟨by simp [r.hp.len],fun j o2 L2 h1 h2=>?_,fun j k o1 o2 L1 L2 h1 h2 w1 w2 k1 k2 he=>?_⟩,
  r.kp.trans ⟨List.prefix_refl _,ZI (Below.refl B w) hlt.1 arr',by rw [setRow_size];exact Nat.le_refl _,fun b hb hn=>setRow_other w _ _ _ fun hE=>hn (hE▸hown),fun b hb=>.inl (own2 b hb)⟩,r.base,r.df.old fun b _ hd=>setRow_other w _ _ _ fun he=>OwnB.noDf r.hp hown (by rw [<- he];exact hd)⟩
 ·obtain ⟨h1,⟨arr2,e2,h2,h3⟩,h4⟩:=r.lo.cells k cs hk
  exact ⟨h1,⟨arr2,e2,(setRow_other w _ _ _ (fun (hE:lam k=L.b)=>h4 (by rw [hE];exact hown))).trans h2,h3⟩,fun hw=>h4 (own2 _ hw)⟩
 ·rcases get j o2 h1 with ⟨rfl,rfl⟩ | ⟨hne,h1⟩
  ·rw [hL] at h2;cases h2;exact hr
  ·have hob:=r.hp.obj j o2 L2 h1 h2
   have hb:o2.own=true->L2.b≠L.b:=fun hw hE=>hne (r.hp.uniq i j o o2 L L2 hi h1 ho hw hL h2 hE.symm)
   cases o2 with
   | row own e' cs2=>
    cases own with
    | false=>exact hob.mono (List.prefix_refl _) (setRow_other w _ _ _ (by have:=ORel.ro hob;omega))
    | true=>exact hob.mono (List.prefix_refl _) (setRow_other w _ _ _ (hb rfl))
   | box e' cs2=>exact hob.mono (List.prefix_refl _) (setRow_other w _ _ _ (hb rfl))
   | dead=>trivial
   | loop l=>exact hob.mono (List.prefix_refl _) (setRow_other w _ _ _ (hb rfl))
 ·rcases get j o1 h1 with ⟨e1,_⟩ | ⟨n1,g1⟩<;>rcases get k o2 h2 with ⟨e2,_⟩ | ⟨n2,g2⟩
  ·exact e1.symm.trans e2
  ·subst e1;rw [hL] at k1;cases k1
   exact r.hp.uniq i k o o2 L L2 hi g2 ho w2 hL k2 he
  ·subst e2;rw [hL] at k2;cases k2
   exact r.hp.uniq j i o1 o L1 L g1 hi w1 ho k1 hL he
  ·exact r.hp.uniq j k o1 o2 L1 L2 g1 g2 w1 w2 k1 k2 he
theorem Rel.kill (r:Rel P B Ie he we I lam s a w) (i:Nat):Rel P B Ie he we I lam { s with h:=s.h.set i .dead } a w:=by
 have get:∀ (j:Nat) (o2:AO),(s.h.set i .dead)[j]?=some o2->o2=.dead\/s.h[j]?=some o2:=by
  intro j o2 hj
  by_cases e1:i=j
  ·subst e1
   rw [List.getElem?_set_self'] at hj
   obtain ⟨y,_,hy⟩:=oM hj
   exact .inl hy.symm
  ·rw [List.getElem?_set_ne e1] at hj;exact .inr hj
 have own2:∀ b,OwnB I (s.h.set i .dead) b->OwnB I s.h b:=by
  rintro b ⟨j,o2,L2,h1,h2,h3,rfl⟩
  rcases get j o2 h1 with rfl | h1
  ·simp [AO.own] at h2
  ·exact ⟨j,o2,L2,h1,h2,h3,rfl⟩
 refine ⟨r.tm,⟨fun k cs hk=>?_,r.lo.apart⟩,⟨by simp [r.hp.len],fun j o2 L2 h1 h2=>?_,fun j k o1 o2 L1 L2 h1 h2 w1 w2 k1 k2 he=>?_⟩,
  r.kp.trans ⟨List.prefix_refl _,Below.refl B w,Nat.le_refl _,fun _ _ _=>rfl,fun b hb=>.inl (own2 b hb)⟩,r.base,r.df⟩
 ·obtain ⟨h1,h2,h4⟩:=r.lo.cells k cs hk
  exact ⟨h1,h2,fun hw=>h4 (own2 _ hw)⟩
 ·rcases get j o2 h1 with rfl | h1
  ·trivial
  ·exact r.hp.obj j o2 L2 h1 h2
 ·rcases get j o1 h1 with rfl | h1
  ·simp [AO.own] at w1
  rcases get k o2 h2 with rfl | h2
  ·simp [AO.own] at w2
  exact r.hp.uniq j k o1 o2 L1 L2 h1 h2 w1 w2 k1 k2 he
theorem Rel.reown (r:Rel P B Ie he we I lam s a w) {i:Nat} {o o':AO} {L L':Loc} {arr':Array Value} (hi:s.h[i]?=some o) (hL:I[i]?=some L) (ho:o.own=true)
  (hb:L'.b=L.b) (hr:ORel P B (I++[L']) L' (w.setRow L.b arr') o') :
  Rel P B Ie he we (I++[L']) lam { s with h:=s.h.set i .dead++[o'] } a (w.setRow L.b arr'):=by
 have hpre:I <+: I++[L']:=List.prefix_append _ _
 have hown:OwnB I s.h L.b:=⟨i,o,L,hi,ho,hL,rfl⟩
 have hlt:=OwnB.lt r.hp hown
 have hlen:(s.h.set i .dead).length=I.length:=by simp [r.hp.len]
 have get:∀ (j:Nat) (o2:AO) (L2:Loc),(s.h.set i .dead++[o'])[j]?=some o2->(I++[L'])[j]?=some L2->o2=.dead\/(i≠j/\s.h[j]?=some o2/\I[j]?=some L2)\/(j=I.length/\o2=o'/\L2=L'):=by
  intro j o2 L2 hj hL2
  rcases Nat.lt_or_ge j I.length with hj' | hj'
  ·rw [List.getElem?_append_left (by rw [hlen];exact hj')] at hj
   rw [List.getElem?_append_left hj'] at hL2
   by_cases e1:i=j
   ·subst e1
    rw [List.getElem?_set_self'] at hj
    obtain ⟨y,_,hy⟩:=oM hj
    exact .inl hy.symm
   ·rw [List.getElem?_set_ne e1] at hj;exact .inr (.inl ⟨e1,hj,hL2⟩)
  ·rw [List.getElem?_append_right (by rw [hlen];exact hj'),hlen] at hj
   rw [List.getElem?_append_right hj'] at hL2
   cases hk:j - I.length with
   | zero=>rw [hk] at hj hL2;simp at hj hL2;exact .inr (.inr ⟨by omega,hj.symm,hL2.symm⟩)
   | succ k=>rw [hk] at hj;simp at hj
 have own2:∀ b,OwnB (I++[L']) (s.h.set i .dead++[o']) b->OwnB I s.h b:=by
  rintro b ⟨j,o2,L2,h1,h2,h3,rfl⟩
  rcases get j o2 L2 h1 h3 with rfl | ⟨_,h1,h3⟩ | ⟨_,rfl,rfl⟩
  ·simp [AO.own] at h2
  ·exact ⟨j,o2,L2,h1,h2,h3,rfl⟩
  ·rw [hb];exact hown
 refine ⟨fun j v hv=>let ⟨x,hx,hr⟩:=r.tm j v hv;⟨x,hx,hr.mono hpre⟩,⟨fun k cs hk=>?_,r.lo.apart⟩,⟨by simp [r.hp.len],fun j o2 L2 h1 h2=>?_,fun j k o1 o2 L1 L2 h1 h2 w1 w2 k1 k2 he=>?_⟩,
  r.kp.trans ⟨hpre,ZI (Below.refl B w) hlt.1 arr',by rw [setRow_size];exact Nat.le_refl _,fun b hb hn=>setRow_other w _ _ _ fun hE=>hn (hE▸hown),fun b hb=>.inl (own2 b hb)⟩,r.base,r.df.old fun b _ hd=>setRow_other w _ _ _ fun he=>OwnB.noDf r.hp hown (by rw [<- he];exact hd)⟩
 ·obtain ⟨h1,⟨arr2,e2,h2,h3⟩,h4⟩:=r.lo.cells k cs hk
  exact ⟨h1,⟨arr2,e2,(setRow_other w _ _ _ (fun (hE:lam k=L.b)=>h4 (by rw [hE];exact hown))).trans h2,ScRels.mono hpre _ _ h3⟩,fun hw=>h4 (own2 _ hw)⟩
 ·rcases get j o2 L2 h1 h2 with rfl | ⟨hne,h1,h2⟩ | ⟨_,rfl,rfl⟩
  ·trivial
  ·have hob:=r.hp.obj j o2 L2 h1 h2
   have hb:o2.own=true->L2.b≠L.b:=fun hw hE=>hne (r.hp.uniq i j o o2 L L2 hi h1 ho hw hL h2 hE.symm)
   cases o2 with
   | row own e' cs2=>
    cases own with
    | false=>exact hob.mono hpre (setRow_other w _ _ _ (by have:=ORel.ro hob;omega))
    | true=>exact hob.mono hpre (setRow_other w _ _ _ (hb rfl))
   | box e' cs2=>exact hob.mono hpre (setRow_other w _ _ _ (hb rfl))
   | dead=>trivial
   | loop l=>exact hob.mono hpre (setRow_other w _ _ _ (hb rfl))
  ·exact hr
 ·rcases get j o1 L1 h1 k1 with e1 | ⟨n1,g1,l1⟩ | ⟨n1,_,e1⟩
  ·rw [e1] at w1;simp [AO.own] at w1
  ·rcases get k o2 L2 h2 k2 with e2 | ⟨n2,g2,l2⟩ | ⟨n2,_,e2⟩
   ·rw [e2] at w2;simp [AO.own] at w2
   ·exact r.hp.uniq j k o1 o2 L1 L2 g1 g2 w1 w2 l1 l2 he
   ·subst e2;exact absurd (r.hp.uniq i j o o1 L L1 hi g1 ho w1 hL l1 (by rw [<- hb];exact he.symm)) n1
  ·subst e1
   rcases get k o2 L2 h2 k2 with e2 | ⟨n2,g2,l2⟩ | ⟨n2,_,e2⟩
   ·rw [e2] at w2;simp [AO.own] at w2
   ·exact absurd (r.hp.uniq i k o o2 L L2 hi g2 ho w2 hL l2 (by rw [<- hb];exact he)) n2
   ·omega
section
variable {R : Type} {r : R}
theorem asSc_some {v:AV} {c:Sc->Option R}:asSc v c=some r↔∃ s,v=.sc s/\c s=some r:=by cases v<;>simp [asSc]
theorem asAgg_some {v:AV} {c:List Sc->Option R}:asAgg v c=some r↔∃ s,v=.agg s/\c s=some r:=by cases v<;>simp [asAgg]
theorem asB_some {v:Sc} {c:Bool->Option R}:asB v c=some r↔∃ b,v=.bool b/\c b=some r:=by cases v<;>simp [asB]
theorem asI_some {k:IntKind} {v:Sc} {c:Int->Option R}:asI k v c=some r↔∃ n,v=.int k n/\c n=some r:=by
 constructor
 ·intro h
  cases v with
  | int k' n=>simp only [asI] at h;split at h<;>simp_all
  | _=>simp [asI] at h
 ·rintro ⟨n,rfl,h⟩;simp [asI,h]
theorem asC_some {α:Type} {l:List α} {c:α->List α->Option R}:asC l c=some r↔∃ x xs,l=x::xs/\c x xs=some r:=by
 constructor
 ·intro h
  cases l with
  | nil=>simp [asC] at h
  | cons x xs=>exact ⟨x,xs,rfl,h⟩
 ·rintro ⟨x,xs,rfl,h⟩;exact h
theorem asN_some {α:Type} {l:List α} {c:Option R}:asN l c=some r↔l=[]/\c=some r:=by cases l<;>simp [asN]
theorem asS_some {v:Sc} {c:Nat->Nat->Nat->Option R}:asS v c=some r↔∃ i o n,v=.sl i o n/\c i o n=some r:=by
 constructor
 ·intro h
  cases v with
  | sl i o n=>exact ⟨i,o,n,rfl,h⟩
  | _=>simp [asS] at h
 ·rintro ⟨i,o,n,rfl,h⟩;exact h
theorem asP_some {v:Sc} {c:Nat->Nat->Option R}:asP v c=some r↔∃ i o,v=.ptr i o/\c i o=some r:=by
 constructor
 ·intro h
  cases v with
  | ptr i o=>exact ⟨i,o,rfl,h⟩
  | _=>simp [asP] at h
 ·rintro ⟨i,o,rfl,h⟩;exact h
theorem asF_some {v:Sc} {c:Fn->Nat->List (Option Nat)->List Sc->Option R}:asF v c=some r↔∃ f n sh l,v=.fn f n sh l/\c f n sh l=some r:=by
 constructor
 ·intro h
  cases v with
  | fn f n sh l=>exact ⟨f,n,sh,l,rfl,h⟩
  | _=>simp [asF] at h
 ·rintro ⟨f,n,sh,l,rfl,h⟩;exact h
theorem gB {b:Bool} {c:Option R}:guardB b c=some r↔b=true/\c=some r:=by cases b<;>simp [guardB]
theorem Zz {A:FAn} {x:Operand} {v:SV} {f:Sc->Option R} {r:R} (h:ontoK A x v f=some r):(∃ d k,x=.tmp d/\A.loc.contains d=true/\v=.s k 0/\f (.nils true)=some r)\/(∃ y,v=.v (.sc y)/\f y=some r):=by
 have two:∀ {v:SV},(v.val.bind fun v=>asSc v f)=some r->∃ y,v=.v (.sc y)/\f y=some r:=by
  intro v h
  obtain ⟨a,ha,h⟩:=oB h
  obtain ⟨y,rfl,h⟩:=asSc_some.1 h
  cases v<;>simp [SV.val] at ha
  subst ha
  exact ⟨y,rfl,h⟩
 unfold ontoK at h
 split at h
 ·rename_i d
  cases hl:A.loc.contains d<;>rw [hl] at h
  ·exact .inr (two h)
  ·left
   simp only [cond_true] at h
   split at h
   ·rename_i k n
    obtain ⟨h0,h⟩:=gB.1 h
    have e:n=0:=Nat.eq_of_beq_eq_true h0
    subst e
    exact ⟨d,k,rfl,hl,rfl,h⟩
   ·cases h
 ·exact .inr (two h)
theorem cond_some {b:Bool} {x y:Option R}:cond b x y=some r↔(b=true/\x=some r)\/(b=false/\y=some r):=by cases b<;>simp
end
theorem yi {R:Type} {r:R} {l:Leaf} {v:Sc} {c:Sc->Option R} (h:asLeaf l v c=some r):c v=some r:=by
 cases l with
 | int k=>simp only [asLeaf] at h;obtain ⟨n,rfl,h2⟩:=asI_some.1 h;exact h2
 | bool=>simp only [asLeaf] at h;obtain ⟨n,rfl,h2⟩:=asB_some.1 h;exact h2
 | any=>exact h
theorem zV {R:Type} {r:R}:∀ {ls:List Leaf} {l:List Sc} {c:List Sc->Option R},asLeaves ls l c=some r->c l=some r
 | [],l,c,h=>by obtain ⟨rfl,h⟩:=asN_some.1 h;exact h
 | x::xs,l,c,h=>by
  simp only [asLeaves] at h
  obtain ⟨y,ys,rfl,h⟩:=asC_some.1 h
  exact zV (c:=fun z=>c (y::z)) (yi (c:=fun y=>asLeaves xs ys fun z=>c (y::z)) h)
theorem Zb {R:Type} {r:R} {P:Program} {t:TypeId} {v:AV} {c:AV->Option R} (h:typed1 P t v c=some r):c v=some r:=by
 unfold typed1 at h
 rcases cond_some.1 h with ⟨_,h⟩ | ⟨_,h⟩
 ·obtain ⟨l,rfl,h⟩:=asAgg_some.1 h;exact zV (c:=fun ys=>c (.agg ys)) h
 ·obtain ⟨l,rfl,h⟩:=asSc_some.1 h;exact yi (c:=fun ys=>c (.sc ys)) h
theorem Zt {R:Type} {r:R} {P:Program}:∀ {ts:List TypeId} {l:List AV} {c:List AV->Option R},typedAll P ts l c=some r->c l=some r
 | [],l,c,h=>by obtain ⟨rfl,h⟩:=asN_some.1 h;exact h
 | x::xs,l,c,h=>by
  obtain ⟨y,ys,rfl,h⟩:=asC_some.1 h
  exact Zt (c:=fun z=>c (y::z)) (Zb (c:=fun y=>typedAll P xs ys fun z=>c (y::z)) h)
variable {P : Program} {B : Nat} {Ie : List Loc} {he : AH} {we : World} {I : List Loc} {lam : Nat -> Nat} {s : St} {a : Act} {w : World}
theorem _root_.Option.bind_some_right' {α:Type} (x:Option α):x.bind some=x:=by cases x<;>rfl
theorem xV {v:Value} {x:Sc} (h:ofConst v=some x):ScRel I x v:=by
 unfold ofConst at h
 split at h<;>first | (cases h;simp [ScRel]) | cases h
theorem xF:∀ {v:List Value} {x:List Sc},ofConsts v=some x->ScRels I x v
 | [],x,h=>by simp [ofConsts] at h;subst h;simp [ScRels]
 | v::vs,x,h=>by
  simp only [ofConsts,Option.bind_eq_some_iff] at h
  obtain ⟨y,hy,ys,hys,h⟩:=h
  cases h
  simp only [ScRels]
  exact ⟨xV hy,xF hys⟩
theorem zK {t:TypeId} {z:List Sc} (h:zeroCells P t=some z):∃ i zv,P.info? t=some i/\i.zero=some zv/\ScRels I z zv.cells.toList:=by
 simp only [zeroCells,Option.bind_eq_some_iff] at h
 obtain ⟨i,hi,zv,hz,h⟩:=h
 exact ⟨i,zv,hi,hz,xF h⟩
theorem zp {t:TypeId} {i:TypeInfo} (h:P.info? t=some i):P.cellsOf t=i.size:=by simp [Program.cellsOf,h]
theorem Wy {t:TypeId} {i:TypeInfo} (h:P.info? t=some i):P.bytesOf t=i.bytes:=by simp [Program.bytesOf,h]
theorem yU {t:TypeId} {d:TypeDesc} (h:P.underlying t=some d):∃ i,P.info? t=some i:=by
 unfold Program.underlying at h
 cases hi:P.info? t with
 | none=>simp [hi] at h
 | some i=>exact ⟨i,rfl⟩
theorem zn (r:Rel P B Ie he we I lam s a w) {x:Operand} {sv:SV} (h:evA s x=some sv):SVRel I lam sv (a.eval x):=by
 cases x with
 | tmp t=>
  obtain ⟨v,hv,hr⟩:=r.tm t sv h
  simp only [Act.eval,Array.getD_eq_getD_getElem?,hv];exact hr
 | const v=>
  simp only [evA,Option.bind_eq_some_iff] at h
  obtain ⟨y,hy,h⟩:=h
  cases h
  exact xV hy
 | global g=>simp [evA] at h
 | func f=>
  simp only [evA] at h;cases h
  simp only [SVRel,AVRel,ScRel]
  exact ⟨#[],#[],rfl,rfl,rfl,trivial,by simp [ScRels]⟩
theorem zm (r:Rel P B Ie he we I lam s a w) {x:Operand} {v:AV} (h:evV s x=some v):AVRel I v (a.eval x):=by
 simp only [evV,Option.bind_eq_some_iff] at h
 obtain ⟨sv,h1,h2⟩:=h
 have:=zn r h1
 cases sv<;>simp [SV.val] at h2
 subst h2;exact this
theorem yn (r:Rel P B Ie he we I lam s a w):∀ {xs:List Operand} {vs:List AV},evVs s xs=some vs->AVRels I vs (xs.map a.eval)
 | [],vs,h=>by simp [evVs] at h;subst h;simp [AVRels]
 | x::xs,vs,h=>by
  simp only [evVs,Option.bind_eq_some_iff] at h
  obtain ⟨v,h1,vs',h2,h⟩:=h
  cases h
  exact ⟨zm r h1,yn r h2⟩
theorem yC (r:Rel P B Ie he we I lam s a w) {x:Operand} {v:Sc} (h:evV s x=some (.sc v)):ScRel I v (a.eval x):=zm r h
theorem yW {g o:Nat} {arr:Array Value} {e:TypeId} {fr:Nat×Nat} (hg:w.heap[g]?=some (.cells arr e fr)):w.cell? ⟨g,o,none⟩=arr[o]?:=by
 simp [World.cell?,hg]
theorem obj_cell {L:Loc} {o:AO} {cs:List Sc} (hr:ORel P B I L w o) (hc:zU o=some cs) {j:Nat} {c:Sc} (hj:cs[j]?=some c) :
  ∃ v,w.cell? ⟨L.b,L.o+j,none⟩=some v/\ScRel I c v:=by
 cases o with
 | row own e c0=>
  simp [zU] at hc;subst hc
  cases own with
  | false=>exact hr.2.2 j c hj
  | true=>
   obtain ⟨_,_,arr,h2,_,_,h5⟩:=hr
   obtain ⟨v,hv,hs⟩:=h5 j c hj
   exact ⟨v,(yW h2).trans hv,hs⟩
 | box e c0=>
  simp [zU] at hc;subst hc
  obtain ⟨_,_,h1,arr,h2,h3⟩:=hr
  obtain ⟨v,hv,hs⟩:=h3.get hj
  exact ⟨v,by rw [h1,Nat.zero_add];exact (yW h2).trans (by simpa using hv),hs⟩
 | dead=>simp [zU] at hc
 | loop l=>simp [zU] at hc
theorem VR {c l:List Sc} {off n:Nat} (h:cut c off n=some l):off+n<=c.length/\l=(c.drop off).take n:=by
 unfold cut at h
 obtain ⟨h1,h2⟩:=gB.1 h
 exact ⟨of_decide_eq_true h1,(Option.some.inj h2).symm⟩
theorem UI {ad:Addr} {l:List Sc} (h:∀ (j:Nat) c,l[j]?=some c->∃ v,w.cell? (ad.add j)=some v/\ScRel I c v) :
  ∃ vs:List Value,(loadCells ad l.length).run P w=.ok vs.toArray w/\ScRels I l vs:=by
 let f:Nat->Value:=fun j=>(w.cell? (ad.add j)).getD undef
 have hf:∀ j,j < l.length->w.cell? (ad.add j)=some (f j):=by
  intro j hj
  obtain ⟨v,hv,_⟩:=h j l[j] (List.getElem?_eq_getElem hj)
  simp only [f,hv,Option.getD_some]
 refine ⟨(List.range l.length).map f,run_loadCells w ad l.length f hf,ScRels.of_get (by simp) fun i x y hx hy=>?_⟩
 obtain ⟨v,hv,hr⟩:=h i x hx
 have hi:=(List.getElem?_eq_some_iff.1 hx).1
 simp only [List.getElem?_map,List.getElem?_range hi,Option.map_some] at hy
 cases hy
 simp only [f,hv,Option.getD_some];exact hr
theorem wM (b o n:Nat):Addr.add ⟨b,o,none⟩ n=⟨b,o+n,none⟩:=Addr.add_lit b o n
theorem Yu (r:Rel P B Ie he we I lam s a w) {sv:SV} {v:Value} (hv:SVRel I lam sv v) {n:Nat} {l:List Sc} (h:loadAt s sv n some=some l) :
  ∃ b o,v=.pointer (some ⟨b,o,none⟩)/\l.length=n/\∀ (j:Nat) c,l[j]?=some c->∃ x,w.cell? ⟨b,o+j,none⟩=some x/\ScRel I c x:=by
 rw [wE] at h
 split at h
 ·rename_i k off
  simp only [Option.bind_eq_some_iff] at h
  obtain ⟨b,hb,cs,rfl,l',hl,h⟩:=h
  cases h
  obtain ⟨hle,rfl⟩:=VR hl
  obtain ⟨_,⟨arr,e,hg,hc⟩,_⟩:=r.lo.cells k cs hb
  refine ⟨lam k,off,hv,by simp;omega,fun j c hj=>?_⟩
  rw [List.getElem?_take] at hj
  split at hj
  ·rw [List.getElem?_drop] at hj
   obtain ⟨x,hx,hs⟩:=hc.get hj
   exact ⟨x,(yW hg).trans (by simpa using hx),hs⟩
  ·cases hj
 ·rename_i p
  replace h:=asP_some.1 h
  obtain ⟨id,off,rfl,h⟩:=h
  rw [Option.bind_some_right'] at h
  simp only [ldN,Option.bind_eq_some_iff] at h
  obtain ⟨o,ho,cs,hc,hl⟩:=h
  obtain ⟨hle,rfl⟩:=VR hl
  obtain ⟨L,hL,rfl⟩:=hv
  refine ⟨L.b,L.o+off,rfl,by simp;omega,fun j c hj=>?_⟩
  rw [List.getElem?_take] at hj
  split at hj
  ·rw [List.getElem?_drop] at hj
   obtain ⟨x,hx,hs⟩:=obj_cell (r.hp.obj id o L ho hL) hc hj
   exact ⟨x,by rw [Nat.add_assoc];exact hx,hs⟩
  ·cases hj
 ·cases h
theorem TU (r:Rel P B Ie he we I lam s a w) {sv:SV} {v:Value} (hv:SVRel I lam sv v) {c:Sc} (h:load1 s sv some=some c) :
  ∃ b o x,v=.pointer (some ⟨b,o,none⟩)/\w.cell? ⟨b,o,none⟩=some x/\ScRel I c x:=by
 unfold load1 at h
 split at h
 ·rename_i k off
  simp only [Option.bind_eq_some_iff] at h
  obtain ⟨b,hb,cs,rfl,c',hc',h⟩:=h
  cases h
  obtain ⟨_,⟨arr,e,hg,hc⟩,_⟩:=r.lo.cells k cs hb
  obtain ⟨x,hx,hs⟩:=hc.get hc'
  exact ⟨lam k,off,x,hv,(yW hg).trans (by simpa using hx),hs⟩
 ·rename_i p
  replace h:=asP_some.1 h
  obtain ⟨id,off,rfl,h⟩:=h
  rw [Option.bind_some_right'] at h
  simp only [ld1,Option.bind_eq_some_iff] at h
  obtain ⟨o,ho,cs,hc,hl⟩:=h
  obtain ⟨L,hL,rfl⟩:=hv
  obtain ⟨x,hx,hs⟩:=obj_cell (r.hp.obj id o L ho hL) hc hl
  exact ⟨L.b,L.o+off,x,rfl,hx,hs⟩
 ·cases h
theorem zW {R:Type} {sv:SV} {n:Nat} {c:List Sc->Option R} {r:R} (h:loadAt s sv n c=some r):∃ l,loadAt s sv n some=some l/\c l=some r:=by
 have:=xc c s sv n some
 simp only [Option.bind_some] at this
 rw [<- this] at h
 exact oB h
theorem yt {R:Type} {sv:SV} {c:Sc->Option R} {r:R} (h:load1 s sv c=some r):∃ l,load1 s sv some=some l/\c l=some r:=by
 have:=xl c s sv some
 simp only [Option.bind_some] at this
 rw [<- this] at h
 exact oB h
theorem wo {t:TypeId} {d:TypeDesc} (h:P.underlying t=some d):(isAgg t).run P w=.ok (yo P t) w:=by
 simp only [isAgg,Sem.run_bind,run_underlying h,Result.andThen_ok,yo,h]
 cases d<;>rfl
theorem zQ {t:TypeId} {i:TypeInfo} (h:P.info? t=some i):(sizeOf t).run P w=.ok i.size w:=by
 simp [sizeOf,typeInfo,h]
variable {P : Program} {B : Nat} {Ie : List Loc} {he : AH} {we : World} {I : List Loc} {lam : Nat -> Nat} {s : St} {a : Act} {w : World}
theorem yV {α:Type} {c v:List α} {off:Nat} (h:off+v.length<=c.length) (j:Nat) :
  (splice c off v)[j]?=if j < off then c[j]? else if j < off+v.length then v[j - off]? else c[j]?:=by
 unfold splice
 by_cases h1:j < off
 ·rw [if_pos h1,List.append_assoc,List.getElem?_append_left (by simp;omega),List.getElem?_take,if_pos h1]
 ·rw [if_neg h1]
  by_cases h2:j < off+v.length
  ·rw [if_pos h2,List.append_assoc,List.getElem?_append_right (by simp;omega),List.getElem?_append_left (by simp;omega)]
   simp [Nat.min_eq_left (show off<=c.length by omega)]
  ·rw [if_neg h2,List.getElem?_append_right (by simp;omega),List.getElem?_drop]
   congr 1;simp;omega
theorem yI {α:Type} {c v:List α} {off:Nat} (h:off+v.length<=c.length):(splice c off v).length=c.length:=by
 simp [splice];omega
theorem ScRels.splice {I:List Loc} {c v:List Sc} {cs vs:List Value} (off:Nat) (h:ScRels I c cs) (k:ScRels I v vs):ScRels I (splice c off v) (AM.splice cs off vs):=by
 unfold AM.splice
 rw [k.length]
 exact ((h.take off).append k).append (h.drop _)
theorem ScRel.one {x:Sc} {v:Value} (h:ScRel I x v):v.oneCell'=true:=by
 cases x<;>simp only [ScRel] at h
 case ptr=>obtain ⟨L,_,rfl⟩:=h;rfl
 case sl=>obtain ⟨L,c,a,_,rfl,_⟩:=h;rfl
 case fn=>obtain ⟨f,c,rfl,_⟩:=h;rfl
 case nils=>obtain ⟨a,rfl,_⟩:=h;rfl
 all_goals subst h;rfl
theorem ScRels.ones:∀ {x:List Sc} {v:List Value},ScRels I x v->∀ u∈v,u.oneCell'=true
 | [],[],_,u,h=>by cases h
 | x::xs,v::vs,h,u,hu=>by
  simp only [ScRels] at h
  rcases List.mem_cons.1 hu with rfl | hu
  ·exact h.1.one
  ·exact ScRels.ones h.2 u hu
 | [],_::_,h,_,_=>by simp [ScRels] at h
 | _::_,[],h,_,_=>by simp [ScRels] at h
theorem wi {c v l:List Sc} {off:Nat} (h:put c off v=some l):off+v.length<=c.length/\l=splice c off v:=by
 unfold put at h
 obtain ⟨h1,h2⟩:=gB.1 h
 exact ⟨of_decide_eq_true h1,(Option.some.inj h2).symm⟩
theorem row_splice {cs v:List Sc} {vs:List Value} {off o:Nat} {arr:Array Value} (hle:off+v.length<=cs.length) (hin:o+cs.length<=arr.size)
  (h:∀ (j:Nat) c,cs[j]?=some c->∃ x,arr[o+j]?=some x/\ScRel I c x) (hv:ScRels I v vs) :
  ∀ (j:Nat) c,(splice cs off v)[j]?=some c->∃ x,(splice arr.toList (o+off) vs).toArray[o+j]?=some x/\ScRel I c x:=by
 intro j c hj
 have hl:=hv.length
 have h2:(o+off)+vs.length<=arr.toList.length:=by simp;omega
 rw [yV hle] at hj
 rw [List.getElem?_toArray,yV h2]
 by_cases h1:j < off
 ·rw [if_pos h1] at hj
  rw [if_pos (by omega)]
  obtain ⟨x,hx,hr⟩:=h j c hj
  exact ⟨x,by simpa using hx,hr⟩
 ·rw [if_neg h1] at hj
  rw [if_neg (by omega)]
  by_cases h3:j < off+v.length
  ·rw [if_pos h3] at hj
   rw [if_pos (by omega)]
   obtain ⟨x,hx,hr⟩:=hv.get hj
   exact ⟨x,by rw [show o+j - (o+off)=j - off by omega];exact hx,hr⟩
  ·rw [if_neg h3] at hj
   rw [if_neg (by omega)]
   obtain ⟨x,hx,hr⟩:=h j c hj
   exact ⟨x,by simpa using hx,hr⟩
theorem st_some {h h':AH} {id off:Nat} {v:List Sc} (hs:st h id off v=some h') :
  ∃ (o o':AO) (cs:List Sc),h[id]?=some o/\zU o=some cs/\o.own=true/\o'.own=true/\off+v.length<=cs.length/\h'=h.set id o'/\
   ((∃ e,o=.row true e cs/\o'=.row true e (splice cs off v))\/(∃ e,o=.box e cs/\o'=.box e (splice cs off v))):=by
 simp only [st,Option.bind_eq_some_iff] at hs
 obtain ⟨o,ho,hs⟩:=hs
 split at hs
 ·rename_i e cs
  simp only [Option.bind_eq_some_iff] at hs
  obtain ⟨c',hc',hs⟩:=hs
  obtain ⟨hle,rfl⟩:=wi hc'
  exact ⟨_,.row true e (splice cs off v),cs,ho,rfl,rfl,rfl,hle,(Option.some.inj hs).symm,.inl ⟨e,rfl,rfl⟩⟩
 ·rename_i e cs
  simp only [Option.bind_eq_some_iff] at hs
  obtain ⟨c',hc',hs⟩:=hs
  obtain ⟨hle,rfl⟩:=wi hc'
  exact ⟨_,.box e (splice cs off v),cs,ho,rfl,rfl,rfl,hle,(Option.some.inj hs).symm,.inr ⟨e,rfl,rfl⟩⟩
 ·cases hs
theorem QJ (r:Rel P B Ie he we I lam s a w) {id off:Nat} {v:List Sc} {vs:List Value} {h':AH} (hs:st s.h id off v=some h') (hv:ScRels I v vs) {L:Loc} (hL:I[id]?=some L) :
  ∃ w',(storeCells ⟨L.b,L.o+off,none⟩ vs).run P w=.ok () w'/\Rel P B Ie he we I lam { s with h:=h' } a w':=by
 obtain ⟨o,o',cs,ho,hc,hown,hown',hle,rfl,hcase⟩:=st_some hs
 have hr:=r.hp.obj id o L ho hL
 have hl:=hv.length
 rcases hcase with ⟨e,rfl,rfl⟩ | ⟨e,rfl,rfl⟩
 ·obtain ⟨h0,h1,arr,h2,h3,h4,h5⟩:=hr
  refine ⟨_,run_storeCells_at P L.b (L.o+off) e vs 0 arr w h2 (by omega) hv.ones,r.setOwn ho hL hown hown' ?_⟩
  have hsp:(arr.toList.take (L.o+off+0)++vs++arr.toList.drop (L.o+off+0+vs.length)).toArray=(splice arr.toList (L.o+off) vs).toArray:=rfl
  refine ⟨h0,h1,_,setRow_heap w _ arr _ e (0,0) h2,?_,by rw [yI hle];exact h4,?_⟩
  ·rw [hsp];simp [yI (c:=arr.toList) (v:=vs) (off:=L.o+off) (by simp;omega)];exact h3
  ·rw [hsp];exact row_splice hle (by omega) h5 hv
 ·obtain ⟨h0,h1,h2,arr,h3,h4⟩:=hr
  have h4l:=h4.length
  refine ⟨_,run_storeCells_at P L.b (L.o+off) e vs 0 arr w h3 (by simp at h4l;omega) hv.ones,r.setOwn ho hL hown hown' ?_⟩
  refine ⟨h0,h1,h2,_,setRow_heap w _ arr _ e (0,0) h3,?_⟩
  rw [h2,Nat.zero_add]
  exact h4.splice off hv
theorem store_at (r:Rel P B Ie he we I lam s a w) {sv:SV} {pv:Value} (hp:SVRel I lam sv pv) {v:List Sc} {vs:List Value} (hv:ScRels I v vs) {s':St} (h:storeAt s sv v some=some s') :
  ∃ b o w',pv=.pointer (some ⟨b,o,none⟩)/\(storeCells ⟨b,o,none⟩ vs).run P w=.ok () w'/\Rel P B Ie he we I lam s' a w':=by
 rw [zZ] at h
 split at h
 ·rename_i k off
  simp only [Option.bind_eq_some_iff] at h
  obtain ⟨b,hb,cs,rfl,cs',hcs,h⟩:=h
  cases h
  obtain ⟨hle,rfl⟩:=wi hcs
  obtain ⟨_,⟨arr,e,hg,hc⟩,_⟩:=r.lo.cells k cs hb
  have hl:=hv.length
  have hcl:=hc.length
  refine ⟨lam k,off,_,hp,run_storeCells_at P (lam k) off e vs 0 arr w hg (by simp at hcl;omega) hv.ones,r.setLocal hb (hc.splice off hv)⟩
 ·rename_i p
  replace h:=asP_some.1 h
  obtain ⟨id,off,rfl,h⟩:=h
  simp only [Option.bind_eq_some_iff] at h
  obtain ⟨h',hh,h⟩:=h
  cases h
  obtain ⟨L,hL,rfl⟩:=hp
  obtain ⟨w',hw,r'⟩:=QJ r hh hv hL
  exact ⟨L.b,L.o+off,w',rfl,hw,r'⟩
 ·cases h
theorem yH {R:Type} {sv:SV} {v:List Sc} {c:St->Option R} {r:R} (h:storeAt s sv v c=some r):∃ s',storeAt s sv v some=some s'/\c s'=some r:=by
 have:=yQ c s sv v some
 simp only [Option.bind_some] at this
 rw [<- this] at h
 exact oB h
end Go.AM
