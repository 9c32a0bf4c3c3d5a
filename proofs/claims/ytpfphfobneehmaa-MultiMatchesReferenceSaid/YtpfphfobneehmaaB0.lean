/- A tree of slots with numbers: what the kernel looks up and turns in a few steps. -/
import Derived.CallsIn
set_option linter.all false
namespace Go.AM
inductive Tr (α:Type) where
 | nil
 | leaf (v:α)
 | node (l r:Tr α)
 deriving Inhabited
namespace Tr
variable {α R : Type}
noncomputable def get (t:Tr α):Nat->Option α:=
 Tr.rec (motive:=fun _=>Nat->Option α) (fun _=>none) (fun v n=>cond (Nat.beq n 0) (some v) none)
  (fun _ _ il ir n=>cond (Nat.beq (n % 2) 0) (il (n / 2)) (ir (n / 2))) t
noncomputable def set (t:Tr α):Nat->α->Tr α:=
 Tr.rec (motive:=fun _=>Nat->α->Tr α) (fun _ _=>nil) (fun v n w=>cond (Nat.beq n 0) (leaf w) (leaf v))
  (fun l r il ir n w=>cond (Nat.beq (n % 2) 0) (node (il (n / 2) w) r) (node l (ir (n / 2) w))) t
noncomputable def setT (t:Tr α):Nat->α->(Tr α->Option R)->Option R:=
 Tr.rec (motive:=fun _=>Nat->α->(Tr α->Option R)->Option R) (fun _ _ k=>k nil) (fun v n w k=>cond (Nat.beq n 0) (k (leaf w)) (k (leaf v)))
  (fun l r il ir n w k=>cond (Nat.beq (n % 2) 0) (il (n / 2) w fun l'=>k (node l' r)) (ir (n / 2) w fun r'=>k (node l r'))) t
noncomputable def map {β:Type} (f:α->β) (t:Tr α):Tr β:=
 Tr.rec (motive:=fun _=>Tr β) nil (fun v=>leaf (f v)) (fun _ _ il ir=>node il ir) t
def evens:List α->List α
 | []=>[]
 | [x]=>[x]
 | x::_::r=>x::evens r
def odds:List α->List α
 | []=>[]
 | [_]=>[]
 | _::y::r=>y::odds r
def ofL:Nat->List α->Tr α
 | _,[]=>nil
 | 0,v::_=>leaf v
 | d+1,l=>node (ofL d (evens l)) (ofL d (odds l))
theorem get_nil (n:Nat):(nil:Tr α).get n=none:=rfl
theorem get_leaf (v:α) (n:Nat):(leaf v).get n=if n=0 then some v else none:=by
 show cond (Nat.beq n 0) (some v) none=_
 cases n<;>rfl
theorem get_node (l r:Tr α) (n:Nat):(node l r).get n=if n % 2=0 then l.get (n / 2) else r.get (n / 2):=by
 show cond (Nat.beq (n % 2) 0) (l.get (n / 2)) (r.get (n / 2))=_
 rcases Nat.mod_two_eq_zero_or_one n with h | h<;>rw [h]<;>rfl
theorem xI (v w:α) (n:Nat):(leaf v).set n w=if n=0 then leaf w else leaf v:=by
 show cond (Nat.beq n 0) (leaf w) (leaf v)=_
 cases n<;>rfl
theorem xJ (l r:Tr α) (n:Nat) (w:α):(node l r).set n w=if n % 2=0 then node (l.set (n / 2) w) r else node l (r.set (n / 2) w):=by
 show cond (Nat.beq (n % 2) 0) (node (l.set (n / 2) w) r) (node l (r.set (n / 2) w))=_
 rcases Nat.mod_two_eq_zero_or_one n with h | h<;>rw [h]<;>rfl
theorem get_set_self (t:Tr α):∀ (i:Nat) (v:α),(t.set i v).get i=(t.get i).map fun _=>v:=by
 induction t with
 | nil=>intro i v;rfl
 | leaf x=>intro i v;rw [xI,get_leaf];split<;>simp [get_leaf, *]
 | node l r il ir=>intro i v;rw [xJ,get_node];split<;>simp [get_node, *]
theorem get_set_ne (t:Tr α):∀ {i j:Nat} (_:i≠j) (v:α),(t.set i v).get j=t.get j:=by
 induction t with
 | nil=>intro i j _ v;rfl
 | leaf x=>
  intro i j h v
  rw [xI]
  split
  ·rename_i hi
   have hj:j≠0:=by omega
   simp [get_leaf,hj]
  ·rfl
 | node l r il ir=>
  intro i j h v
  rw [xJ]
  split
  ·rename_i hi
   rw [get_node,get_node]
   split
   ·rename_i hj;exact il (by omega) v
   ·rfl
  ·rename_i hi
   rw [get_node,get_node]
   split
   ·rfl
   ·rename_i hj;exact ir (by omega) v
theorem get_map {β:Type} (f:α->β) (t:Tr α):∀ (j:Nat),(t.map f).get j=(t.get j).map f:=by
 induction t with
 | nil=>intro j;rfl
 | leaf x=>intro j;show (leaf (f x)).get j=_;rw [get_leaf,get_leaf];split<;>rfl
 | node l r il ir=>intro j;show (node (l.map f) (r.map f)).get j=_;rw [get_node,get_node];split<;>simp [il,ir]
theorem set_same {t:Tr α}:∀ {i:Nat} {x:α},t.get i=some x->t.set i x=t:=by
 induction t with
 | nil=>intro i x h;rfl
 | leaf v=>intro i x h;rw [get_leaf] at h;rw [xI];split<;>simp_all
 | node l r il ir=>
  intro i x h
  rw [get_node] at h
  rw [xJ]
  split<;>simp_all
theorem set_comm {t:Tr α}:∀ {i j:Nat} (_:i≠j) (x y:α),(t.set i x).set j y=(t.set j y).set i x:=by
 induction t with
 | nil=>intro i j _ x y;rfl
 | leaf v=>intro i j h x y;simp only [xI];by_cases h1:i=0<;>by_cases h2:j=0<;>simp [h1,h2,xI];omega
 | node l r il ir=>
  intro i j h x y
  simp only [xJ]
  by_cases h1:i % 2=0<;>by_cases h2:j % 2=0<;>simp [h1,h2,xJ]
  ·exact il (by omega) x y
  ·exact ir (by omega) x y
theorem setT_eq (c:Tr α->Option R) (t:Tr α):∀ (i:Nat) (v:α),t.setT i v c=c (t.set i v):=by
 induction t generalizing c with
 | nil=>intro i v;rfl
 | leaf x=>intro i v;show cond (Nat.beq i 0) (c (leaf v)) (c (leaf x))=_;rw [xI];cases i<;>rfl
 | node l r il ir=>
  intro i v
  show cond (Nat.beq (i % 2) 0) (l.setT (i / 2) v fun l'=>c (node l' r)) (r.setT (i / 2) v fun r'=>c (node l r'))=_
  rw [xJ,il,ir]
  rcases Nat.mod_two_eq_zero_or_one i with h | h<;>rw [h]<;>rfl
theorem map_set {β:Type} (f:α->β) (t:Tr α):∀ (i:Nat) (v:α),(t.set i v).map f=(t.map f).set i (f v):=by
 induction t with
 | nil=>intro i v;rfl
 | leaf x=>
  intro i v
  show _=(leaf (f x)).set i (f v)
  rw [xI,xI];split<;>rfl
 | node l r il ir=>
  intro i v
  show _=(node (l.map f) (r.map f)).set i (f v)
  rw [xJ,xJ]
  split
  ·rw [<- il];rfl
  ·rw [<- ir];rfl
noncomputable def all (f:α->Bool) (t:Tr α):Bool:=Tr.rec (motive:=fun _=>Bool) true (fun v=>f v) (fun _ _ il ir=>cond il ir false) t
theorem all_get {f:α->Bool} {t:Tr α}:t.all f=true->∀ {i:Nat} {v:α},t.get i=some v->f v=true:=by
 induction t with
 | nil=>intro _ i v h;rw [get_nil] at h;cases h
 | leaf x=>intro h i v hv;rw [get_leaf] at hv;split at hv<;>cases hv;exact h
 | node l r il ir=>
  intro h i v hv
  have h':cond (l.all f) (r.all f) false=true:=h
  cases hl:l.all f with
  | false=>rw [hl] at h';cases h'
  | true=>
   rw [hl] at h'
   rw [get_node] at hv
   split at hv
   ·exact il hl hv
   ·exact ir h' hv
theorem map_id' {f:α->α} {t:Tr α}:(∀ (i:Nat) (v:α),t.get i=some v->f v=v)->t.map f=t:=by
 induction t with
 | nil=>intro _;rfl
 | leaf x=>intro h;show leaf (f x)=_;rw [h 0 x (by rw [get_leaf];rfl)]
 | node l r il ir=>
  intro h
  show node (l.map f) (r.map f)=_
  rw [il (fun i v hv=>h (2*i) v (by rw [get_node,if_pos (by omega),show 2*i / 2=i by omega];exact hv)),ir (fun i v hv=>h (2*i+1) v (by rw [get_node,if_neg (by omega),show (2*i+1) / 2=i by omega];exact hv))]
theorem Qf:∀ (l:List α) (i:Nat),(evens l)[i]?=l[2*i]?
 | [],i=>by simp [evens]
 | [x],i=>by cases i<;>simp [evens]
 | x::y::r,i=>by
  cases i with
  | zero=>rfl
  | succ i=>simp only [evens,List.getElem?_cons_succ];rw [Qf r i,show 2*(i+1)=2*i+1+1 by omega];simp
theorem odds_get:∀ (l:List α) (i:Nat),(odds l)[i]?=l[2*i+1]?
 | [],i=>by simp [odds]
 | [x],i=>by simp [odds]
 | x::y::r,i=>by
  cases i with
  | zero=>rfl
  | succ i=>simp only [odds,List.getElem?_cons_succ];rw [odds_get r i,show 2*(i+1)=2*i+1+1 by omega];simp
theorem ofL_get:∀ (d:Nat) (l:List α) (i:Nat) (v:α),(ofL d l).get i=some v->l[i]?=some v
 | _,[],i,v,h=>by simp [ofL,get_nil] at h
 | 0,x::l,i,v,h=>by
  rw [show ofL 0 (x::l)=leaf x from rfl,get_leaf] at h
  split at h
  ·rename_i hi;subst hi;simpa using h
  ·cases h
 | d+1,x::l,i,v,h=>by
  rw [show ofL (d+1) (x::l)=node (ofL d (evens (x::l))) (ofL d (odds (x::l))) from rfl,get_node] at h
  split at h
  ·have:=ofL_get d _ _ v h
   rw [Qf] at this
   rwa [show 2*(i / 2)=i by omega] at this
  ·have:=ofL_get d _ _ v h
   rw [odds_get] at this
   rwa [show 2*(i / 2)+1=i by omega] at this
end Tr
end Go.AM
namespace Go.AM
theorem oB {α β:Type} {o:Option α} {f:α->Option β} {b:β} (h:o.bind f=some b):∃ a,o=some a/\f a=some b:=Option.bind_eq_some_iff.1 h
theorem oM {α β:Type} {o:Option α} {f:α->β} {b:β} (h:o.map f=some b):∃ a,o=some a/\f a=b:=Option.map_eq_some_iff.1 h
noncomputable section
inductive Sc where
 | bool (b:Bool)
 | int (k:IntKind) (n:Int)
 | str (s:ByteArray)
 | ptr (id off:Nat)
 | nilp
 | sl (id off len:Nat)
 | nils (e:Bool)
 | fn (f:Fn) (nf:Nat) (shape:List (Option Nat)) (cells:List Sc)
 | nilf
 | nili
 deriving Inhabited
inductive AV where
 | sc (s:Sc)
 | agg (cells:List Sc)
 deriving Inhabited
def AV.cells:AV->List Sc
 | .agg cs=>cs
 | .sc v=>[v]
inductive SV where
 | u
 | no
 | v (a:AV)
 | t (vs:List AV)
 | l (k off:Nat)
 | s (k n:Nat)
 deriving Inhabited
structure ALoop where
 st:Nat
 pend:Option Code
 fn:FuncId
 sl:Tr SV
 params:List Tmp
 assign:Code
 body:Code
 deriving Inhabited
inductive AO where
 | row (own:Bool) (elem:TypeId) (cells:List Sc)
 | box (elem:TypeId) (cells:List Sc)
 | dead
 | loop (l:ALoop)
 deriving Inhabited
abbrev AH:=List AO
structure St where
 sl:Tr SV
 lo:Tr (Option (List Sc))
 h:AH
 deriving Inhabited
structure FAn where
 loc:List Nat:=[]
 keep:List (Nat×List Nat×List Nat):=[]
 iso:List FuncId:=[]
 rj:List (Nat×List (Tmp×TypeId)):=[]
 orc:FuncId->List AV->Option (Bool×List AV):=fun _ _=>none
 keepR:List (Nat×List Nat):=[]
 hst:List Nat:=[]
 rt:List (Nat×Nat):=[]
 ldb:List Nat:=[]
 ro:List FuncId:=[]
 gr:List FuncId:=[]
 rov:Bool:=false
 grv:Bool:=false
 fsh:List Nat:=[]
 fsl:List Nat:=[]
 fr:List (FuncId×Nat):=[]
 self:FuncId:=0
 deriving Inhabited
section
variable {R : Type}
def asSc (v:AV) (c:Sc->Option R):Option R:=match v with | .sc s=>c s | .agg _=>none
def asAgg (v:AV) (c:List Sc->Option R):Option R:=match v with | .agg l=>c l | .sc _=>none
def asB (v:Sc) (c:Bool->Option R):Option R:=match v with | .bool b=>c b | _=>none
def asI (k:IntKind) (v:Sc) (c:Int->Option R):Option R:=match v with | .int k' n=>if k'=k then c n else none | _=>none
def asC {α:Type} (l:List α) (c:α->List α->Option R):Option R:=match l with | x::xs=>c x xs | []=>none
def asN {α:Type} (l:List α) (c:Option R):Option R:=match l with | []=>c | _::_=>none
def asS (v:Sc) (c:Nat->Nat->Nat->Option R):Option R:=match v with | .sl i o n=>c i o n | _=>none
def asP (v:Sc) (c:Nat->Nat->Option R):Option R:=match v with | .ptr i o=>c i o | _=>none
def asF (v:Sc) (c:Fn->Nat->List (Option Nat)->List Sc->Option R):Option R:=match v with | .fn f n sh l=>c f n sh l | _=>none
def guardB (b:Bool) (c:Option R):Option R:=cond b c none
end
def isSl:Sc->Bool
 | .sl _ _ _ | .nils _=>true
 | _=>false
def slLen:Sc->Nat
 | .sl _ _ n=>n
 | _=>0
def ofConst:Value->Option Sc
 | .bool b=>some (.bool b)
 | .int k n=>some (.int k n)
 | .string s=>some (.str s)
 | .pointer none=>some .nilp
 | .slice none 0 0=>some (.nils false)
 | .nilFunc=>some .nilf
 | .nilIface=>some .nili
 | _=>none
def ofConsts:List Value->Option (List Sc)
 | []=>some []
 | v::r=>(ofConst v).bind fun x=>(ofConsts r).bind fun xs=>some (x::xs)
def zeroCells (P:Program) (t:TypeId):Option (List Sc):=(P.info? t).bind fun i=>i.zero.bind fun z=>ofConsts z.cells.toList
inductive Leaf where
 | int (k:IntKind)
 | bool
 | any
 deriving Inhabited
def zN (P:Program):Nat->TypeId->List Leaf
 | 0,_=>[]
 | d+1,t=>
  match P.underlying t with
  | some (.struct fs)=>fs.toList.flatMap fun f=>zN P d f.type
  | some (.array n e)=>(List.replicate n (zN P d e)).flatten
  | some (.int k)=>[.int k]
  | some .bool=>[.bool]
  | _=>[.any]
def yo (P:Program) (t:TypeId):Bool:=match P.underlying t with | some (.struct _) | some (.array _ _)=>true | _=>false
section
variable {R : Type}
def asLeaf (l:Leaf) (v:Sc) (c:Sc->Option R):Option R:=
 match l with
 | .int k=>asI k v fun n=>c (.int k n)
 | .bool=>asB v fun b=>c (.bool b)
 | .any=>c v
def asLeaves:List Leaf->List Sc->(List Sc->Option R)->Option R
 | [],l,c=>asN l (c [])
 | f::fs,l,c=>asC l fun x xs=>asLeaf f x fun y=>asLeaves fs xs fun ys=>c (y::ys)
def typedCells (P:Program) (t:TypeId) (l:List Sc) (c:AV->Option R):Option R:=
 cond (yo P t) (asLeaves (zN P 8 t) l fun ys=>c (.agg ys)) (asC l fun x xs=>asN xs (asLeaf ((zN P 8 t).getD 0 .any) x fun y=>c (.sc y)))
def typed1 (P:Program) (t:TypeId) (v:AV) (c:AV->Option R):Option R:=
 cond (yo P t) (asAgg v fun l=>asLeaves (zN P 8 t) l fun ys=>c (.agg ys)) (asSc v fun x=>asLeaf ((zN P 8 t).getD 0 .any) x fun y=>c (.sc y))
def typedAll (P:Program):List TypeId->List AV->(List AV->Option R)->Option R
 | [],l,c=>asN l (c [])
 | t::ts,l,c=>asC l fun x xs=>typed1 P t x fun y=>typedAll P ts xs fun ys=>c (y::ys)
def typed (P:Program) (t:TypeId) (vs:List AV) (c:SV->Option R):Option R:=
 match P.underlying t with
 | some (.tuple ts)=>typedAll P ts.toList vs fun ys=>guardB (!(Nat.beq ys.length 1)) (c (.t ys))
 | _=>asC vs fun x xs=>asN xs (typed1 P t x fun y=>c (.v y))
end
def zU:AO->Option (List Sc)
 | .row _ _ c | .box _ c=>some c
 | _=>none
def cut (c:List Sc) (off n:Nat):Option (List Sc):=guardB (decide (off+n<=c.length)) (some ((c.drop off).take n))
def splice {α:Type} (c:List α) (off:Nat) (v:List α):List α:=c.take off++v++c.drop (off+v.length)
def put (c:List Sc) (off:Nat) (v:List Sc):Option (List Sc):=guardB (decide (off+v.length<=c.length)) (some (splice c off v))
def ldN (h:AH) (id off n:Nat):Option (List Sc):=(h[id]?).bind fun o=>(zU o).bind fun c=>cut c off n
def ld1 (h:AH) (id off:Nat):Option Sc:=(h[id]?).bind fun o=>(zU o).bind fun c=>c[off]?
def st (h:AH) (id off:Nat) (v:List Sc):Option AH:=
 (h[id]?).bind fun o=>match o with
 | .row true e c=>(put c off v).bind fun c'=>some (h.set id (.row true e c'))
 | .box e c=>(put c off v).bind fun c'=>some (h.set id (.box e c'))
 | _=>none
section
variable {R : Type}
def cutK (c:List Sc) (off n:Nat) (k:List Sc->Option R):Option R:=guardB (decide (off+n<=c.length)) (k ((c.drop off).take n))
def putK (c:List Sc) (off:Nat) (v:List Sc) (k:List Sc->Option R):Option R:=guardB (decide (off+v.length<=c.length)) (k (splice c off v))
def ldNK (h:AH) (id off n:Nat) (k:List Sc->Option R):Option R:=(h[id]?).bind fun o=>(zU o).bind fun c=>cutK c off n k
def stK (h:AH) (id off:Nat) (v:List Sc) (k:AH->Option R):Option R:=
 (h[id]?).bind fun o=>match o with
 | .row true e c=>putK c off v fun c'=>k (h.set id (.row true e c'))
 | .box e c=>putK c off v fun c'=>k (h.set id (.box e c'))
 | _=>none
end
def evA (s:St):Operand->Option SV
 | .tmp t=>s.sl.get t
 | .const v=>(ofConst v).bind fun x=>some (.v (.sc x))
 | .func f=>some (.v (.sc (.fn (.func f) 0 [] [])))
 | .global _=>none
def SV.val:SV->Option AV
 | .v x=>some x
 | _=>none
def evV (s:St) (x:Operand):Option AV:=(evA s x).bind SV.val
def evVs (s:St):List Operand->Option (List AV)
 | []=>some []
 | x::r=>(evV s x).bind fun v=>(evVs s r).bind fun vs=>some (v::vs)
def setSl (s:St) (d:Option Tmp) (v:SV):St:=match d with | some d=>{ s with sl:=s.sl.set d v } | none=>s
def killL (d:Nat):SV->SV
 | .l k o=>cond (Nat.beq k d) .u (.l k o)
 | .s k n=>cond (Nat.beq k d) .u (.s k n)
 | x=>x
def newLocal (s:St) (d:Tmp) (a:SV) (c:List Sc):St:={ s with sl:=(s.sl.map (killL d)).set d a,lo:=s.lo.set d (some c) }
section
variable {R : Type}
def setK (s:St) (d:Option Tmp) (v:SV) (c:St->Option R):Option R:=match d with | some d=>s.sl.setT d v fun l=>c { s with sl:=l } | none=>c s
def newLocalK (s:St) (d:Tmp) (a:SV) (cs:List Sc) (c:St->Option R):Option R:=
 (s.sl.map (killL d)).setT d a fun l=>s.lo.setT d (some cs) fun m=>c { s with sl:=l,lo:=m }
end
def arith (op:BinOp) (k:IntKind) (a b:Int):Option Sc:=
 match op with
 | .add=>some (.int k (k.wrap (a+b)))
 | .sub=>some (.int k (k.wrap (a - b)))
 | .mul=>some (.int k (k.wrap (a*b)))
 | .quo=>some (.int k (k.wrap (a.tdiv b)))
 | .rem=>some (.int k (a.tmod b))
 | .and=>some (.int k (k.wrap (BitVec.ofInt k.bits a &&& BitVec.ofInt k.bits b).toNat))
 | .or=>some (.int k (k.wrap (BitVec.ofInt k.bits a ||| BitVec.ofInt k.bits b).toNat))
 | .xor=>some (.int k (k.wrap (BitVec.ofInt k.bits a ^^^ BitVec.ofInt k.bits b).toNat))
 | .shl=>some (.int k (k.wrap (a*2 ^ min b.toNat k.bits)))
 | .shr=>some (.int k (a.fdiv (2 ^ min b.toNat k.bits)))
 | .eql=>some (.bool (a==b))
 | .neq=>some (.bool (a != b))
 | .lss=>some (.bool (decide (a < b)))
 | .leq=>some (.bool (decide (a<=b)))
 | .gtr=>some (.bool (decide (a > b)))
 | .geq=>some (.bool (decide (a≥b)))
 | _=>none
def opOk (op:BinOp) (y:AV):Bool:=
 match op,y with
 | .quo,.sc (.int _ b) | .rem,.sc (.int _ b)=>decide (b≠0)
 | .shl,.sc (.int _ b) | .shr,.sc (.int _ b)=>decide (0<=b)
 | _,_=>true
def Vr:BinOp->Bool
 | .shl | .shr=>true
 | _=>false
def Vu (P:Program) (t:TypeId) (cs:List Sc) (off:Nat):Option AV:=
 cond (yo P t) (some (.agg ((cs.drop off).take (P.cellsOf t)))) ((cs[off]?).bind fun x=>some (.sc x))
def andO (a b:Option Bool):Option Bool:=a.bind fun x=>b.bind fun y=>some (x&&y)
def To (P:Program) (eq:TypeId->AV->AV->Option Bool):List Field->List Sc->List Sc->Option Bool
 | [],_,_=>some true
 | f :: fs, xs, ys => cond (f.name == "_") (To P eq fs xs ys)
   ((Vu P f.type xs f.offset).bind fun a=>(Vu P f.type ys f.offset).bind fun b=>andO (eq f.type a b) (To P eq fs xs ys))
def eqIs (P:Program) (eq:TypeId->AV->AV->Option Bool) (e:TypeId):List Nat->List Sc->List Sc->Option Bool
 | [],_,_=>some true
 | i::r,xs,ys=>(Vu P e xs (i*P.cellsOf e)).bind fun a=>(Vu P e ys (i*P.cellsOf e)).bind fun b=>andO (eq e a b) (eqIs P eq e r xs ys)
def eqV (P:Program):Nat->TypeId->AV->AV->Option Bool
 | 0,_,_,_=>none
 | d+1,t,x,y=>
  match P.underlying t,x,y with
  | some .bool,.sc (.bool a),.sc (.bool b)=>some (a==b)
  | some (.int _),.sc (.int k a),.sc (.int k' b)=>guardB (decide (k=k')) (some (a==b))
  | some .string,.sc (.str a),.sc (.str b)=>some (a==b)
  | some (.struct fs),.agg xs,.agg ys=>guardB (!(P.stoodInHeld t)) (To P (eqV P d) fs.toList xs ys)
  | some (.array n e),.agg xs,.agg ys=>guardB (P.underlying e).isSome (eqIs P (eqV P d) e (List.range n) xs ys)
  | _,_,_=>none
def nilOf:Sc->Option Bool
 | .nils e=>some (!e)
 | .sl _ _ _=>some false
 | _=>none
def binop (P:Program) (op:BinOp) (t:TypeId) (x y:AV):Option Sc:=
 match x,y with
 | .sc x,.sc (.nils false)=>
  match op,P.underlying t with
  | .eql,some (.slice _)=>(nilOf x).bind fun b=>some (.bool b)
  | .neq,some (.slice _)=>(nilOf x).bind fun b=>some (.bool (!b))
  | _,_=>none
 | .sc (.int k a),.sc (.int k' b)=>guardB (decide (k=k')||Vr op) (arith op k a b)
 | .sc (.bool a),.sc (.bool b)=>
  match op,P.underlying t with
  | .eql,some .bool=>some (.bool (a==b))
  | .neq,some .bool=>some (.bool (!(a==b)))
  | _,_=>none
 | .agg a,.agg b=>
  guardB (!(P.eqGuardType P.depth t))<|
  match op with
  | .eql=>(eqV P 9 t (.agg a) (.agg b)).bind fun r=>some (.bool r)
  | .neq=>(eqV P 9 t (.agg a) (.agg b)).bind fun r=>some (.bool (!r))
  | _=>none
 | _,_=>none
def unop (op:UnOp) (x:AV):Option Sc:=
 match op,x with
 | .neg,.sc (.int k n)=>some (.int k (k.wrap (0 - n)))
 | .not,.sc (.bool b)=>some (.bool (!b))
 | _,_=>none
def mx2 (x y:AV):Option AV:=
 match x,y with
 | .sc (.int k x),.sc (.int k' y)=>guardB (decide (k=k')) (some (.sc (.int k (if y > x then y else x))))
 | _,_=>none
def mn2 (x y:AV):Option AV:=
 match x,y with
 | .sc (.int k x),.sc (.int k' y)=>guardB (decide (k=k')) (some (.sc (.int k (if y < x then y else x))))
 | _,_=>none
def foldO (f:AV->AV->Option AV):AV->List AV->Option AV
 | x,[]=>some x
 | x,y::r=>(f x y).bind fun z=>foldO f z r
def places (P:Program) (t:TypeId):Option (Nat->Option (Nat×Nat)):=
 match P.underlying t with
 | some (.struct fs)=>cond (fs.toList.all fun f=>(P.info? f.type).isSome) (some fun i=>(fs.toList[i]?).map fun f=>(f.offset,P.cellsOf f.type)) none
 | some (.array _ e)=>cond (P.info? e).isSome (some fun i=>some (i*P.cellsOf e,P.cellsOf e)) none
 | _=>none
def fillA (pl:Nat->Option (Nat×Nat)):List Sc->List (Nat×AV)->Option (List Sc)
 | cells,[]=>some cells
 | cells,(i,v)::r=>(pl i).bind fun p=>guardB (Nat.beq v.cells.length p.2) ((put cells p.1 v.cells).bind fun c=>fillA pl c r)
def evParts (s:St):List (Nat×Operand)->Option (List (Nat×AV))
 | []=>some []
 | (i,x)::r=>(evV s x).bind fun v=>(evParts s r).bind fun vs=>some ((i,v)::vs)
def elemOf (P:Program) (t:TypeId):Option TypeId:=match P.underlying t with | some (.slice e)=>some e | _=>none
def rep (n:Nat) (l:List Sc):List Sc:=(List.replicate n l).flatten
def most:Nat:=2147483648
def spread:List (Option Nat)->List Sc->Option (List AV)
 | [],[]=>some []
 | none::r,c=>asC c fun x xs=>(spread r xs).bind fun vs=>some (.sc x::vs)
 | some n::r,c=>guardB (decide (n<=c.length)) ((spread r (c.drop n)).bind fun vs=>some (.agg (c.take n)::vs))
 | [],_::_=>none
def shapeOf:AV->Option Nat
 | .sc _=>none
 | .agg c=>some c.length
def Sc.bare:Sc->Bool
 | .bool _ | .int _ _ | .str _ | .nilp | .nils _ | .nilf | .nili | .fn (.func _) _ _ []=>true
 | _=>false
def AV.bare (v:AV):Bool:=v.cells.all Sc.bare
abbrev Ev:=Fn->List AV->AH->Option (List AV×AH)
section
variable {R : Type} (P : Program) (A : FAn) (ev : Ev)
def pickB (t:Bool) (a b:Option SV) (c:SV->Option R):Option R:=
 match a,b with
 | some (.v (.sc (.bool x))),some (.v (.sc (.bool y)))=>c (.v (.sc (.bool (cond t x y))))
 | a,b=>cond t (a.bind c) (b.bind c)
def loadAt (s:St) (a:SV) (n:Nat) (c:List Sc->Option R):Option R:=
 match a with
 | .l k off=>(s.lo.get k).bind fun b=>b.bind fun cs=>cutK cs off n c
 | .v (.sc p)=>asP p fun id off=>ldNK s.h id off n c
 | _=>none
def load1 (s:St) (a:SV) (c:Sc->Option R):Option R:=
 match a with
 | .l k off=>(s.lo.get k).bind fun b=>b.bind fun cs=>(cs[off]?).bind c
 | .v (.sc p)=>asP p fun id off=>(ld1 s.h id off).bind c
 | _=>none
def storeAt (s:St) (a:SV) (v:List Sc) (c:St->Option R):Option R:=
 match a with
 | .l k off=>(s.lo.get k).bind fun b=>b.bind fun cs=>putK cs off v fun cs'=>s.lo.setT k (some cs') fun m=>c { s with lo:=m }
 | .v (.sc p)=>asP p fun id off=>stK s.h id off v fun h=>c { s with h:=h }
 | _=>none
def addAt (a:SV) (n:Nat) (c:SV->Option R):Option R:=
 match a with
 | .l k off=>c (.l k (off+n))
 | .v (.sc p)=>asP p fun id off=>c (.v (.sc (.ptr id (off+n))))
 | _=>none
def idxI (i:AV) (n:Nat) (c:Nat->Option R):Option R:=
 match i with
 | .sc (.int _ i)=>guardB (decide (0<=i)&&decide (i < (n:Int))) (c i.toNat)
 | _=>none
def boundI (s:St) (x:Option Operand) (dflt:Nat) (c:Nat->Option R):Option R:=
 match x with
 | none=>c dflt
 | some x=>(evV s x).bind fun v=>match v with
  | .sc (.int _ i)=>guardB (decide (0<=i)) (c i.toNat)
  | _=>none
def rowOk (h:AH) (e:TypeId):Sc->Bool
 | .sl id _ _=>match h[id]? with
  | some (.row true e' _)=>Nat.beq e e'
  | some (.row false _ _) | some (.box _ _)=>true
  | _=>false
 | .nils _=>true
 | _=>false
def boxOk (h:AH) (id:Nat):Bool:=match h[id]? with
 | some (.row false _ _) | some (.box _ _)=>true
 | _=>false
def subS (x:Sc) (l g z:Nat):Sc:=match x with
 | .sl id off _=>.sl id (off+l*z) (g - l)
 | y=>y
def mx0:Option Operand->Bool
 | some (.const (.int _ n))=>Nat.beq n.natAbs 0
 | _=>false
def emptied:Sc->Sc
 | .nils e=>.nils e
 | _=>.nils true
def sliceS (s:St) (e:TypeId) (z:Nat) (x:Sc) (lo hi mx:Option Operand) (c:Sc->Option R):Option R:=
 boundI s lo 0 fun l=>boundI s hi (slLen x) fun h=>boundI s mx h fun m=>
  guardB (rowOk s.h e x&&decide (l<=h)&&decide (h<=m)&&decide (m<=slLen x)&&(mx.isNone||hi.isSome)) (c (cond (mx0 mx) (emptied x) (subS x l h z)))
def appendS (h:AH) (e:TypeId) (z:Nat) (x:Sc) (new:List Sc) (n:Nat) (c:Sc->AH->Option R):Option R:=
 match n with
 | 0=>guardB (isSl x) (c x h)
 | n+1=>
  match x with
  | .nils _=>guardB (decide (n+1<=most)) (c (.sl h.length 0 (n+1)) (h++[.row true e new]))
  | .sl id off len=>(h[id]?).bind fun o=>match o with
   | .row true e' cs=>guardB (Nat.beq e e'&&Nat.beq (off+len*z) cs.length&&decide (len+(n+1)<=most)) (c (.sl h.length 0 (len+(n+1))) (h.set id .dead++[.row true e (cs.drop off++new)]))
   | _=>none
  | _=>none
def firstA (s:St) (a:SV) (n z:Nat) (c:List Sc->Option R):Option R:=
 match a with
 | .s k _=>(s.lo.get k).bind fun b=>b.bind fun cs=>cutK cs 0 (n*z) c
 | .v (.sc x)=>match n with
  | 0=>guardB (isSl x) (c [])
  | n+1=>asS x fun id off _=>ldNK s.h id off ((n+1)*z) c
 | _=>none
def lenA (a:SV) (c:Nat->Option R):Option R:=
 match a with
 | .s _ n=>c n
 | .v (.sc x)=>guardB (isSl x) (c (slLen x))
 | _=>none
def ontoK (A:FAn) (x:Operand) (v:SV) (c:Sc->Option R):Option R:=
 match x with
 | .tmp d=>cond (A.loc.contains d) (match v with | .s _ n=>guardB (Nat.beq n 0) (c (.nils true)) | _=>none) (v.val.bind fun v=>asSc v c)
 | _=>v.val.bind fun v=>asSc v c
def okv (A:FAn) (n:FuncId):Bool:=(!A.rov||A.ro.contains n)&&(!A.grv||(A.gr.contains n||A.ro.contains n))
def oky (A:FAn):Bool:=!A.rov&&!A.grv
def callK (f:Fn) (as:List AV) (h:AH) (c:List AV->AH->Option R):Option R:=
 match f with
 | .func n=>guardB (okv A n)<|cond (A.iso.contains n&&as.all AV.bare)
   (match A.orc n as with
    | some p=>guardB p.1 (guardB (p.2.all AV.bare) (c p.2 h))
    | none=>(ev f as []).bind fun p=>guardB (p.1.all AV.bare) (c p.1 h))
    ((ev f as h).bind fun p=>c p.1 p.2)
 | .yield _=>guardB (oky A)<|(ev f as h).bind fun p=>c p.1 p.2
 | _=>none
def builtinK (b:Builtin) (ts:List TypeId) (args:List Operand) (s:St) (c:SV->St->Option R):Option R:=
 match b,ts,args with
 | .len,[ty],[x]=>
  match P.underlying ty with
  | some (.slice _)=>(evA s x).bind fun a=>lenA a fun n=>c (.v (.sc (.int .i64 n))) s
  | some (.array n _)=>c (.v (.sc (.int .i64 n))) s
  | _=>none
 | .max,_,x::r=>(evV s x).bind fun v=>(evVs s r).bind fun vs=>(foldO mx2 v vs).bind fun z=>c (.v z) s
 | .min,_,x::r=>(evV s x).bind fun v=>(evVs s r).bind fun vs=>(foldO mn2 v vs).bind fun z=>c (.v z) s
 | .append,[ty,ty2],[x,y]=>
  (elemOf P ty).bind fun e=>(zeroCells P e).bind fun z=>guardB ((elemOf P ty2).isSome&&decide (P.bytesOf e<=8192)&&Nat.beq z.length (P.cellsOf e))<|
   (evA s x).bind fun xv=>ontoK A x xv fun xs=>(evA s y).bind fun a=>lenA a fun n=>firstA s a n (P.cellsOf e) fun new=>
    appendS s.h e (P.cellsOf e) xs new n fun v h=>c (.v (.sc v)) { s with h:=h }
 | .copy,[ty,ty2],[x,y]=>
  (elemOf P ty).bind fun e=>guardB ((elemOf P ty2).isSome&&(P.info? e).isSome)<|(evV s x).bind fun xv=>asSc xv fun xs=>(evA s y).bind fun a=>lenA a fun n=>guardB (isSl xs)<|
   firstA s a (min n (slLen xs)) (P.cellsOf e) fun new=>
    cond (Nat.beq (min n (slLen xs)) 0) (c (.v (.sc (.int .i64 0))) s) (asS xs fun id off _=>stK s.h id off new fun h=>c (.v (.sc (.int .i64 (min n (slLen xs):Nat)))) { s with h:=h })
 | _,_,_=>none
def onlyL (x:Operand) (v:SV):Bool:=
 match x with
 | .tmp d=>!(A.loc.contains d)||(match v with | .l _ _=>true | _=>false)
 | _=>true
def onlyH (x:Operand) (v:SV):Bool:=
 match x with
 | .tmp d=>!(A.hst.contains d)||(match v with | .v _=>true | _=>false)
 | _=>true
def rootOf (x:Operand):Option Nat:=match x with
 | .tmp d=>(A.rt.find? fun p=>Nat.beq p.1 d).map (·.2)
 | _=>none
def onlyR (x:Operand) (v:SV):Bool:=
 match rootOf A x with
 | none=>true
 | some k=>match v with | .l k' _=>Nat.beq k k' | _=>false
def onlyB (h:AH) (x:Operand) (v:SV):Bool:=
 match x with
 | .tmp d=>!(A.ldb.contains d)||(match v with | .v (.sc (.ptr id _))=>boxOk h id | _=>false)
 | _=>true
def onlyX (h:AH) (x:Operand) (v:SV):Bool:=onlyH A x v&&onlyR A x v&&onlyB A h x v
def onlyS (x:Operand) (v:SV):Bool:=onlyH A x v&&onlyR A x v
def evOp (o:Oper) (s:St) (c:St->Option R):Option R:=
 match o.op with
 | .move x | .assign x=>(evA s x).bind fun v=>setK s o.dst v c
 | .pick q a b=>(evV s q).bind fun v=>asSc v fun v=>asB v fun t=>pickB t (evA s a) (evA s b) fun v=>setK s o.dst v c
 | .alloc e=>o.dst.bind fun d=>(zeroCells P e).bind fun z=>guardB (Nat.beq z.length (P.cellsOf e))<|
   cond (A.loc.contains d) (newLocalK s d (.l d 0) z c) (setK { s with h:=s.h++[.box e z] } o.dst (.v (.sc (.ptr s.h.length 0))) c)
 | .box e x=>o.dst.bind fun d=>(evV s x).bind fun v=>guardB (Nat.beq v.cells.length (P.cellsOf e))<|
   cond (A.loc.contains d) (newLocalK s d (.l d 0) v.cells c) (setK { s with h:=s.h++[.box e v.cells] } o.dst (.v (.sc (.ptr s.h.length 0))) c)
 | .build t parts=>(zeroCells P t).bind fun z=>(places P t).bind fun pl=>(evParts s parts.toList).bind fun vs=>(fillA pl z vs).bind fun cs=>setK s o.dst (.v (.agg cs)) c
 | .buildSlice t n parts=>o.dst.bind fun d=>(elemOf P t).bind fun e=>(zeroCells P e).bind fun z=>guardB (Nat.beq z.length (P.cellsOf e)&&decide (n*z.length<=1000000))<|
   (evParts s parts.toList).bind fun vs=>(fillA (fun i=>some (i*P.cellsOf e,P.cellsOf e)) (rep n z) vs).bind fun cs=>
   cond (A.loc.contains d) (newLocalK s d (.s d n) cs c) (setK { s with h:=s.h++[.row true e cs] } o.dst (.v (.sc (.sl s.h.length 0 n))) c)
 | .load t x=>guardB (P.underlying t).isSome<|(evA s x).bind fun a=>guardB (onlyL A x a&&onlyX A s.h x a)<|cond (yo P t) (loadAt s a (P.cellsOf t) fun l=>asLeaves (zN P 8 t) l fun ys=>setK s o.dst (.v (.agg ys)) c)
   (load1 s a fun x=>asLeaf ((zN P 8 t).getD 0 .any) x fun y=>setK s o.dst (.v (.sc y)) c)
 | .store t a x=>guardB (P.info? t).isSome<|(evA s a).bind fun av=>(evV s x).bind fun v=>guardB (Nat.beq v.cells.length (P.cellsOf t)&&onlyS A a av)<|storeAt s av v.cells fun s=>setK s o.dst .no c
 | .nilCheck x=>(evA s x).bind fun v=>match v with
  | .l k off=>setK s o.dst (.l k off) c
  | .v (.sc p)=>asP p fun id off=>setK s o.dst (.v (.sc (.ptr id off))) c
  | _=>none
 | .binOp op t x y _=>(evV s x).bind fun x=>(evV s y).bind fun y=>guardB (opOk op y)<|(binop P op t x y).bind fun v=>setK s o.dst (.v (.sc v)) c
 | .unOp op _ x=>(evV s x).bind fun x=>(unop op x).bind fun v=>setK s o.dst (.v (.sc v)) c
 | .convert src dst x=>(evV s x).bind fun x=>match P.underlying src,P.underlying dst,x with
  | some (.int _),some (.int k),.sc (.int _ n)=>setK s o.dst (.v (.sc (.int k (k.wrap n)))) c
  | _,_,_=>none
 | .makeFunc (.func f) first captured=>(evVs s first.toList).bind fun a=>(evVs s captured.toList).bind fun b=>
   setK s o.dst (.v (.sc (.fn (.func f) a.length ((a++b).map shapeOf) ((a++b).flatMap AV.cells)))) c
 | .makeSlice t len cap=>(elemOf P t).bind fun e=>(zeroCells P e).bind fun z=>(evV s len).bind fun l=>(evV s cap).bind fun m=>match l,m with
  | .sc (.int .i64 l),.sc (.int .i64 m)=>guardB (Nat.beq z.length (P.cellsOf e)&&decide (P.bytesOf e<=8192)&&decide (0<=l)&&decide (l<=m)&&decide (m<=most))<|
    setK { s with h:=s.h++[.row true e (rep l.toNat z)] } o.dst (.v (.sc (.sl s.h.length 0 l.toNat))) c
  | _,_=>none
 | .slice t x lo hi mx=>match P.underlying t with
  | some (.slice e)=>guardB (P.info? e).isSome<|(evV s x).bind fun x=>asSc x fun x=>sliceS s e (P.cellsOf e) x lo hi mx fun v=>setK s o.dst (.v (.sc v)) c
  | some (.array n e)=>guardB (P.info? e).isSome<|(evV s x).bind fun x=>asSc x fun x=>asP x fun id off=>guardB (boxOk s.h id)<|sliceS s e (P.cellsOf e) (.sl id off n) lo hi mx fun v=>setK s o.dst (.v (.sc v)) c
  | _=>none
 | .fieldAddr t x i=>match P.underlying t with
  | some (.struct fs)=>(fs.toList[i]?).bind fun f=>guardB (!(Nat.beq (P.cellsOf f.type) 0))<|(evA s x).bind fun a=>addAt a f.offset fun v=>setK s o.dst v c
  | _=>none
 | .indexAddr t x i=>match P.underlying t with
  | some (.slice e)=>guardB (P.info? e).isSome<|(evV s x).bind fun x=>asSc x fun x=>asS x fun id off len=>(evV s i).bind fun i=>idxI i len fun i=>setK s o.dst (.v (.sc (.ptr id (off+i*P.cellsOf e)))) c
  | some (.array n e)=>guardB (P.info? e).isSome<|(evA s x).bind fun a=>(evV s i).bind fun i=>idxI i n fun i=>addAt a (i*P.cellsOf e) fun v=>setK s o.dst v c
  | _=>none
 | .extract x i=>(evA s x).bind fun v=>match v with
  | .t vs=>(vs[i]?).bind fun v=>setK s o.dst (.v v) c
  | _=>none
 | .call { callee:=.builtin b,args,argTypes }=>builtinK P A b argTypes.toList args.toList s fun v s=>setK s o.dst v c
 | .call { callee:=.value f,args,.. }=>(evV s f).bind fun f=>asSc f fun f=>asF f fun g nf sh cs=>(evVs s args.toList).bind fun as=>
   (spread sh cs).bind fun vs=>callK A ev g (vs.take nf++as++vs.drop nf) s.h fun rs h=>typed P o.type rs fun v=>setK { s with h:=h } o.dst v c
 | .index t x i=>(evV s x).bind fun x=>(evV s i).bind fun i=>match P.underlying t,x,i with
  | some .string,.sc (.str b),.sc (.int _ n)=>guardB (decide (0<=n)) ((b[n.toNat]?).bind fun u=>setK s o.dst (.v (.sc (.int .u8 (u.toNat:Int)))) c)
  | _,_,_=>none
 | _=>none
def evOps (ops:Array Oper):List Oper->St->(St->Option R)->Option R
 | [],s,c=>c s
 | o::r,s,c=>
  match o.guard with
  | none=>evOp P A ev o s fun s=>evOps ops r s c
  | some (j,w)=>((ops[j]?).bind (·.dst)).bind fun d=>(s.sl.get d).bind fun g=>match g with
   | .v (.sc (.bool t))=>
    cond w (cond t (setK s (some d) (.v (.sc (.bool true))) fun s=>evOp P A ev o s fun s=>evOps ops r s c) (setK s (some d) (.v (.sc (.bool false))) fun s=>setK s o.dst .no fun s=>evOps ops r s c))
     (cond t (setK s (some d) (.v (.sc (.bool true))) fun s=>setK s o.dst .no fun s=>evOps ops r s c) (setK s (some d) (.v (.sc (.bool false))) fun s=>evOp P A ev o s fun s=>evOps ops r s c))
   | .no=>setK s o.dst .no fun s=>evOps ops r s c
   | _=>none
end
inductive Ex where
 | normal
 | exit (id:Nat)
 | ret
 deriving Inhabited,DecidableEq
def Yn (s:St):List (Tmp×TypeId)->Option (List AV)
 | []=>some []
 | (d,_)::r=>(s.sl.get d).bind fun v=>v.val.bind fun v=>(Yn s r).bind fun vs=>some (v::vs)
def Yl {R:Type} (P:Program):List (Tmp×TypeId)->List AV->St->(St->Option R)->Option R
 | [],l,s,c=>asN l (c s)
 | (d,t)::r,l,s,c=>asC l fun v vs=>typed1 P t v fun v=>Yl P r vs { s with sl:=s.sl.set d (.v v) } c
def forget (s:St):List Oper->St
 | []=>s
 | o::r=>forget (setSl s o.dst .u) r
def flat:List Oper->Bool
 | []=>true
 | o::r=>(match o.op with | .alloc _ | .box _ _ | .buildSlice _ _ _ | .store _ _ _=>false | _=>true)&&flat r
def isRef (d:Nat):SV->Bool
 | .l k _=>Nat.beq k d
 | .s k _=>Nat.beq k d
 | _=>false
def freshAll (A:FAn) (ops:Array Oper) (s:St):Bool:=ops.toList.all fun o=>
 match o.op with
 | .alloc _ | .box _ _ | .buildSlice _ _ _=>(match o.dst with | some d=>!(A.loc.contains d)||s.sl.all fun v=>!(isRef d v) | none=>true)
 | _=>true
section
def keepT {α:Type} (f:α->α) (t:Tr α) (l:List Nat):Tr α:=l.foldl (fun u i=>match t.get i with | some v=>u.set i v | none=>u) (t.map f)
def maskR (A:FAn) (id:Nat) (s:St):St:=
 match A.keepR.find? (fun p=>Nat.beq p.1 id) with
 | none=>s
 | some (_,a)=>{ s with sl:=keepT (fun _=>.u) s.sl a }
variable {R : Type} (P : Program) (A : FAn) (ev : Ev) (dOk : FAn -> Array Oper -> Bool)
def evRegion (id:Nat) (ops:Array Oper) (draw:Bool) (s:St) (c:St->Option R):Option R:=
 guardB (!draw||(dOk A ops&&freshAll A ops s))<|
 match A.rj.find? (fun p=>Nat.beq p.1 id) with
 | none=>evOps P A ev ops ops.toList s fun s=>c (maskR A id s)
 | some (_,spec)=>guardB (flat ops.toList)<|
  (evOps P A ev ops ops.toList s fun s'=>(Yn s' spec).bind fun vs=>some (vs,s'.h)).bind fun p=>Yl P spec p.1 { forget s ops.toList with h:=p.2 } c
def maskAt (A:FAn) (blk:Nat) (s:St):St:=
 match A.keep.find? (fun p=>Nat.beq p.1 blk) with
 | none=>s
 | some (_,a,b)=>{ s with sl:=keepT (fun _=>.u) s.sl a,lo:=keepT (fun _=>none) s.lo b }
def loopN (m:St->St) (body:St->(Ex->St->Option R)->Option R) (c:Ex->St->Option R):Nat->St->Option R
 | 0,_=>none
 | n+1,s=>body (m s) fun e s'=>match e with
  | .normal=>loopN m body c n s'
  | e=>c e s'
def kSeq (b:St->(Ex->St->Option R)->Option R) (c:Ex->St->Option R):Ex->St->Option R:=fun e s=>
 match e with
 | .normal=>b s c
 | e=>c e s
def kBlock (id:Nat) (c:Ex->St->Option R):Ex->St->Option R:=fun e s=>
 match e with
 | .exit i=>cond (Nat.beq i id) (c .normal s) (c (.exit i) s)
 | e=>c e s
def fnName:Fn->Bool
 | .func _=>true
 | _=>false
def zo:Code->Bool
 | .rangeFunc _ _ _ _=>false
 | .seq a b=>zo a&&zo b
 | .cond _ a b=>zo a&&zo b
 | .block _ b=>zo b
 | .loop b=>zo b
 | .scope b=>zo b
 | _=>true
def noLoc:SV->SV
 | .l _ _ | .s _ _=>.u
 | x=>x
def rangeEnd {R:Type} (s:St) (c:Ex->St->Option R) (h:AH):Option R:=
 match h[s.h.length]? with
 | some (.loop l)=>guardB (!(Nat.beq l.st 1)) (match l.pend with
  | none=>c .normal { s with h:=h.set s.h.length .dead }
  | some (.exit i)=>c (.exit i) { s with h:=h.set s.h.length .dead }
  | some .ret=>c .ret { s with h:=h.set s.h.length .dead }
  | _=>none)
 | _=>none
def rangeK (g:Operand) (ps:Array Tmp) (assign body:Code) (s:St) (c:Ex->St->Option R):Option R:=
 (evV s g).bind fun v=>asSc v fun v=>asF v fun f nf sh cs=>(spread sh cs).bind fun vs=>guardB (zo assign&&zo body&&fnName f)<|
 callK A ev f (vs.take nf++[.sc (.fn (.yield s.h.length) 0 [] [])]++vs.drop nf) (s.h++[.loop ⟨0,none,A.self,s.sl.map noLoc,ps.toList,assign,body⟩]) fun _ h=>rangeEnd s c h
def evCode (k:Nat):Code->Nat->St->(Ex->St->Option R)->Option R
 | .skip,_,s,c=>c .normal s
 | .label _,_,s,c=>c .normal s
 | .region id ops draw,_,s,c=>evRegion P A ev dOk id ops draw s fun s=>c .normal s
 | .seq a b,blk,s,c=>evCode k a blk s (kSeq (evCode k b blk) c)
 | .cond q a b,blk,s,c=>(evV s q).bind fun v=>asSc v fun v=>asB v fun t=>cond t (evCode k a blk s c) (evCode k b blk s c)
 | .block id b,_,s,c=>evCode k b id s (kBlock id c)
 | .scope b,blk,s,c=>evCode k b blk s c
 | .loop b,blk,s,c=>loopN (maskAt A blk) (evCode k b blk) c k s
 | .exit id,_,s,c=>c (.exit id) s
 | .ret,_,s,c=>c .ret s
 | .rangeFunc g ps assign body,_,s,c=>rangeK A ev g ps assign body s c
 | _,_,_,_=>none
def resOf (s:St):List ResultVar->(List AV->Option R)->Option R
 | [],c=>c []
 | .tmp t::r,c=>(s.sl.get t).bind fun v=>v.val.bind fun v=>resOf s r fun vs=>c (v::vs)
 | .cell a t::r,c=>guardB (P.underlying t).isSome<|(s.sl.get a).bind fun a=>cond (yo P t) (loadAt s a (P.cellsOf t) fun l=>resOf s r fun vs=>c (.agg l::vs)) (load1 s a fun x=>resOf s r fun vs=>c (.sc x::vs))
def kFin (fn:Func):Ex->St->Option (List AV×AH):=fun e s=>
 match e with
 | .normal | .ret=>resOf P s fn.results.toList fun vs=>some (vs,s.h)
 | _=>none
end
def enterSt (fn:Func) (args:List AV) (h:AH):St:={ sl:=Tr.ofL (Nat.log2 fn.ntmps+1) (args.map SV.v++List.replicate (fn.ntmps - args.length) SV.no),lo:=Tr.ofL (Nat.log2 fn.ntmps+1) (List.replicate fn.ntmps none),h:=h }
def roundSt (l:ALoop) (args:List AV) (h:AH):St:={ sl:=(l.params.zip args).foldl (fun t p=>t.set p.1 (.v p.2)) l.sl,lo:=l.sl.map fun _=>none,h:=h }
def kRound (id:Nat):Ex->St->Option (List AV×AH):=fun e s=>
 match s.h[id]? with
 | some (.loop l)=>match e with
  | .normal=>some ([.sc (.bool true)],s.h.set id (.loop { l with st:=0,pend:=none }))
  | .exit i=>some ([.sc (.bool false)],s.h.set id (.loop { l with st:=2,pend:=some (.exit i) }))
  | .ret=>some ([.sc (.bool false)],s.h.set id (.loop { l with st:=2,pend:=some .ret }))
 | _=>none
def kBegin (id:Nat) (c:St->Option (List AV×AH)):Ex->St->Option (List AV×AH):=fun e s=>
 match e,s.h[id]? with
 | .normal,some (.loop l)=>guardB (Nat.beq l.st 0) (c { s with h:=s.h.set id (.loop { l with st:=1 }) })
 | _,_=>none
def Uk (A:FAn) (fn:Func) (n:Nat):Bool:=(Nat.beq n fn.params.size||decide (n<=fn.ntmps))&&A.fsh.all fun d=>decide (n<=d)
def evF (P:Program) (An:FuncId->FAn) (dOk:FAn->Array Oper->Bool):Nat->Ev
 | 0,_,_,_=>none
 | k+1,.func f,args,h=>(P.funcs[f]?).bind fun fn=>fn.body.bind fun code=>guardB (Uk (An f) fn args.length)<|
   evCode P (An f) (evF P An dOk k) dOk k code 0 (enterSt fn args h) (kFin P fn)
 | k+1,.yield id,args,h=>match h[id]? with
  | some (.loop l)=>guardB (Nat.beq args.length l.params.length&&zo l.assign&&zo l.body)<|
   evCode P (An l.fn) (evF P An dOk k) dOk k l.assign 0 (roundSt l args h) (kBegin id fun s=>evCode P (An l.fn) (evF P An dOk k) dOk k l.body 0 s (kRound id))
  | _=>none
 | _+1,_,_,_=>none
end
end Go.AM
namespace Go.AM.Tr
variable {α R : Type}
noncomputable def toL (t:Tr α):List α:=Tr.rec (motive:=fun _=>List α) [] (fun v=>[v]) (fun _ _ il ir=>il++ir) t
end Go.AM.Tr
namespace Go.TM
open Go Go.AM
noncomputable section
inductive Ty where
 | int (k:IntKind)
 | bool
 | str
 | list (e:TypeId) (t:Ty)
 | pair (a b:Ty)
 | unit
 deriving Inhabited,DecidableEq
def Ty.T:Ty->Type
 | .int _=>Int
 | .bool=>Bool
 | .str=>ByteArray
 | .list _ t=>List t.T
 | .pair a b=>a.T×b.T
 | .unit=>Unit
def Ty.dflt:(t:Ty)->t.T
 | .int _=>(0:Int)
 | .bool=>false
 | .str=>ByteArray.empty
 | .list _ _=>[]
 | .pair a b=>(a.dflt,b.dflt)
 | .unit=>()
def Ty.size:Ty->Nat
 | .int _ | .bool | .str | .list _ _=>1
 | .pair a b=>a.size+b.size
 | .unit=>0
inductive TC where
 | bool (b:Bool)
 | int (k:IntKind) (n:Int)
 | str (s:ByteArray)
 | d (e:TypeId) (t:Ty) (xs:List t.T)
 | nil
 | g (id:Nat)
 | sl (id off len:Nat)
 | sc (id off len:Nat)
 | ptr (id off:Nat)
 | fn (f:FuncId) (nf:Nat) (shape:List (Option Nat)) (cells:List TC)
 | nilp
 | nilf
 | nili
 | yl (id:Nat)
 deriving Inhabited
inductive TA where
 | sc (c:TC)
 | agg (cs:List TC)
 deriving Inhabited
def TA.cells:TA->List TC
 | .sc c=>[c]
 | .agg cs=>cs
inductive TV where
 | u
 | no
 | v (a:TA)
 | t (vs:List TA)
 | l (k off:Nat)
 | s (k n:Nat)
 | e (t:Ty) (xs:List t.T) (i off:Nat)
 | p (id i off:Nat)
 | w
 deriving Inhabited
inductive TO where
 | row (e:TypeId) (t:Ty) (xs:List t.T)
 | crow (e:TypeId) (cells:List TC)
 | box (e:TypeId) (cells:List TC)
 | dead
 | loop (st:Nat) (pend:Option Ex) (f:FuncId) (key nt:Nat) (sl:List (Nat×TV))
 deriving Inhabited
abbrev TH:=List TO
structure TS where
 sl:Tr TV
 lo:Tr (Option (List TC))
 h:TH
 n0:Nat
 deriving Inhabited
def Ty.cells:(t:Ty)->t.T->List TC
 | .int k,n=>[.int k n]
 | .bool,b=>[.bool b]
 | .str,s=>[.str s]
 | .list e t,xs=>[.d e t xs]
 | .pair a b,p=>a.cells p.1++b.cells p.2
 | .unit,_=>[]
def Ty.cellsL (t:Ty) (xs:List t.T):List TC:=xs.flatMap t.cells
section
variable {R : Type}
def asSc (v:TA) (c:TC->Option R):Option R:=match v with | .sc s=>c s | .agg _=>none
def asAgg (v:TA) (c:List TC->Option R):Option R:=match v with | .agg l=>c l | .sc _=>none
def asB (v:TC) (c:Bool->Option R):Option R:=match v with | .bool b=>c b | _=>none
def asI (k:IntKind) (v:TC) (c:Int->Option R):Option R:=match v with | .int k' n=>if k'=k then c n else none | _=>none
def asStr (v:TC) (c:ByteArray->Option R):Option R:=match v with | .str s=>c s | _=>none
def asD (e:TypeId) (t:Ty) (v:TC) (c:List t.T->Option R):Option R:=
 match v with
 | .d e' t' xs=>guardB (Nat.beq e e') (if h:t'=t then c (h▸xs) else none)
 | .nil=>c []
 | _=>none
def mkT:(t:Ty)->List TC->(t.T->List TC->Option R)->Option R
 | .int k,l,c=>asC l fun x r=>asI k x fun n=>c n r
 | .bool,l,c=>asC l fun x r=>asB x fun b=>c b r
 | .str,l,c=>asC l fun x r=>asStr x fun s=>c s r
 | .list e t,l,c=>asC l fun x r=>asD e t x fun xs=>c xs r
 | .pair a b,l,c=>mkT a l fun x r=>mkT b r fun y q=>c (x,y) q
 | .unit,l,c=>c () l
def mk1 (t:Ty) (l:List TC) (c:t.T->Option R):Option R:=mkT t l fun x r=>asN r (c x)
def mkN (t:Ty):Nat->List TC->(List t.T->Option R)->Option R
 | 0,l,c=>asN l (c [])
 | n+1,l,c=>mkT t l fun x r=>mkN t n r fun xs=>c (x::xs)
end
def Vt:List Ty->Ty
 | []=>.unit
 | [a]=>a
 | a::r=>.pair a (Vt r)
def mapO {α β:Type} (f:α->Option β):List α->Option (List β)
 | []=>some []
 | x::r=>(f x).bind fun y=>(mapO f r).bind fun ys=>some (y::ys)
def Zs (P:Program):Nat->TypeId->Option Ty
 | 0,_=>none
 | d+1,t=>
  match P.underlying t with
  | some (.int k)=>some (.int k)
  | some .bool=>some .bool
  | some .string=>some .str
  | some (.slice e)=>(Zs P d e).bind fun t=>some (.list e t)
  | some (.struct fs)=>(mapO (fun f=>Zs P d f.type) fs.toList).bind fun l=>some (Vt l)
  | some (.array n e)=>(Zs P d e).bind fun a=>some (Vt (List.replicate n a))
  | _=>none
def elT {R:Type} (P:Program) (e:TypeId) (c:Ty->Option R):Option R:=
 match Zs P 8 e with
 | some t=>guardB (Nat.beq t.size (P.cellsOf e)&&(P.info? e).isSome) (c t)
 | none=>none
def ofConst:Value->Option TC
 | .bool b=>some (.bool b)
 | .int k n=>some (.int k n)
 | .string s=>some (.str s)
 | .pointer none=>some .nilp
 | .slice none 0 0=>some .nil
 | .nilFunc=>some .nilf
 | .nilIface=>some .nili
 | _=>none
def ofConsts:List Value->Option (List TC)
 | []=>some []
 | v::r=>(ofConst v).bind fun x=>(ofConsts r).bind fun xs=>some (x::xs)
def zeroCells (P:Program) (t:TypeId):Option (List TC):=(P.info? t).bind fun i=>i.zero.bind fun z=>ofConsts z.cells.toList
def toSc:TC->Option Sc
 | .bool b=>some (.bool b)
 | .int k n=>some (.int k n)
 | .str s=>some (.str s)
 | _=>none
def Vz:List TC->Option (List Sc)
 | []=>some []
 | x::r=>(toSc x).bind fun y=>(Vz r).bind fun ys=>some (y::ys)
def ofSc:Sc->Option TC
 | .bool b=>some (.bool b)
 | .int k n=>some (.int k n)
 | .str s=>some (.str s)
 | _=>none
mutual
def TC.refs:TC->List Nat
 | .g id | .sl id _ _ | .sc id _ _ | .ptr id _ | .yl id=>[id]
 | .fn _ _ _ cs=>TC.refsL cs
 | _=>[]
def TC.refsL:List TC->List Nat
 | []=>[]
 | c::r=>c.refs++TC.refsL r
end
def TA.refs (v:TA):List Nat:=TC.refsL v.cells
def TV.refs:TV->List Nat
 | .v a=>a.refs
 | .t vs=>vs.flatMap TA.refs
 | .p id _ _=>[id]
 | _=>[]
def TO.refs:TO->List Nat
 | .crow _ cs | .box _ cs=>TC.refsL cs
 | .loop _ _ _ _ _ sl=>sl.flatMap fun p=>p.2.refs
 | _=>[]
mutual
def TC.ren (f:Nat->Nat):TC->TC
 | .g id=>.g (f id)
 | .sl id o n=>.sl (f id) o n
 | .sc id o n=>.sc (f id) o n
 | .ptr id o=>.ptr (f id) o
 | .fn g' nf sh cs=>.fn g' nf sh (TC.renL f cs)
 | .bool b=>.bool b
 | .int k n=>.int k n
 | .str s=>.str s
 | .d e t xs=>.d e t xs
 | .nil=>.nil
 | .nilp=>.nilp
 | .nilf=>.nilf
 | .nili=>.nili
 | .yl id=>.yl (f id)
def TC.renL (f:Nat->Nat):List TC->List TC
 | []=>[]
 | c::r=>c.ren f::TC.renL f r
end
def TA.ren (f:Nat->Nat):TA->TA
 | .sc c=>.sc (c.ren f)
 | .agg cs=>.agg (TC.renL f cs)
def TV.ren (f:Nat->Nat):TV->TV
 | .v a=>.v (a.ren f)
 | .t vs=>.t (vs.map (TA.ren f))
 | .p id i o=>.p (f id) i o
 | .u=>.u
 | .w=>.w
 | .no=>.no
 | .l k o=>.l k o
 | .s k n=>.s k n
 | .e ty xs i o=>.e ty xs i o
def TO.ren (f:Nat->Nat):TO->TO
 | .crow e cs=>.crow e (TC.renL f cs)
 | .box e cs=>.box e (TC.renL f cs)
 | .row e t xs=>.row e t xs
 | .dead=>.dead
 | .loop st pe g key nt sl=>.loop st pe g key nt (sl.map fun p=>(p.1,p.2.ren f))
def zi (h:TH) (i:Nat):TO:=h.getD i .dead
def yu (l:List Nat) (i:Nat):Bool:=l.any fun j=>Nat.beq i j
def yF:List Nat->Nat->Nat
 | [],_=>0
 | x::r,i=>cond (Nat.beq i x) 0 (yF r i+1)
def Wb (h:TH):Nat->List Nat->List Nat->List Nat
 | 0,_,acc=>acc
 | _+1,[],acc=>acc
 | k+1,i::todo,acc=>cond (yu acc i) (Wb h k todo acc) (Wb h k ((zi h i).refs++todo) (acc++[i]))
def UP:List Nat->Bool
 | []=>true
 | x::r=>!(yu r x)&&UP r
end
end Go.TM
namespace Go.TM
open Go Go.AM
noncomputable section
section
variable {R : Type}
def cutK (c:List TC) (off n:Nat) (k:List TC->Option R):Option R:=guardB (decide (off+n<=c.length)) (k ((c.drop off).take n))
def putK (c:List TC) (off:Nat) (v:List TC) (k:List TC->Option R):Option R:=guardB (decide (off+v.length<=c.length)) (k (splice c off v))
def elems (h:TH) (e:TypeId) (t:Ty) (v:TC) (c:List t.T->Option Nat->Option R):Option R:=
 match v with
 | .g id=>match zi h id with
  | .row e' t' xs=>asD e t (.d e' t' xs) fun xs=>c xs (some id)
  | _=>none
 | .sl id o n=>match zi h id with
  | .row e' t' xs=>asD e t (.d e' t' xs) fun xs=>guardB (decide (o+n<=xs.length)) (c ((xs.drop o).take n) (some id))
  | _=>none
 | .sc id o n=>match zi h id with
  | .box _ cs=>cutK cs o (n*t.size) fun l=>mkN t n l fun xs=>c xs (some id)
  | .crow e' cs=>guardB (Nat.beq e e')<|cutK cs o (n*t.size) fun l=>mkN t n l fun xs=>c xs (some id)
  | _=>none
 | v=>asD e t v fun xs=>c xs none
def seqK (f:TC->TH->(TC->TH->Option R)->Option R):List TC->TH->(List TC->TH->Option R)->Option R
 | [],h,c=>c [] h
 | x::r,h,c=>f x h fun y h=>seqK f r h fun ys h=>c (y::ys) h
def frzC (P:Program):Nat->TC->TH->(TC->TH->Option R)->Option R
 | 0,_,_,_=>none
 | k+1,v,h,c=>match v with
  | .g id=>match zi h id with
   | .row e t xs=>c (.d e t xs) (h.set id .dead)
   | _=>none
  | .sl id o n=>match zi h id with
   | .row e t xs=>guardB (decide (o+n<=xs.length)) (c (.d e t ((xs.drop o).take n)) (h.set id .dead))
   | _=>none
  | .sc id o n=>match zi h id with
   | .crow e cs=>elT P e fun t=>cutK cs o (n*t.size) fun l=>seqK (frzC P k) l (h.set id .dead) fun l h=>mkN t n l fun xs=>c (.d e t xs) h
   | _=>none
  | v=>c v h
def frzL (P:Program) (l:List TC) (h:TH) (c:List TC->TH->Option R):Option R:=seqK (frzC P 3) l h c
end
def Vs (P:Program):Nat->TypeId->List (Option TypeId)
 | 0,_=>[]
 | d+1,t=>
  match P.underlying t with
  | some (.struct fs)=>fs.toList.flatMap fun f=>Vs P d f.type
  | some (.array n e)=>(List.replicate n (Vs P d e)).flatten
  | some (.slice e)=>[some e]
  | _=>[none]
structure CS where
 sl:List (Nat×TV)
 lo:List (Nat×List TC)
 h:TH
 n0:Nat
 w:Bool:=false
 deriving Inhabited
structure TAn where
 a:FAn:={}
 own:Bool:=false
 crow:List Tmp:=[]
 cuts:List Nat:=[]
 live:List (Nat×List Nat×List Nat):=[]
 coe:List (Nat×List ((Nat×Nat×Nat)×TypeId×Bool)):=[]
 orc:FuncId->List TA->TH->Option (List (Bool×List TA×TH)):=fun _ _ _=>none
 tell:Nat->CS->Option (List (Bool×Ex×CS)):=fun _ _=>none
 nt:Nat:=0
 deriving Inhabited
abbrev TEv:=FuncId->List TA->TH->Option (List TA×TH)
section
variable {R : Type}
def setSl (s:TS) (d:Option Tmp) (v:TV):TS:=match d with | some d=>{ s with sl:=s.sl.set d v } | none=>s
def setK (s:TS) (d:Option Tmp) (v:TV) (c:TS->Option R):Option R:=match d with | some d=>s.sl.setT d v fun l=>c { s with sl:=l } | none=>c s
def killL (d:Nat):TV->TV
 | .l k o=>cond (Nat.beq k d) .u (.l k o)
 | .s k n=>cond (Nat.beq k d) .u (.s k n)
 | x=>x
def newLocal (s:TS) (d:Tmp) (a:TV) (c:List TC):TS:={ s with sl:=(s.sl.map (killL d)).set d a,lo:=s.lo.set d (some c) }
def newLocalK (s:TS) (d:Tmp) (a:TV) (cs:List TC) (c:TS->Option R):Option R:=
 (s.sl.map (killL d)).setT d a fun l=>s.lo.setT d (some cs) fun m=>c { s with sl:=l,lo:=m }
def evA (s:TS):Operand->Option TV
 | .tmp t=>s.sl.get t
 | .const v=>(ofConst v).bind fun x=>some (.v (.sc x))
 | .func f=>some (.v (.sc (.fn f 0 [] [])))
 | .global _=>none
def TV.val:TV->Option TA
 | .v x=>some x
 | _=>none
def evV (s:TS) (x:Operand):Option TA:=(evA s x).bind TV.val
def evVs (s:TS):List Operand->Option (List TA)
 | []=>some []
 | x::r=>(evV s x).bind fun v=>(evVs s r).bind fun vs=>some (v::vs)
def evParts (s:TS):List (Nat×Operand)->Option (List (Nat×TA))
 | []=>some []
 | (i,x)::r=>(evV s x).bind fun v=>(evParts s r).bind fun vs=>some ((i,v)::vs)
def asLeaf (l:Leaf) (v:TC) (c:TC->Option R):Option R:=
 match l with
 | .int k=>asI k v fun n=>c (.int k n)
 | .bool=>asB v fun b=>c (.bool b)
 | .any=>c v
def asLeaves:List Leaf->List TC->(List TC->Option R)->Option R
 | [],l,c=>asN l (c [])
 | f::fs,l,c=>asC l fun x xs=>asLeaf f x fun y=>asLeaves fs xs fun ys=>c (y::ys)
def typed1 (P:Program) (t:TypeId) (v:TA) (c:TA->Option R):Option R:=
 cond (yo P t) (asAgg v fun l=>asLeaves (zN P 8 t) l fun ys=>c (.agg ys)) (asSc v fun x=>asLeaf ((zN P 8 t).getD 0 .any) x fun y=>c (.sc y))
def typedAll (P:Program):List TypeId->List TA->(List TA->Option R)->Option R
 | [],l,c=>asN l (c [])
 | t::ts,l,c=>asC l fun x xs=>typed1 P t x fun y=>typedAll P ts xs fun ys=>c (y::ys)
def typed (P:Program) (t:TypeId) (vs:List TA) (c:TV->Option R):Option R:=
 match P.underlying t with
 | some (.tuple ts)=>typedAll P ts.toList vs fun ys=>guardB (!(Nat.beq ys.length 1)) (c (.t ys))
 | _=>asC vs fun x xs=>asN xs (typed1 P t x fun y=>c (.v y))
def pickB (t:Bool) (a b:Option TV) (c:TV->Option R):Option R:=
 match a,b with
 | some (.v (.sc (.bool x))),some (.v (.sc (.bool y)))=>c (.v (.sc (.bool (cond t x y))))
 | a,b=>cond t (a.bind c) (b.bind c)
def opOk (op:BinOp) (y:TA):Bool:=
 match op,y with
 | .quo,.sc (.int _ b) | .rem,.sc (.int _ b)=>decide (b≠0)
 | .shl,.sc (.int _ b) | .shr,.sc (.int _ b)=>decide (0<=b)
 | _,_=>true
def binop (P:Program) (op:BinOp) (t:TypeId) (x y:TA):Option TC:=
 match x,y with
 | .sc (.int k a),.sc (.int k' b)=>guardB (decide (k=k')||Vr op) ((arith op k a b).bind ofSc)
 | .sc (.bool a),.sc (.bool b)=>
  match op,P.underlying t with
  | .eql,some .bool=>some (.bool (a==b))
  | .neq,some .bool=>some (.bool (!(a==b)))
  | _,_=>none
 | .agg a,.agg b=>
  guardB (!(P.eqGuardType P.depth t))<|
  (Vz a).bind fun a=>(Vz b).bind fun b=>
  match op with
  | .eql=>(eqV P 9 t (.agg a) (.agg b)).bind fun r=>some (.bool r)
  | .neq=>(eqV P 9 t (.agg a) (.agg b)).bind fun r=>some (.bool (!r))
  | _=>none
 | _,_=>none
def unop (op:UnOp) (x:TA):Option TC:=
 match op,x with
 | .neg,.sc (.int k n)=>some (.int k (k.wrap (0 - n)))
 | .not,.sc (.bool b)=>some (.bool (!b))
 | _,_=>none
def mx2 (x y:TA):Option TA:=
 match x,y with
 | .sc (.int k x),.sc (.int k' y)=>guardB (decide (k=k')) (some (.sc (.int k (max x y))))
 | _,_=>none
def mn2 (x y:TA):Option TA:=
 match x,y with
 | .sc (.int k x),.sc (.int k' y)=>guardB (decide (k=k')) (some (.sc (.int k (min x y))))
 | _,_=>none
def foldO (f:TA->TA->Option TA):TA->List TA->Option TA
 | x,[]=>some x
 | x,y::r=>(f x y).bind fun z=>foldO f z r
def put (c:List TC) (off:Nat) (v:List TC):Option (List TC):=guardB (decide (off+v.length<=c.length)) (some (splice c off v))
def fillA (pl:Nat->Option (Nat×Nat)):List TC->List (Nat×TA)->Option (List TC)
 | cells,[]=>some cells
 | cells,(i,v)::r=>(pl i).bind fun p=>guardB (Nat.beq v.cells.length p.2) ((put cells p.1 v.cells).bind fun c=>fillA pl c r)
def repC (n:Nat) (l:List TC):List TC:=(List.replicate n l).flatten
def spread:List (Option Nat)->List TC->Option (List TA)
 | [],[]=>some []
 | none::r,c=>asC c fun x xs=>(spread r xs).bind fun vs=>some (.sc x::vs)
 | some n::r,c=>guardB (decide (n<=c.length)) ((spread r (c.drop n)).bind fun vs=>some (.agg (c.take n)::vs))
 | [],_::_=>none
def shapeOf:TA->Option Nat
 | .sc _=>none
 | .agg c=>some c.length
def loadAt (s:TS) (a:TV) (n:Nat) (c:List TC->Option R):Option R:=
 match a with
 | .l k off=>(s.lo.get k).bind fun b=>b.bind fun cs=>cutK cs off n c
 | .v (.sc (.ptr id off))=>match zi s.h id with
  | .box _ cs | .crow _ cs=>cutK cs off n c
  | _=>none
 | .e t xs i off=>cutK (t.cells (xs.getD i t.dflt)) off n c
 | .p id i off=>match zi s.h id with
  | .row _ t xs=>guardB (decide (i < xs.length)) (cutK (t.cells (xs.getD i t.dflt)) off n c)
  | _=>none
 | _=>none
def load1 (s:TS) (a:TV) (c:TC->Option R):Option R:=loadAt s a 1 fun l=>asC l fun x r=>asN r (c x)
def storeAt (P:Program) (s:TS) (a:TV) (v:List TC) (c:TS->Option R):Option R:=
 match a with
 | .l k off=>(s.lo.get k).bind fun b=>b.bind fun cs=>putK cs off v fun cs'=>s.lo.setT k (some cs') fun m=>c { s with lo:=m }
 | .v (.sc (.ptr id off))=>match zi s.h id with
  | .box e cs=>putK cs off v fun cs'=>c { s with h:=s.h.set id (.box e cs') }
  | .crow e cs=>putK cs off v fun cs'=>c { s with h:=s.h.set id (.crow e cs') }
  | _=>none
 | .p id i off=>frzL P v s.h fun v h=>match zi h id with
  | .row e t xs=>guardB (decide (i < xs.length))<|putK (t.cells (xs.getD i t.dflt)) off v fun cs=>mk1 t cs fun x=>c { s with h:=h.set id (.row e t (xs.set i x)) }
  | _=>none
 | _=>none
def addAt (a:TV) (n:Nat) (c:TV->Option R):Option R:=
 match a with
 | .l k off=>c (.l k (off+n))
 | .v (.sc (.ptr id off))=>c (.v (.sc (.ptr id (off+n))))
 | .e t xs i off=>c (.e t xs i (off+n))
 | .p id i off=>c (.p id i (off+n))
 | _=>none
def isAddr:TV->Bool
 | .l _ _ | .v (.sc (.ptr _ _)) | .e _ _ _ _ | .p _ _ _=>true
 | _=>false
def idxI (i:TA) (n:Nat) (c:Nat->Option R):Option R:=
 match i with
 | .sc (.int _ i)=>guardB (decide (0<=i)) (guardB (decide (i < (n:Int))) (c i.toNat))
 | _=>none
def boundI (s:TS) (x:Option Operand) (dflt:Nat) (c:Nat->Option R):Option R:=
 match x with
 | none=>c dflt
 | some x=>(evV s x).bind fun v=>match v with
  | .sc (.int _ i)=>guardB (decide (0<=i)) (c i.toNat)
  | _=>none
def lenC (h:TH) (v:TC) (c:Nat->Option R):Option R:=
 match v with
 | .d _ _ xs=>c xs.length
 | .nil=>c 0
 | .g id=>match zi h id with | .row _ _ xs=>c xs.length | _=>none
 | .sl _ _ n=>c n
 | .sc _ _ n=>c n
 | _=>none
def cutS (h:TH) (e:TypeId) (z:Nat) (whole:Bool) (v:TC) (l r:Nat) (c:TC->Option R):Option R:=
 match v with
 | .d e' t xs=>guardB (Nat.beq e e'&&Nat.beq z t.size) (c (.d e' t ((xs.take r).drop l)))
 | .nil=>c .nil
 | .g id=>match zi h id with | .row e' _ _=>guardB (Nat.beq e e') (c (cond whole (.g id) (.sl id l (r - l)))) | _=>none
 | .sl id o _=>match zi h id with | .row e' _ _=>guardB (Nat.beq e e') (c (.sl id (o+l) (r - l))) | _=>none
 | .sc id o _=>match zi h id with | .crow e' _=>guardB (Nat.beq e e') (c (.sc id (o+l*z) (r - l))) | .box _ _=>c (.sc id (o+l*z) (r - l)) | _=>none
 | _=>none
def sliceS (s:TS) (e:TypeId) (z:Nat) (x:TC) (lo hi mx:Option Operand) (c:TC->Option R):Option R:=
 lenC s.h x fun n=>boundI s lo 0 fun l=>boundI s hi n fun r=>boundI s mx r fun m=>
  guardB (mx.isNone||hi.isSome)<|guardB (decide (l<=r))<|guardB (decide (r<=m))<|guardB (decide (m<=n)) (cutS s.h e z (lo.isNone&&hi.isNone) x l r fun v=>c (cond (mx0 mx) .nil v))
def srcT (P:Program) (s:TS) (e:TypeId) (t:Ty) (a:TV) (c:List t.T->TH->Option R):Option R:=
 match a with
 | .s k n=>(s.lo.get k).bind fun b=>b.bind fun cs=>cutK cs 0 (n*t.size) fun l=>frzL P l s.h fun l h=>mkN t n l fun xs=>c xs h
 | .v (.sc x)=>elems s.h e t x fun xs _=>c xs s.h
 | _=>none
def lenA (s:TS) (a:TV) (c:Nat->Option R):Option R:=
 match a with
 | .s _ n=>c n
 | .v (.sc x)=>lenC s.h x c
 | _=>none
def appendS (h:TH) (e:TypeId) (t:Ty) (x:TC) (new:List t.T) (c:TC->TH->Option R):Option R:=
 match x with
 | .nil=>guardB (decide (new.length<=most)) (c (.g h.length) (h++[.row e t new]))
 | .g id=>match zi h id with
  | .row e' t' xs=>asD e t (.d e' t' xs) fun xs=>guardB (decide (xs.length+new.length<=most)) (c (.g h.length) (h.set id .dead++[.row e t (xs++new)]))
  | _=>none
 | _=>none
def copyS (h:TH) (e:TypeId) (t:Ty) (x:TC) (new:List t.T) (c:TH->Option R):Option R:=
 match x with
 | .g id=>match zi h id with
  | .row e' t' xs=>asD e t (.d e' t' xs) fun xs=>c (h.set id (.row e t (new.take xs.length++xs.drop new.length)))
  | _=>none
 | .sl id o n=>match zi h id with
  | .row e' t' xs=>asD e t (.d e' t' xs) fun xs=>guardB (decide (o+n<=xs.length)) (c (h.set id (.row e t (xs.take o++new.take n++xs.drop (o+min n new.length)))))
  | _=>none
 | _=>none
end
end
noncomputable section
section
variable {R : Type} (P : Program) (A : TAn) (ev : TEv)
def lendC (h:TH) (ord:List Nat) (t:Option TypeId) (v:TC) (c:TC->List Nat->Option R):Option R:=
 match v with
 | .g id=>cond (yu ord id) (c (.g (yF ord id)) []) (match zi h id with | .row e t xs=>c (.d e t xs) [id] | _=>none)
 | .sl id o n=>cond (yu ord id) (c (.sl (yF ord id) o n) []) (match zi h id with | .row e t xs=>guardB (decide (o+n<=xs.length)) (c (.d e t ((xs.drop o).take n)) [id]) | _=>none)
 | .sc id o n=>cond (yu ord id) (c (.sc (yF ord id) o n) []) (match t with | some e=>elT P e fun t=>elems h e t (.sc id o n) fun xs _=>c (.d e t xs) [id] | none=>none)
 | .nil=>match t with | some e=>(match Zs P 8 e with | some t=>c (.d e t []) [] | none=>c .nil []) | none=>c .nil []
 | .fn f nf sh cs=>guardB ((TC.refsL cs).all (yu ord)) (c (.fn f nf sh (TC.renL (yF ord) cs)) [])
 | .ptr id o=>guardB (yu ord id) (c (.ptr (yF ord id) o) [])
 | .yl id=>guardB (yu ord id) (c (.yl (yF ord id)) [])
 | v=>c v []
def UH (h:TH) (ord:List Nat):List (Option TypeId)->List TC->(List TC->List Nat->Option R)->Option R
 | _,[],c=>c [] []
 | t,x::r,c=>lendC P h ord (t.headD none) x fun y l=>UH h ord t.tail r fun ys m=>c (y::ys) (l++m)
def lendA (h:TH) (ord:List Nat) (t:Option TypeId) (v:TA) (c:TA->List Nat->Option R):Option R:=
 match v with
 | .sc x=>lendC P h ord ((t.map fun t=>(Vs P 8 t).headD none).getD none) x fun y l=>c (.sc y) l
 | .agg xs=>UH P h ord ((t.map fun t=>Vs P 8 t).getD []) xs fun ys l=>c (.agg ys) l
def WX (h:TH) (ord:List Nat):List (Option TypeId)->List TA->(List TA->List Nat->Option R)->Option R
 | _,[],c=>c [] []
 | t,x::r,c=>lendA P h ord (t.headD none) x fun y l=>WX h ord t.tail r fun ys m=>c (y::ys) (l++m)
def rootsC:TC->List Nat
 | .ptr id _=>[id]
 | .fn _ _ _ cs=>TC.refsL cs
 | .yl id=>[id]
 | _=>[]
def rootsA (v:TA):List Nat:=v.cells.flatMap rootsC
def Ve:TC->Bool
 | .bool _ | .int _ _ | .str _ | .nilp | .nilf | .nili=>true
 | _=>false
def UT (h:TH) (ord:List Nat):Bool:=UP ord&&ord.all fun i=>Nat.blt i h.length&&(zi h i).refs.all (yu ord)
def Zo (h:TH) (ord:List Nat) (i:Nat):Nat:=cond (Nat.blt i ord.length) (ord.getD i 0) (h.length+(i - ord.length))
def xi (h:TH) (ord lent:List Nat) (h':TH):TH:=
 (h.zipIdx.map fun p=>cond (yu ord p.2) ((zi h' (yF ord p.2)).ren (Zo h ord)) (cond (yu lent p.2) .dead p.1))++(h'.drop ord.length).map (TO.ren (Zo h ord))
def wp:List (Bool×List TA×TH)->(List TA->TH->Option R)->Option R
 | [],_=>none
 | (b,rs,h)::r,c=>cond b (c rs h) (wp r c)
def YB (f:FuncId) (ts:List (Option TypeId)) (as:List TA) (h:TH) (c:List TA->TH->Option R):Option R:=
 let ord:=Wb h 100 (as.flatMap rootsA) []
 guardB (UT h ord)<|
 WX P h ord ts as fun as' lent=>
 let sub:=ord.map fun i=>(zi h i).ren (yF ord)
 let fin:=fun (rs:List TA) (h':TH)=>
  cond (ord.isEmpty&&h'.isEmpty&&rs.all fun v=>v.cells.all Ve) (c rs h)<|
  guardB (Nat.ble ord.length h'.length) (c (rs.map (TA.ren (Zo h ord))) (xi h ord lent h'))
 match A.orc f as' sub with
 | some alts=>wp alts fin
 | none=>(ev f as' sub).bind fun p=>fin p.1 p.2
def YF:FuncId:=4294967295
def ontoK (x:Operand) (v:TV) (c:TC->Option R):Option R:=
 match x with
 | .tmp d=>cond (A.a.loc.contains d) (match v with | .s _ n=>guardB (Nat.beq n 0) (c .nil) | _=>none) (v.val.bind fun v=>asSc v c)
 | _=>v.val.bind fun v=>asSc v c
def builtinK (b:Builtin) (ts:List TypeId) (args:List Operand) (s:TS) (c:TV->TS->Option R):Option R:=
 match b,ts,args with
 | .len,[ty],[x]=>
  match P.underlying ty with
  | some (.slice _)=>(evA s x).bind fun a=>lenA s a fun n=>c (.v (.sc (.int .i64 n))) s
  | some (.array n _)=>c (.v (.sc (.int .i64 n))) s
  | _=>none
 | .max,_,x::r=>(evV s x).bind fun v=>(evVs s r).bind fun vs=>(foldO mx2 v vs).bind fun z=>c (.v z) s
 | .min,_,x::r=>(evV s x).bind fun v=>(evVs s r).bind fun vs=>(foldO mn2 v vs).bind fun z=>c (.v z) s
 | .append,[ty,ty2],[x,y]=>
  (AM.elemOf P ty).bind fun e=>(zeroCells P e).bind fun z=>guardB ((AM.elemOf P ty2).isSome&&decide (P.bytesOf e<=8192)&&Nat.beq z.length (P.cellsOf e))<|elT P e fun t=>
   (evA s x).bind fun xv=>ontoK A x xv fun xs=>(evA s y).bind fun a=>srcT P s e t a fun new h=>appendS h e t xs new fun v h=>c (.v (.sc v)) { s with h:=h }
 | .copy,[ty,ty2],[x,y]=>
  (AM.elemOf P ty).bind fun e=>guardB ((AM.elemOf P ty2).isSome&&(P.info? e).isSome)<|elT P e fun t=>
   (evV s x).bind fun xv=>asSc xv fun xs=>(evA s y).bind fun a=>lenC s.h xs fun n=>srcT P s e t a fun new h=>copyS h e t xs new fun h=>c (.v (.sc (.int .i64 (min new.length n:Nat)))) { s with h:=h }
 | _,_,_=>none
def onlyL (x:Operand) (v:TV):Bool:=
 match x with
 | .tmp d=>!(A.a.loc.contains d)||(match v with | .l _ _=>true | _=>false)
 | _=>true
def onlyH (x:Operand) (v:TV):Bool:=
 match x with
 | .tmp d=>!(A.a.hst.contains d)||(match v with | .v _ | .e _ _ _ _ | .p _ _ _=>true | _=>false)
 | _=>true
def onlyR (x:Operand) (v:TV):Bool:=
 match AM.rootOf A.a x with
 | none=>true
 | some k=>match v with | .l k' _=>Nat.beq k k' | _=>false
def onlyB (h:TH) (x:Operand) (v:TV):Bool:=
 match x with
 | .tmp d=>!(A.a.ldb.contains d)||(match v with | .v (.sc (.ptr id _))=>(match zi h id with | .box _ _=>true | _=>false) | _=>false)
 | _=>true
def onlyX (h:TH) (x:Operand) (v:TV):Bool:=onlyH A x v&&onlyR A x v&&onlyB A h x v
def onlyS (x:Operand) (v:TV):Bool:=onlyH A x v&&onlyR A x v
def evOp (o:Oper) (s:TS) (c:TS->Option R):Option R:=
 match o.op with
 | .move x | .assign x=>(evA s x).bind fun v=>setK s o.dst v c
 | .pick q a b=>(evV s q).bind fun v=>asSc v fun v=>asB v fun t=>pickB t (evA s a) (evA s b) fun v=>setK s o.dst v c
 | .alloc e=>o.dst.bind fun d=>(zeroCells P e).bind fun z=>guardB (Nat.beq z.length (P.cellsOf e))<|
   cond (A.a.loc.contains d) (newLocalK s d (.l d 0) z c) (setK { s with h:=s.h++[.box e z] } o.dst (.v (.sc (.ptr s.h.length 0))) c)
 | .box e x=>o.dst.bind fun d=>(evV s x).bind fun v=>guardB (Nat.beq v.cells.length (P.cellsOf e))<|
   cond (A.a.loc.contains d) (newLocalK s d (.l d 0) v.cells c) (setK { s with h:=s.h++[.box e v.cells] } o.dst (.v (.sc (.ptr s.h.length 0))) c)
 | .build t parts=>(zeroCells P t).bind fun z=>(places P t).bind fun pl=>(evParts s parts.toList).bind fun vs=>(fillA pl z vs).bind fun cs=>setK s o.dst (.v (.agg cs)) c
 | .buildSlice t n parts=>o.dst.bind fun d=>(AM.elemOf P t).bind fun e=>(zeroCells P e).bind fun z=>guardB (Nat.beq z.length (P.cellsOf e)&&decide (n*z.length<=1000000))<|
   (evParts s parts.toList).bind fun vs=>(fillA (fun i=>some (i*P.cellsOf e,P.cellsOf e)) (repC n z) vs).bind fun cs=>
   cond (A.a.loc.contains d) (newLocalK s d (.s d n) cs c)<|
   cond (A.crow.contains d) (setK { s with h:=s.h++[.crow e cs] } o.dst (.v (.sc (.sc s.h.length 0 n))) c)<|
   elT P e fun t=>frzL P cs s.h fun cs h=>mkN t n cs fun xs=>setK { s with h:=h++[.row e t xs] } o.dst (.v (.sc (.g h.length))) c
 | .load t x=>guardB (P.underlying t).isSome<|(evA s x).bind fun a=>guardB (onlyL A x a&&onlyX A s.h x a)<|cond (yo P t) (loadAt s a (P.cellsOf t) fun l=>asLeaves (zN P 8 t) l fun ys=>setK s o.dst (.v (.agg ys)) c)
   (load1 s a fun x=>asLeaf ((zN P 8 t).getD 0 .any) x fun y=>setK s o.dst (.v (.sc y)) c)
 | .store t a x=>guardB (P.info? t).isSome<|(evA s a).bind fun av=>(evV s x).bind fun v=>guardB (Nat.beq v.cells.length (P.cellsOf t)&&onlyS A a av)<|storeAt P s av v.cells fun s=>setK s o.dst .no c
 | .nilCheck x=>(evA s x).bind fun v=>guardB (isAddr v) (setK s o.dst v c)
 | .binOp op t x y _=>(evV s x).bind fun x=>(evV s y).bind fun y=>guardB (opOk op y)<|(binop P op t x y).bind fun v=>setK s o.dst (.v (.sc v)) c
 | .unOp op _ x=>(evV s x).bind fun x=>(unop op x).bind fun v=>setK s o.dst (.v (.sc v)) c
 | .convert src dst x=>(evV s x).bind fun x=>match P.underlying src,P.underlying dst,x with
  | some (.int _),some (.int k),.sc (.int _ n)=>setK s o.dst (.v (.sc (.int k (k.wrap n)))) c
  | _,_,_=>none
 | .makeFunc (.func f) first captured=>(evVs s first.toList).bind fun a=>(evVs s captured.toList).bind fun b=>
   setK s o.dst (.v (.sc (.fn f a.length ((a++b).map shapeOf) ((a++b).flatMap TA.cells)))) c
 | .makeSlice t len cap=>(AM.elemOf P t).bind fun e=>(zeroCells P e).bind fun z=>elT P e fun et=>(evV s len).bind fun l=>(evV s cap).bind fun m=>match l,m with
  | .sc (.int .i64 l),.sc (.int .i64 m)=>guardB (Nat.beq z.length (P.cellsOf e)&&decide (P.bytesOf e<=8192))<|guardB (decide (0<=l))<|guardB (decide (l<=m))<|guardB (decide (m<=most))<|
    mk1 et z fun x=>setK { s with h:=s.h++[.row e et (List.replicate l.toNat x)] } o.dst (.v (.sc (.g s.h.length))) c
  | _,_=>none
 | .slice t x lo hi mx=>match P.underlying t with
  | some (.slice e)=>guardB (P.info? e).isSome<|(evV s x).bind fun x=>asSc x fun x=>sliceS s e (P.cellsOf e) x lo hi mx fun v=>setK s o.dst (.v (.sc v)) c
  | some (.array n e)=>guardB (P.info? e).isSome<|(evV s x).bind fun x=>asSc x fun x=>match x with
   | .ptr id off=>(match zi s.h id with | .box _ _=>sliceS s e (P.cellsOf e) (.sc id off n) lo hi mx fun v=>setK s o.dst (.v (.sc v)) c | _=>none)
   | _=>none
  | _=>none
 | .fieldAddr t x i=>match P.underlying t with
  | some (.struct fs)=>(fs.toList[i]?).bind fun f=>guardB (!(Nat.beq (P.cellsOf f.type) 0))<|(evA s x).bind fun a=>addAt a f.offset fun v=>setK s o.dst v c
  | _=>none
 | .indexAddr t x i=>match P.underlying t with
  | some (.slice e)=>guardB (P.info? e).isSome<|(evV s x).bind fun x=>asSc x fun x=>(evV s i).bind fun i=>match x with
   | .d e' t xs=>guardB (Nat.beq e e'&&Nat.beq t.size (P.cellsOf e))<|idxI i xs.length fun i=>setK s o.dst (.e t xs i 0) c
   | .g id=>(match zi s.h id with | .row e' _ xs=>guardB (Nat.beq e e')<|idxI i xs.length fun i=>setK s o.dst (.p id i 0) c | _=>none)
   | .sl id off n=>(match zi s.h id with | .row e' _ _=>guardB (Nat.beq e e')<|idxI i n fun i=>setK s o.dst (.p id (off+i) 0) c | _=>none)
   | .sc id off n=>(match zi s.h id with | .box _ _ | .crow _ _=>idxI i n fun i=>setK s o.dst (.v (.sc (.ptr id (off+i*P.cellsOf e)))) c | _=>none)
   | _=>none
  | some (.array n e)=>guardB (P.info? e).isSome<|(evA s x).bind fun a=>(evV s i).bind fun i=>idxI i n fun i=>addAt a (i*P.cellsOf e) fun v=>setK s o.dst v c
  | _=>none
 | .extract x i=>(evA s x).bind fun v=>match v with
  | .t vs=>(vs[i]?).bind fun v=>setK s o.dst (.v v) c
  | _=>none
 | .call { callee:=.builtin b,args,argTypes }=>builtinK P A b argTypes.toList args.toList s fun v s=>setK s o.dst v c
 | .call { callee:=.value f,args,argTypes }=>(evV s f).bind fun f=>asSc f fun f=>match f with
  | .fn g nf sh cs=>guardB (!(Nat.beq g YF)&&okv A.a g)<|(evVs s args.toList).bind fun as=>(spread sh cs).bind fun vs=>
   YB P A ev g (List.replicate nf none++argTypes.toList.map some) (vs.take nf++as++vs.drop nf) s.h fun rs h=>typed P o.type rs fun v=>setK { s with h:=h } o.dst v c
  | .yl id=>guardB (oky A.a)<|(evVs s args.toList).bind fun as=>YB P A ev YF (none::argTypes.toList.map some) (.sc (.yl id)::as) s.h fun rs h=>typed P o.type rs fun v=>setK { s with h:=h } o.dst v c
  | _=>none
 | .index t x i=>(evV s x).bind fun x=>(evV s i).bind fun i=>match P.underlying t,x,i with
  | some .string,.sc (.str b),.sc (.int _ n)=>guardB (decide (0<=n))<|guardB (decide (n.toNat < b.size))<|setK s o.dst (.v (.sc (.int .u8 ((b.data.getD n.toNat 0).toNat:Int)))) c
  | _,_,_=>none
 | _=>none
def evOps (ops:Array Oper):List Oper->TS->(TS->Option R)->Option R
 | [],s,c=>c s
 | o::r,s,c=>
  match o.guard with
  | none=>evOp P A ev o s fun s=>evOps ops r s c
  | some (j,w)=>((ops[j]?).bind (·.dst)).bind fun d=>(s.sl.get d).bind fun g=>match g with
   | .v (.sc (.bool t))=>
    cond w (cond t (setK s (some d) (.v (.sc (.bool true))) fun s=>evOp P A ev o s fun s=>evOps ops r s c) (setK s (some d) (.v (.sc (.bool false))) fun s=>setK s o.dst .no fun s=>evOps ops r s c))
     (cond t (setK s (some d) (.v (.sc (.bool true))) fun s=>setK s o.dst .no fun s=>evOps ops r s c) (setK s (some d) (.v (.sc (.bool false))) fun s=>evOp P A ev o s fun s=>evOps ops r s c))
   | .no=>setK s o.dst .no fun s=>evOps ops r s c
   | _=>none
def isLoc:TV->Bool
 | .l _ _ | .s _ _ | .w=>true
 | _=>false
def isRef (d:Nat):TV->Bool
 | .l k _=>Nat.beq k d
 | .s k _=>Nat.beq k d
 | .w=>true
 | _=>false
def freshAll (A:FAn) (ops:Array Oper) (s:TS):Bool:=ops.toList.all fun o=>
 match o.op with
 | .alloc _ | .box _ _ | .buildSlice _ _ _=>(match o.dst with | some d=>!(A.loc.contains d)||s.sl.all fun v=>!(isRef d v) | none=>true)
 | _=>true
def keepT {α:Type} (f:α->α) (t:Tr α) (l:List Nat):Tr α:=l.foldl (fun u i=>match t.get i with | some v=>u.set i v | none=>u) (t.map f)
def maskR (id:Nat) (s:TS):TS:=
 match A.a.keepR.find? (fun p=>Nat.beq p.1 id) with
 | none=>s
 | some (_,a)=>{ s with sl:=keepT (fun _=>.u) s.sl a }
def evRegion (dOk:FAn->Array Oper->Bool) (id:Nat) (ops:Array Oper) (draw:Bool) (s:TS) (c:TS->Option R):Option R:=
 guardB (!draw||(dOk A.a ops&&freshAll A.a ops s)) (evOps P A ev ops ops.toList s fun s=>c (maskR A id s))
def maskAt (blk:Nat) (s:TS):TS:=
 match A.a.keep.find? (fun p=>Nat.beq p.1 blk) with
 | none=>s
 | some (_,a,b)=>{ s with sl:=keepT (fun _=>.u) s.sl a,lo:=keepT (fun _=>none) s.lo b }
def isRetK (key:Nat):Bool:=Nat.beq (key % 4) 3
def dropV (key:Nat) (v:TV):TV:=cond (isRetK key) .w (cond (isLoc v) v .u)
def maskL (key:Nat) (s:TS):TS:=
 match A.live.find? (fun p=>Nat.beq p.1 key) with
 | none=>s
 | some (_,a,b)=>{ s with sl:=keepT (dropV key) s.sl a,lo:=keepT (fun _=>none) s.lo b }
def coeC (h:TH) (v:TC) (e:TypeId) (own:Bool) (c:TC->TH->Option R):Option R:=
 match own,v with
 | true,.nil=>elT P e fun t=>c (.g h.length) (h++[.row e t []])
 | true,.sl id o n=>(match zi h id with | .row e' t xs=>guardB (Nat.beq e e'&&!(Nat.beq t.size 0))<|guardB (Nat.beq (o+n) xs.length) (c (.g h.length) (h.set id .dead++[.row e t (xs.drop o)])) | _=>none)
 | false,.nil=>elT P e fun t=>c (.d e t []) h
 | false,v=>frzC P 3 v h c
 | true,v=>c v h
def YD (l:List TC) (j:Nat) (h:TH) (e:TypeId) (own:Bool) (c:List TC->TH->Option R):Option R:=
 match l[j]? with
 | some v=>coeC P h v e own fun v h=>c (l.set j v) h
 | none=>none
def coe1 (p:(Nat×Nat×Nat)×TypeId×Bool) (s:TS) (c:TS->Option R):Option R:=
 match p with
 | ((0,i,j),e,own)=>(match s.sl.get i with
  | some (.v (.sc v))=>YD P [v] j s.h e own fun l h=>asC l fun x _=>s.sl.setT i (.v (.sc x)) fun m=>c { s with sl:=m,h:=h }
  | some (.v (.agg l))=>YD P l j s.h e own fun l h=>s.sl.setT i (.v (.agg l)) fun m=>c { s with sl:=m,h:=h }
  | _=>c s)
 | ((1,k,j),e,own)=>(match s.lo.get k with
  | some (some l)=>YD P l j s.h e own fun l h=>s.lo.setT k (some l) fun m=>c { s with lo:=m,h:=h }
  | _=>c s)
 | ((2,i,j),e,own)=>(match zi s.h i with
  | .box _ l=>YD P l j s.h e own fun l h=>(match zi h i with | .box b _=>c { s with h:=h.set i (.box b l) } | _=>none)
  | .crow _ l=>YD P l j s.h e own fun l h=>(match zi h i with | .crow b _=>c { s with h:=h.set i (.crow b l) } | _=>none)
  | _=>c s)
 | _=>c s
def Ur:List ((Nat×Nat×Nat)×TypeId×Bool)->TS->(TS->Option R)->Option R
 | [],s,c=>c s
 | p::r,s,c=>coe1 P p s fun s=>Ur r s c
def YQ:List Nat->List Nat->Bool
 | [],_=>true
 | x::r,y::q=>Nat.beq x y&&YQ r q
 | _::_,[]=>false
def order (s:TS):List Nat:=Wb s.h 200 ((List.range s.n0).flatMap (fun i=>(zi s.h i).refs)++s.sl.toL.flatMap TV.refs++s.lo.toL.flatMap fun b=>match b with | some l=>TC.refsL l | none=>[]) (List.range s.n0)
def gc (s:TS) (c:TS->Option R):Option R:=
 let ord:=order s
 guardB (UT s.h ord&&YQ (List.range s.n0) ord&&s.sl.all (fun v=>v.refs.all (yu ord))&&s.lo.all (fun b=>match b with | some l=>(TC.refsL l).all (yu ord) | none=>true))<|
 c { sl:=s.sl.map (TV.ren (yF ord)),lo:=s.lo.map fun b=>b.map (TC.renL (yF ord)),h:=ord.map fun i=>(zi s.h i).ren (yF ord),n0:=s.n0 }
def shp {α β:Type} (t:Tr α):Tr β->Bool:=Tr.rec (motive:=fun _=>Tr β->Bool) (fun u=>match u with | .nil=>true | _=>false) (fun _ u=>match u with | .leaf _=>true | _=>false)
 (fun _ _ il ir u=>match u with | .node l r=>cond (il l) (ir r) false | _=>false) t
def xg (v:TV) (n:Nat):Tr TV:=Tr.ofL (Nat.log2 n+1) (List.replicate n v)
def ZJ (n:Nat):Tr TV:=xg .u n
def isW:TV->Bool
 | .w=>true
 | _=>false
def Ye (t:Tr TV):Bool:=!(t.all fun v=>!(isW v))
def ww (n:Nat):Tr (Option (List TC)):=Tr.ofL (Nat.log2 n+1) (List.replicate n none)
def pickS (t:Tr TV) (i:Nat):Option (Nat×TV):=match t.get i with | some .u=>none | some .w=>none | some v=>some (i,v) | none=>none
def pickL (t:Tr (Option (List TC))) (i:Nat):Option (Nat×List TC):=match t.get i with | some (some v)=>some (i,v) | _=>none
def toCS (n:Nat) (s:TS):CS:={ sl:=(List.range n).filterMap (pickS s.sl),lo:=(List.range n).filterMap (pickL s.lo),h:=s.h,n0:=s.n0,w:=Ye s.sl }
def xR (n:Nat) (c:CS):TS:={ sl:=c.sl.foldl (fun t p=>t.set p.1 p.2) (xg (cond c.w .w .u) n),lo:=c.lo.foldl (fun t p=>t.set p.1 (some p.2)) (ww n),h:=c.h,n0:=c.n0 }
def wA (key:Nat) (s:TS) (c:CS->Option R):Option R:=
 Ur P (match A.coe.find? (fun p=>Nat.beq p.1 key) with | some p=>p.2 | none=>[]) (maskL A key s) fun s=>gc s fun s=>guardB (shp s.sl (ZJ A.nt)&&shp s.lo (ww A.nt)) (c (toCS A.nt s))
def xm:List (Bool×Ex×CS)->(Ex->CS->Option R)->Option R
 | [],_=>none
 | (b,e,s)::r,c=>cond b (c e s) (xm r c)
def loopN (n:Nat) (m:TS->(CS->Option R)->Option R) (body:TS->(Ex->TS->Option R)->Option R) (c:Ex->TS->Option R):Nat->CS->Option R
 | 0,_=>none
 | k+1,s=>body (xR n s) fun e s'=>match e with
  | .normal=>m s' fun s=>loopN n m body c k s
  | e=>c e s'
def kSeq (b:TS->(Ex->TS->Option R)->Option R) (c:Ex->TS->Option R):Ex->TS->Option R:=fun e s=>
 match e with
 | .normal=>b s c
 | e=>c e s
def kBlock (id:Nat) (c:Ex->TS->Option R):Ex->TS->Option R:=fun e s=>
 match e with
 | .exit i=>cond (Nat.beq i id) (c .normal s) (c (.exit i) s)
 | e=>c e s
def xA:Code->Option Nat
 | .region id _ _=>some id
 | .seq a b=>match xA a with | some i=>some i | none=>xA b
 | .block _ b=>xA b
 | .scope b=>xA b
 | .loop b=>xA b
 | _=>none
def wZ (blk:Nat) (s:TS) (c:CS->Option R):Option R:=wA P A (8*blk) (maskAt A blk s) c
def tellK (key:Nat) (s:CS) (c:Ex->TS->Option R) (d:CS->Option R):Option R:=
 match A.tell key s with
 | some alts=>xm alts fun e s=>c e (xR A.nt s)
 | none=>d s
def Wc (body:Code):Nat:=match xA body with | some i=>8*i+1 | none=>1
def rfs:Code->List (Nat×List Tmp×Code×Code)
 | .rangeFunc _ ps a b=>(Wc b,ps.toList,a,b)::(rfs a++rfs b)
 | .seq a b=>rfs a++rfs b
 | .cond _ a b=>rfs a++rfs b
 | .block _ b=>rfs b
 | .scope b=>rfs b
 | .loop b=>rfs b
 | _=>[]
def Zq (P:Program) (f key:Nat):Option (List Tmp×Code×Code):=((P.funcs[f]?).bind fun fn=>fn.body.bind fun c=>(rfs c).find? fun p=>Nat.beq p.1 key).map (·.2)
def plainV:TV->Bool
 | .u | .w | .l _ _ | .s _ _=>false
 | _=>true
def seenAt (key:Nat):List Nat:=match A.live.find? (fun p=>Nat.beq p.1 key) with | some (_,a,_)=>a | none=>List.range A.nt
def Vx (key:Nat) (s:TS):List (Nat×TV):=
 (seenAt A key).filterMap fun i=>(s.sl.get i).bind fun v=>cond (plainV v) (some (i,v)) none
def rangeEnd (s:TS) (c:Ex->TS->Option R) (h:TH):Option R:=
 match zi h s.h.length with
 | .loop st pe _ _ _ _=>guardB (!(Nat.beq st 1)) (match pe with
  | none=>c .normal { s with h:=h.set s.h.length .dead }
  | some (.exit i)=>c (.exit i) { s with h:=h.set s.h.length .dead }
  | some .ret=>c .ret { s with h:=h.set s.h.length .dead }
  | _=>none)
 | _=>none
def rangeT (g:Operand) (assign body:Code) (s:TS) (c:Ex->TS->Option R):Option R:=
 (evV s g).bind fun v=>asSc v fun v=>match v with
 | .fn f nf sh cs=>(spread sh cs).bind fun vs=>guardB (zo assign&&zo body&&shp s.sl (ZJ A.nt)&&(!(Nat.beq f YF)&&okv A.a f))<|
   YB P A ev f [] (vs.take nf++[.sc (.yl s.h.length)]++vs.drop nf) (s.h++[.loop 0 none A.a.self (Wc body) A.nt (Vx A (Wc body) s)]) fun _ h=>rangeEnd s c h
 | _=>none
def evCode (dOk:FAn->Array Oper->Bool) (k:Nat):Code->Nat->TS->(Ex->TS->Option R)->Option R
 | .skip,_,s,c=>c .normal s
 | .label _,_,s,c=>c .normal s
 | .region id ops draw,_,s,c=>evRegion P A ev dOk id ops draw s fun s=>c .normal s
 | .seq a b,blk,s,c=>evCode dOk k a blk s (kSeq (fun s c=>match xA b with
   | some id=>cond (A.cuts.contains id) (wA P A (8*id+4) s fun s=>tellK A (8*id+4) s c fun s=>evCode dOk k b blk (xR A.nt s) c) (evCode dOk k b blk s c)
   | none=>evCode dOk k b blk s c) c)
 | .cond q a b,blk,s,c=>(evV s q).bind fun v=>asSc v fun v=>asB v fun t=>cond t (evCode dOk k a blk s c) (evCode dOk k b blk s c)
 | .block id b,_,s,c=>evCode dOk k b id s (kBlock id c)
 | .scope b,blk,s,c=>evCode dOk k b blk s c
 | .loop b,blk,s,c=>wZ P A blk s fun s=>tellK A (8*blk) s c fun s=>loopN A.nt (fun s c=>wZ P A blk s c) (evCode dOk k b blk) c k s
 | .exit id,_,s,c=>c (.exit id) s
 | .ret,_,s,c=>c .ret s
 | .rangeFunc g _ assign body,_,s,c=>rangeT P A ev g assign body s c
 | _,_,_,_=>none
def Ug (key:Nat):Ex->Nat
 | .normal=>key+1
 | .exit _=>key+2
 | .ret=>key+3
def ZC (dOk:FAn->Array Oper->Bool) (k:Nat) (key:Nat) (c:Code) (blk:Nat) (s:CS) (K:Ex->TS->Option R):Option R:=
 cond (Nat.beq (key % 8) 0)
  (match c with
  | .loop b=>loopN A.nt (fun s c=>wZ P A blk s c) (evCode P A ev dOk k b blk) K k s
  | _=>none)
  (evCode P A ev dOk k c blk (xR A.nt s) K)
def ze (A:TAn):Nat->Code->List (Nat×Code×Nat)
 | blk,.loop b=>(8*blk,.loop b,blk)::ze A blk b
 | blk,.seq a b=>ze A blk a++(match xA b with | some id=>cond (A.cuts.contains id) [(8*id+4,b,blk)] [] | none=>[])++ze A blk b
 | blk,.cond _ a b=>ze A blk a++ze A blk b
 | _,.block id b=>ze A id b
 | blk,.scope b=>ze A blk b
 | _,.rangeFunc _ _ a b=>ze A 0 a++ze A 0 b
 | _,_=>[]
def resOf (s:TS):List ResultVar->(List TA->Option R)->Option R
 | [],c=>c []
 | .tmp t::r,c=>(s.sl.get t).bind fun v=>v.val.bind fun v=>resOf s r fun vs=>c (v::vs)
 | .cell a t::r,c=>guardB (P.underlying t).isSome<|(s.sl.get a).bind fun a=>cond (yo P t) (loadAt s a (P.cellsOf t) fun l=>resOf s r fun vs=>c (.agg l::vs)) (load1 s a fun x=>resOf s r fun vs=>c (.sc x::vs))
def finC (own:Bool) (t:Option TypeId) (v:TC) (h:TH) (c:TC->TH->Option R):Option R:=
 match t with
 | some e=>(match Zs P 8 e with | some _=>coeC P h v e own c | none=>c v h)
 | none=>c v h
def finL (own:Bool):List (Option TypeId)->List TC->TH->(List TC->TH->Option R)->Option R
 | _,[],h,c=>c [] h
 | t,x::r,h,c=>finC P own (t.headD none) x h fun y h=>finL own t.tail r h fun ys h=>c (y::ys) h
def finA (own:Bool) (t:Option TypeId) (v:TA) (h:TH) (c:TA->TH->Option R):Option R:=
 match v with
 | .sc x=>finC P own ((t.map fun t=>(Vs P 8 t).headD none).getD none) x h fun y h=>c (.sc y) h
 | .agg xs=>finL P own ((t.map fun t=>Vs P 8 t).getD []) xs h fun ys h=>c (.agg ys) h
def Vo (own:Bool):List TypeId->List TA->TH->(List TA->TH->Option R)->Option R
 | _,[],h,c=>c [] h
 | t,x::r,h,c=>finA P own t.head? x h fun y h=>Vo own t.tail r h fun ys h=>c (y::ys) h
def YY (n0:Nat) (rs:List TA) (h:TH) (c:List TA->TH->Option R):Option R:=
 let ord:=Wb h 200 ((List.range n0).flatMap (fun i=>(zi h i).refs)++rs.flatMap TA.refs) (List.range n0)
 guardB (UT h ord&&YQ (List.range n0) ord&&rs.all fun v=>v.refs.all (yu ord))<|
 c (rs.map (TA.ren (yF ord))) (ord.map fun i=>(zi h i).ren (yF ord))
def kFin (fn:Func) (c:List TA->TH->Option R):Ex->TS->Option R:=fun e s=>
 match e with
 | .normal | .ret=>resOf P s fn.results.toList fun vs=>Vo P A.own fn.resultTypes.toList vs s.h fun rs h=>YY s.n0 rs h c
 | _=>none
end
def enterSt (fn:Func) (args:List TA) (h:TH):TS:={ sl:=Tr.ofL (Nat.log2 fn.ntmps+1) (args.map TV.v++List.replicate (fn.ntmps - args.length) TV.no),lo:=Tr.ofL (Nat.log2 fn.ntmps+1) (List.replicate fn.ntmps none),h:=h,n0:=h.length }
def roundSt (nt:Nat) (sl:List (Nat×TV)) (ps:List Tmp) (args:List TA) (h:TH):TS:=
 { sl:=(ps.zip args).foldl (fun t p=>t.set p.1 (TV.v p.2)) (sl.foldl (fun t p=>t.set p.1 p.2) (ZJ nt)),lo:=ww nt,h:=h,n0:=h.length }
def kRound (id:Nat):Ex->TS->Option (List TA×TH):=fun e s=>
 match zi s.h id with
 | .loop _ _ g key nt sl=>match e with
  | .normal=>YY s.n0 [.sc (.bool true)] (s.h.set id (.loop 0 none g key nt sl)) fun rs h=>some (rs,h)
  | e=>YY s.n0 [.sc (.bool false)] (s.h.set id (.loop 2 (some e) g key nt sl)) fun rs h=>some (rs,h)
 | _=>none
def kBegin (id:Nat) (c:TS->Option (List TA×TH)):Ex->TS->Option (List TA×TH):=fun e s=>
 match e,zi s.h id with
 | .normal,.loop st pe g key nt sl=>guardB (Nat.beq st 0) (c { s with h:=s.h.set id (.loop 1 pe g key nt sl) })
 | _,_=>none
def evY (P:Program) (An:FuncId->TAn) (ev:TEv) (dOk:FAn->Array Oper->Bool) (k:Nat) (args:List TA) (h:TH):Option (List TA×TH):=
 match args with
 | .sc (.yl id)::rest=>match zi h id with
  | .loop _ _ g key nt sl=>(Zq P g key).bind fun rf=>guardB (Nat.beq rest.length rf.1.length&&zo rf.2.1&&zo rf.2.2)<|
    evCode P (An g) ev dOk k rf.2.1 0 (roundSt nt sl rf.1 rest h) (kBegin id fun s=>evCode P (An g) ev dOk k rf.2.2 0 s (kRound id))
  | _=>none
 | _=>none
def evF (P:Program) (An:FuncId->TAn) (dOk:FAn->Array Oper->Bool):Nat->TEv
 | 0,_,_,_=>none
 | k+1,f,args,h=>cond (Nat.beq f YF) (evY P An (evF P An dOk k) dOk k args h)<|
   (P.funcs[f]?).bind fun fn=>fn.body.bind fun code=>guardB (Uk (An f).a fn args.length)<|
   evCode P (An f) (evF P An dOk k) dOk k code 0 (enterSt fn args h) (kFin P (An f) fn fun rs h=>some (rs,h))
end
end Go.TM
namespace Go.AM
section
variable {R S : Type} (c : R -> Option S)
theorem yM (v:AV) (f:Sc->Option R):(asSc v f).bind c=asSc v fun x=>(f x).bind c:=by cases v<;>rfl
theorem asAgg_bind (v:AV) (f:List Sc->Option R):(asAgg v f).bind c=asAgg v fun x=>(f x).bind c:=by cases v<;>rfl
theorem asB_bind (v:Sc) (f:Bool->Option R):(asB v f).bind c=asB v fun x=>(f x).bind c:=by cases v<;>rfl
theorem asI_bind (k:IntKind) (v:Sc) (f:Int->Option R):(asI k v f).bind c=asI k v fun x=>(f x).bind c:=by cases v<;>first | rfl | (simp only [asI];split<;>rfl)
theorem VM {α:Type} (l:List α) (f:α->List α->Option R):(asC l f).bind c=asC l fun x y=>(f x y).bind c:=by cases l<;>rfl
theorem VO {α:Type} (l:List α) (f:Option R):(asN l f).bind c=asN l (f.bind c):=by cases l<;>rfl
theorem Yw (v:Sc) (f:Nat->Nat->Nat->Option R):(asS v f).bind c=asS v fun x y z=>(f x y z).bind c:=by cases v<;>rfl
theorem wg (v:Sc) (f:Nat->Nat->Option R):(asP v f).bind c=asP v fun x y=>(f x y).bind c:=by cases v<;>rfl
theorem VN (v:Sc) (f:Fn->Nat->List (Option Nat)->List Sc->Option R):(asF v f).bind c=asF v fun x y z t=>(f x y z t).bind c:=by cases v<;>rfl
theorem zg (b:Bool) (f:Option R):(guardB b f).bind c=guardB b (f.bind c):=by cases b<;>rfl
theorem wm (b:Bool) (f g:Option R):(cond b f g).bind c=cond b (f.bind c) (g.bind c):=by cases b<;>rfl
theorem xS (l:Leaf) (v:Sc) (f:Sc->Option R):(asLeaf l v f).bind c=asLeaf l v fun x=>(f x).bind c:=by
 cases l<;>simp [asLeaf,asI_bind,asB_bind]
theorem yR:∀ (ls:List Leaf) (l:List Sc) (f:List Sc->Option R),(asLeaves ls l f).bind c=asLeaves ls l fun x=>(f x).bind c
 | [],l,f=>by simp [asLeaves,VO]
 | x::xs,l,f=>by
  simp only [asLeaves,VM,xS]
  congr;funext a b;congr;funext y;exact yR xs b _
theorem VK (P:Program) (t:TypeId) (v:AV) (f:AV->Option R):(typed1 P t v f).bind c=typed1 P t v fun x=>(f x).bind c:=by
 simp only [typed1,wm,asAgg_bind,yR,yM,xS]
theorem Ws (P:Program):∀ (ts:List TypeId) (l:List AV) (f:List AV->Option R),(typedAll P ts l f).bind c=typedAll P ts l fun x=>(f x).bind c
 | [],l,f=>by simp [typedAll,VO]
 | x::xs,l,f=>by
  simp only [typedAll,VM,VK]
  congr;funext a b;congr;funext y;exact Ws P xs b _
theorem xQ (P:Program) (t:TypeId) (vs:List AV) (f:SV->Option R):(typed P t vs f).bind c=typed P t vs fun x=>(f x).bind c:=by
 unfold typed
 split<;>simp only [Ws,VM,VO,VK,zg]
theorem pickB_bind (t:Bool) (a b:Option SV) (f:SV->Option R):(pickB t a b f).bind c=pickB t a b fun x=>(f x).bind c:=by
 unfold pickB
 split<;>simp [wm,Option.bind_assoc]
theorem Tl {S:Type} (c:List Sc->Option S) (cs:List Sc) (off n:Nat):cutK cs off n c=(cut cs off n).bind c:=by unfold cutK cut;cases decide (off+n<=cs.length)<;>rfl
theorem putK_eq {S:Type} (c:List Sc->Option S) (cs:List Sc) (off:Nat) (v:List Sc):putK cs off v c=(put cs off v).bind c:=by unfold putK put;cases decide (off+v.length<=cs.length)<;>rfl
theorem ldNK_eq {S:Type} (c:List Sc->Option S) (h:AH) (id off n:Nat):ldNK h id off n c=(ldN h id off n).bind c:=by
 unfold ldNK ldN;simp only [Option.bind_assoc];congr;funext o;congr;funext d;exact Tl c d off n
theorem Tb {S:Type} (c:AH->Option S) (h:AH) (id off:Nat) (v:List Sc):stK h id off v c=(st h id off v).bind c:=by
 unfold stK st;simp only [Option.bind_assoc];congr;funext o
 split<;>simp [putK_eq,Option.bind_assoc]
theorem wE {S:Type} (c:List Sc->Option S) (s:St) (a:SV) (n:Nat):loadAt s a n c=match a with
 | .l k off=>(s.lo.get k).bind fun b=>b.bind fun cs=>(cut cs off n).bind c
 | .v (.sc p)=>asP p fun id off=>(ldN s.h id off n).bind c
 | _=>none:=by unfold loadAt;split<;>simp only [Tl,ldNK_eq]
theorem zZ {S:Type} (c:St->Option S) (s:St) (a:SV) (v:List Sc):storeAt s a v c=match a with
 | .l k off=>(s.lo.get k).bind fun b=>b.bind fun cs=>(put cs off v).bind fun cs'=>c { s with lo:=s.lo.set k (some cs') }
 | .v (.sc p)=>asP p fun id off=>(st s.h id off v).bind fun h=>c { s with h:=h }
 | _=>none:=by unfold storeAt;split<;>simp only [putK_eq,Tb,Tr.setT_eq]
theorem yJ {S:Type} (c:List Sc->Option S) (s:St) (a:SV) (n z:Nat):firstA s a n z c=match a with
 | .s k _=>(s.lo.get k).bind fun b=>b.bind fun cs=>(cut cs 0 (n*z)).bind c
 | .v (.sc x)=>(match n with
  | 0=>guardB (isSl x) (c [])
  | n+1=>asS x fun id off _=>(ldN s.h id off ((n+1)*z)).bind c)
 | _=>none:=by
 unfold firstA
 cases a with
 | s k m=>simp only [Tl]
 | v x=>
  cases x with
  | sc x=>cases n with
   | zero=>rfl
   | succ n=>simp only [ldNK_eq]
  | agg l=>rfl
 | _=>rfl
theorem xc (s:St) (a:SV) (n:Nat) (f:List Sc->Option R):(loadAt s a n f).bind c=loadAt s a n fun x=>(f x).bind c:=by
 rw [wE,wE]
 split<;>simp [wg,Option.bind_assoc]
theorem xl (s:St) (a:SV) (f:Sc->Option R):(load1 s a f).bind c=load1 s a fun x=>(f x).bind c:=by
 unfold load1
 split<;>simp [wg,Option.bind_assoc]
theorem yQ (s:St) (a:SV) (v:List Sc) (f:St->Option R):(storeAt s a v f).bind c=storeAt s a v fun x=>(f x).bind c:=by
 rw [zZ,zZ]
 split<;>simp [wg,Option.bind_assoc]
theorem Zw (a:SV) (n:Nat) (f:SV->Option R):(addAt a n f).bind c=addAt a n fun x=>(f x).bind c:=by
 unfold addAt
 split<;>simp [wg]
theorem Qm (i:AV) (n:Nat) (f:Nat->Option R):(idxI i n f).bind c=idxI i n fun x=>(f x).bind c:=by
 unfold idxI
 split<;>simp [zg]
theorem boundI_bind (s:St) (x:Option Operand) (d:Nat) (f:Nat->Option R):(boundI s x d f).bind c=boundI s x d fun x=>(f x).bind c:=by
 unfold boundI
 split
 ·rfl
 ·rw [Option.bind_assoc];congr;funext v;split<;>simp [zg]
theorem VG (s:St) (e:TypeId) (z:Nat) (x:Sc) (lo hi mx:Option Operand) (f:Sc->Option R):(sliceS s e z x lo hi mx f).bind c=sliceS s e z x lo hi mx fun x=>(f x).bind c:=by
 simp [sliceS,boundI_bind,zg]
theorem Wv (h:AH) (e:TypeId) (z:Nat) (x:Sc) (new:List Sc) (n:Nat) (f:Sc->AH->Option R):(appendS h e z x new n f).bind c=appendS h e z x new n fun x y=>(f x y).bind c:=by
 unfold appendS
 split
 ·simp [zg]
 ·split
  ·simp [zg]
  ·rw [Option.bind_assoc];congr;funext o;split<;>simp [zg]
  ·rfl
theorem Yc (s:St) (a:SV) (n z:Nat) (f:List Sc->Option R):(firstA s a n z f).bind c=firstA s a n z fun x=>(f x).bind c:=by
 rw [yJ,yJ]
 split
 ·simp [Option.bind_assoc]
 ·split<;>simp [zg,Yw,Option.bind_assoc]
 ·rfl
theorem ZU (a:SV) (f:Nat->Option R):(lenA a f).bind c=lenA a fun x=>(f x).bind c:=by
 unfold lenA
 split<;>simp [zg]
theorem wz (A:FAn) (ev:Ev) (f:Fn) (as:List AV) (h:AH) (g:List AV->AH->Option R):(callK A ev f as h g).bind c=callK A ev f as h fun x y=>(g x y).bind c:=by
 unfold callK
 split
 ·rename_i n
  cases hn:A.orc n as<;>simp [wm,zg,Option.bind_assoc]
 ·simp [zg,Option.bind_assoc]
 ·rfl
theorem YX (A:FAn) (x:Operand) (v:SV) (f:Sc->Option R):(ontoK A x v f).bind c=ontoK A x v fun y=>(f y).bind c:=by
 unfold ontoK
 split
 ·cases A.loc.contains _<;>simp only [cond_true,cond_false]
  ·simp [Option.bind_assoc,yM]
  ·split<;>simp [zg]
 ·simp [Option.bind_assoc,yM]
theorem QP (P:Program) (A:FAn) (b:Builtin) (ts:List TypeId) (args:List Operand) (s:St) (f:SV->St->Option R):(builtinK P A b ts args s f).bind c=builtinK P A b ts args s fun x y=>(f x y).bind c:=by
 unfold builtinK
 split
 ·split<;>simp [Option.bind_assoc,ZU]
 ·simp [Option.bind_assoc]
 ·simp [Option.bind_assoc]
 ·simp [Option.bind_assoc,zg,YX,ZU,Yc,Wv]
 ·simp [Option.bind_assoc,zg,yM,ZU,Yc,wm,Yw,Tb]
 ·rfl
theorem setK_eq {S:Type} (s:St) (d:Option Tmp) (v:SV) (c:St->Option S):setK s d v c=c (setSl s d v):=by
 cases d with
 | none=>rfl
 | some d=>simp only [setK,Tr.setT_eq,setSl]
theorem newLocalK_eq {S:Type} (s:St) (d:Tmp) (a:SV) (cs:List Sc) (c:St->Option S):newLocalK s d a cs c=c (newLocal s d a cs):=by
 simp only [newLocalK,Tr.setT_eq,newLocal]
theorem evOp_bind (P:Program) (A:FAn) (ev:Ev) (o:Oper) (s:St) (f:St->Option R):(evOp P A ev o s f).bind c=evOp P A ev o s fun x=>(f x).bind c:=by
 unfold evOp
 simp only [setK_eq,newLocalK_eq]
 split
 case h_10=>rw [Option.bind_assoc];congr;funext v;split<;>simp [wg]
 case h_13=>rw [Option.bind_assoc];congr;funext v;split<;>simp
 case h_15=>
  simp only [Option.bind_assoc]
  congr;funext a;congr;funext b;congr;funext d;congr;funext g;split<;>simp [zg]
 case h_16=>split<;>simp [Option.bind_assoc,yM,wg,VG,zg]
 case h_17=>split<;>simp [Option.bind_assoc,zg,Zw]
 case h_18=>split<;>simp [Option.bind_assoc,yM,Yw,Qm,Zw,zg]
 case h_19=>rw [Option.bind_assoc];congr;funext v;split<;>simp [Option.bind_assoc]
 case h_22=>simp only [Option.bind_assoc];congr;funext a;congr;funext b;split<;>simp [zg,Option.bind_assoc]
 all_goals simp [Option.bind_assoc,yM,asB_bind,pickB_bind,zg,wm,xc,xl,yR,xS,yQ,QP,VN,wz,xQ]
end
theorem evOp_some {R:Type} {P:Program} {A:FAn} {ev:Ev} {o:Oper} {s:St} {c:St->Option R} {r:R} (h:evOp P A ev o s c=some r):∃ s',evOp P A ev o s some=some s'/\c s'=some r:=by
 have:=evOp_bind c P A ev o s some
 simp only [Option.bind_some] at this
 rw [<- this] at h
 exact oB h
end Go.AM
