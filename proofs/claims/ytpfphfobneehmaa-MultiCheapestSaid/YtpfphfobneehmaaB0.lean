/- A tree of slots with numbers: what the kernel looks up and turns in a few steps. -/
import Derived.CallsIn
import Derived.Below
import Derived.WalkKit
import Derived.Laws.CopyRow
import Derived.Laws.IdiomCopy
import Derived.Laws.MakeOwn
import Derived.Deep.AppendSrc
set_option linter.all false
namespace Go.AM
inductive Tr (α:Type) where
 | nil
 | leaf (v:α)
 | node (l r:Tr α)
 deriving Inhabited
namespace Tr
variable {α R : Type}
noncomputable def get (t:Tr α):Nat→Option α:=
 Tr.rec (motive:=fun _=>Nat→Option α) (fun _=>none) (fun v n=>cond (Nat.beq n 0) (some v) none)
  (fun _ _ il ir n=>cond (Nat.beq (n % 2) 0) (il (n / 2)) (ir (n / 2))) t
noncomputable def set (t:Tr α):Nat→α→Tr α:=
 Tr.rec (motive:=fun _=>Nat→α→Tr α) (fun _ _=>nil) (fun v n w=>cond (Nat.beq n 0) (leaf w) (leaf v))
  (fun l r il ir n w=>cond (Nat.beq (n % 2) 0) (node (il (n / 2) w) r) (node l (ir (n / 2) w))) t
noncomputable def setT (t:Tr α):Nat→α→(Tr α→Option R)→Option R:=
 Tr.rec (motive:=fun _=>Nat→α→(Tr α→Option R)→Option R) (fun _ _ k=>k nil) (fun v n w k=>cond (Nat.beq n 0) (k (leaf w)) (k (leaf v)))
  (fun l r il ir n w k=>cond (Nat.beq (n % 2) 0) (il (n / 2) w fun l'=>k (node l' r)) (ir (n / 2) w fun r'=>k (node l r'))) t
noncomputable def map {β:Type} (f:α→β) (t:Tr α):Tr β:=
 Tr.rec (motive:=fun _=>Tr β) nil (fun v=>leaf (f v)) (fun _ _ il ir=>node il ir) t
def evens:List α→List α
 | []=>[]
 | [x]=>[x]
 | x::_::r=>x::evens r
def odds:List α→List α
 | []=>[]
 | [_]=>[]
 | _::y::r=>y::odds r
def ofL:Nat→List α→Tr α
 | _,[]=>nil
 | 0,v::_=>leaf v
 | d+1,l=>node (ofL d (evens l)) (ofL d (odds l))
theorem get_nil (n:Nat):(nil:Tr α).get n=none:=rfl
theorem get_leaf (v:α) (n:Nat):(leaf v).get n=if n=0 then some v else none:=by
 show cond (Nat.beq n 0) (some v) none=_
 cases n<;>rfl
theorem get_node (l r:Tr α) (n:Nat):(node l r).get n=if n % 2=0 then l.get (n / 2) else r.get (n / 2):=by
 show cond (Nat.beq (n % 2) 0) (l.get (n / 2)) (r.get (n / 2))=_
 rcases Nat.mod_two_eq_zero_or_one n with h | h<;>rw [h]<;>rfl
theorem xV (v w:α) (n:Nat):(leaf v).set n w=if n=0 then leaf w else leaf v:=by
 show cond (Nat.beq n 0) (leaf w) (leaf v)=_
 cases n<;>rfl
theorem xP (l r:Tr α) (n:Nat) (w:α):(node l r).set n w=if n % 2=0 then node (l.set (n / 2) w) r else node l (r.set (n / 2) w):=by
 show cond (Nat.beq (n % 2) 0) (node (l.set (n / 2) w) r) (node l (r.set (n / 2) w))=_
 rcases Nat.mod_two_eq_zero_or_one n with h | h<;>rw [h]<;>rfl
theorem get_set_self (t:Tr α):∀ (i:Nat) (v:α),(t.set i v).get i=(t.get i).map fun _=>v:=by
 induction t with
 | nil=>intro i v;rfl
 | leaf x=>intro i v;rw [xV,get_leaf];split<;>simp [get_leaf, *]
 | node l r il ir=>intro i v;rw [xP,get_node];split<;>simp [get_node, *]
theorem get_set_ne (t:Tr α):∀ {i j:Nat} (_:i≠j) (v:α),(t.set i v).get j=t.get j:=by
 induction t with
 | nil=>intro i j _ v;rfl
 | leaf x=>
  intro i j h v
  rw [xV]
  split
  ·rename_i hi
   have hj:j≠0:=by omega
   simp [get_leaf,hj]
  ·rfl
 | node l r il ir=>
  intro i j h v
  rw [xP]
  split
  ·rename_i hi
   rw [get_node,get_node]
   split
   ·rename_i hj;exact il (by omega) v
   ·rfl
  ·rename_i hi
   rw [get_node,get_node]
   split
   ·rfl
   ·rename_i hj;exact ir (by omega) v
theorem get_map {β:Type} (f:α→β) (t:Tr α):∀ (j:Nat),(t.map f).get j=(t.get j).map f:=by
 induction t with
 | nil=>intro j;rfl
 | leaf x=>intro j;show (leaf (f x)).get j=_;rw [get_leaf,get_leaf];split<;>rfl
 | node l r il ir=>intro j;show (node (l.map f) (r.map f)).get j=_;rw [get_node,get_node];split<;>simp [il,ir]
theorem set_same {t:Tr α}:∀ {i:Nat} {x:α},t.get i=some x→t.set i x=t:=by
 induction t with
 | nil=>intro i x h;rfl
 | leaf v=>intro i x h;rw [get_leaf] at h;rw [xV];split<;>simp_all
 | node l r il ir=>
  intro i x h
  rw [get_node] at h
  rw [xP]
  split<;>simp_all
theorem set_comm {t:Tr α}:∀ {i j:Nat} (_:i≠j) (x y:α),(t.set i x).set j y=(t.set j y).set i x:=by
 induction t with
 | nil=>intro i j _ x y;rfl
 | leaf v=>intro i j h x y;simp only [xV];by_cases h1:i=0<;>by_cases h2:j=0<;>simp [h1,h2,xV];omega
 | node l r il ir=>
  intro i j h x y
  simp only [xP]
  by_cases h1:i % 2=0<;>by_cases h2:j % 2=0<;>simp [h1,h2,xP]
  ·exact il (by omega) x y
  ·exact ir (by omega) x y
theorem setT_eq (c:Tr α→Option R) (t:Tr α):∀ (i:Nat) (v:α),t.setT i v c=c (t.set i v):=by
 induction t generalizing c with
 | nil=>intro i v;rfl
 | leaf x=>intro i v;show cond (Nat.beq i 0) (c (leaf v)) (c (leaf x))=_;rw [xV];cases i<;>rfl
 | node l r il ir=>
  intro i v
  show cond (Nat.beq (i % 2) 0) (l.setT (i / 2) v fun l'=>c (node l' r)) (r.setT (i / 2) v fun r'=>c (node l r'))=_
  rw [xP,il,ir]
  rcases Nat.mod_two_eq_zero_or_one i with h | h<;>rw [h]<;>rfl
theorem map_set {β:Type} (f:α→β) (t:Tr α):∀ (i:Nat) (v:α),(t.set i v).map f=(t.map f).set i (f v):=by
 induction t with
 | nil=>intro i v;rfl
 | leaf x=>
  intro i v
  show _=(leaf (f x)).set i (f v)
  rw [xV,xV];split<;>rfl
 | node l r il ir=>
  intro i v
  show _=(node (l.map f) (r.map f)).set i (f v)
  rw [xP,xP]
  split
  ·rw [← il];rfl
  ·rw [← ir];rfl
noncomputable def all (f:α→Bool) (t:Tr α):Bool:=Tr.rec (motive:=fun _=>Bool) true (fun v=>f v) (fun _ _ il ir=>cond il ir false) t
theorem all_get {f:α→Bool} {t:Tr α}:t.all f=true→∀ {i:Nat} {v:α},t.get i=some v→f v=true:=by
 induction t with
 | nil=>intro _ i v h;rw [get_nil] at h;cases h
 | leaf x=>intro h i v hv;rw [get_leaf] at hv;split at hv<;>cases hv;exact h
 | node l r il ir=>
  intro h i v hv
  have h':cond (l.all f) (r.all f) false=true:=h
  cases hl:l.all f with
  | false=>rw [hl] at h';cases h'
  | true=>
   rw [hl] at h'
   rw [get_node] at hv
   split at hv
   ·exact il hl hv
   ·exact ir h' hv
theorem map_id' {f:α→α} {t:Tr α}:(∀ (i:Nat) (v:α),t.get i=some v→f v=v)→t.map f=t:=by
 induction t with
 | nil=>intro _;rfl
 | leaf x=>intro h;show leaf (f x)=_;rw [h 0 x (by rw [get_leaf];rfl)]
 | node l r il ir=>
  intro h
  show node (l.map f) (r.map f)=_
  rw [il (fun i v hv=>h (2*i) v (by rw [get_node,if_pos (by omega),show 2*i / 2=i by omega];exact hv)),ir (fun i v hv=>h (2*i+1) v (by rw [get_node,if_neg (by omega),show (2*i+1) / 2=i by omega];exact hv))]
theorem evens_get:∀ (l:List α) (i:Nat),(evens l)[i]?=l[2*i]?
 | [],i=>by simp [evens]
 | [x],i=>by cases i<;>simp [evens]
 | x::y::r,i=>by
  cases i with
  | zero=>rfl
  | succ i=>simp only [evens,List.getElem?_cons_succ];rw [evens_get r i,show 2*(i+1)=2*i+1+1 by omega];simp
theorem odds_get:∀ (l:List α) (i:Nat),(odds l)[i]?=l[2*i+1]?
 | [],i=>by simp [odds]
 | [x],i=>by simp [odds]
 | x::y::r,i=>by
  cases i with
  | zero=>rfl
  | succ i=>simp only [odds,List.getElem?_cons_succ];rw [odds_get r i,show 2*(i+1)=2*i+1+1 by omega];simp
theorem ofL_get:∀ (d:Nat) (l:List α) (i:Nat) (v:α),(ofL d l).get i=some v→l[i]?=some v
 | _,[],i,v,h=>by simp [ofL,get_nil] at h
 | 0,x::l,i,v,h=>by
  rw [show ofL 0 (x::l)=leaf x from rfl,get_leaf] at h
  split at h
  ·rename_i hi;subst hi;simpa using h
  ·cases h
 | d+1,x::l,i,v,h=>by
  rw [show ofL (d+1) (x::l)=node (ofL d (evens (x::l))) (ofL d (odds (x::l))) from rfl,get_node] at h
  split at h
  ·have:=ofL_get d _ _ v h
   rw [evens_get] at this
   rwa [show 2*(i / 2)=i by omega] at this
  ·have:=ofL_get d _ _ v h
   rw [odds_get] at this
   rwa [show 2*(i / 2)+1=i by omega] at this
end Tr
end Go.AM
namespace Go.AM
theorem oB {α β:Type} {o:Option α} {f:α→Option β} {b:β} (h:o.bind f=some b):∃ a,o=some a∧f a=some b:=Option.bind_eq_some_iff.1 h
theorem oM {α β:Type} {o:Option α} {f:α→β} {b:β} (h:o.map f=some b):∃ a,o=some a∧f a=b:=Option.map_eq_some_iff.1 h
noncomputable section
inductive Sc where
 | bool (b:Bool)
 | int (k:IntKind) (n:Int)
 | str (s:ByteArray)
 | ptr (id off:Nat)
 | nilp
 | sl (id off len:Nat)
 | nils (e:Bool)
 | fn (f:Fn) (nf:Nat) (shape:List (Option Nat)) (cells:List Sc)
 | nilf
 | nili
 deriving Inhabited
inductive AV where
 | sc (s:Sc)
 | agg (cells:List Sc)
 deriving Inhabited
def AV.cells:AV→List Sc
 | .agg cs=>cs
 | .sc v=>[v]
inductive SV where
 | u
 | no
 | v (a:AV)
 | t (vs:List AV)
 | l (k off:Nat)
 | s (k n:Nat)
 deriving Inhabited
structure ALoop where
 st:Nat
 pend:Option Code
 fn:FuncId
 sl:Tr SV
 params:List Tmp
 assign:Code
 body:Code
 deriving Inhabited
inductive AO where
 | row (own:Bool) (elem:TypeId) (cells:List Sc)
 | box (elem:TypeId) (cells:List Sc)
 | dead
 | loop (l:ALoop)
 deriving Inhabited
abbrev AH:=List AO
structure St where
 sl:Tr SV
 lo:Tr (Option (List Sc))
 h:AH
 deriving Inhabited
structure FAn where
 loc:List Nat:=[]
 keep:List (Nat×List Nat×List Nat):=[]
 iso:List FuncId:=[]
 rj:List (Nat×List (Tmp×TypeId)):=[]
 orc:FuncId→List AV→Option (Bool×List AV):=fun _ _=>none
 keepR:List (Nat×List Nat):=[]
 hst:List Nat:=[]
 rt:List (Nat×Nat):=[]
 ldb:List Nat:=[]
 ro:List FuncId:=[]
 gr:List FuncId:=[]
 rov:Bool:=false
 grv:Bool:=false
 fsh:List Nat:=[]
 fsl:List Nat:=[]
 fr:List (FuncId×Nat):=[]
 self:FuncId:=0
 deriving Inhabited
section
variable {R : Type}
def asSc (v:AV) (c:Sc→Option R):Option R:=match v with | .sc s=>c s | .agg _=>none
def asAgg (v:AV) (c:List Sc→Option R):Option R:=match v with | .agg l=>c l | .sc _=>none
def asB (v:Sc) (c:Bool→Option R):Option R:=match v with | .bool b=>c b | _=>none
def asI (k:IntKind) (v:Sc) (c:Int→Option R):Option R:=match v with | .int k' n=>if k'=k then c n else none | _=>none
def asC {α:Type} (l:List α) (c:α→List α→Option R):Option R:=match l with | x::xs=>c x xs | []=>none
def asN {α:Type} (l:List α) (c:Option R):Option R:=match l with | []=>c | _::_=>none
def asS (v:Sc) (c:Nat→Nat→Nat→Option R):Option R:=match v with | .sl i o n=>c i o n | _=>none
def asP (v:Sc) (c:Nat→Nat→Option R):Option R:=match v with | .ptr i o=>c i o | _=>none
def asF (v:Sc) (c:Fn→Nat→List (Option Nat)→List Sc→Option R):Option R:=match v with | .fn f n sh l=>c f n sh l | _=>none
def guardB (b:Bool) (c:Option R):Option R:=cond b c none
end
def isSl:Sc→Bool
 | .sl _ _ _ | .nils _=>true
 | _=>false
def slLen:Sc→Nat
 | .sl _ _ n=>n
 | _=>0
def ofConst:Value→Option Sc
 | .bool b=>some (.bool b)
 | .int k n=>some (.int k n)
 | .string s=>some (.str s)
 | .pointer none=>some .nilp
 | .slice none 0 0=>some (.nils false)
 | .nilFunc=>some .nilf
 | .nilIface=>some .nili
 | _=>none
def ofConsts:List Value→Option (List Sc)
 | []=>some []
 | v::r=>(ofConst v).bind fun x=>(ofConsts r).bind fun xs=>some (x::xs)
def zeroCells (P:Program) (t:TypeId):Option (List Sc):=(P.info? t).bind fun i=>i.zero.bind fun z=>ofConsts z.cells.toList
inductive Leaf where
 | int (k:IntKind)
 | bool
 | any
 deriving Inhabited
def yp (P:Program):Nat→TypeId→List Leaf
 | 0,_=>[]
 | d+1,t=>
  match P.underlying t with
  | some (.struct fs)=>fs.toList.flatMap fun f=>yp P d f.type
  | some (.array n e)=>(List.replicate n (yp P d e)).flatten
  | some (.int k)=>[.int k]
  | some .bool=>[.bool]
  | _=>[.any]
def yK (P:Program) (t:TypeId):Bool:=match P.underlying t with | some (.struct _) | some (.array _ _)=>true | _=>false
section
variable {R : Type}
def asLeaf (l:Leaf) (v:Sc) (c:Sc→Option R):Option R:=
 match l with
 | .int k=>asI k v fun n=>c (.int k n)
 | .bool=>asB v fun b=>c (.bool b)
 | .any=>c v
def asLeaves:List Leaf→List Sc→(List Sc→Option R)→Option R
 | [],l,c=>asN l (c [])
 | f::fs,l,c=>asC l fun x xs=>asLeaf f x fun y=>asLeaves fs xs fun ys=>c (y::ys)
def typedCells (P:Program) (t:TypeId) (l:List Sc) (c:AV→Option R):Option R:=
 cond (yK P t) (asLeaves (yp P 8 t) l fun ys=>c (.agg ys)) (asC l fun x xs=>asN xs (asLeaf ((yp P 8 t).getD 0 .any) x fun y=>c (.sc y)))
def typed1 (P:Program) (t:TypeId) (v:AV) (c:AV→Option R):Option R:=
 cond (yK P t) (asAgg v fun l=>asLeaves (yp P 8 t) l fun ys=>c (.agg ys)) (asSc v fun x=>asLeaf ((yp P 8 t).getD 0 .any) x fun y=>c (.sc y))
def typedAll (P:Program):List TypeId→List AV→(List AV→Option R)→Option R
 | [],l,c=>asN l (c [])
 | t::ts,l,c=>asC l fun x xs=>typed1 P t x fun y=>typedAll P ts xs fun ys=>c (y::ys)
def typed (P:Program) (t:TypeId) (vs:List AV) (c:SV→Option R):Option R:=
 match P.underlying t with
 | some (.tuple ts)=>typedAll P ts.toList vs fun ys=>guardB (!(Nat.beq ys.length 1)) (c (.t ys))
 | _=>asC vs fun x xs=>asN xs (typed1 P t x fun y=>c (.v y))
end
def yr:AO→Option (List Sc)
 | .row _ _ c | .box _ c=>some c
 | _=>none
def cut (c:List Sc) (off n:Nat):Option (List Sc):=guardB (decide (off+n≤c.length)) (some ((c.drop off).take n))
def splice {α:Type} (c:List α) (off:Nat) (v:List α):List α:=c.take off++v++c.drop (off+v.length)
def put (c:List Sc) (off:Nat) (v:List Sc):Option (List Sc):=guardB (decide (off+v.length≤c.length)) (some (splice c off v))
def ldN (h:AH) (id off n:Nat):Option (List Sc):=(h[id]?).bind fun o=>(yr o).bind fun c=>cut c off n
def ld1 (h:AH) (id off:Nat):Option Sc:=(h[id]?).bind fun o=>(yr o).bind fun c=>c[off]?
def st (h:AH) (id off:Nat) (v:List Sc):Option AH:=
 (h[id]?).bind fun o=>match o with
 | .row true e c=>(put c off v).bind fun c'=>some (h.set id (.row true e c'))
 | .box e c=>(put c off v).bind fun c'=>some (h.set id (.box e c'))
 | _=>none
section
variable {R : Type}
def cutK (c:List Sc) (off n:Nat) (k:List Sc→Option R):Option R:=guardB (decide (off+n≤c.length)) (k ((c.drop off).take n))
def putK (c:List Sc) (off:Nat) (v:List Sc) (k:List Sc→Option R):Option R:=guardB (decide (off+v.length≤c.length)) (k (splice c off v))
def ldNK (h:AH) (id off n:Nat) (k:List Sc→Option R):Option R:=(h[id]?).bind fun o=>(yr o).bind fun c=>cutK c off n k
def stK (h:AH) (id off:Nat) (v:List Sc) (k:AH→Option R):Option R:=
 (h[id]?).bind fun o=>match o with
 | .row true e c=>putK c off v fun c'=>k (h.set id (.row true e c'))
 | .box e c=>putK c off v fun c'=>k (h.set id (.box e c'))
 | _=>none
end
def evA (s:St):Operand→Option SV
 | .tmp t=>s.sl.get t
 | .const v=>(ofConst v).bind fun x=>some (.v (.sc x))
 | .func f=>some (.v (.sc (.fn (.func f) 0 [] [])))
 | .global _=>none
def SV.val:SV→Option AV
 | .v x=>some x
 | _=>none
def evV (s:St) (x:Operand):Option AV:=(evA s x).bind SV.val
def evVs (s:St):List Operand→Option (List AV)
 | []=>some []
 | x::r=>(evV s x).bind fun v=>(evVs s r).bind fun vs=>some (v::vs)
def setSl (s:St) (d:Option Tmp) (v:SV):St:=match d with | some d=>{ s with sl:=s.sl.set d v } | none=>s
def killL (d:Nat):SV→SV
 | .l k o=>cond (Nat.beq k d) .u (.l k o)
 | .s k n=>cond (Nat.beq k d) .u (.s k n)
 | x=>x
def newLocal (s:St) (d:Tmp) (a:SV) (c:List Sc):St:={ s with sl:=(s.sl.map (killL d)).set d a,lo:=s.lo.set d (some c) }
section
variable {R : Type}
def setK (s:St) (d:Option Tmp) (v:SV) (c:St→Option R):Option R:=match d with | some d=>s.sl.setT d v fun l=>c { s with sl:=l } | none=>c s
def newLocalK (s:St) (d:Tmp) (a:SV) (cs:List Sc) (c:St→Option R):Option R:=
 (s.sl.map (killL d)).setT d a fun l=>s.lo.setT d (some cs) fun m=>c { s with sl:=l,lo:=m }
end
def arith (op:BinOp) (k:IntKind) (a b:Int):Option Sc:=
 match op with
 | .add=>some (.int k (k.wrap (a+b)))
 | .sub=>some (.int k (k.wrap (a - b)))
 | .mul=>some (.int k (k.wrap (a*b)))
 | .quo=>some (.int k (k.wrap (a.tdiv b)))
 | .rem=>some (.int k (a.tmod b))
 | .and=>some (.int k (k.wrap (BitVec.ofInt k.bits a &&& BitVec.ofInt k.bits b).toNat))
 | .or=>some (.int k (k.wrap (BitVec.ofInt k.bits a ||| BitVec.ofInt k.bits b).toNat))
 | .xor=>some (.int k (k.wrap (BitVec.ofInt k.bits a ^^^ BitVec.ofInt k.bits b).toNat))
 | .shl=>some (.int k (k.wrap (a*2 ^ min b.toNat k.bits)))
 | .shr=>some (.int k (a.fdiv (2 ^ min b.toNat k.bits)))
 | .eql=>some (.bool (a==b))
 | .neq=>some (.bool (a != b))
 | .lss=>some (.bool (decide (a < b)))
 | .leq=>some (.bool (decide (a≤b)))
 | .gtr=>some (.bool (decide (a > b)))
 | .geq=>some (.bool (decide (a≥b)))
 | _=>none
def opOk (op:BinOp) (y:AV):Bool:=
 match op,y with
 | .quo,.sc (.int _ b) | .rem,.sc (.int _ b)=>decide (b≠0)
 | .shl,.sc (.int _ b) | .shr,.sc (.int _ b)=>decide (0≤b)
 | _,_=>true
def VF:BinOp→Bool
 | .shl | .shr=>true
 | _=>false
def VM (P:Program) (t:TypeId) (cs:List Sc) (off:Nat):Option AV:=
 cond (yK P t) (some (.agg ((cs.drop off).take (P.cellsOf t)))) ((cs[off]?).bind fun x=>some (.sc x))
def andO (a b:Option Bool):Option Bool:=a.bind fun x=>b.bind fun y=>some (x&&y)
def TE (P:Program) (eq:TypeId→AV→AV→Option Bool):List Field→List Sc→List Sc→Option Bool
 | [],_,_=>some true
 | f :: fs, xs, ys => cond (f.name == "_") (TE P eq fs xs ys)
   ((VM P f.type xs f.offset).bind fun a=>(VM P f.type ys f.offset).bind fun b=>andO (eq f.type a b) (TE P eq fs xs ys))
def eqIs (P:Program) (eq:TypeId→AV→AV→Option Bool) (e:TypeId):List Nat→List Sc→List Sc→Option Bool
 | [],_,_=>some true
 | i::r,xs,ys=>(VM P e xs (i*P.cellsOf e)).bind fun a=>(VM P e ys (i*P.cellsOf e)).bind fun b=>andO (eq e a b) (eqIs P eq e r xs ys)
def eqV (P:Program):Nat→TypeId→AV→AV→Option Bool
 | 0,_,_,_=>none
 | d+1,t,x,y=>
  match P.underlying t,x,y with
  | some .bool,.sc (.bool a),.sc (.bool b)=>some (a==b)
  | some (.int _),.sc (.int k a),.sc (.int k' b)=>guardB (decide (k=k')) (some (a==b))
  | some .string,.sc (.str a),.sc (.str b)=>some (a==b)
  | some (.struct fs),.agg xs,.agg ys=>guardB (!(P.stoodInHeld t)) (TE P (eqV P d) fs.toList xs ys)
  | some (.array n e),.agg xs,.agg ys=>guardB (P.underlying e).isSome (eqIs P (eqV P d) e (List.range n) xs ys)
  | _,_,_=>none
def nilOf:Sc→Option Bool
 | .nils e=>some (!e)
 | .sl _ _ _=>some false
 | _=>none
def binop (P:Program) (op:BinOp) (t:TypeId) (x y:AV):Option Sc:=
 match x,y with
 | .sc x,.sc (.nils false)=>
  match op,P.underlying t with
  | .eql,some (.slice _)=>(nilOf x).bind fun b=>some (.bool b)
  | .neq,some (.slice _)=>(nilOf x).bind fun b=>some (.bool (!b))
  | _,_=>none
 | .sc (.int k a),.sc (.int k' b)=>guardB (decide (k=k')||VF op) (arith op k a b)
 | .sc (.bool a),.sc (.bool b)=>
  match op,P.underlying t with
  | .eql,some .bool=>some (.bool (a==b))
  | .neq,some .bool=>some (.bool (!(a==b)))
  | _,_=>none
 | .agg a,.agg b=>
  guardB (!(P.eqGuardType P.depth t))<|
  match op with
  | .eql=>(eqV P 9 t (.agg a) (.agg b)).bind fun r=>some (.bool r)
  | .neq=>(eqV P 9 t (.agg a) (.agg b)).bind fun r=>some (.bool (!r))
  | _=>none
 | _,_=>none
def unop (op:UnOp) (x:AV):Option Sc:=
 match op,x with
 | .neg,.sc (.int k n)=>some (.int k (k.wrap (0 - n)))
 | .not,.sc (.bool b)=>some (.bool (!b))
 | _,_=>none
def mx2 (x y:AV):Option AV:=
 match x,y with
 | .sc (.int k x),.sc (.int k' y)=>guardB (decide (k=k')) (some (.sc (.int k (if y > x then y else x))))
 | _,_=>none
def mn2 (x y:AV):Option AV:=
 match x,y with
 | .sc (.int k x),.sc (.int k' y)=>guardB (decide (k=k')) (some (.sc (.int k (if y < x then y else x))))
 | _,_=>none
def foldO (f:AV→AV→Option AV):AV→List AV→Option AV
 | x,[]=>some x
 | x,y::r=>(f x y).bind fun z=>foldO f z r
def places (P:Program) (t:TypeId):Option (Nat→Option (Nat×Nat)):=
 match P.underlying t with
 | some (.struct fs)=>cond (fs.toList.all fun f=>(P.info? f.type).isSome) (some fun i=>(fs.toList[i]?).map fun f=>(f.offset,P.cellsOf f.type)) none
 | some (.array _ e)=>cond (P.info? e).isSome (some fun i=>some (i*P.cellsOf e,P.cellsOf e)) none
 | _=>none
def fillA (pl:Nat→Option (Nat×Nat)):List Sc→List (Nat×AV)→Option (List Sc)
 | cells,[]=>some cells
 | cells,(i,v)::r=>(pl i).bind fun p=>guardB (Nat.beq v.cells.length p.2) ((put cells p.1 v.cells).bind fun c=>fillA pl c r)
def evParts (s:St):List (Nat×Operand)→Option (List (Nat×AV))
 | []=>some []
 | (i,x)::r=>(evV s x).bind fun v=>(evParts s r).bind fun vs=>some ((i,v)::vs)
def elemOf (P:Program) (t:TypeId):Option TypeId:=match P.underlying t with | some (.slice e)=>some e | _=>none
def rep (n:Nat) (l:List Sc):List Sc:=(List.replicate n l).flatten
def most:Nat:=2147483648
def spread:List (Option Nat)→List Sc→Option (List AV)
 | [],[]=>some []
 | none::r,c=>asC c fun x xs=>(spread r xs).bind fun vs=>some (.sc x::vs)
 | some n::r,c=>guardB (decide (n≤c.length)) ((spread r (c.drop n)).bind fun vs=>some (.agg (c.take n)::vs))
 | [],_::_=>none
def shapeOf:AV→Option Nat
 | .sc _=>none
 | .agg c=>some c.length
def Sc.bare:Sc→Bool
 | .bool _ | .int _ _ | .str _ | .nilp | .nils _ | .nilf | .nili | .fn (.func _) _ _ []=>true
 | _=>false
def AV.bare (v:AV):Bool:=v.cells.all Sc.bare
abbrev Ev:=Fn→List AV→AH→Option (List AV×AH)
section
variable {R : Type} (P : Program) (A : FAn) (ev : Ev)
def pickB (t:Bool) (a b:Option SV) (c:SV→Option R):Option R:=
 match a,b with
 | some (.v (.sc (.bool x))),some (.v (.sc (.bool y)))=>c (.v (.sc (.bool (cond t x y))))
 | a,b=>cond t (a.bind c) (b.bind c)
def loadAt (s:St) (a:SV) (n:Nat) (c:List Sc→Option R):Option R:=
 match a with
 | .l k off=>(s.lo.get k).bind fun b=>b.bind fun cs=>cutK cs off n c
 | .v (.sc p)=>asP p fun id off=>ldNK s.h id off n c
 | _=>none
def load1 (s:St) (a:SV) (c:Sc→Option R):Option R:=
 match a with
 | .l k off=>(s.lo.get k).bind fun b=>b.bind fun cs=>(cs[off]?).bind c
 | .v (.sc p)=>asP p fun id off=>(ld1 s.h id off).bind c
 | _=>none
def storeAt (s:St) (a:SV) (v:List Sc) (c:St→Option R):Option R:=
 match a with
 | .l k off=>(s.lo.get k).bind fun b=>b.bind fun cs=>putK cs off v fun cs'=>s.lo.setT k (some cs') fun m=>c { s with lo:=m }
 | .v (.sc p)=>asP p fun id off=>stK s.h id off v fun h=>c { s with h:=h }
 | _=>none
def addAt (a:SV) (n:Nat) (c:SV→Option R):Option R:=
 match a with
 | .l k off=>c (.l k (off+n))
 | .v (.sc p)=>asP p fun id off=>c (.v (.sc (.ptr id (off+n))))
 | _=>none
def idxI (i:AV) (n:Nat) (c:Nat→Option R):Option R:=
 match i with
 | .sc (.int _ i)=>guardB (decide (0≤i)&&decide (i < (n:Int))) (c i.toNat)
 | _=>none
def boundI (s:St) (x:Option Operand) (dflt:Nat) (c:Nat→Option R):Option R:=
 match x with
 | none=>c dflt
 | some x=>(evV s x).bind fun v=>match v with
  | .sc (.int _ i)=>guardB (decide (0≤i)) (c i.toNat)
  | _=>none
def rowOk (h:AH) (e:TypeId):Sc→Bool
 | .sl id _ _=>match h[id]? with
  | some (.row true e' _)=>Nat.beq e e'
  | some (.row false _ _) | some (.box _ _)=>true
  | _=>false
 | .nils _=>true
 | _=>false
def boxOk (h:AH) (id:Nat):Bool:=match h[id]? with
 | some (.row false _ _) | some (.box _ _)=>true
 | _=>false
def subS (x:Sc) (l g z:Nat):Sc:=match x with
 | .sl id off _=>.sl id (off+l*z) (g - l)
 | y=>y
def mx0:Option Operand→Bool
 | some (.const (.int _ n))=>Nat.beq n.natAbs 0
 | _=>false
def emptied:Sc→Sc
 | .nils e=>.nils e
 | _=>.nils true
def sliceS (s:St) (e:TypeId) (z:Nat) (x:Sc) (lo hi mx:Option Operand) (c:Sc→Option R):Option R:=
 boundI s lo 0 fun l=>boundI s hi (slLen x) fun h=>boundI s mx h fun m=>
  guardB (rowOk s.h e x&&decide (l≤h)&&decide (h≤m)&&decide (m≤slLen x)&&(mx.isNone||hi.isSome)) (c (cond (mx0 mx) (emptied x) (subS x l h z)))
def appendS (h:AH) (e:TypeId) (z:Nat) (x:Sc) (new:List Sc) (n:Nat) (c:Sc→AH→Option R):Option R:=
 match n with
 | 0=>guardB (isSl x) (c x h)
 | n+1=>
  match x with
  | .nils _=>guardB (decide (n+1≤most)) (c (.sl h.length 0 (n+1)) (h++[.row true e new]))
  | .sl id off len=>(h[id]?).bind fun o=>match o with
   | .row true e' cs=>guardB (Nat.beq e e'&&Nat.beq (off+len*z) cs.length&&decide (len+(n+1)≤most)) (c (.sl h.length 0 (len+(n+1))) (h.set id .dead++[.row true e (cs.drop off++new)]))
   | _=>none
  | _=>none
def firstA (s:St) (a:SV) (n z:Nat) (c:List Sc→Option R):Option R:=
 match a with
 | .s k _=>(s.lo.get k).bind fun b=>b.bind fun cs=>cutK cs 0 (n*z) c
 | .v (.sc x)=>match n with
  | 0=>guardB (isSl x) (c [])
  | n+1=>asS x fun id off _=>ldNK s.h id off ((n+1)*z) c
 | _=>none
def lenA (a:SV) (c:Nat→Option R):Option R:=
 match a with
 | .s _ n=>c n
 | .v (.sc x)=>guardB (isSl x) (c (slLen x))
 | _=>none
def ontoK (A:FAn) (x:Operand) (v:SV) (c:Sc→Option R):Option R:=
 match x with
 | .tmp d=>cond (A.loc.contains d) (match v with | .s _ n=>guardB (Nat.beq n 0) (c (.nils true)) | _=>none) (v.val.bind fun v=>asSc v c)
 | _=>v.val.bind fun v=>asSc v c
def okv (A:FAn) (n:FuncId):Bool:=(!A.rov||A.ro.contains n)&&(!A.grv||(A.gr.contains n||A.ro.contains n))
def oky (A:FAn):Bool:=!A.rov&&!A.grv
def callK (f:Fn) (as:List AV) (h:AH) (c:List AV→AH→Option R):Option R:=
 match f with
 | .func n=>guardB (okv A n)<|cond (A.iso.contains n&&as.all AV.bare)
   (match A.orc n as with
    | some p=>guardB p.1 (guardB (p.2.all AV.bare) (c p.2 h))
    | none=>(ev f as []).bind fun p=>guardB (p.1.all AV.bare) (c p.1 h))
    ((ev f as h).bind fun p=>c p.1 p.2)
 | .yield _=>guardB (oky A)<|(ev f as h).bind fun p=>c p.1 p.2
 | _=>none
def builtinK (b:Builtin) (ts:List TypeId) (args:List Operand) (s:St) (c:SV→St→Option R):Option R:=
 match b,ts,args with
 | .len,[ty],[x]=>
  match P.underlying ty with
  | some (.slice _)=>(evA s x).bind fun a=>lenA a fun n=>c (.v (.sc (.int .i64 n))) s
  | some (.array n _)=>c (.v (.sc (.int .i64 n))) s
  | _=>none
 | .max,_,x::r=>(evV s x).bind fun v=>(evVs s r).bind fun vs=>(foldO mx2 v vs).bind fun z=>c (.v z) s
 | .min,_,x::r=>(evV s x).bind fun v=>(evVs s r).bind fun vs=>(foldO mn2 v vs).bind fun z=>c (.v z) s
 | .append,[ty,ty2],[x,y]=>
  (elemOf P ty).bind fun e=>(zeroCells P e).bind fun z=>guardB ((elemOf P ty2).isSome&&decide (P.bytesOf e≤8192)&&Nat.beq z.length (P.cellsOf e))<|
   (evA s x).bind fun xv=>ontoK A x xv fun xs=>(evA s y).bind fun a=>lenA a fun n=>firstA s a n (P.cellsOf e) fun new=>
    appendS s.h e (P.cellsOf e) xs new n fun v h=>c (.v (.sc v)) { s with h:=h }
 | .copy,[ty,ty2],[x,y]=>
  (elemOf P ty).bind fun e=>guardB ((elemOf P ty2).isSome&&(P.info? e).isSome)<|(evV s x).bind fun xv=>asSc xv fun xs=>(evA s y).bind fun a=>lenA a fun n=>guardB (isSl xs)<|
   firstA s a (min n (slLen xs)) (P.cellsOf e) fun new=>
    cond (Nat.beq (min n (slLen xs)) 0) (c (.v (.sc (.int .i64 0))) s) (asS xs fun id off _=>stK s.h id off new fun h=>c (.v (.sc (.int .i64 (min n (slLen xs):Nat)))) { s with h:=h })
 | _,_,_=>none
def onlyL (x:Operand) (v:SV):Bool:=
 match x with
 | .tmp d=>!(A.loc.contains d)||(match v with | .l _ _=>true | _=>false)
 | _=>true
def onlyH (x:Operand) (v:SV):Bool:=
 match x with
 | .tmp d=>!(A.hst.contains d)||(match v with | .v _=>true | _=>false)
 | _=>true
def rootOf (x:Operand):Option Nat:=match x with
 | .tmp d=>(A.rt.find? fun p=>Nat.beq p.1 d).map (·.2)
 | _=>none
def onlyR (x:Operand) (v:SV):Bool:=
 match rootOf A x with
 | none=>true
 | some k=>match v with | .l k' _=>Nat.beq k k' | _=>false
def onlyB (h:AH) (x:Operand) (v:SV):Bool:=
 match x with
 | .tmp d=>!(A.ldb.contains d)||(match v with | .v (.sc (.ptr id _))=>boxOk h id | _=>false)
 | _=>true
def onlyX (h:AH) (x:Operand) (v:SV):Bool:=onlyH A x v&&onlyR A x v&&onlyB A h x v
def onlyS (x:Operand) (v:SV):Bool:=onlyH A x v&&onlyR A x v
def evOp (o:Oper) (s:St) (c:St→Option R):Option R:=
 match o.op with
 | .move x | .assign x=>(evA s x).bind fun v=>setK s o.dst v c
 | .pick q a b=>(evV s q).bind fun v=>asSc v fun v=>asB v fun t=>pickB t (evA s a) (evA s b) fun v=>setK s o.dst v c
 | .alloc e=>o.dst.bind fun d=>(zeroCells P e).bind fun z=>guardB (Nat.beq z.length (P.cellsOf e))<|
   cond (A.loc.contains d) (newLocalK s d (.l d 0) z c) (setK { s with h:=s.h++[.box e z] } o.dst (.v (.sc (.ptr s.h.length 0))) c)
 | .box e x=>o.dst.bind fun d=>(evV s x).bind fun v=>guardB (Nat.beq v.cells.length (P.cellsOf e))<|
   cond (A.loc.contains d) (newLocalK s d (.l d 0) v.cells c) (setK { s with h:=s.h++[.box e v.cells] } o.dst (.v (.sc (.ptr s.h.length 0))) c)
 | .build t parts=>(zeroCells P t).bind fun z=>(places P t).bind fun pl=>(evParts s parts.toList).bind fun vs=>(fillA pl z vs).bind fun cs=>setK s o.dst (.v (.agg cs)) c
 | .buildSlice t n parts=>o.dst.bind fun d=>(elemOf P t).bind fun e=>(zeroCells P e).bind fun z=>guardB (Nat.beq z.length (P.cellsOf e)&&decide (n*z.length≤1000000))<|
   (evParts s parts.toList).bind fun vs=>(fillA (fun i=>some (i*P.cellsOf e,P.cellsOf e)) (rep n z) vs).bind fun cs=>
   cond (A.loc.contains d) (newLocalK s d (.s d n) cs c) (setK { s with h:=s.h++[.row true e cs] } o.dst (.v (.sc (.sl s.h.length 0 n))) c)
 | .load t x=>guardB (P.underlying t).isSome<|(evA s x).bind fun a=>guardB (onlyL A x a&&onlyX A s.h x a)<|cond (yK P t) (loadAt s a (P.cellsOf t) fun l=>asLeaves (yp P 8 t) l fun ys=>setK s o.dst (.v (.agg ys)) c)
   (load1 s a fun x=>asLeaf ((yp P 8 t).getD 0 .any) x fun y=>setK s o.dst (.v (.sc y)) c)
 | .store t a x=>guardB (P.info? t).isSome<|(evA s a).bind fun av=>(evV s x).bind fun v=>guardB (Nat.beq v.cells.length (P.cellsOf t)&&onlyS A a av)<|storeAt s av v.cells fun s=>setK s o.dst .no c
 | .nilCheck x=>(evA s x).bind fun v=>match v with
  | .l k off=>setK s o.dst (.l k off) c
  | .v (.sc p)=>asP p fun id off=>setK s o.dst (.v (.sc (.ptr id off))) c
  | _=>none
 | .binOp op t x y _=>(evV s x).bind fun x=>(evV s y).bind fun y=>guardB (opOk op y)<|(binop P op t x y).bind fun v=>setK s o.dst (.v (.sc v)) c
 | .unOp op _ x=>(evV s x).bind fun x=>(unop op x).bind fun v=>setK s o.dst (.v (.sc v)) c
 | .convert src dst x=>(evV s x).bind fun x=>match P.underlying src,P.underlying dst,x with
  | some (.int _),some (.int k),.sc (.int _ n)=>setK s o.dst (.v (.sc (.int k (k.wrap n)))) c
  | _,_,_=>none
 | .makeFunc (.func f) first captured=>(evVs s first.toList).bind fun a=>(evVs s captured.toList).bind fun b=>
   setK s o.dst (.v (.sc (.fn (.func f) a.length ((a++b).map shapeOf) ((a++b).flatMap AV.cells)))) c
 | .makeSlice t len cap=>(elemOf P t).bind fun e=>(zeroCells P e).bind fun z=>(evV s len).bind fun l=>(evV s cap).bind fun m=>match l,m with
  | .sc (.int .i64 l),.sc (.int .i64 m)=>guardB (Nat.beq z.length (P.cellsOf e)&&decide (P.bytesOf e≤8192)&&decide (0≤l)&&decide (l≤m)&&decide (m≤most))<|
    setK { s with h:=s.h++[.row true e (rep l.toNat z)] } o.dst (.v (.sc (.sl s.h.length 0 l.toNat))) c
  | _,_=>none
 | .slice t x lo hi mx=>match P.underlying t with
  | some (.slice e)=>guardB (P.info? e).isSome<|(evV s x).bind fun x=>asSc x fun x=>sliceS s e (P.cellsOf e) x lo hi mx fun v=>setK s o.dst (.v (.sc v)) c
  | some (.array n e)=>guardB (P.info? e).isSome<|(evV s x).bind fun x=>asSc x fun x=>asP x fun id off=>guardB (boxOk s.h id)<|sliceS s e (P.cellsOf e) (.sl id off n) lo hi mx fun v=>setK s o.dst (.v (.sc v)) c
  | _=>none
 | .fieldAddr t x i=>match P.underlying t with
  | some (.struct fs)=>(fs.toList[i]?).bind fun f=>guardB (!(Nat.beq (P.cellsOf f.type) 0))<|(evA s x).bind fun a=>addAt a f.offset fun v=>setK s o.dst v c
  | _=>none
 | .indexAddr t x i=>match P.underlying t with
  | some (.slice e)=>guardB (P.info? e).isSome<|(evV s x).bind fun x=>asSc x fun x=>asS x fun id off len=>(evV s i).bind fun i=>idxI i len fun i=>setK s o.dst (.v (.sc (.ptr id (off+i*P.cellsOf e)))) c
  | some (.array n e)=>guardB (P.info? e).isSome<|(evA s x).bind fun a=>(evV s i).bind fun i=>idxI i n fun i=>addAt a (i*P.cellsOf e) fun v=>setK s o.dst v c
  | _=>none
 | .extract x i=>(evA s x).bind fun v=>match v with
  | .t vs=>(vs[i]?).bind fun v=>setK s o.dst (.v v) c
  | _=>none
 | .call { callee:=.builtin b,args,argTypes }=>builtinK P A b argTypes.toList args.toList s fun v s=>setK s o.dst v c
 | .call { callee:=.value f,args,.. }=>(evV s f).bind fun f=>asSc f fun f=>asF f fun g nf sh cs=>(evVs s args.toList).bind fun as=>
   (spread sh cs).bind fun vs=>callK A ev g (vs.take nf++as++vs.drop nf) s.h fun rs h=>typed P o.type rs fun v=>setK { s with h:=h } o.dst v c
 | .index t x i=>(evV s x).bind fun x=>(evV s i).bind fun i=>match P.underlying t,x,i with
  | some .string,.sc (.str b),.sc (.int _ n)=>guardB (decide (0≤n)) ((b[n.toNat]?).bind fun u=>setK s o.dst (.v (.sc (.int .u8 (u.toNat:Int)))) c)
  | _,_,_=>none
 | _=>none
def evOps (ops:Array Oper):List Oper→St→(St→Option R)→Option R
 | [],s,c=>c s
 | o::r,s,c=>
  match o.guard with
  | none=>evOp P A ev o s fun s=>evOps ops r s c
  | some (j,w)=>((ops[j]?).bind (·.dst)).bind fun d=>(s.sl.get d).bind fun g=>match g with
   | .v (.sc (.bool t))=>
    cond w (cond t (setK s (some d) (.v (.sc (.bool true))) fun s=>evOp P A ev o s fun s=>evOps ops r s c) (setK s (some d) (.v (.sc (.bool false))) fun s=>setK s o.dst .no fun s=>evOps ops r s c))
     (cond t (setK s (some d) (.v (.sc (.bool true))) fun s=>setK s o.dst .no fun s=>evOps ops r s c) (setK s (some d) (.v (.sc (.bool false))) fun s=>evOp P A ev o s fun s=>evOps ops r s c))
   | .no=>setK s o.dst .no fun s=>evOps ops r s c
   | _=>none
end
inductive Ex where
 | normal
 | exit (id:Nat)
 | ret
 deriving Inhabited,DecidableEq
def Yx (s:St):List (Tmp×TypeId)→Option (List AV)
 | []=>some []
 | (d,_)::r=>(s.sl.get d).bind fun v=>v.val.bind fun v=>(Yx s r).bind fun vs=>some (v::vs)
def YB {R:Type} (P:Program):List (Tmp×TypeId)→List AV→St→(St→Option R)→Option R
 | [],l,s,c=>asN l (c s)
 | (d,t)::r,l,s,c=>asC l fun v vs=>typed1 P t v fun v=>YB P r vs { s with sl:=s.sl.set d (.v v) } c
def forget (s:St):List Oper→St
 | []=>s
 | o::r=>forget (setSl s o.dst .u) r
def flat:List Oper→Bool
 | []=>true
 | o::r=>(match o.op with | .alloc _ | .box _ _ | .buildSlice _ _ _ | .store _ _ _=>false | _=>true)&&flat r
def isRef (d:Nat):SV→Bool
 | .l k _=>Nat.beq k d
 | .s k _=>Nat.beq k d
 | _=>false
def freshAll (A:FAn) (ops:Array Oper) (s:St):Bool:=ops.toList.all fun o=>
 match o.op with
 | .alloc _ | .box _ _ | .buildSlice _ _ _=>(match o.dst with | some d=>!(A.loc.contains d)||s.sl.all fun v=>!(isRef d v) | none=>true)
 | _=>true
section
def keepT {α:Type} (f:α→α) (t:Tr α) (l:List Nat):Tr α:=l.foldl (fun u i=>match t.get i with | some v=>u.set i v | none=>u) (t.map f)
def maskR (A:FAn) (id:Nat) (s:St):St:=
 match A.keepR.find? (fun p=>Nat.beq p.1 id) with
 | none=>s
 | some (_,a)=>{ s with sl:=keepT (fun _=>.u) s.sl a }
variable {R : Type} (P : Program) (A : FAn) (ev : Ev) (dOk : FAn → Array Oper → Bool)
def evRegion (id:Nat) (ops:Array Oper) (draw:Bool) (s:St) (c:St→Option R):Option R:=
 guardB (!draw||(dOk A ops&&freshAll A ops s))<|
 match A.rj.find? (fun p=>Nat.beq p.1 id) with
 | none=>evOps P A ev ops ops.toList s fun s=>c (maskR A id s)
 | some (_,spec)=>guardB (flat ops.toList)<|
  (evOps P A ev ops ops.toList s fun s'=>(Yx s' spec).bind fun vs=>some (vs,s'.h)).bind fun p=>YB P spec p.1 { forget s ops.toList with h:=p.2 } c
def maskAt (A:FAn) (blk:Nat) (s:St):St:=
 match A.keep.find? (fun p=>Nat.beq p.1 blk) with
 | none=>s
 | some (_,a,b)=>{ s with sl:=keepT (fun _=>.u) s.sl a,lo:=keepT (fun _=>none) s.lo b }
def loopN (m:St→St) (body:St→(Ex→St→Option R)→Option R) (c:Ex→St→Option R):Nat→St→Option R
 | 0,_=>none
 | n+1,s=>body (m s) fun e s'=>match e with
  | .normal=>loopN m body c n s'
  | e=>c e s'
def kSeq (b:St→(Ex→St→Option R)→Option R) (c:Ex→St→Option R):Ex→St→Option R:=fun e s=>
 match e with
 | .normal=>b s c
 | e=>c e s
def kBlock (id:Nat) (c:Ex→St→Option R):Ex→St→Option R:=fun e s=>
 match e with
 | .exit i=>cond (Nat.beq i id) (c .normal s) (c (.exit i) s)
 | e=>c e s
def fnName:Fn→Bool
 | .func _=>true
 | _=>false
def zN:Code→Bool
 | .rangeFunc _ _ _ _=>false
 | .seq a b=>zN a&&zN b
 | .cond _ a b=>zN a&&zN b
 | .block _ b=>zN b
 | .loop b=>zN b
 | .scope b=>zN b
 | _=>true
def noLoc:SV→SV
 | .l _ _ | .s _ _=>.u
 | x=>x
def rangeEnd {R:Type} (s:St) (c:Ex→St→Option R) (h:AH):Option R:=
 match h[s.h.length]? with
 | some (.loop l)=>guardB (!(Nat.beq l.st 1)) (match l.pend with
  | none=>c .normal { s with h:=h.set s.h.length .dead }
  | some (.exit i)=>c (.exit i) { s with h:=h.set s.h.length .dead }
  | some .ret=>c .ret { s with h:=h.set s.h.length .dead }
  | _=>none)
 | _=>none
def rangeK (g:Operand) (ps:Array Tmp) (assign body:Code) (s:St) (c:Ex→St→Option R):Option R:=
 (evV s g).bind fun v=>asSc v fun v=>asF v fun f nf sh cs=>(spread sh cs).bind fun vs=>guardB (zN assign&&zN body&&fnName f)<|
 callK A ev f (vs.take nf++[.sc (.fn (.yield s.h.length) 0 [] [])]++vs.drop nf) (s.h++[.loop ⟨0,none,A.self,s.sl.map noLoc,ps.toList,assign,body⟩]) fun _ h=>rangeEnd s c h
def evCode (k:Nat):Code→Nat→St→(Ex→St→Option R)→Option R
 | .skip,_,s,c=>c .normal s
 | .label _,_,s,c=>c .normal s
 | .region id ops draw,_,s,c=>evRegion P A ev dOk id ops draw s fun s=>c .normal s
 | .seq a b,blk,s,c=>evCode k a blk s (kSeq (evCode k b blk) c)
 | .cond q a b,blk,s,c=>(evV s q).bind fun v=>asSc v fun v=>asB v fun t=>cond t (evCode k a blk s c) (evCode k b blk s c)
 | .block id b,_,s,c=>evCode k b id s (kBlock id c)
 | .scope b,blk,s,c=>evCode k b blk s c
 | .loop b,blk,s,c=>loopN (maskAt A blk) (evCode k b blk) c k s
 | .exit id,_,s,c=>c (.exit id) s
 | .ret,_,s,c=>c .ret s
 | .rangeFunc g ps assign body,_,s,c=>rangeK A ev g ps assign body s c
 | _,_,_,_=>none
def resOf (s:St):List ResultVar→(List AV→Option R)→Option R
 | [],c=>c []
 | .tmp t::r,c=>(s.sl.get t).bind fun v=>v.val.bind fun v=>resOf s r fun vs=>c (v::vs)
 | .cell a t::r,c=>guardB (P.underlying t).isSome<|(s.sl.get a).bind fun a=>cond (yK P t) (loadAt s a (P.cellsOf t) fun l=>resOf s r fun vs=>c (.agg l::vs)) (load1 s a fun x=>resOf s r fun vs=>c (.sc x::vs))
def kFin (fn:Func):Ex→St→Option (List AV×AH):=fun e s=>
 match e with
 | .normal | .ret=>resOf P s fn.results.toList fun vs=>some (vs,s.h)
 | _=>none
end
def enterSt (fn:Func) (args:List AV) (h:AH):St:={ sl:=Tr.ofL (Nat.log2 fn.ntmps+1) (args.map SV.v++List.replicate (fn.ntmps - args.length) SV.no),lo:=Tr.ofL (Nat.log2 fn.ntmps+1) (List.replicate fn.ntmps none),h:=h }
def roundSt (l:ALoop) (args:List AV) (h:AH):St:={ sl:=(l.params.zip args).foldl (fun t p=>t.set p.1 (.v p.2)) l.sl,lo:=l.sl.map fun _=>none,h:=h }
def kRound (id:Nat):Ex→St→Option (List AV×AH):=fun e s=>
 match s.h[id]? with
 | some (.loop l)=>match e with
  | .normal=>some ([.sc (.bool true)],s.h.set id (.loop { l with st:=0,pend:=none }))
  | .exit i=>some ([.sc (.bool false)],s.h.set id (.loop { l with st:=2,pend:=some (.exit i) }))
  | .ret=>some ([.sc (.bool false)],s.h.set id (.loop { l with st:=2,pend:=some .ret }))
 | _=>none
def kBegin (id:Nat) (c:St→Option (List AV×AH)):Ex→St→Option (List AV×AH):=fun e s=>
 match e,s.h[id]? with
 | .normal,some (.loop l)=>guardB (Nat.beq l.st 0) (c { s with h:=s.h.set id (.loop { l with st:=1 }) })
 | _,_=>none
def Th (A:FAn) (fn:Func) (n:Nat):Bool:=(Nat.beq n fn.params.size||decide (n≤fn.ntmps))&&A.fsh.all fun d=>decide (n≤d)
def evF (P:Program) (An:FuncId→FAn) (dOk:FAn→Array Oper→Bool):Nat→Ev
 | 0,_,_,_=>none
 | k+1,.func f,args,h=>(P.funcs[f]?).bind fun fn=>fn.body.bind fun code=>guardB (Th (An f) fn args.length)<|
   evCode P (An f) (evF P An dOk k) dOk k code 0 (enterSt fn args h) (kFin P fn)
 | k+1,.yield id,args,h=>match h[id]? with
  | some (.loop l)=>guardB (Nat.beq args.length l.params.length&&zN l.assign&&zN l.body)<|
   evCode P (An l.fn) (evF P An dOk k) dOk k l.assign 0 (roundSt l args h) (kBegin id fun s=>evCode P (An l.fn) (evF P An dOk k) dOk k l.body 0 s (kRound id))
  | _=>none
 | _+1,_,_,_=>none
end
end Go.AM
namespace Go.AM
open Go.RowKit
structure Loc where
 b:Nat
 o:Nat
 z:Nat
 tot:Nat
def Zy:Value→Option Nat
 | .agg c=>some c.size
 | _=>none
def YW (I:List Loc):Fn→Fn
 | .yield id=>.yield ((I[id]?.map Loc.b).getD 0)
 | f=>f
def Us (I:List Loc) (cap:Array Value):Fn→Prop
 | .yield id=>id < I.length∧cap=#[]
 | _=>True
mutual
def ScRel (I:List Loc):Sc→Value→Prop
 | .bool b,v=>v=.bool b
 | .int k n,v=>v=.int k n
 | .str s,v=>v=.string s
 | .ptr id off,v=>∃ L,I[id]?=some L∧v=.pointer (some ⟨L.b,L.o+off,none⟩)
 | .nilp,v=>v=.pointer none
 | .sl id off len,v=>∃ L cap a,I[id]?=some L∧v=.slice (some a) len cap∧len≤cap∧(cap≠0→a=⟨L.b,L.o+off,none⟩)∧(L.z≠0→off+cap*L.z≤L.tot)
 | .nils e,v=>∃ a,v=.slice a 0 0∧a.isSome=e
 | .fn f nf sh cs,v=>∃ first cap,v=.func (YW I f) first cap∧first.size=nf∧(first++cap).toList.map Zy=sh∧Us I cap f∧ScRels I cs ((first++cap).toList.flatMap fun x=>x.cells.toList)
 | .nilf,v=>v=.nilFunc
 | .nili,v=>v=.nilIface
def ScRels (I:List Loc):List Sc→List Value→Prop
 | [],[]=>True
 | x::xs,v::vs=>ScRel I x v∧ScRels I xs vs
 | [],_::_=>False
 | _::_,[]=>False
end
def AVRel (I:List Loc):AV→Value→Prop
 | .sc s,v=>ScRel I s v
 | .agg cs,v=>∃ arr,v=.agg arr∧ScRels I cs arr.toList
def AVRels (I:List Loc):List AV→List Value→Prop
 | [],[]=>True
 | x::xs,v::vs=>AVRel I x v∧AVRels I xs vs
 | [],_::_=>False
 | _::_,[]=>False
def SVRel (I:List Loc) (lam:Nat→Nat):SV→Value→Prop
 | .u,_=>True
 | .no,v=>v=undef
 | .v a,v=>AVRel I a v
 | .t vs,v=>∃ arr,v=.tuple arr∧AVRels I vs arr.toList
 | .l k off,v=>v=.pointer (some ⟨lam k,off,none⟩)
 | .s k n,v=>v=.slice (some ⟨lam k,0,none⟩) n n
theorem zU {α:Type} {I I':List α} (h:I <+: I') {i:Nat} {x:α} (hx:I[i]?=some x):I'[i]?=some x:=by
 obtain ⟨t,rfl⟩:=h
 rw [List.getElem?_append_left (List.getElem?_eq_some_iff.1 hx).1];exact hx
theorem fnOf_mono {I I':List Loc} (h:I <+: I') {f:Fn} {cap:Array Value} (hf:Us I cap f):YW I' f=YW I f:=by
 cases f<;>try rfl
 rename_i id
 have hi:id < I.length:=hf.1
 obtain ⟨t,rfl⟩:=h
 simp only [YW]
 rw [List.getElem?_append_left hi]
theorem fnIn_mono {I I':List Loc} (h:I <+: I') {f:Fn} {cap:Array Value} (hf:Us I cap f):Us I' cap f:=by
 cases f<;>try trivial
 exact ⟨Nat.lt_of_lt_of_le hf.1 h.length_le,hf.2⟩
mutual
theorem ScRel.mono {I I':List Loc} (h:I <+: I'):∀ (s:Sc) (v:Value),ScRel I s v→ScRel I' s v
 | .bool _,_,r=>r
 | .int _ _,_,r=>r
 | .str _,_,r=>r
 | .nilp,_,r=>r
 | .nils _,_,r=>r
 | .nilf,_,r=>r
 | .nili,_,r=>r
 | .ptr _ _,_,⟨L,h1,h2⟩=>⟨L,zU h h1,h2⟩
 | .sl _ _ _,_,⟨L,c,a,h1,h2⟩=>⟨L,c,a,zU h h1,h2⟩
 | .fn _ _ _ cs,_,⟨f,c,h1,h2,h3,h0,h4⟩=>⟨f,c,h1.trans (by rw [fnOf_mono h h0]),h2,h3,fnIn_mono h h0,ScRels.mono h cs _ h4⟩
theorem ScRels.mono {I I':List Loc} (h:I <+: I'):∀ (s:List Sc) (v:List Value),ScRels I s v→ScRels I' s v
 | [],[],_=>trivial
 | x::xs,v::vs,⟨h1,h2⟩=>⟨ScRel.mono h x v h1,ScRels.mono h xs vs h2⟩
 | [],_::_,r=>r
 | _::_,[],r=>r
end
theorem AVRel.mono {I I':List Loc} (h:I <+: I') {s:AV} {v:Value} (r:AVRel I s v):AVRel I' s v:=by
 cases s with
 | sc s=>exact ScRel.mono h s v r
 | agg cs=>obtain ⟨arr,h1,h2⟩:=r;exact ⟨arr,h1,ScRels.mono h _ _ h2⟩
theorem AVRels.mono {I I':List Loc} (h:I <+: I'):∀ {s:List AV} {v:List Value},AVRels I s v→AVRels I' s v
 | [],[],_=>trivial
 | _::_,_::_,⟨h1,h2⟩=>⟨h1.mono h,AVRels.mono h h2⟩
 | [],_::_,r=>r.elim
 | _::_,[],r=>r.elim
theorem SVRel.mono {I I':List Loc} {lam:Nat→Nat} (h:I <+: I') {s:SV} {v:Value} (r:SVRel I lam s v):SVRel I' lam s v:=by
 cases s with
 | u=>trivial
 | no=>exact r
 | v a=>exact AVRel.mono h r
 | t vs=>obtain ⟨arr,h1,h2⟩:=r;exact ⟨arr,h1,AVRels.mono h h2⟩
 | l k o=>exact r
 | s k n=>exact r
theorem ScRels.length {I:List Loc}:∀ {s:List Sc} {v:List Value},ScRels I s v→s.length=v.length
 | [],[],_=>rfl
 | _::_,_::_,⟨_,h2⟩=>by simp [ScRels.length h2]
 | [],_::_,r=>by simp [ScRels] at r
 | _::_,[],r=>by simp [ScRels] at r
theorem AVRels.length {I:List Loc}:∀ {s:List AV} {v:List Value},AVRels I s v→s.length=v.length
 | [],[],_=>rfl
 | _::_,_::_,⟨_,h2⟩=>by simp [AVRels.length h2]
 | [],_::_,r=>r.elim
 | _::_,[],r=>r.elim
theorem ScRels.get {I:List Loc}:∀ {s:List Sc} {v:List Value},ScRels I s v→∀ {i:Nat} {x:Sc},s[i]?=some x→∃ y,v[i]?=some y∧ScRel I x y
 | [],[],_,_,_,h=>by simp at h
 | a::_,b::_,⟨h1,h2⟩,i,x,h=>by
  cases i with
  | zero=>simp at h;subst h;exact ⟨b,rfl,h1⟩
  | succ i=>simpa using ScRels.get h2 (by simpa using h)
 | [],_::_,r,_,_,_=>by simp [ScRels] at r
 | _::_,[],r,_,_,_=>by simp [ScRels] at r
theorem ScRels.of_get {I:List Loc}:∀ {s:List Sc} {v:List Value},s.length=v.length→(∀ (i:Nat) (x:Sc) (y:Value),s[i]?=some x→v[i]?=some y→ScRel I x y)→ScRels I s v
 | [],[],_,_=>by simp [ScRels]
 | a::s,b::v,hl,h=>by
  simp only [ScRels]
  exact ⟨h 0 a b rfl rfl,ScRels.of_get (by simpa using hl) fun i x y hx hy=>h (i+1) x y (by simpa using hx) (by simpa using hy)⟩
 | [],_::_,hl,_=>by simp at hl
 | _::_,[],hl,_=>by simp at hl
theorem ScRels.append {I:List Loc} {s t:List Sc} {v u:List Value} (h:ScRels I s v) (k:ScRels I t u):ScRels I (s++t) (v++u):=by
 induction s generalizing v with
 | nil=>cases v with
  | nil=>exact k
  | cons b v=>simp [ScRels] at h
 | cons a s ih=>cases v with
  | nil=>simp [ScRels] at h
  | cons b v=>simp only [ScRels,List.cons_append] at h ⊢;exact ⟨h.1,ih h.2⟩
theorem ScRels.take {I:List Loc} (n:Nat):∀ {s:List Sc} {v:List Value},ScRels I s v→ScRels I (s.take n) (v.take n):=by
 induction n with
 | zero=>intro s v h;simp [ScRels]
 | succ n ih=>intro s v h;cases s<;>cases v<;>simp_all [ScRels]
theorem ScRels.drop {I:List Loc} (n:Nat):∀ {s:List Sc} {v:List Value},ScRels I s v→ScRels I (s.drop n) (v.drop n):=by
 induction n with
 | zero=>intro s v h;simpa using h
 | succ n ih=>intro s v h;cases s<;>cases v<;>simp_all [ScRels]
theorem ScRel.cells {I:List Loc} {s:Sc} {v:Value} (h:ScRel I s v):v.cells=#[v]:=by
 cases s<;>simp only [ScRel] at h
 case ptr=>obtain ⟨L,_,rfl⟩:=h;rfl
 case sl=>obtain ⟨L,c,a,_,rfl,_⟩:=h;rfl
 case fn=>obtain ⟨f,c,rfl,_⟩:=h;rfl
 case nils=>obtain ⟨a,rfl,_⟩:=h;rfl
 all_goals subst h;rfl
theorem ScRel.shape {I:List Loc} {s:Sc} {v:Value} (h:ScRel I s v):Zy v=none:=by
 cases s<;>simp only [ScRel] at h
 case ptr=>obtain ⟨L,_,rfl⟩:=h;rfl
 case sl=>obtain ⟨L,c,a,_,rfl,_⟩:=h;rfl
 case fn=>obtain ⟨f,c,rfl,_⟩:=h;rfl
 case nils=>obtain ⟨a,rfl,_⟩:=h;rfl
 all_goals subst h;rfl
theorem AVRel.cells {I:List Loc} {s:AV} {v:Value} (h:AVRel I s v):ScRels I s.cells v.cells.toList:=by
 cases s with
 | sc s=>have h':ScRel I s v:=h;rw [h'.cells];simp only [AV.cells,ScRels];exact ⟨h',trivial⟩
 | agg cs=>obtain ⟨arr,rfl,h2⟩:=h;exact h2
theorem AVRel.shape {I:List Loc} {s:AV} {v:Value} (h:AVRel I s v):shapeOf s=Zy v:=by
 cases s with
 | sc s=>have h':ScRel I s v:=h;rw [h'.shape];rfl
 | agg cs=>obtain ⟨arr,rfl,h2⟩:=h;simp only [shapeOf,Zy];rw [h2.length];simp
def AO.own:AO→Bool
 | .row true _ _ | .box _ _ | .loop _=>true
 | _=>false
def loopSt:Nat→LoopState
 | 0=>.ready
 | 1=>.busy
 | 2=>.done
 | _=>.exhausted
def ORel (P:Program) (B:Nat) (I:List Loc) (L:Loc) (w:World):AO→Prop
 | .row false _ cs=>L.z=0∧L.b < B∧∀ (j:Nat) c,cs[j]?=some c→∃ v,w.cell? ⟨L.b,L.o+j,none⟩=some v∧ScRel I c v
 | .row true e cs=>B≤L.b∧L.z=P.cellsOf e∧∃ arr,w.heap[L.b]?=some (.cells arr e (0,0))∧L.o+L.tot=arr.size∧cs.length≤L.tot∧∀ (j:Nat) c,cs[j]?=some c→∃ v,arr[L.o+j]?=some v∧ScRel I c v
 | .box e cs=>B≤L.b∧L.z=0∧L.o=0∧∃ arr,w.heap[L.b]?=some (.cells arr e (0,0))∧ScRels I cs arr.toList
 | .dead=>True
 | .loop l=>B≤L.b∧∃ r,w.heap[L.b]?=some (.loop r)∧r.state=loopSt l.st∧r.pending=l.pend∧r.params.toList=l.params∧r.assign=l.assign∧r.body=l.body∧∀ (i:Nat) v,l.sl.get i=some v→∃ x,r.tmps[i]?=some x∧SVRel I (fun _=>0) v x∧noLoc v=v
structure HRel (P:Program) (B:Nat) (I:List Loc) (h:AH) (w:World):Prop where
 len:I.length=h.length
 obj:∀ (i:Nat) o L,h[i]?=some o→I[i]?=some L→ORel P B I L w o
 uniq:∀ (i j:Nat) o o' L L',h[i]?=some o→h[j]?=some o'→o.own=true→o'.own=true→I[i]?=some L→I[j]?=some L'→L.b=L'.b→i=j
def OwnB (I:List Loc) (h:AH) (b:Nat):Prop:=∃ (i:Nat) (o:AO) (L:Loc),h[i]?=some o∧o.own=true∧I[i]?=some L∧L.b=b
structure Keeps (B:Nat) (I:List Loc) (h:AH) (w:World) (I':List Loc) (h':AH) (w':World):Prop where
 pre:I <+: I'
 bel:Below B w w'
 size:w.heap.size≤w'.heap.size
 foot:∀ b,b < w.heap.size→¬ OwnB I h b→w'.heap[b]?=w.heap[b]?
 fresh:∀ b,OwnB I' h' b→OwnB I h b∨w.heap.size≤b
theorem Keeps.refl (B:Nat) (I:List Loc) (h:AH) (w:World):Keeps B I h w I h w:=
 ⟨List.prefix_refl _,Below.refl _ _,Nat.le_refl _,fun _ _ _=>rfl,fun _ h=>.inl h⟩
theorem Keeps.trans {B:Nat} {I I1 I2:List Loc} {h h1 h2:AH} {w w1 w2:World} (k:Keeps B I h w I1 h1 w1) (l:Keeps B I1 h1 w1 I2 h2 w2):Keeps B I h w I2 h2 w2 where
 pre:=k.pre.trans l.pre
 bel:=k.bel.trans l.bel
 size:=Nat.le_trans k.size l.size
 foot b hb hn:=by
  refine (l.foot b (Nat.lt_of_lt_of_le hb k.size) fun ho=>?_).trans (k.foot b hb hn)
  rcases k.fresh b ho with h | h
  ·exact hn h
  ·omega
 fresh b ho:=by
  rcases l.fresh b ho with h | h
  ·exact k.fresh b h
  ·exact .inr (Nat.le_trans k.size h)
structure LoRel (E:Nat) (I:List Loc) (h:AH) (lam:Nat→Nat) (lo:Tr (Option (List Sc))) (w:World):Prop where
 cells:∀ (k:Nat) cs,lo.get k=some (some cs)→E≤lam k∧(∃ arr e,w.heap[lam k]?=some (.cells arr e (0,0))∧ScRels I cs arr.toList)∧¬ OwnB I h (lam k)
 apart:∀ (k k':Nat) cs cs',lo.get k=some (some cs)→lo.get k'=some (some cs')→lam k=lam k'→k=k'
def Df (E:Nat) (a:Act) (w:World):Prop:=∃ bs:List Nat,a.defers=bs.map (fun b=>{ target:=.collected b,args:=#[] })∧bs.Nodup∧∀ b∈bs,E≤b∧w.heap[b]?=some (.deferred (some []))
structure Rel (P:Program) (B:Nat) (Ie:List Loc) (he:AH) (we:World) (I:List Loc) (lam:Nat→Nat) (s:St) (a:Act) (w:World):Prop where
 tm:∀ (i:Nat) v,s.sl.get i=some v→∃ x,a.tmps[i]?=some x∧SVRel I lam v x
 lo:LoRel we.heap.size I s.h lam s.lo w
 hp:HRel P B I s.h w
 kp:Keeps B Ie he we I s.h w
 base:B≤we.heap.size
 df:Df we.heap.size a w
variable {P : Program} {B : Nat} {Ie : List Loc} {he : AH} {we : World} {I : List Loc} {lam : Nat → Nat} {s : St} {a : Act} {w : World}
theorem ZK (a:Act) (d:Option Tmp) (v:Value):(a.put d v).defers=a.defers:=by cases d<;>rfl
theorem Rel.put (r:Rel P B Ie he we I lam s a w) (d:Option Tmp) {sv:SV} {v:Value} (h:SVRel I lam sv v):Rel P B Ie he we I lam (setSl s d sv) (a.put d v) w:=by
 cases d with
 | none=>exact r
 | some d=>
  refine ⟨fun i y hu=>?_,r.lo,r.hp,r.kp,r.base,r.df⟩
  by_cases e:d=i
  ·subst e
   simp only [setSl,Tr.get_set_self] at hu
   obtain ⟨y,hy,rfl⟩:=oM hu
   obtain ⟨x0,hx0,_⟩:=r.tm d y hy
   have hlt:=(Array.getElem?_eq_some_iff.1 hx0).1
   exact ⟨v,by simp [Act.put,hlt],h⟩
  ·simp only [setSl,Tr.get_set_ne _ e] at hu
   obtain ⟨z,hz,hr⟩:=r.tm i y hu
   exact ⟨z,by simp only [Act.put];rw [Array.getElem?_setIfInBounds_ne e];exact hz,hr⟩
theorem ORel.mono {I I':List Loc} {L:Loc} {w w':World} (hp:I <+: I') (hb:w'.heap[L.b]?=w.heap[L.b]?):∀ {o:AO},ORel P B I L w o→ORel P B I' L w' o
 | .row false e cs,⟨h0,h1,h2⟩=>⟨h0,h1,fun j c hj=>let ⟨v,hv,hr⟩:=h2 j c hj;⟨v,(World.cell?_of_block (w:=w) (w':=w') hb).trans hv,ScRel.mono hp _ _ hr⟩⟩
 | .row true e cs,⟨h0,h1,arr,h2,h3,h4,h5⟩=>⟨h0,h1,arr,hb.trans h2,h3,h4,fun j c hj=>let ⟨v,hv,hr⟩:=h5 j c hj;⟨v,hv,ScRel.mono hp _ _ hr⟩⟩
 | .box e cs,⟨h0,h1,h2,arr,h3,h4⟩=>⟨h0,h1,h2,arr,hb.trans h3,ScRels.mono hp _ _ h4⟩
 | .dead,_=>trivial
 | .loop _,⟨h0,r,h1,h2,h3,h4,h5,h6,h7⟩=>⟨h0,r,hb.trans h1,h2,h3,h4,h5,h6,fun i v hi=>let ⟨x,hx,hr,hn⟩:=h7 i v hi;⟨x,hx,hr.mono hp,hn⟩⟩
theorem ORel.lt {L:Loc} {o:AO} (ho:o.own=true) (h:ORel P B I L w o):B≤L.b∧L.b < w.heap.size:=by
 cases o with
 | row own e cs=>
  cases own with
  | false=>simp [AO.own] at ho
  | true=>obtain ⟨h0,_,arr,h2,_⟩:=h;exact ⟨h0,(Array.getElem?_eq_some_iff.1 h2).1⟩
 | box e cs=>obtain ⟨h0,_,_,arr,h2,_⟩:=h;exact ⟨h0,(Array.getElem?_eq_some_iff.1 h2).1⟩
 | dead=>simp [AO.own] at ho
 | loop l=>obtain ⟨h0,r,h1,_⟩:=h;exact ⟨h0,(Array.getElem?_eq_some_iff.1 h1).1⟩
theorem ORel.ro {L:Loc} {e:TypeId} {cs:List Sc} (h:ORel P B I L w (.row false e cs)):L.b < B:=h.2.1
theorem Df.old {E:Nat} (d:Df E a w) {w':World} (h:∀ b,b < w.heap.size→w.heap[b]?=some (.deferred (some []))→w'.heap[b]?=w.heap[b]?):Df E a w':=by
 obtain ⟨bs,h1,h2,h3⟩:=d
 refine ⟨bs,h1,h2,fun b hb=>⟨(h3 b hb).1,?_⟩⟩
 have h4:=(h3 b hb).2
 exact (h b (Array.getElem?_eq_some_iff.1 h4).1 h4).trans h4
theorem OwnB.noDf {h:AH} (hr:HRel P B I h w) {b:Nat} (ho:OwnB I h b):w.heap[b]?≠some (.deferred (some [])):=by
 obtain ⟨i,o,L,h1,h2,h3,rfl⟩:=ho
 have hob:=hr.obj i o L h1 h3
 intro e
 cases o with
 | row own e' cs=>
  cases own with
  | false=>simp [AO.own] at h2
  | true=>obtain ⟨_,_,arr,k2,_⟩:=hob;rw [k2] at e;cases e
 | box e' cs=>obtain ⟨_,_,_,arr,k2,_⟩:=hob;rw [k2] at e;cases e
 | dead=>simp [AO.own] at h2
 | loop l=>obtain ⟨_,r,k2,_⟩:=hob;rw [k2] at e;cases e
theorem OwnB.lt {h:AH} (hr:HRel P B I h w) {b:Nat} (ho:OwnB I h b):B≤b∧b < w.heap.size:=by
 obtain ⟨i,o,L,h1,h2,h3,rfl⟩:=ho
 exact ORel.lt h2 (hr.obj i o L h1 h3)
theorem QE {h:AH} (hl:I.length=h.length) {o:AO} {L:Loc} {b:Nat} (ho:OwnB (I++[L]) (h++[o]) b):OwnB I h b∨(o.own=true∧b=L.b):=by
 obtain ⟨i,o',L',h1,h2,h3,rfl⟩:=ho
 rcases Nat.lt_or_ge i h.length with hi | hi
 ·rw [List.getElem?_append_left hi] at h1
  rw [List.getElem?_append_left (by omega)] at h3
  exact .inl ⟨i,o',L',h1,h2,h3,rfl⟩
 ·rw [List.getElem?_append_right hi] at h1
  rw [List.getElem?_append_right (by omega),hl] at h3
  cases hk:i - h.length with
  | zero=>rw [hk] at h1 h3;simp at h1 h3;subst h1;subst h3;exact .inr ⟨h2,rfl⟩
  | succ k=>rw [hk] at h1;simp at h1
theorem Keeps.alloc (hB:B≤w.heap.size) (O:Obj) (h:AH):Keeps B I h w I h (w.alloc O):=
 ⟨List.prefix_refl _,(Below.refl B w).alloc hB O,by simp,fun b hb _=>Below.heap_alloc w O b hb,fun b ho=>.inl ho⟩
theorem Keeps.size_B (k:Keeps B Ie he we I s.h w) (hb:B≤we.heap.size):B≤w.heap.size:=Nat.le_trans hb k.size
theorem Rel.newHeap (r:Rel P B Ie he we I lam s a w) {o:AO} {O:Obj} {L:Loc} (hL:L.b=w.heap.size) (ho:ORel P B (I++[L]) L (w.alloc O) o) :
  Rel P B Ie he we (I++[L]) lam { s with h:=s.h++[o] } a (w.alloc O):=by
 have hB:B≤w.heap.size:=r.kp.size_B r.base
 have hpre:I <+: I++[L]:=List.prefix_append _ _
 refine ⟨fun i v hv=>let ⟨x,hx,hr⟩:=r.tm i v hv;⟨x,hx,hr.mono hpre⟩,⟨fun k cs hk=>?_,r.lo.apart⟩,⟨by simp [r.hp.len],fun i o' L' h1 h2=>?_,fun i j o1 o2 L1 L2 h1 h2 w1 w2 k1 k2 e=>?_⟩,?_,r.base,r.df.old fun b hb _=>Below.heap_alloc w O b hb⟩
 ·obtain ⟨h1,⟨arr,e,h2,h3⟩,h4⟩:=r.lo.cells k cs hk
  have hlt:=(Array.getElem?_eq_some_iff.1 h2).1
  refine ⟨h1,⟨arr,e,(Below.heap_alloc w O _ hlt).trans h2,ScRels.mono hpre _ _ h3⟩,fun hw=>?_⟩
  rcases QE r.hp.len hw with hw | ⟨_,hw⟩
  ·exact h4 hw
  ·omega
 ·rcases Nat.lt_or_ge i s.h.length with hi | hi
  ·rw [List.getElem?_append_left hi] at h1
   rw [List.getElem?_append_left (by rw [r.hp.len];exact hi)] at h2
   have hob:=r.hp.obj i o' L' h1 h2
   by_cases hlt:L'.b < w.heap.size
   ·exact hob.mono hpre (Below.heap_alloc w O _ hlt)
   ·cases o' with
    | row own e cs=>
     cases own with
     | false=>exact absurd (Nat.lt_of_lt_of_le hob.2.1 hB) hlt
     | true=>exact absurd (ORel.lt rfl hob).2 hlt
    | box e cs=>exact absurd (ORel.lt rfl hob).2 hlt
    | dead=>trivial
    | loop l=>exact absurd (ORel.lt rfl hob).2 hlt
  ·rw [List.getElem?_append_right hi] at h1
   rw [List.getElem?_append_right (by rw [r.hp.len];exact hi),r.hp.len] at h2
   cases hk:i - s.h.length with
   | zero=>rw [hk] at h1 h2;simp at h1 h2;subst h1;subst h2;exact ho
   | succ k=>rw [hk] at h1;simp at h1
 ·have key:∀ (i:Nat) (o:AO) (L':Loc),(s.h++[o])[i]?=some o→True:=fun _ _ _ _=>trivial
  rcases Nat.lt_or_ge i s.h.length with hi | hi<;>rcases Nat.lt_or_ge j s.h.length with hj | hj
  ·rw [List.getElem?_append_left hi] at h1
   rw [List.getElem?_append_left hj] at h2
   rw [List.getElem?_append_left (by rw [r.hp.len];exact hi)] at k1
   rw [List.getElem?_append_left (by rw [r.hp.len];exact hj)] at k2
   exact r.hp.uniq i j o1 o2 L1 L2 h1 h2 w1 w2 k1 k2 e
  ·rw [List.getElem?_append_left hi] at h1
   rw [List.getElem?_append_left (by rw [r.hp.len];exact hi)] at k1
   rw [List.getElem?_append_right (by rw [r.hp.len];exact hj),r.hp.len] at k2
   have:=(ORel.lt w1 (r.hp.obj i o1 L1 h1 k1)).2
   cases hk:j - s.h.length with
   | zero=>rw [hk] at k2;simp at k2;subst k2;omega
   | succ k=>rw [hk] at k2;simp at k2
  ·rw [List.getElem?_append_left hj] at h2
   rw [List.getElem?_append_left (by rw [r.hp.len];exact hj)] at k2
   rw [List.getElem?_append_right (by rw [r.hp.len];exact hi),r.hp.len] at k1
   have:=(ORel.lt w2 (r.hp.obj j o2 L2 h2 k2)).2
   cases hk:i - s.h.length with
   | zero=>rw [hk] at k1;simp at k1;subst k1;omega
   | succ k=>rw [hk] at k1;simp at k1
  ·have hi':=(List.getElem?_eq_some_iff.1 h1).1
   have hj':=(List.getElem?_eq_some_iff.1 h2).1
   simp at hi' hj'
   omega
 ·refine r.kp.trans ⟨hpre,(Below.refl B w).alloc hB O,by simp,fun b hb _=>Below.heap_alloc w O b hb,fun b hw=>?_⟩
  rcases QE r.hp.len hw with hw | ⟨_,hw⟩
  ·exact .inl hw
  ·exact .inr (by omega)
theorem Rel.allocOnly (r:Rel P B Ie he we I lam s a w) (O:Obj):Rel P B Ie he we I lam s a (w.alloc O):=by
 have hB:B≤w.heap.size:=r.kp.size_B r.base
 refine ⟨r.tm,⟨fun k cs hk=>?_,r.lo.apart⟩,⟨r.hp.len,fun i o' L' h1 h2=>?_,r.hp.uniq⟩,r.kp.trans (Keeps.alloc hB O _),r.base,r.df.old fun b hb _=>Below.heap_alloc w O b hb⟩
 ·obtain ⟨h1,⟨arr,e,h2,h3⟩,h4⟩:=r.lo.cells k cs hk
  exact ⟨h1,⟨arr,e,(Below.heap_alloc w O _ (Array.getElem?_eq_some_iff.1 h2).1).trans h2,h3⟩,h4⟩
 ·have hob:=r.hp.obj i o' L' h1 h2
  by_cases hlt:L'.b < w.heap.size
  ·exact hob.mono (List.prefix_refl _) (Below.heap_alloc w O _ hlt)
  ·cases o' with
   | row own e cs=>
    cases own with
    | false=>exact absurd (Nat.lt_of_lt_of_le hob.2.1 hB) hlt
    | true=>exact absurd (ORel.lt rfl hob).2 hlt
   | box e cs=>exact absurd (ORel.lt rfl hob).2 hlt
   | dead=>trivial
   | loop l=>exact absurd (ORel.lt rfl hob).2 hlt
theorem Rel.drew (r:Rel P B Ie he we I lam s a w):Rel P B Ie he we I lam s a w.drew:=by
 refine ⟨r.tm,⟨r.lo.cells,r.lo.apart⟩,⟨r.hp.len,fun i o L h1 h2=>(r.hp.obj i o L h1 h2).mono (List.prefix_refl _) rfl,r.hp.uniq⟩,⟨r.kp.pre,r.kp.bel.drew,r.kp.size,r.kp.foot,r.kp.fresh⟩,r.base,r.df.old fun _ _ _=>rfl⟩
variable {P : Program} {B : Nat} {Ie : List Loc} {he : AH} {we : World} {I : List Loc} {lam : Nat → Nat} {s : St} {a : Act} {w : World}
theorem ZY {w0:World} (h:Below B w0 w) {b:Nat} (hb:B≤b) (arr:Array Value):Below B w0 (w.setRow b arr):=
 ⟨h.os,h.tape,h.output,by rw [setRow_size];exact h.size,fun k hk=>(setRow_other w b k arr (by omega)).trans (h.block k hk)⟩
theorem Keeps.setRow_new {h:AH} (k:Keeps B Ie he we I h w) {b:Nat} (hB:B≤b) (hb:we.heap.size≤b) (arr:Array Value):Keeps B Ie he we I h (w.setRow b arr):=
 ⟨k.pre,ZY k.bel hB arr,by rw [setRow_size];exact k.size,fun j hj hn=>(setRow_other w b j arr (by omega)).trans (k.foot j hj hn),k.fresh⟩
def turn (lam:Nat→Nat) (d b:Nat):Nat→Nat:=fun k=>if k=d then b else lam k
theorem killL_rel {d b:Nat} {sv:SV} {v:Value} (h:SVRel I lam sv v):SVRel I (turn lam d b) (killL d sv) v:=by
 cases sv with
 | l k o=>
  by_cases e:k=d
  ·subst e;simp [killL,SVRel]
  ·have:Nat.beq k d=false:=by cases hb:Nat.beq k d;rfl;exact absurd (Nat.eq_of_beq_eq_true hb) e
   simp only [killL,this,cond_false,SVRel,turn,if_neg e];exact h
 | s k n=>
  by_cases e:k=d
  ·subst e;simp [killL,SVRel]
  ·have:Nat.beq k d=false:=by cases hb:Nat.beq k d;rfl;exact absurd (Nat.eq_of_beq_eq_true hb) e
   simp only [killL,this,cond_false,SVRel,turn,if_neg e];exact h
 | u=>exact h
 | no=>exact h
 | v x=>exact h
 | t vs=>exact h
theorem Rel.newLocal (r:Rel P B Ie he we I lam s a w) (d:Nat) {sv:SV} {v:Value} {cs:List Sc} {arr:Array Value} {e:TypeId}
  (hc:ScRels I cs arr.toList) (hv:SVRel I (turn lam d w.heap.size) sv v) :
  Rel P B Ie he we I (turn lam d w.heap.size) (newLocal s d sv cs) (a.put (some d) v) (w.alloc (.cells arr e)):=by
 have r2:=r.allocOnly (.cells arr e)
 have hB:we.heap.size≤w.heap.size:=r.kp.size
 refine ⟨fun i y0 hu=>?_,⟨fun k cs' hk=>?_,fun k k' cs1 cs2 h1 h2 hl=>?_⟩,r2.hp,r2.kp,r.base,r2.df⟩
 ·by_cases e:d=i
  ·subst e
   simp only [AM.newLocal,Tr.get_set_self,Tr.get_map] at hu
   obtain ⟨y,hy,rfl⟩:=oM hu
   obtain ⟨y0,hy0,_⟩:=oM hy
   obtain ⟨x0,hx0,_⟩:=r.tm d y0 hy0
   have hlt:=(Array.getElem?_eq_some_iff.1 hx0).1
   exact ⟨v,by simp [Act.put,hlt],hv⟩
  ·simp only [AM.newLocal,Tr.get_set_ne _ e,Tr.get_map] at hu
   obtain ⟨y,hy,rfl⟩:=oM hu
   obtain ⟨z,hz,hr⟩:=r.tm i y hy
   exact ⟨z,by simp only [Act.put];rw [Array.getElem?_setIfInBounds_ne e];exact hz,killL_rel hr⟩
 ·by_cases e:d=k
  ·subst e
   simp only [AM.newLocal,Tr.get_set_self] at hk
   obtain ⟨y,hy,hk⟩:=oM hk
   simp at hk;subst hk
   refine ⟨by simp [turn];exact hB,⟨arr,_,by simp only [turn,if_true];exact heap_alloc_new w _,hc⟩,fun ho=>?_⟩
   have:=(OwnB.lt r.hp (b:=turn lam d w.heap.size d) ho).2
   simp [turn] at this
  ·simp only [AM.newLocal,Tr.get_set_ne _ e] at hk
   have:=r2.lo.cells k cs' hk
   rw [show turn lam d w.heap.size k=lam k by simp [turn,Ne.symm e]]
   exact this
 ·by_cases e1:d=k<;>by_cases e2:d=k'
  ·exact e1.symm.trans e2
  ·subst e1
   simp only [AM.newLocal,Tr.get_set_ne _ e2] at h2
   obtain ⟨_,⟨arr',_,h3,_⟩,_⟩:=r.lo.cells k' cs2 h2
   have:=(Array.getElem?_eq_some_iff.1 h3).1
   simp [turn,Ne.symm e2] at hl
   omega
  ·subst e2
   simp only [AM.newLocal,Tr.get_set_ne _ e1] at h1
   obtain ⟨_,⟨arr',_,h3,_⟩,_⟩:=r.lo.cells k cs1 h1
   have:=(Array.getElem?_eq_some_iff.1 h3).1
   simp [turn,Ne.symm e1] at hl
   omega
  ·simp only [AM.newLocal,Tr.get_set_ne _ e1] at h1
   simp only [AM.newLocal,Tr.get_set_ne _ e2] at h2
   simp [turn,Ne.symm e1,Ne.symm e2] at hl
   exact r.lo.apart k k' cs1 cs2 h1 h2 hl
theorem Rel.setLocal (r:Rel P B Ie he we I lam s a w) {k:Nat} {cs cs':List Sc} (hk:s.lo.get k=some (some cs)) {arr':Array Value} (hc:ScRels I cs' arr'.toList) :
  Rel P B Ie he we I lam { s with lo:=s.lo.set k (some cs') } a (w.setRow (lam k) arr'):=by
 obtain ⟨hE,⟨arr,e,hg,_⟩,hno⟩:=r.lo.cells k cs hk
 refine ⟨r.tm,⟨fun k' cs2 hk'=>?_,fun k1 k2 cs1 cs2 h1 h2 hl=>?_⟩,⟨r.hp.len,fun i o L h1 h2=>?_,r.hp.uniq⟩,r.kp.setRow_new (Nat.le_trans r.base hE) hE arr',r.base,r.df.old fun b _ hd=>setRow_other w _ _ _ fun he=>by rw [he,hg] at hd;cases hd⟩
 ·by_cases ek:k=k'
  ·subst ek
   rw [Tr.get_set_self] at hk'
   obtain ⟨y,hy,hk'⟩:=oM hk'
   simp at hk';subst hk'
   exact ⟨hE,⟨arr',e,setRow_heap w _ arr arr' e (0,0) hg,hc⟩,hno⟩
  ·rw [Tr.get_set_ne _ ek] at hk'
   obtain ⟨h1,⟨arr2,e2,h2,h3⟩,h4⟩:=r.lo.cells k' cs2 hk'
   have hne:lam k'≠lam k:=fun he=>ek (r.lo.apart k' k cs2 cs hk' hk he).symm
   exact ⟨h1,⟨arr2,e2,(setRow_other w _ _ _ hne).trans h2,h3⟩,h4⟩
 ·have f1:∃ c,s.lo.get k1=some (some c):=by
   by_cases e1:k=k1
   ·subst e1;exact ⟨cs,hk⟩
   ·rw [Tr.get_set_ne _ e1] at h1;exact ⟨cs1,h1⟩
  have f2:∃ c,s.lo.get k2=some (some c):=by
   by_cases e2:k=k2
   ·subst e2;exact ⟨cs,hk⟩
   ·rw [Tr.get_set_ne _ e2] at h2;exact ⟨cs2,h2⟩
  obtain ⟨c1,f1⟩:=f1;obtain ⟨c2,f2⟩:=f2
  exact r.lo.apart k1 k2 c1 c2 f1 f2 hl
 ·have hob:=r.hp.obj i o L h1 h2
  have hne:o.own=true→L.b≠lam k:=fun ho he=>hno ⟨i,o,L,h1,ho,h2,he⟩
  have hBE:=r.base
  cases o with
  | row own e' cs2=>
   cases own with
   | false=>exact hob.mono (List.prefix_refl _) (setRow_other w _ _ _ (by have:=ORel.ro hob;omega))
   | true=>exact hob.mono (List.prefix_refl _) (setRow_other w _ _ _ (hne rfl))
  | box e' cs2=>exact hob.mono (List.prefix_refl _) (setRow_other w _ _ _ (hne rfl))
  | dead=>trivial
  | loop l=>exact hob.mono (List.prefix_refl _) (setRow_other w _ _ _ (hne rfl))
theorem Rel.setOwn (r:Rel P B Ie he we I lam s a w) {i:Nat} {o o':AO} {L:Loc} {arr':Array Value} (hi:s.h[i]?=some o) (hL:I[i]?=some L) (ho:o.own=true) (ho':o'.own=true)
  (hr:ORel P B I L (w.setRow L.b arr') o') :
  Rel P B Ie he we I lam { s with h:=s.h.set i o' } a (w.setRow L.b arr'):=by
 have hown:OwnB I s.h L.b:=⟨i,o,L,hi,ho,hL,rfl⟩
 have hlt:=OwnB.lt r.hp hown
 have get:∀ (j:Nat) (o2:AO),(s.h.set i o')[j]?=some o2→(i=j∧o2=o')∨(i≠j∧s.h[j]?=some o2):=by
  intro j o2 hj
  by_cases e1:i=j
  ·subst e1
   rw [List.getElem?_set_self (List.getElem?_eq_some_iff.1 hi).1] at hj
   exact .inl ⟨rfl,(Option.some.inj hj).symm⟩
  ·rw [List.getElem?_set_ne e1] at hj;exact .inr ⟨e1,hj⟩
 have own2:∀ b,OwnB I (s.h.set i o') b→OwnB I s.h b:=by
  rintro b ⟨j,o2,L2,h1,h2,h3,rfl⟩
  rcases get j o2 h1 with ⟨rfl,rfl⟩ | ⟨_,h1⟩
  ·rw [hL] at h3;cases h3;exact hown
  ·exact ⟨j,o2,L2,h1,h2,h3,rfl⟩
 refine ⟨r.tm,⟨fun k cs hk=>?_,r.lo.apart⟩,⟨by simp [r.hp.len],fun j o2 L2 h1 h2=>?_,fun j k o1 o2 L1 L2 h1 h2 w1 w2 k1 k2 he=>?_⟩,
  r.kp.trans ⟨List.prefix_refl _,ZY (Below.refl B w) hlt.1 arr',by rw [setRow_size];exact Nat.le_refl _,fun b hb hn=>setRow_other w _ _ _ fun hE=>hn (hE▸hown),fun b hb=>.inl (own2 b hb)⟩,r.base,r.df.old fun b _ hd=>setRow_other w _ _ _ fun he=>OwnB.noDf r.hp hown (by rw [← he];exact hd)⟩
 ·obtain ⟨h1,⟨arr2,e2,h2,h3⟩,h4⟩:=r.lo.cells k cs hk
  exact ⟨h1,⟨arr2,e2,(setRow_other w _ _ _ (fun (hE:lam k=L.b)=>h4 (by rw [hE];exact hown))).trans h2,h3⟩,fun hw=>h4 (own2 _ hw)⟩
 ·rcases get j o2 h1 with ⟨rfl,rfl⟩ | ⟨hne,h1⟩
  ·rw [hL] at h2;cases h2;exact hr
  ·have hob:=r.hp.obj j o2 L2 h1 h2
   have hb:o2.own=true→L2.b≠L.b:=fun hw hE=>hne (r.hp.uniq i j o o2 L L2 hi h1 ho hw hL h2 hE.symm)
   cases o2 with
   | row own e' cs2=>
    cases own with
    | false=>exact hob.mono (List.prefix_refl _) (setRow_other w _ _ _ (by have:=ORel.ro hob;omega))
    | true=>exact hob.mono (List.prefix_refl _) (setRow_other w _ _ _ (hb rfl))
   | box e' cs2=>exact hob.mono (List.prefix_refl _) (setRow_other w _ _ _ (hb rfl))
   | dead=>trivial
   | loop l=>exact hob.mono (List.prefix_refl _) (setRow_other w _ _ _ (hb rfl))
 ·rcases get j o1 h1 with ⟨e1,_⟩ | ⟨n1,g1⟩<;>rcases get k o2 h2 with ⟨e2,_⟩ | ⟨n2,g2⟩
  ·exact e1.symm.trans e2
  ·subst e1;rw [hL] at k1;cases k1
   exact r.hp.uniq i k o o2 L L2 hi g2 ho w2 hL k2 he
  ·subst e2;rw [hL] at k2;cases k2
   exact r.hp.uniq j i o1 o L1 L g1 hi w1 ho k1 hL he
  ·exact r.hp.uniq j k o1 o2 L1 L2 g1 g2 w1 w2 k1 k2 he
theorem Rel.kill (r:Rel P B Ie he we I lam s a w) (i:Nat):Rel P B Ie he we I lam { s with h:=s.h.set i .dead } a w:=by
 have get:∀ (j:Nat) (o2:AO),(s.h.set i .dead)[j]?=some o2→o2=.dead∨s.h[j]?=some o2:=by
  intro j o2 hj
  by_cases e1:i=j
  ·subst e1
   rw [List.getElem?_set_self'] at hj
   obtain ⟨y,_,hy⟩:=oM hj
   exact .inl hy.symm
  ·rw [List.getElem?_set_ne e1] at hj;exact .inr hj
 have own2:∀ b,OwnB I (s.h.set i .dead) b→OwnB I s.h b:=by
  rintro b ⟨j,o2,L2,h1,h2,h3,rfl⟩
  rcases get j o2 h1 with rfl | h1
  ·simp [AO.own] at h2
  ·exact ⟨j,o2,L2,h1,h2,h3,rfl⟩
 refine ⟨r.tm,⟨fun k cs hk=>?_,r.lo.apart⟩,⟨by simp [r.hp.len],fun j o2 L2 h1 h2=>?_,fun j k o1 o2 L1 L2 h1 h2 w1 w2 k1 k2 he=>?_⟩,
  r.kp.trans ⟨List.prefix_refl _,Below.refl B w,Nat.le_refl _,fun _ _ _=>rfl,fun b hb=>.inl (own2 b hb)⟩,r.base,r.df⟩
 ·obtain ⟨h1,h2,h4⟩:=r.lo.cells k cs hk
  exact ⟨h1,h2,fun hw=>h4 (own2 _ hw)⟩
 ·rcases get j o2 h1 with rfl | h1
  ·trivial
  ·exact r.hp.obj j o2 L2 h1 h2
 ·rcases get j o1 h1 with rfl | h1
  ·simp [AO.own] at w1
  rcases get k o2 h2 with rfl | h2
  ·simp [AO.own] at w2
  exact r.hp.uniq j k o1 o2 L1 L2 h1 h2 w1 w2 k1 k2 he
theorem Rel.reown (r:Rel P B Ie he we I lam s a w) {i:Nat} {o o':AO} {L L':Loc} {arr':Array Value} (hi:s.h[i]?=some o) (hL:I[i]?=some L) (ho:o.own=true)
  (hb:L'.b=L.b) (hr:ORel P B (I++[L']) L' (w.setRow L.b arr') o') :
  Rel P B Ie he we (I++[L']) lam { s with h:=s.h.set i .dead++[o'] } a (w.setRow L.b arr'):=by
 have hpre:I <+: I++[L']:=List.prefix_append _ _
 have hown:OwnB I s.h L.b:=⟨i,o,L,hi,ho,hL,rfl⟩
 have hlt:=OwnB.lt r.hp hown
 have hlen:(s.h.set i .dead).length=I.length:=by simp [r.hp.len]
 have get:∀ (j:Nat) (o2:AO) (L2:Loc),(s.h.set i .dead++[o'])[j]?=some o2→(I++[L'])[j]?=some L2→o2=.dead∨(i≠j∧s.h[j]?=some o2∧I[j]?=some L2)∨(j=I.length∧o2=o'∧L2=L'):=by
  intro j o2 L2 hj hL2
  rcases Nat.lt_or_ge j I.length with hj' | hj'
  ·rw [List.getElem?_append_left (by rw [hlen];exact hj')] at hj
   rw [List.getElem?_append_left hj'] at hL2
   by_cases e1:i=j
   ·subst e1
    rw [List.getElem?_set_self'] at hj
    obtain ⟨y,_,hy⟩:=oM hj
    exact .inl hy.symm
   ·rw [List.getElem?_set_ne e1] at hj;exact .inr (.inl ⟨e1,hj,hL2⟩)
  ·rw [List.getElem?_append_right (by rw [hlen];exact hj'),hlen] at hj
   rw [List.getElem?_append_right hj'] at hL2
   cases hk:j - I.length with
   | zero=>rw [hk] at hj hL2;simp at hj hL2;exact .inr (.inr ⟨by omega,hj.symm,hL2.symm⟩)
   | succ k=>rw [hk] at hj;simp at hj
 have own2:∀ b,OwnB (I++[L']) (s.h.set i .dead++[o']) b→OwnB I s.h b:=by
  rintro b ⟨j,o2,L2,h1,h2,h3,rfl⟩
  rcases get j o2 L2 h1 h3 with rfl | ⟨_,h1,h3⟩ | ⟨_,rfl,rfl⟩
  ·simp [AO.own] at h2
  ·exact ⟨j,o2,L2,h1,h2,h3,rfl⟩
  ·rw [hb];exact hown
 refine ⟨fun j v hv=>let ⟨x,hx,hr⟩:=r.tm j v hv;⟨x,hx,hr.mono hpre⟩,⟨fun k cs hk=>?_,r.lo.apart⟩,⟨by simp [r.hp.len],fun j o2 L2 h1 h2=>?_,fun j k o1 o2 L1 L2 h1 h2 w1 w2 k1 k2 he=>?_⟩,
  r.kp.trans ⟨hpre,ZY (Below.refl B w) hlt.1 arr',by rw [setRow_size];exact Nat.le_refl _,fun b hb hn=>setRow_other w _ _ _ fun hE=>hn (hE▸hown),fun b hb=>.inl (own2 b hb)⟩,r.base,r.df.old fun b _ hd=>setRow_other w _ _ _ fun he=>OwnB.noDf r.hp hown (by rw [← he];exact hd)⟩
 ·obtain ⟨h1,⟨arr2,e2,h2,h3⟩,h4⟩:=r.lo.cells k cs hk
  exact ⟨h1,⟨arr2,e2,(setRow_other w _ _ _ (fun (hE:lam k=L.b)=>h4 (by rw [hE];exact hown))).trans h2,ScRels.mono hpre _ _ h3⟩,fun hw=>h4 (own2 _ hw)⟩
 ·rcases get j o2 L2 h1 h2 with rfl | ⟨hne,h1,h2⟩ | ⟨_,rfl,rfl⟩
  ·trivial
  ·have hob:=r.hp.obj j o2 L2 h1 h2
   have hb:o2.own=true→L2.b≠L.b:=fun hw hE=>hne (r.hp.uniq i j o o2 L L2 hi h1 ho hw hL h2 hE.symm)
   cases o2 with
   | row own e' cs2=>
    cases own with
    | false=>exact hob.mono hpre (setRow_other w _ _ _ (by have:=ORel.ro hob;omega))
    | true=>exact hob.mono hpre (setRow_other w _ _ _ (hb rfl))
   | box e' cs2=>exact hob.mono hpre (setRow_other w _ _ _ (hb rfl))
   | dead=>trivial
   | loop l=>exact hob.mono hpre (setRow_other w _ _ _ (hb rfl))
  ·exact hr
 ·rcases get j o1 L1 h1 k1 with e1 | ⟨n1,g1,l1⟩ | ⟨n1,_,e1⟩
  ·rw [e1] at w1;simp [AO.own] at w1
  ·rcases get k o2 L2 h2 k2 with e2 | ⟨n2,g2,l2⟩ | ⟨n2,_,e2⟩
   ·rw [e2] at w2;simp [AO.own] at w2
   ·exact r.hp.uniq j k o1 o2 L1 L2 g1 g2 w1 w2 l1 l2 he
   ·subst e2;exact absurd (r.hp.uniq i j o o1 L L1 hi g1 ho w1 hL l1 (by rw [← hb];exact he.symm)) n1
  ·subst e1
   rcases get k o2 L2 h2 k2 with e2 | ⟨n2,g2,l2⟩ | ⟨n2,_,e2⟩
   ·rw [e2] at w2;simp [AO.own] at w2
   ·exact absurd (r.hp.uniq i k o o2 L L2 hi g2 ho w2 hL l2 (by rw [← hb];exact he)) n2
   ·omega
end Go.AM
namespace Go.AM
section
variable {R S : Type} (c : R → Option S)
theorem xf (v:AV) (f:Sc→Option R):(asSc v f).bind c=asSc v fun x=>(f x).bind c:=by cases v<;>rfl
theorem asAgg_bind (v:AV) (f:List Sc→Option R):(asAgg v f).bind c=asAgg v fun x=>(f x).bind c:=by cases v<;>rfl
theorem asB_bind (v:Sc) (f:Bool→Option R):(asB v f).bind c=asB v fun x=>(f x).bind c:=by cases v<;>rfl
theorem asI_bind (k:IntKind) (v:Sc) (f:Int→Option R):(asI k v f).bind c=asI k v fun x=>(f x).bind c:=by cases v<;>first | rfl | (simp only [asI];split<;>rfl)
theorem VZ {α:Type} (l:List α) (f:α→List α→Option R):(asC l f).bind c=asC l fun x y=>(f x y).bind c:=by cases l<;>rfl
theorem Ur {α:Type} (l:List α) (f:Option R):(asN l f).bind c=asN l (f.bind c):=by cases l<;>rfl
theorem Wk (v:Sc) (f:Nat→Nat→Nat→Option R):(asS v f).bind c=asS v fun x y z=>(f x y z).bind c:=by cases v<;>rfl
theorem wD (v:Sc) (f:Nat→Nat→Option R):(asP v f).bind c=asP v fun x y=>(f x y).bind c:=by cases v<;>rfl
theorem Uj (v:Sc) (f:Fn→Nat→List (Option Nat)→List Sc→Option R):(asF v f).bind c=asF v fun x y z t=>(f x y z t).bind c:=by cases v<;>rfl
theorem zC (b:Bool) (f:Option R):(guardB b f).bind c=guardB b (f.bind c):=by cases b<;>rfl
theorem wG (b:Bool) (f g:Option R):(cond b f g).bind c=cond b (f.bind c) (g.bind c):=by cases b<;>rfl
theorem wn (l:Leaf) (v:Sc) (f:Sc→Option R):(asLeaf l v f).bind c=asLeaf l v fun x=>(f x).bind c:=by
 cases l<;>simp [asLeaf,asI_bind,asB_bind]
theorem xl:∀ (ls:List Leaf) (l:List Sc) (f:List Sc→Option R),(asLeaves ls l f).bind c=asLeaves ls l fun x=>(f x).bind c
 | [],l,f=>by simp [asLeaves,Ur]
 | x::xs,l,f=>by
  simp only [asLeaves,VZ,wn]
  congr;funext a b;congr;funext y;exact xl xs b _
theorem VT (P:Program) (t:TypeId) (v:AV) (f:AV→Option R):(typed1 P t v f).bind c=typed1 P t v fun x=>(f x).bind c:=by
 simp only [typed1,wG,asAgg_bind,xl,xf,wn]
theorem Wy (P:Program):∀ (ts:List TypeId) (l:List AV) (f:List AV→Option R),(typedAll P ts l f).bind c=typedAll P ts l fun x=>(f x).bind c
 | [],l,f=>by simp [typedAll,Ur]
 | x::xs,l,f=>by
  simp only [typedAll,VZ,VT]
  congr;funext a b;congr;funext y;exact Wy P xs b _
theorem wh (P:Program) (t:TypeId) (vs:List AV) (f:SV→Option R):(typed P t vs f).bind c=typed P t vs fun x=>(f x).bind c:=by
 unfold typed
 split<;>simp only [Wy,VZ,Ur,VT,zC]
theorem pickB_bind (t:Bool) (a b:Option SV) (f:SV→Option R):(pickB t a b f).bind c=pickB t a b fun x=>(f x).bind c:=by
 unfold pickB
 split<;>simp [wG,Option.bind_assoc]
theorem TW {S:Type} (c:List Sc→Option S) (cs:List Sc) (off n:Nat):cutK cs off n c=(cut cs off n).bind c:=by unfold cutK cut;cases decide (off+n≤cs.length)<;>rfl
theorem putK_eq {S:Type} (c:List Sc→Option S) (cs:List Sc) (off:Nat) (v:List Sc):putK cs off v c=(put cs off v).bind c:=by unfold putK put;cases decide (off+v.length≤cs.length)<;>rfl
theorem ldNK_eq {S:Type} (c:List Sc→Option S) (h:AH) (id off n:Nat):ldNK h id off n c=(ldN h id off n).bind c:=by
 unfold ldNK ldN;simp only [Option.bind_assoc];congr;funext o;congr;funext d;exact TW c d off n
theorem UO {S:Type} (c:AH→Option S) (h:AH) (id off:Nat) (v:List Sc):stK h id off v c=(st h id off v).bind c:=by
 unfold stK st;simp only [Option.bind_assoc];congr;funext o
 split<;>simp [putK_eq,Option.bind_assoc]
theorem wO {S:Type} (c:List Sc→Option S) (s:St) (a:SV) (n:Nat):loadAt s a n c=match a with
 | .l k off=>(s.lo.get k).bind fun b=>b.bind fun cs=>(cut cs off n).bind c
 | .v (.sc p)=>asP p fun id off=>(ldN s.h id off n).bind c
 | _=>none:=by unfold loadAt;split<;>simp only [TW,ldNK_eq]
theorem yw {S:Type} (c:St→Option S) (s:St) (a:SV) (v:List Sc):storeAt s a v c=match a with
 | .l k off=>(s.lo.get k).bind fun b=>b.bind fun cs=>(put cs off v).bind fun cs'=>c { s with lo:=s.lo.set k (some cs') }
 | .v (.sc p)=>asP p fun id off=>(st s.h id off v).bind fun h=>c { s with h:=h }
 | _=>none:=by unfold storeAt;split<;>simp only [putK_eq,UO,Tr.setT_eq]
theorem xc {S:Type} (c:List Sc→Option S) (s:St) (a:SV) (n z:Nat):firstA s a n z c=match a with
 | .s k _=>(s.lo.get k).bind fun b=>b.bind fun cs=>(cut cs 0 (n*z)).bind c
 | .v (.sc x)=>(match n with
  | 0=>guardB (isSl x) (c [])
  | n+1=>asS x fun id off _=>(ldN s.h id off ((n+1)*z)).bind c)
 | _=>none:=by
 unfold firstA
 cases a with
 | s k m=>simp only [TW]
 | v x=>
  cases x with
  | sc x=>cases n with
   | zero=>rfl
   | succ n=>simp only [ldNK_eq]
  | agg l=>rfl
 | _=>rfl
theorem xu (s:St) (a:SV) (n:Nat) (f:List Sc→Option R):(loadAt s a n f).bind c=loadAt s a n fun x=>(f x).bind c:=by
 rw [wO,wO]
 split<;>simp [wD,Option.bind_assoc]
theorem xG (s:St) (a:SV) (f:Sc→Option R):(load1 s a f).bind c=load1 s a fun x=>(f x).bind c:=by
 unfold load1
 split<;>simp [wD,Option.bind_assoc]
theorem xi (s:St) (a:SV) (v:List Sc) (f:St→Option R):(storeAt s a v f).bind c=storeAt s a v fun x=>(f x).bind c:=by
 rw [yw,yw]
 split<;>simp [wD,Option.bind_assoc]
theorem ZI (a:SV) (n:Nat) (f:SV→Option R):(addAt a n f).bind c=addAt a n fun x=>(f x).bind c:=by
 unfold addAt
 split<;>simp [wD]
theorem QV (i:AV) (n:Nat) (f:Nat→Option R):(idxI i n f).bind c=idxI i n fun x=>(f x).bind c:=by
 unfold idxI
 split<;>simp [zC]
theorem boundI_bind (s:St) (x:Option Operand) (d:Nat) (f:Nat→Option R):(boundI s x d f).bind c=boundI s x d fun x=>(f x).bind c:=by
 unfold boundI
 split
 ·rfl
 ·rw [Option.bind_assoc];congr;funext v;split<;>simp [zC]
theorem VW (s:St) (e:TypeId) (z:Nat) (x:Sc) (lo hi mx:Option Operand) (f:Sc→Option R):(sliceS s e z x lo hi mx f).bind c=sliceS s e z x lo hi mx fun x=>(f x).bind c:=by
 simp [sliceS,boundI_bind,zC]
theorem WG (h:AH) (e:TypeId) (z:Nat) (x:Sc) (new:List Sc) (n:Nat) (f:Sc→AH→Option R):(appendS h e z x new n f).bind c=appendS h e z x new n fun x y=>(f x y).bind c:=by
 unfold appendS
 split
 ·simp [zC]
 ·split
  ·simp [zC]
  ·rw [Option.bind_assoc];congr;funext o;split<;>simp [zC]
  ·rfl
theorem Yv (s:St) (a:SV) (n z:Nat) (f:List Sc→Option R):(firstA s a n z f).bind c=firstA s a n z fun x=>(f x).bind c:=by
 rw [xc,xc]
 split
 ·simp [Option.bind_assoc]
 ·split<;>simp [zC,Wk,Option.bind_assoc]
 ·rfl
theorem Yn (a:SV) (f:Nat→Option R):(lenA a f).bind c=lenA a fun x=>(f x).bind c:=by
 unfold lenA
 split<;>simp [zC]
theorem wM (A:FAn) (ev:Ev) (f:Fn) (as:List AV) (h:AH) (g:List AV→AH→Option R):(callK A ev f as h g).bind c=callK A ev f as h fun x y=>(g x y).bind c:=by
 unfold callK
 split
 ·rename_i n
  cases hn:A.orc n as<;>simp [wG,zC,Option.bind_assoc]
 ·simp [zC,Option.bind_assoc]
 ·rfl
theorem YY (A:FAn) (x:Operand) (v:SV) (f:Sc→Option R):(ontoK A x v f).bind c=ontoK A x v fun y=>(f y).bind c:=by
 unfold ontoK
 split
 ·cases A.loc.contains _<;>simp only [cond_true,cond_false]
  ·simp [Option.bind_assoc,xf]
  ·split<;>simp [zC]
 ·simp [Option.bind_assoc,xf]
theorem builtinK_bind (P:Program) (A:FAn) (b:Builtin) (ts:List TypeId) (args:List Operand) (s:St) (f:SV→St→Option R):(builtinK P A b ts args s f).bind c=builtinK P A b ts args s fun x y=>(f x y).bind c:=by
 unfold builtinK
 split
 ·split<;>simp [Option.bind_assoc,Yn]
 ·simp [Option.bind_assoc]
 ·simp [Option.bind_assoc]
 ·simp [Option.bind_assoc,zC,YY,Yn,Yv,WG]
 ·simp [Option.bind_assoc,zC,xf,Yn,Yv,wG,Wk,UO]
 ·rfl
theorem setK_eq {S:Type} (s:St) (d:Option Tmp) (v:SV) (c:St→Option S):setK s d v c=c (setSl s d v):=by
 cases d with
 | none=>rfl
 | some d=>simp only [setK,Tr.setT_eq,setSl]
theorem newLocalK_eq {S:Type} (s:St) (d:Tmp) (a:SV) (cs:List Sc) (c:St→Option S):newLocalK s d a cs c=c (newLocal s d a cs):=by
 simp only [newLocalK,Tr.setT_eq,newLocal]
theorem evOp_bind (P:Program) (A:FAn) (ev:Ev) (o:Oper) (s:St) (f:St→Option R):(evOp P A ev o s f).bind c=evOp P A ev o s fun x=>(f x).bind c:=by
 unfold evOp
 simp only [setK_eq,newLocalK_eq]
 split
 case h_10=>rw [Option.bind_assoc];congr;funext v;split<;>simp [wD]
 case h_13=>rw [Option.bind_assoc];congr;funext v;split<;>simp
 case h_15=>
  simp only [Option.bind_assoc]
  congr;funext a;congr;funext b;congr;funext d;congr;funext g;split<;>simp [zC]
 case h_16=>split<;>simp [Option.bind_assoc,xf,wD,VW,zC]
 case h_17=>split<;>simp [Option.bind_assoc,zC,ZI]
 case h_18=>split<;>simp [Option.bind_assoc,xf,Wk,QV,ZI,zC]
 case h_19=>rw [Option.bind_assoc];congr;funext v;split<;>simp [Option.bind_assoc]
 case h_22=>simp only [Option.bind_assoc];congr;funext a;congr;funext b;split<;>simp [zC,Option.bind_assoc]
 all_goals simp [Option.bind_assoc,xf,asB_bind,pickB_bind,zC,wG,xu,xG,xl,wn,xi,builtinK_bind,Uj,wM,wh]
end
theorem evOp_some {R:Type} {P:Program} {A:FAn} {ev:Ev} {o:Oper} {s:St} {c:St→Option R} {r:R} (h:evOp P A ev o s c=some r):∃ s',evOp P A ev o s some=some s'∧c s'=some r:=by
 have:=evOp_bind c P A ev o s some
 simp only [Option.bind_some] at this
 rw [← this] at h
 exact oB h
end Go.AM
namespace Go.AM
open Go.RowKit
section
variable {R : Type} {r : R}
theorem asSc_some {v:AV} {c:Sc→Option R}:asSc v c=some r↔∃ s,v=.sc s∧c s=some r:=by cases v<;>simp [asSc]
theorem asAgg_some {v:AV} {c:List Sc→Option R}:asAgg v c=some r↔∃ s,v=.agg s∧c s=some r:=by cases v<;>simp [asAgg]
theorem asB_some {v:Sc} {c:Bool→Option R}:asB v c=some r↔∃ b,v=.bool b∧c b=some r:=by cases v<;>simp [asB]
theorem asI_some {k:IntKind} {v:Sc} {c:Int→Option R}:asI k v c=some r↔∃ n,v=.int k n∧c n=some r:=by
 constructor
 ·intro h
  cases v with
  | int k' n=>simp only [asI] at h;split at h<;>simp_all
  | _=>simp [asI] at h
 ·rintro ⟨n,rfl,h⟩;simp [asI,h]
theorem asC_some {α:Type} {l:List α} {c:α→List α→Option R}:asC l c=some r↔∃ x xs,l=x::xs∧c x xs=some r:=by
 constructor
 ·intro h
  cases l with
  | nil=>simp [asC] at h
  | cons x xs=>exact ⟨x,xs,rfl,h⟩
 ·rintro ⟨x,xs,rfl,h⟩;exact h
theorem asN_some {α:Type} {l:List α} {c:Option R}:asN l c=some r↔l=[]∧c=some r:=by cases l<;>simp [asN]
theorem asS_some {v:Sc} {c:Nat→Nat→Nat→Option R}:asS v c=some r↔∃ i o n,v=.sl i o n∧c i o n=some r:=by
 constructor
 ·intro h
  cases v with
  | sl i o n=>exact ⟨i,o,n,rfl,h⟩
  | _=>simp [asS] at h
 ·rintro ⟨i,o,n,rfl,h⟩;exact h
theorem asP_some {v:Sc} {c:Nat→Nat→Option R}:asP v c=some r↔∃ i o,v=.ptr i o∧c i o=some r:=by
 constructor
 ·intro h
  cases v with
  | ptr i o=>exact ⟨i,o,rfl,h⟩
  | _=>simp [asP] at h
 ·rintro ⟨i,o,rfl,h⟩;exact h
theorem asF_some {v:Sc} {c:Fn→Nat→List (Option Nat)→List Sc→Option R}:asF v c=some r↔∃ f n sh l,v=.fn f n sh l∧c f n sh l=some r:=by
 constructor
 ·intro h
  cases v with
  | fn f n sh l=>exact ⟨f,n,sh,l,rfl,h⟩
  | _=>simp [asF] at h
 ·rintro ⟨f,n,sh,l,rfl,h⟩;exact h
theorem gB {b:Bool} {c:Option R}:guardB b c=some r↔b=true∧c=some r:=by cases b<;>simp [guardB]
theorem ZM {A:FAn} {x:Operand} {v:SV} {f:Sc→Option R} {r:R} (h:ontoK A x v f=some r):(∃ d k,x=.tmp d∧A.loc.contains d=true∧v=.s k 0∧f (.nils true)=some r)∨(∃ y,v=.v (.sc y)∧f y=some r):=by
 have two:∀ {v:SV},(v.val.bind fun v=>asSc v f)=some r→∃ y,v=.v (.sc y)∧f y=some r:=by
  intro v h
  obtain ⟨a,ha,h⟩:=oB h
  obtain ⟨y,rfl,h⟩:=asSc_some.1 h
  cases v<;>simp [SV.val] at ha
  subst ha
  exact ⟨y,rfl,h⟩
 unfold ontoK at h
 split at h
 ·rename_i d
  cases hl:A.loc.contains d<;>rw [hl] at h
  ·exact .inr (two h)
  ·left
   simp only [cond_true] at h
   split at h
   ·rename_i k n
    obtain ⟨h0,h⟩:=gB.1 h
    have e:n=0:=Nat.eq_of_beq_eq_true h0
    subst e
    exact ⟨d,k,rfl,hl,rfl,h⟩
   ·cases h
 ·exact .inr (two h)
theorem cond_some {b:Bool} {x y:Option R}:cond b x y=some r↔(b=true∧x=some r)∨(b=false∧y=some r):=by cases b<;>simp
end
theorem yF {R:Type} {r:R} {l:Leaf} {v:Sc} {c:Sc→Option R} (h:asLeaf l v c=some r):c v=some r:=by
 cases l with
 | int k=>simp only [asLeaf] at h;obtain ⟨n,rfl,h2⟩:=asI_some.1 h;exact h2
 | bool=>simp only [asLeaf] at h;obtain ⟨n,rfl,h2⟩:=asB_some.1 h;exact h2
 | any=>exact h
theorem yz {R:Type} {r:R}:∀ {ls:List Leaf} {l:List Sc} {c:List Sc→Option R},asLeaves ls l c=some r→c l=some r
 | [],l,c,h=>by obtain ⟨rfl,h⟩:=asN_some.1 h;exact h
 | x::xs,l,c,h=>by
  simp only [asLeaves] at h
  obtain ⟨y,ys,rfl,h⟩:=asC_some.1 h
  exact yz (c:=fun z=>c (y::z)) (yF (c:=fun y=>asLeaves xs ys fun z=>c (y::z)) h)
theorem Zm {R:Type} {r:R} {P:Program} {t:TypeId} {v:AV} {c:AV→Option R} (h:typed1 P t v c=some r):c v=some r:=by
 unfold typed1 at h
 rcases cond_some.1 h with ⟨_,h⟩ | ⟨_,h⟩
 ·obtain ⟨l,rfl,h⟩:=asAgg_some.1 h;exact yz (c:=fun ys=>c (.agg ys)) h
 ·obtain ⟨l,rfl,h⟩:=asSc_some.1 h;exact yF (c:=fun ys=>c (.sc ys)) h
theorem ZG {R:Type} {r:R} {P:Program}:∀ {ts:List TypeId} {l:List AV} {c:List AV→Option R},typedAll P ts l c=some r→c l=some r
 | [],l,c,h=>by obtain ⟨rfl,h⟩:=asN_some.1 h;exact h
 | x::xs,l,c,h=>by
  obtain ⟨y,ys,rfl,h⟩:=asC_some.1 h
  exact ZG (c:=fun z=>c (y::z)) (Zm (c:=fun y=>typedAll P xs ys fun z=>c (y::z)) h)
variable {P : Program} {B : Nat} {Ie : List Loc} {he : AH} {we : World} {I : List Loc} {lam : Nat → Nat} {s : St} {a : Act} {w : World}
theorem _root_.Option.bind_some_right' {α:Type} (x:Option α):x.bind some=x:=by cases x<;>rfl
theorem wt {v:Value} {x:Sc} (h:ofConst v=some x):ScRel I x v:=by
 unfold ofConst at h
 split at h<;>first | (cases h;simp [ScRel]) | cases h
theorem xR:∀ {v:List Value} {x:List Sc},ofConsts v=some x→ScRels I x v
 | [],x,h=>by simp [ofConsts] at h;subst h;simp [ScRels]
 | v::vs,x,h=>by
  simp only [ofConsts,Option.bind_eq_some_iff] at h
  obtain ⟨y,hy,ys,hys,h⟩:=h
  cases h
  simp only [ScRels]
  exact ⟨wt hy,xR hys⟩
theorem yg {t:TypeId} {z:List Sc} (h:zeroCells P t=some z):∃ i zv,P.info? t=some i∧i.zero=some zv∧ScRels I z zv.cells.toList:=by
 simp only [zeroCells,Option.bind_eq_some_iff] at h
 obtain ⟨i,hi,zv,hz,h⟩:=h
 exact ⟨i,zv,hi,hz,xR h⟩
theorem zO {t:TypeId} {i:TypeInfo} (h:P.info? t=some i):P.cellsOf t=i.size:=by simp [Program.cellsOf,h]
theorem WZ {t:TypeId} {i:TypeInfo} (h:P.info? t=some i):P.bytesOf t=i.bytes:=by simp [Program.bytesOf,h]
theorem xn {t:TypeId} {d:TypeDesc} (h:P.underlying t=some d):∃ i,P.info? t=some i:=by
 unfold Program.underlying at h
 cases hi:P.info? t with
 | none=>simp [hi] at h
 | some i=>exact ⟨i,rfl⟩
theorem zL (r:Rel P B Ie he we I lam s a w) {x:Operand} {sv:SV} (h:evA s x=some sv):SVRel I lam sv (a.eval x):=by
 cases x with
 | tmp t=>
  obtain ⟨v,hv,hr⟩:=r.tm t sv h
  simp only [Act.eval,Array.getD_eq_getD_getElem?,hv];exact hr
 | const v=>
  simp only [evA,Option.bind_eq_some_iff] at h
  obtain ⟨y,hy,h⟩:=h
  cases h
  exact wt hy
 | global g=>simp [evA] at h
 | func f=>
  simp only [evA] at h;cases h
  simp only [SVRel,AVRel,ScRel]
  exact ⟨#[],#[],rfl,rfl,rfl,trivial,by simp [ScRels]⟩
theorem zK (r:Rel P B Ie he we I lam s a w) {x:Operand} {v:AV} (h:evV s x=some v):AVRel I v (a.eval x):=by
 simp only [evV,Option.bind_eq_some_iff] at h
 obtain ⟨sv,h1,h2⟩:=h
 have:=zL r h1
 cases sv<;>simp [SV.val] at h2
 subst h2;exact this
theorem yI (r:Rel P B Ie he we I lam s a w):∀ {xs:List Operand} {vs:List AV},evVs s xs=some vs→AVRels I vs (xs.map a.eval)
 | [],vs,h=>by simp [evVs] at h;subst h;simp [AVRels]
 | x::xs,vs,h=>by
  simp only [evVs,Option.bind_eq_some_iff] at h
  obtain ⟨v,h1,vs',h2,h⟩:=h
  cases h
  exact ⟨zK r h1,yI r h2⟩
theorem yV (r:Rel P B Ie he we I lam s a w) {x:Operand} {v:Sc} (h:evV s x=some (.sc v)):ScRel I v (a.eval x):=zK r h
theorem xt {g o:Nat} {arr:Array Value} {e:TypeId} {fr:Nat×Nat} (hg:w.heap[g]?=some (.cells arr e fr)):w.cell? ⟨g,o,none⟩=arr[o]?:=by
 simp [World.cell?,hg]
theorem obj_cell {L:Loc} {o:AO} {cs:List Sc} (hr:ORel P B I L w o) (hc:yr o=some cs) {j:Nat} {c:Sc} (hj:cs[j]?=some c) :
  ∃ v,w.cell? ⟨L.b,L.o+j,none⟩=some v∧ScRel I c v:=by
 cases o with
 | row own e c0=>
  simp [yr] at hc;subst hc
  cases own with
  | false=>exact hr.2.2 j c hj
  | true=>
   obtain ⟨_,_,arr,h2,_,_,h5⟩:=hr
   obtain ⟨v,hv,hs⟩:=h5 j c hj
   exact ⟨v,(xt h2).trans hv,hs⟩
 | box e c0=>
  simp [yr] at hc;subst hc
  obtain ⟨_,_,h1,arr,h2,h3⟩:=hr
  obtain ⟨v,hv,hs⟩:=h3.get hj
  exact ⟨v,by rw [h1,Nat.zero_add];exact (xt h2).trans (by simpa using hv),hs⟩
 | dead=>simp [yr] at hc
 | loop l=>simp [yr] at hc
theorem Uo {c l:List Sc} {off n:Nat} (h:cut c off n=some l):off+n≤c.length∧l=(c.drop off).take n:=by
 unfold cut at h
 obtain ⟨h1,h2⟩:=gB.1 h
 exact ⟨of_decide_eq_true h1,(Option.some.inj h2).symm⟩
theorem UA {ad:Addr} {l:List Sc} (h:∀ (j:Nat) c,l[j]?=some c→∃ v,w.cell? (ad.add j)=some v∧ScRel I c v) :
  ∃ vs:List Value,(loadCells ad l.length).run P w=.ok vs.toArray w∧ScRels I l vs:=by
 let f:Nat→Value:=fun j=>(w.cell? (ad.add j)).getD undef
 have hf:∀ j,j < l.length→w.cell? (ad.add j)=some (f j):=by
  intro j hj
  obtain ⟨v,hv,_⟩:=h j l[j] (List.getElem?_eq_getElem hj)
  simp only [f,hv,Option.getD_some]
 refine ⟨(List.range l.length).map f,run_loadCells w ad l.length f hf,ScRels.of_get (by simp) fun i x y hx hy=>?_⟩
 obtain ⟨v,hv,hr⟩:=h i x hx
 have hi:=(List.getElem?_eq_some_iff.1 hx).1
 simp only [List.getElem?_map,List.getElem?_range hi,Option.map_some] at hy
 cases hy
 simp only [f,hv,Option.getD_some];exact hr
theorem Zg (b o n:Nat):Addr.add ⟨b,o,none⟩ n=⟨b,o+n,none⟩:=Addr.add_lit b o n
theorem Wq (r:Rel P B Ie he we I lam s a w) {sv:SV} {v:Value} (hv:SVRel I lam sv v) {n:Nat} {l:List Sc} (h:loadAt s sv n some=some l) :
  ∃ b o,v=.pointer (some ⟨b,o,none⟩)∧l.length=n∧∀ (j:Nat) c,l[j]?=some c→∃ x,w.cell? ⟨b,o+j,none⟩=some x∧ScRel I c x:=by
 rw [wO] at h
 split at h
 ·rename_i k off
  simp only [Option.bind_eq_some_iff] at h
  obtain ⟨b,hb,cs,rfl,l',hl,h⟩:=h
  cases h
  obtain ⟨hle,rfl⟩:=Uo hl
  obtain ⟨_,⟨arr,e,hg,hc⟩,_⟩:=r.lo.cells k cs hb
  refine ⟨lam k,off,hv,by simp;omega,fun j c hj=>?_⟩
  rw [List.getElem?_take] at hj
  split at hj
  ·rw [List.getElem?_drop] at hj
   obtain ⟨x,hx,hs⟩:=hc.get hj
   exact ⟨x,(xt hg).trans (by simpa using hx),hs⟩
  ·cases hj
 ·rename_i p
  replace h:=asP_some.1 h
  obtain ⟨id,off,rfl,h⟩:=h
  rw [Option.bind_some_right'] at h
  simp only [ldN,Option.bind_eq_some_iff] at h
  obtain ⟨o,ho,cs,hc,hl⟩:=h
  obtain ⟨hle,rfl⟩:=Uo hl
  obtain ⟨L,hL,rfl⟩:=hv
  refine ⟨L.b,L.o+off,rfl,by simp;omega,fun j c hj=>?_⟩
  rw [List.getElem?_take] at hj
  split at hj
  ·rw [List.getElem?_drop] at hj
   obtain ⟨x,hx,hs⟩:=obj_cell (r.hp.obj id o L ho hL) hc hj
   exact ⟨x,by rw [Nat.add_assoc];exact hx,hs⟩
  ·cases hj
 ·cases h
theorem QP (r:Rel P B Ie he we I lam s a w) {sv:SV} {v:Value} (hv:SVRel I lam sv v) {c:Sc} (h:load1 s sv some=some c) :
  ∃ b o x,v=.pointer (some ⟨b,o,none⟩)∧w.cell? ⟨b,o,none⟩=some x∧ScRel I c x:=by
 unfold load1 at h
 split at h
 ·rename_i k off
  simp only [Option.bind_eq_some_iff] at h
  obtain ⟨b,hb,cs,rfl,c',hc',h⟩:=h
  cases h
  obtain ⟨_,⟨arr,e,hg,hc⟩,_⟩:=r.lo.cells k cs hb
  obtain ⟨x,hx,hs⟩:=hc.get hc'
  exact ⟨lam k,off,x,hv,(xt hg).trans (by simpa using hx),hs⟩
 ·rename_i p
  replace h:=asP_some.1 h
  obtain ⟨id,off,rfl,h⟩:=h
  rw [Option.bind_some_right'] at h
  simp only [ld1,Option.bind_eq_some_iff] at h
  obtain ⟨o,ho,cs,hc,hl⟩:=h
  obtain ⟨L,hL,rfl⟩:=hv
  obtain ⟨x,hx,hs⟩:=obj_cell (r.hp.obj id o L ho hL) hc hl
  exact ⟨L.b,L.o+off,x,rfl,hx,hs⟩
 ·cases h
theorem yy {R:Type} {sv:SV} {n:Nat} {c:List Sc→Option R} {r:R} (h:loadAt s sv n c=some r):∃ l,loadAt s sv n some=some l∧c l=some r:=by
 have:=xu c s sv n some
 simp only [Option.bind_some] at this
 rw [← this] at h
 exact oB h
theorem yL {R:Type} {sv:SV} {c:Sc→Option R} {r:R} (h:load1 s sv c=some r):∃ l,load1 s sv some=some l∧c l=some r:=by
 have:=xG c s sv some
 simp only [Option.bind_some] at this
 rw [← this] at h
 exact oB h
theorem wF {t:TypeId} {d:TypeDesc} (h:P.underlying t=some d):(isAgg t).run P w=.ok (yK P t) w:=by
 simp only [isAgg,Sem.run_bind,run_underlying h,Result.andThen_ok,yK,h]
 cases d<;>rfl
theorem yo {t:TypeId} {i:TypeInfo} (h:P.info? t=some i):(sizeOf t).run P w=.ok i.size w:=by
 simp [sizeOf,typeInfo,h]
variable {P : Program} {B : Nat} {Ie : List Loc} {he : AH} {we : World} {I : List Loc} {lam : Nat → Nat} {s : St} {a : Act} {w : World}
theorem xp {α:Type} {c v:List α} {off:Nat} (h:off+v.length≤c.length) (j:Nat) :
  (splice c off v)[j]?=if j < off then c[j]? else if j < off+v.length then v[j - off]? else c[j]?:=by
 unfold splice
 by_cases h1:j < off
 ·rw [if_pos h1,List.append_assoc,List.getElem?_append_left (by simp;omega),List.getElem?_take,if_pos h1]
 ·rw [if_neg h1]
  by_cases h2:j < off+v.length
  ·rw [if_pos h2,List.append_assoc,List.getElem?_append_right (by simp;omega),List.getElem?_append_left (by simp;omega)]
   simp [Nat.min_eq_left (show off≤c.length by omega)]
  ·rw [if_neg h2,List.getElem?_append_right (by simp;omega),List.getElem?_drop]
   congr 1;simp;omega
theorem xb {α:Type} {c v:List α} {off:Nat} (h:off+v.length≤c.length):(splice c off v).length=c.length:=by
 simp [splice];omega
theorem ScRels.splice {I:List Loc} {c v:List Sc} {cs vs:List Value} (off:Nat) (h:ScRels I c cs) (k:ScRels I v vs):ScRels I (splice c off v) (AM.splice cs off vs):=by
 unfold AM.splice
 rw [k.length]
 exact ((h.take off).append k).append (h.drop _)
theorem ScRel.one {x:Sc} {v:Value} (h:ScRel I x v):v.oneCell'=true:=by
 cases x<;>simp only [ScRel] at h
 case ptr=>obtain ⟨L,_,rfl⟩:=h;rfl
 case sl=>obtain ⟨L,c,a,_,rfl,_⟩:=h;rfl
 case fn=>obtain ⟨f,c,rfl,_⟩:=h;rfl
 case nils=>obtain ⟨a,rfl,_⟩:=h;rfl
 all_goals subst h;rfl
theorem ScRels.ones:∀ {x:List Sc} {v:List Value},ScRels I x v→∀ u∈v,u.oneCell'=true
 | [],[],_,u,h=>by cases h
 | x::xs,v::vs,h,u,hu=>by
  simp only [ScRels] at h
  rcases List.mem_cons.1 hu with rfl | hu
  ·exact h.1.one
  ·exact ScRels.ones h.2 u hu
 | [],_::_,h,_,_=>by simp [ScRels] at h
 | _::_,[],h,_,_=>by simp [ScRels] at h
theorem wE {c v l:List Sc} {off:Nat} (h:put c off v=some l):off+v.length≤c.length∧l=splice c off v:=by
 unfold put at h
 obtain ⟨h1,h2⟩:=gB.1 h
 exact ⟨of_decide_eq_true h1,(Option.some.inj h2).symm⟩
theorem row_splice {cs v:List Sc} {vs:List Value} {off o:Nat} {arr:Array Value} (hle:off+v.length≤cs.length) (hin:o+cs.length≤arr.size)
  (h:∀ (j:Nat) c,cs[j]?=some c→∃ x,arr[o+j]?=some x∧ScRel I c x) (hv:ScRels I v vs) :
  ∀ (j:Nat) c,(splice cs off v)[j]?=some c→∃ x,(splice arr.toList (o+off) vs).toArray[o+j]?=some x∧ScRel I c x:=by
 intro j c hj
 have hl:=hv.length
 have h2:(o+off)+vs.length≤arr.toList.length:=by simp;omega
 rw [xp hle] at hj
 rw [List.getElem?_toArray,xp h2]
 by_cases h1:j < off
 ·rw [if_pos h1] at hj
  rw [if_pos (by omega)]
  obtain ⟨x,hx,hr⟩:=h j c hj
  exact ⟨x,by simpa using hx,hr⟩
 ·rw [if_neg h1] at hj
  rw [if_neg (by omega)]
  by_cases h3:j < off+v.length
  ·rw [if_pos h3] at hj
   rw [if_pos (by omega)]
   obtain ⟨x,hx,hr⟩:=hv.get hj
   exact ⟨x,by rw [show o+j - (o+off)=j - off by omega];exact hx,hr⟩
  ·rw [if_neg h3] at hj
   rw [if_neg (by omega)]
   obtain ⟨x,hx,hr⟩:=h j c hj
   exact ⟨x,by simpa using hx,hr⟩
theorem st_some {h h':AH} {id off:Nat} {v:List Sc} (hs:st h id off v=some h') :
  ∃ (o o':AO) (cs:List Sc),h[id]?=some o∧yr o=some cs∧o.own=true∧o'.own=true∧off+v.length≤cs.length∧h'=h.set id o'∧
   ((∃ e,o=.row true e cs∧o'=.row true e (splice cs off v))∨(∃ e,o=.box e cs∧o'=.box e (splice cs off v))):=by
 simp only [st,Option.bind_eq_some_iff] at hs
 obtain ⟨o,ho,hs⟩:=hs
 split at hs
 ·rename_i e cs
  simp only [Option.bind_eq_some_iff] at hs
  obtain ⟨c',hc',hs⟩:=hs
  obtain ⟨hle,rfl⟩:=wE hc'
  exact ⟨_,.row true e (splice cs off v),cs,ho,rfl,rfl,rfl,hle,(Option.some.inj hs).symm,.inl ⟨e,rfl,rfl⟩⟩
 ·rename_i e cs
  simp only [Option.bind_eq_some_iff] at hs
  obtain ⟨c',hc',hs⟩:=hs
  obtain ⟨hle,rfl⟩:=wE hc'
  exact ⟨_,.box e (splice cs off v),cs,ho,rfl,rfl,rfl,hle,(Option.some.inj hs).symm,.inr ⟨e,rfl,rfl⟩⟩
 ·cases hs
theorem QI (r:Rel P B Ie he we I lam s a w) {id off:Nat} {v:List Sc} {vs:List Value} {h':AH} (hs:st s.h id off v=some h') (hv:ScRels I v vs) {L:Loc} (hL:I[id]?=some L) :
  ∃ w',(storeCells ⟨L.b,L.o+off,none⟩ vs).run P w=.ok () w'∧Rel P B Ie he we I lam { s with h:=h' } a w':=by
 obtain ⟨o,o',cs,ho,hc,hown,hown',hle,rfl,hcase⟩:=st_some hs
 have hr:=r.hp.obj id o L ho hL
 have hl:=hv.length
 rcases hcase with ⟨e,rfl,rfl⟩ | ⟨e,rfl,rfl⟩
 ·obtain ⟨h0,h1,arr,h2,h3,h4,h5⟩:=hr
  refine ⟨_,run_storeCells_at P L.b (L.o+off) e vs 0 arr w h2 (by omega) hv.ones,r.setOwn ho hL hown hown' ?_⟩
  have hsp:(arr.toList.take (L.o+off+0)++vs++arr.toList.drop (L.o+off+0+vs.length)).toArray=(splice arr.toList (L.o+off) vs).toArray:=rfl
  refine ⟨h0,h1,_,setRow_heap w _ arr _ e (0,0) h2,?_,by rw [xb hle];exact h4,?_⟩
  ·rw [hsp];simp [xb (c:=arr.toList) (v:=vs) (off:=L.o+off) (by simp;omega)];exact h3
  ·rw [hsp];exact row_splice hle (by omega) h5 hv
 ·obtain ⟨h0,h1,h2,arr,h3,h4⟩:=hr
  have h4l:=h4.length
  refine ⟨_,run_storeCells_at P L.b (L.o+off) e vs 0 arr w h3 (by simp at h4l;omega) hv.ones,r.setOwn ho hL hown hown' ?_⟩
  refine ⟨h0,h1,h2,_,setRow_heap w _ arr _ e (0,0) h3,?_⟩
  rw [h2,Nat.zero_add]
  exact h4.splice off hv
theorem store_at (r:Rel P B Ie he we I lam s a w) {sv:SV} {pv:Value} (hp:SVRel I lam sv pv) {v:List Sc} {vs:List Value} (hv:ScRels I v vs) {s':St} (h:storeAt s sv v some=some s') :
  ∃ b o w',pv=.pointer (some ⟨b,o,none⟩)∧(storeCells ⟨b,o,none⟩ vs).run P w=.ok () w'∧Rel P B Ie he we I lam s' a w':=by
 rw [yw] at h
 split at h
 ·rename_i k off
  simp only [Option.bind_eq_some_iff] at h
  obtain ⟨b,hb,cs,rfl,cs',hcs,h⟩:=h
  cases h
  obtain ⟨hle,rfl⟩:=wE hcs
  obtain ⟨_,⟨arr,e,hg,hc⟩,_⟩:=r.lo.cells k cs hb
  have hl:=hv.length
  have hcl:=hc.length
  refine ⟨lam k,off,_,hp,run_storeCells_at P (lam k) off e vs 0 arr w hg (by simp at hcl;omega) hv.ones,r.setLocal hb (hc.splice off hv)⟩
 ·rename_i p
  replace h:=asP_some.1 h
  obtain ⟨id,off,rfl,h⟩:=h
  simp only [Option.bind_eq_some_iff] at h
  obtain ⟨h',hh,h⟩:=h
  cases h
  obtain ⟨L,hL,rfl⟩:=hp
  obtain ⟨w',hw,r'⟩:=QI r hh hv hL
  exact ⟨L.b,L.o+off,w',rfl,hw,r'⟩
 ·cases h
theorem yY {R:Type} {sv:SV} {v:List Sc} {c:St→Option R} {r:R} (h:storeAt s sv v c=some r):∃ s',storeAt s sv v some=some s'∧c s'=some r:=by
 have:=xi c s sv v some
 simp only [Option.bind_some] at this
 rw [← this] at h
 exact oB h
end Go.AM
