/- Regions that draw their order: two operations exchanged; hence any order. -/
import Derived.Test.YtpfphfobneehmaaB5
set_option linter.all false
namespace Go.AM
open Go.RowKit
section
variable {P : Program} {A : FAn} {ev : Ev} {ops : Array Oper}
def Up:Cl->Cl->Bool
 | .loc,_=>false
 | _,.loc=>false
 | .mem,.mem=>false
 | .mem,.read=>false
 | .read,.mem=>false
 | _,_=>true
def UD (o:Oper):Bool:=match o.op with | .extract _ _=>true | _=>false
def wR (o:Oper):Bool:=match o.op with | .store _ _ _=>true | _=>false
def UE (A:FAn) (o:Oper):Bool:=match o.op with | .store _ (.tmp d) _=>A.hst.contains d | _=>false
def Yf (o:Oper):Bool:=match o.op with | .load _ _=>true | .slice _ _ _ _ _=>true | _=>false
def ZM (A:FAn) (o:Oper):Bool:=match o.op with | .call { callee:=.builtin .append,args,.. }=>(match args.toList with | .tmp d::_=>A.loc.contains d | _=>false) | _=>false
def isPure:Cl->Bool
 | .pure=>true
 | _=>false
def YP (A:FAn) (o:Oper):Bool:=match o.op with
 | .call { callee:=.value (.func n),.. }=>A.gr.contains n&&!(A.iso.contains n)
 | _=>false
def WB (A:FAn) (ops:Array Oper) (x y:Oper):Bool:=(Up (zb A x) (zb A y)||(UD x&&wR y)||(isPure (zb A x)&&UE A y)||(Yf x&&(ZM A y||YP A y))||xU (zJ A x) (zJ A y))&&x.apart ops y
theorem yA {s:St} {d:Option Tmp} {x:SV} {o:Oper} (hc:zb A o≠.loc) (h:∀ t,d=some t->t ∉ o.looksAt ops) (hd:∀ t,d=some t->o.dst≠some t) (hk:zb A o=.new->∀ d',o.dst=some d'->killL d' x=x) :
  za P A ev ops o (setSl s d x)=(za P A ev ops o s).map fun s'=>setSl s' d x:=by
 have hop:evOp P A ev o (setSl s d x) some=(evOp P A ev o s some).map fun s'=>setSl s' d x:=by
  rw [evOp_set hc (fun y hy t ht hyt=>h t ht (by
   subst hyt
   exact List.mem_append_left _ (List.mem_filterMap.2 ⟨.tmp t,by simpa using hy,rfl⟩))) hd hk,Yj]
  cases evOp P A ev o s some<;>rfl
 unfold za
 cases hg:o.guard with
 | none=>exact hop
 | some p=>
  obtain ⟨j,w⟩:=p
  simp only
  cases hj:(ops[j]?).bind (·.dst) with
  | none=>rfl
  | some g=>
   have hne:∀ t,d=some t->t≠g:=fun t ht he=>h t ht (by subst he;simp [Oper.looksAt,hg,hj])
   have hs:(setSl s d x).sl.get g=s.sl.get g:=by
    cases d with
    | none=>rfl
    | some t=>simp [setSl,Tr.get_set_ne _ (hne t rfl)]
   simp only [Option.bind_some,hs]
   cases hv:s.sl.get g with
   | none=>rfl
   | some v=>
    simp only [Option.bind_some]
    split
    ·split
     ·exact hop
     ·simp only [Option.map_some];rw [zC hd]
    ·simp only [Option.map_some];rw [zC hd]
    ·rfl
theorem wB {s:St} {h:AH} {o:Oper} (hc:zb A o=.pure\/zb A o=.new):za P A ev ops o { s with h:=h }=(za P A ev ops o s).map fun s'=>{ s' with h:=h }:=by
 have hop:evOp P A ev o { s with h:=h } some=(evOp P A ev o s some).map fun s'=>{ s' with h:=h }:=by
  rw [evOp_heap hc,Yj]
  cases evOp P A ev o s some<;>rfl
 unfold za
 cases hg:o.guard with
 | none=>exact hop
 | some p=>
  obtain ⟨j,w⟩:=p
  simp only
  cases hj:(ops[j]?).bind (·.dst) with
  | none=>rfl
  | some g=>
   simp only [Option.bind_some]
   cases hv:s.sl.get g with
   | none=>rfl
   | some v=>
    simp only [Option.bind_some]
    split
    ·split
     ·exact hop
     ·simp only [Option.map_some,zA]
    ·simp only [Option.map_some,zA]
    ·rfl
theorem evOne_putLo {s:St} {k:Nat} {cl:Option (List Sc)} {o:Oper} (hf:yj k s) (hc:zb A o≠.loc) (hd:o.dst≠some k):za P A ev ops o (zy s k cl)=(za P A ev ops o s).map fun s'=>zy s' k cl:=by
 have hop:evOp P A ev o (zy s k cl) some=(evOp P A ev o s some).map fun s'=>zy s' k cl:=by
  rw [evOp_putLo hf hc hd,Yj]
  cases evOp P A ev o s some<;>rfl
 unfold za
 cases hg:o.guard with
 | none=>exact hop
 | some p=>
  obtain ⟨j,w⟩:=p
  simp only
  cases hj:(ops[j]?).bind (·.dst) with
  | none=>rfl
  | some g=>
   simp only [Option.bind_some,putLo_sl]
   cases hv:s.sl.get g with
   | none=>rfl
   | some v=>
    simp only [Option.bind_some]
    split
    ·split
     ·exact hop
     ·simp only [Option.map_some,zk]
    ·simp only [Option.map_some,zk]
    ·rfl
theorem yb {s s':St} {o:Oper} (hc:zb A o≠.loc) (hw:zb A o≠.new) (h:za P A ev ops o s=some s'):ZF o s (decide (zb A o=.pure\/zb A o=.read)) s':=by
 have skip:some (setSl s o.dst .no)=some s'->ZF o s (decide (zb A o=.pure\/zb A o=.read)) s':=fun h=>zt h
 unfold za at h
 split at h
 ·exact Qd hc hw h
 ·obtain ⟨d,_,h⟩:=oB h
  obtain ⟨g,_,h⟩:=oB h
  split at h
  ·split at h
   ·exact Qd hc hw h
   ·exact skip h
  ·exact skip h
  ·cases h
theorem ZQ {s s':St} {o:Oper} (hc:zb A o=.new) (h:za P A ev ops o s=some s') :
  ∃ d,o.dst=some d/\((∃ a z,s'=newLocal s d a z/\∀ k,k≠d->isRef k a=false/\killL k a=a)\/s'=setSl s (some d) .no):=by
 have hd:∃ d,o.dst=some d:=by
  cases hd:o.dst with
  | some d=>exact ⟨d,rfl⟩
  | none=>
   exfalso
   unfold zb at hc
   simp only [hd] at hc
   split at hc<;>first | cases hc | (split at hc<;>cases hc) | (rename_i d _;cases hl:A.loc.contains d<;>rw [hl] at hc<;>cases hc)
 obtain ⟨d,hd⟩:=hd
 have take:evOp P A ev o s some=some s'->∃ d,o.dst=some d/\((∃ a z,s'=newLocal s d a z/\∀ k,k≠d->isRef k a=false/\killL k a=a)\/s'=setSl s (some d) .no):=by
  intro h
  obtain ⟨d,a,z,h1,h2,h3⟩:=evOp_new hc h
  exact ⟨d,h1,.inl ⟨a,z,h2,h3⟩⟩
 have skip:some (setSl s o.dst .no)=some s'->∃ d,o.dst=some d/\((∃ a z,s'=newLocal s d a z/\∀ k,k≠d->isRef k a=false/\killL k a=a)\/s'=setSl s (some d) .no):=by
  intro h
  cases h
  exact ⟨d,hd,.inr (by rw [hd])⟩
 unfold za at h
 split at h
 ·exact take h
 ·obtain ⟨d,_,h⟩:=oB h
  obtain ⟨g,_,h⟩:=oB h
  split at h
  ·split at h
   ·exact take h
   ·exact skip h
  ·exact skip h
  ·cases h
theorem We (s:St) {h:AH} (e:h=s.h):({ s with h:=h }:St)=s:=by subst e;rfl
theorem ZS {k:Nat} {s:St} (hf:yj k s) {d:Option Tmp} {v:SV} (hv:isRef k v=false) {h:AH}:yj k (setSl { s with h:=h } d v):=by
 intro i x hx
 cases d with
 | none=>exact hf i x hx
 | some d=>
  simp only [setSl] at hx
  by_cases e:d=i
  ·subst e
   rw [Tr.get_set_self] at hx
   obtain ⟨_,_,rfl⟩:=oM hx
   exact hv
  ·rw [Tr.get_set_ne _ e] at hx;exact hf i x hx
theorem isRef_kill {k d:Nat} {x:SV} (h:isRef k x=false):isRef k (killL d x)=false:=by
 cases x with
 | l j o=>simp only [killL];cases Nat.beq j d<;>first | rfl | exact h
 | s j n=>simp only [killL];cases Nat.beq j d<;>first | rfl | exact h
 | _=>exact h
theorem WV {k:Nat} {x:SV} (h:isRef k x=false):killL k x=x:=by
 cases x with
 | l j o=>have h':Nat.beq j k=false:=h;simp only [killL,h']<;>rfl
 | s j n=>have h':Nat.beq j k=false:=h;simp only [killL,h']<;>rfl
 | _=>rfl
theorem TG {k:Nat} {s:St} (hf:yj k s) {a:SV} {z:List Sc}:newLocal s k a z=zy (setSl s (some k) a) k (some z):=by
 simp only [newLocal,zy,setSl,Tr.map_id' (fun i v hv=>WV (hf i v hv))]
theorem fresh_one {k:Nat} {s s':St} {o:Oper} (hf:yj k s) (hc:zb A o≠.loc) (hd:o.dst≠some k) (h:za P A ev ops o s=some s'):yj k s':=by
 by_cases hn:zb A o=.new
 ·obtain ⟨d,hdst,hcase⟩:=ZQ hn h
  have hne:k≠d:=fun e=>hd (by rw [hdst,e])
  rcases hcase with ⟨a,z,rfl,ha⟩ | rfl
  ·intro i x hx
   simp only [newLocal] at hx
   by_cases e:d=i
   ·subst e
    rw [Tr.get_set_self] at hx
    obtain ⟨_,_,rfl⟩:=oM hx
    exact (ha k hne).1
   ·rw [Tr.get_set_ne _ e,Tr.get_map] at hx
    obtain ⟨y,hy,rfl⟩:=oM hx
    exact isRef_kill (hf i y hy)
  ·exact ZS (h:=s.h) hf rfl
 ·obtain ⟨⟨v,H,rfl,hv⟩,_⟩:=yb hc hn h
  exact ZS hf (hv k hf)
noncomputable def upd (d:Nat) (a:SV) (oz:Option (List Sc)) (s:St):St:=
 match oz with
 | some z=>setSl (zy s d (some z)) (some d) a
 | none=>setSl s (some d) a
theorem WD {s:St} {d:Nat} {a:SV} {oz:Option (List Sc)} {o:Oper} (hf:yj d s) (hc:zb A o≠.loc) (hb:d ∉ o.looksAt ops) (hd:o.dst≠some d) (hk:zb A o=.new->∀ d',o.dst=some d'->killL d' a=a) :
  za P A ev ops o (upd d a oz s)=(za P A ev ops o s).map (upd d a oz):=by
 have b:∀ t,some d=some t->t ∉ o.looksAt ops:=fun t ht=>by cases ht;exact hb
 have dd:∀ t,some d=some t->o.dst≠some t:=fun t ht=>by cases ht;exact hd
 cases oz with
 | none=>
  show za P A ev ops o (setSl s (some d) a)=_
  rw [yA hc b dd hk];rfl
 | some z=>
  show za P A ev ops o (setSl (zy s d (some z)) (some d) a)=_
  rw [yA hc b dd hk,evOne_putLo hf hc hd]
  cases za P A ev ops o s<;>rfl
theorem YH {s s':St} {o:Oper} (hc:zb A o=.new) (hf:∀ d,o.dst=some d->yj d s) (h:za P A ev ops o s=some s') :
  ∃ d a oz,o.dst=some d/\s'=upd d a oz s/\∀ k,k≠d->isRef k a=false/\killL k a=a:=by
 obtain ⟨d,hd,hcase⟩:=ZQ hc h
 rcases hcase with ⟨a,z,rfl,ha⟩ | rfl
 ·refine ⟨d,a,some z,hd,?_,ha⟩
  rw [TG (hf d hd),<- zk];rfl
 ·exact ⟨d,.no,none,hd,rfl,fun _ _=>⟨rfl,rfl⟩⟩
theorem QO {s:St} {d:Nat} {a:SV} {oz:Option (List Sc)} {e:Option Tmp} {v:SV} {h:AH} (hne:e≠some d):upd d a oz (setSl { s with h:=h } e v)=setSl { upd d a oz s with h:=h } e v:=by
 have c:∀ s':St,setSl (setSl s' e v) (some d) a=setSl (setSl s' (some d) a) e v:=fun s'=>zC (fun t ht=>by rintro ⟨⟩;exact hne ht)
 cases oz with
 | none=>show setSl (setSl _ e v) (some d) a=_;rw [c];rfl
 | some z=>
  show setSl (zy (setSl { s with h:=h } e v) d (some z)) (some d) a=_
  rw [<- zk,c];rfl
theorem upd_comm {s:St} {d d':Nat} {a a':SV} {oz oz':Option (List Sc)} (hne:d≠d'):upd d a oz (upd d' a' oz' s)=upd d' a' oz' (upd d a oz s):=by
 cases oz<;>cases oz'<;>simp only [upd,setSl,zy,Tr.set_comm (Ne.symm hne)]
theorem Tc {s s':St} {sv:SV} {v:List Sc} (h:storeAt s sv v some=some s'):s'.sl=s.sl:=by
 rw [zZ] at h
 split at h
 ·simp only [Option.bind_eq_some_iff] at h
  obtain ⟨_,_,_,_,_,_,h⟩:=h
  cases h;rfl
 ·obtain ⟨_,_,_,h⟩:=asP_some.1 h
  simp only [Option.bind_eq_some_iff] at h
  obtain ⟨_,_,h⟩:=h
  cases h;rfl
 ·cases h
theorem evOne_slots {s:St} {lo:Tr (Option (List Sc))} {h:AH} {o:Oper} (hc:UD o=true):za P A ev ops o { s with lo:=lo,h:=h }=(za P A ev ops o s).map fun s'=>{ s' with lo:=lo,h:=h }:=by
 have hs:∀ (d:Option Tmp) (v:SV),setSl { s with lo:=lo,h:=h } d v={ setSl s d v with lo:=lo,h:=h }:=fun d v=>by cases d<;>rfl
 have hop:evOp P A ev o { s with lo:=lo,h:=h } some=(evOp P A ev o s some).map fun s'=>{ s' with lo:=lo,h:=h }:=by
  unfold UD at hc
  split at hc
  ·rename_i x i ho
   unfold evOp
   rw [ho]
   simp only [setK_eq]
   rw [show evA { s with lo:=lo,h:=h } x=evA s x by cases x<;>rfl]
   cases evA s x with
   | none=>rfl
   | some v=>
    simp only [Option.bind_some]
    split
    ·simp only [hs]
     rename_i vs
     cases h1:vs[i]?<;>rfl
    ·rfl
  ·cases hc
 unfold za
 cases hg:o.guard with
 | none=>exact hop
 | some p=>
  obtain ⟨j,w⟩:=p
  simp only
  cases hj:(ops[j]?).bind (·.dst) with
  | none=>rfl
  | some g=>
   simp only [Option.bind_some]
   cases hv:s.sl.get g with
   | none=>rfl
   | some v=>
    simp only [Option.bind_some]
    split
    ·split
     ·exact hop
     ·simp only [Option.map_some,hs]
    ·simp only [Option.map_some,hs]
    ·rfl
theorem VI {s:St} {d:Option Tmp} {x:SV} {a:SV} {v:List Sc}:storeAt (setSl s d x) a v some=(storeAt s a v some).map fun s'=>setSl s' d x:=by
 rw [zZ,zZ]
 split
 ·simp only [xH]
  cases s.lo.get _ with
  | none=>rfl
  | some b=>
   cases b with
   | none=>rfl
   | some cs=>
    simp only [Option.bind_some]
    cases put cs _ v with
    | none=>rfl
    | some cs'=>cases d<;>rfl
 ·simp only [zf]
  rename_i p
  cases p<;>try rfl
  rename_i id off
  simp only [asP]
  cases st s.h id off v with
  | none=>rfl
  | some h=>cases d<;>rfl
 ·rfl
theorem ZR {s:St} {d:Option Tmp} {x:SV} {o:Oper} (hc:wR o=true) (h:∀ t,d=some t->t ∉ o.looksAt ops) (hd:∀ t,d=some t->o.dst≠some t) :
  za P A ev ops o (setSl s d x)=(za P A ev ops o s).map fun s'=>setSl s' d x:=by
 have hop:evOp P A ev o (setSl s d x) some=(evOp P A ev o s some).map fun s'=>setSl s' d x:=by
  unfold wR at hc
  split at hc
  ·rename_i t a y ho
   have hl:∀ z∈[a,y],∀ u,d=some u->z≠.tmp u:=by
    intro z hz u hu e
    subst e
    refine h u hu (List.mem_append_left _ (List.mem_filterMap.2 ⟨.tmp u,?_,rfl⟩))
    rw [ho];simpa [Op.operands] using hz
   unfold evOp
   rw [ho]
   simp only [setK_eq]
   rw [yy (hl a (by simp)),zw (hl y (by simp))]
   unfold guardB
   cases (P.info? t).isSome with
   | false=>rfl
   | true=>
    simp only [cond_true]
    cases evA s a with
    | none=>rfl
    | some av=>
     simp only [Option.bind_some]
     cases evV s y with
     | none=>rfl
     | some v=>
      simp only [Option.bind_some]
      cases (Nat.beq v.cells.length (P.cellsOf t)&&onlyS A a av) with
      | false=>rfl
      | true=>
       simp only [cond_true]
       have e:=yQ (fun s'=>some (setSl s' o.dst .no)) (setSl s d x) av v.cells some
       have e':=yQ (fun s'=>some (setSl s' o.dst .no)) s av v.cells some
       simp only [Option.bind_some] at e e'
       rw [<- e,<- e',VI]
       cases storeAt s av v.cells some with
       | none=>rfl
       | some s1=>simp only [Option.map_some,Option.bind_some];rw [zC hd]
  ·cases hc
 unfold za
 cases hg:o.guard with
 | none=>exact hop
 | some p=>
  obtain ⟨j,w⟩:=p
  simp only
  cases hj:(ops[j]?).bind (·.dst) with
  | none=>rfl
  | some g=>
   have hne:∀ t,d=some t->t≠g:=fun t ht he=>h t ht (by subst he;simp [Oper.looksAt,hg,hj])
   have hs:(setSl s d x).sl.get g=s.sl.get g:=by
    cases d with
    | none=>rfl
    | some t=>simp [setSl,Tr.get_set_ne _ (hne t rfl)]
   simp only [Option.bind_some,hs]
   cases hv:s.sl.get g with
   | none=>rfl
   | some v=>
    simp only [Option.bind_some]
    split
    ·split
     ·exact hop
     ·simp only [Option.map_some];rw [zC hd]
    ·simp only [Option.map_some];rw [zC hd]
    ·rfl
theorem VT {s t:St} {o:Oper} (hc:wR o=true) (h:za P A ev ops o s=some t):∃ lo h',t=setSl { s with lo:=lo,h:=h' } o.dst .no:=by
 have skip:some (setSl s o.dst .no)=some t->∃ lo h',t=setSl { s with lo:=lo,h:=h' } o.dst .no:=fun h=>⟨s.lo,s.h,by cases h;rfl⟩
 have take:evOp P A ev o s some=some t->∃ lo h',t=setSl { s with lo:=lo,h:=h' } o.dst .no:=by
  intro h
  unfold wR at hc
  split at hc
  ·rename_i ty a y ho
   unfold evOp at h
   rw [ho] at h
   simp only [setK_eq] at h
   replace h:=(gB.1 h).2
   obtain ⟨_,_,h⟩:=oB h
   obtain ⟨_,_,h⟩:=oB h
   replace h:=(gB.1 h).2
   obtain ⟨s1,h1,h⟩:=yH h
   cases h
   refine ⟨s1.lo,s1.h,?_⟩
   have e:s1.sl=s.sl:=Tc h1
   cases s1;cases s;simp only at e;subst e;rfl
  ·cases hc
 unfold za at h
 split at h
 ·exact take h
 ·obtain ⟨d,_,h⟩:=oB h
  obtain ⟨g,_,h⟩:=oB h
  split at h
  ·split at h
   ·exact take h
   ·exact skip h
  ·exact skip h
  ·cases h
theorem isHst_store {o:Oper} (hc:UE A o=true):wR o=true:=by
 unfold UE at hc
 unfold wR
 split at hc
 ·rename_i ho;rw [ho]
 ·cases hc
theorem Tp {s t:St} {o:Oper} (hc:UE A o=true) (h:za P A ev ops o s=some t):∃ h',t=setSl { s with h:=h' } o.dst .no:=by
 have skip:some (setSl s o.dst .no)=some t->∃ h',t=setSl { s with h:=h' } o.dst .no:=fun h=>⟨s.h,by cases h;rfl⟩
 have take:evOp P A ev o s some=some t->∃ h',t=setSl { s with h:=h' } o.dst .no:=by
  intro h
  unfold UE at hc
  split at hc
  ·rename_i ty d y ho
   unfold evOp at h
   rw [ho] at h
   simp only [setK_eq] at h
   replace h:=(gB.1 h).2
   obtain ⟨av,_,h⟩:=oB h
   obtain ⟨_,_,h⟩:=oB h
   obtain ⟨hg,h⟩:=gB.1 h
   have hg2:onlyH A (.tmp d) av=true:=(Bool.and_eq_true_iff.1 (Bool.and_eq_true_iff.1 hg).2).1
   simp only [onlyH,hc,Bool.not_true,Bool.false_or] at hg2
   clear hg
   rw [zZ] at h
   cases av with
   | v av=>
    cases av with
    | agg l=>cases h
    | sc p=>
     obtain ⟨id,off,_,h⟩:=asP_some.1 h
     obtain ⟨h',_,h⟩:=oB h
     cases h
     exact ⟨h',rfl⟩
   | _=>simp at hg2
  ·cases hc
 unfold za at h
 split at h
 ·exact take h
 ·obtain ⟨d,_,h⟩:=oB h
  obtain ⟨g,_,h⟩:=oB h
  split at h
  ·split at h
   ·exact take h
   ·exact skip h
  ·exact skip h
  ·cases h
theorem Qo {o:Oper} (hc:ZM A o=true):zb A o=.mem:=by
 unfold ZM at hc
 split at hc
 ·rename_i ho;unfold zb;rw [ho]
 ·cases hc
theorem wC {s t:St} {o:Oper} (hc:ZM A o=true) (h:za P A ev ops o s=some t):∃ v tl,t=setSl { s with h:=s.h++tl } o.dst v:=by
 have skip:some (setSl s o.dst .no)=some t->∃ v tl,t=setSl { s with h:=s.h++tl } o.dst v:=fun h=>⟨.no,[],by cases h;rw [List.append_nil]⟩
 have take:evOp P A ev o s some=some t->∃ v tl,t=setSl { s with h:=s.h++tl } o.dst v:=by
  intro h
  unfold ZM at hc
  split at hc
  ·rename_i args ats ho
   unfold evOp at h
   rw [ho] at h
   simp only [setK_eq] at h
   split at hc
   ·rename_i d r hargs
    rw [hargs] at h
    unfold builtinK at h
    split at h
    ·exact absurd ‹Builtin.append=Builtin.len› (by intro e;cases e)
    ·exact absurd ‹Builtin.append=Builtin.max› (by intro e;cases e)
    ·exact absurd ‹Builtin.append=Builtin.min› (by intro e;cases e)
    ·rename_i ty ty2 x y hb hts hxy
     cases hxy
     obtain ⟨_,_,h⟩:=oB h
     obtain ⟨_,_,h⟩:=oB h
     obtain ⟨_,h⟩:=gB.1 h
     obtain ⟨xv,_,h⟩:=oB h
     simp only [ontoK,hc,cond_true] at h
     split at h
     ·obtain ⟨_,h⟩:=gB.1 h
      obtain ⟨yv,_,h⟩:=oB h
      have l1:∀ {c:Nat->Option St} {r:St},lenA yv c=some r->∃ n,c n=some r:=by
       intro c r h;unfold lenA at h;split at h
       ·exact ⟨_,h⟩
       ·exact ⟨_,(gB.1 h).2⟩
       ·cases h
      obtain ⟨n,h⟩:=l1 h
      have l2:∀ {m z:Nat} {c:List Sc->Option St} {r:St},firstA s yv m z c=some r->∃ n,c n=some r:=by
       intro m z c r h;rw [yJ] at h;split at h
       ·simp only [Option.bind_eq_some_iff] at h;obtain ⟨_,_,_,_,l,_,h⟩:=h;exact ⟨_,h⟩
       ·split at h
        ·exact ⟨_,(gB.1 h).2⟩
        ·obtain ⟨_,_,_,_,h⟩:=asS_some.1 h;obtain ⟨l,_,h⟩:=oB h;exact ⟨_,h⟩
       ·cases h
      obtain ⟨new,h⟩:=l2 h
      unfold appendS at h
      split at h
      ·obtain ⟨_,h⟩:=gB.1 h
       cases h
       exact ⟨_,[],by rw [List.append_nil]⟩
      ·simp only at h
       obtain ⟨_,h⟩:=gB.1 h
       cases h
       exact ⟨_,_,rfl⟩
     ·cases h
    ·exact absurd ‹Builtin.append=Builtin.copy› (by intro e;cases e)
    ·cases h
   ·cases hc
  ·cases hc
 unfold za at h
 split at h
 ·exact take h
 ·obtain ⟨d,_,h⟩:=oB h
  obtain ⟨g,_,h⟩:=oB h
  split at h
  ·split at h
   ·exact take h
   ·exact skip h
  ·exact skip h
  ·cases h
theorem Vq {o:Oper} (hc:Yf o=true):zb A o=.pure\/zb A o=.read:=by
 unfold Yf at hc
 split at hc
 ·rename_i t x ho
  unfold zb;rw [ho]
  cases x with
  | tmp d=>
   cases hl:A.loc.contains d
   ·right;show cond (A.loc.contains d) Cl.pure Cl.read=.read;rw [hl];rfl
   ·left;show cond (A.loc.contains d) Cl.pure Cl.read=.pure;rw [hl];rfl
  | _=>exact .inr rfl
 ·rename_i t x lo hi mx ho
  right;unfold zb;rw [ho]
 ·cases hc
theorem TZ {h tl:AH} {id:Nat} (hb:boxOk h id=true):boxOk (h++tl) id=true:=by
 unfold boxOk at hb ⊢
 cases hq:h[id]? with
 | none=>rw [hq] at hb;cases hb
 | some o=>rw [List.getElem?_append_left (List.getElem?_eq_some_iff.1 hq).1,hq];rw [hq] at hb;exact hb
theorem onlyX_ext {h tl:AH} {x:Operand} {a:SV} (hb:(onlyL A x a&&onlyX A h x a)=true):(onlyL A x a&&onlyX A (h++tl) x a)=true:=by
 simp only [onlyX,Bool.and_eq_true] at hb ⊢
 refine ⟨hb.1,hb.2.1,?_⟩
 have h2:=hb.2.2
 cases x with
 | tmp d=>
  simp only [onlyB,Bool.or_eq_true] at h2 ⊢
  refine h2.imp id fun h2=>?_
  split at h2
  ·exact TZ h2
  ·cases h2
 | _=>rfl
theorem Qc {s s1:St} {tl:AH} {o:Oper} (hc:Yf o=true) (h:za P A ev ops o s=some s1):za P A ev ops o { s with h:=s.h++tl }=some { s1 with h:=s1.h++tl }:=by
 have hs:∀ (d:Option Tmp) (v:SV),setSl { s with h:=s.h++tl } d v={ setSl s d v with h:=(setSl s d v).h++tl }:=fun d v=>by cases d<;>rfl
 have get:∀ {id:Nat} {x:AO},s.h[id]?=some x->(s.h++tl)[id]?=some x:=fun h=>by
  rw [List.getElem?_append_left (List.getElem?_eq_some_iff.1 h).1];exact h
 have hop:∀ {s1:St},evOp P A ev o s some=some s1->evOp P A ev o { s with h:=s.h++tl } some=some { s1 with h:=s1.h++tl }:=by
  intro s1 h
  unfold Yf at hc
  split at hc
  ·rename_i t x ho
   unfold evOp at h ⊢
   rw [ho] at h ⊢
   simp only [setK_eq] at h ⊢
   obtain ⟨hg,h⟩:=gB.1 h
   rw [gB]
   refine ⟨hg,?_⟩
   obtain ⟨a,ha,h⟩:=oB h
   rw [show evA { s with h:=s.h++tl } x=evA s x by cases x<;>rfl,ha,Option.bind_some]
   obtain ⟨hl,h⟩:=gB.1 h
   rw [gB]
   refine ⟨onlyX_ext hl,?_⟩
   have la:∀ {n:Nat} {c:List Sc->Option St},loadAt s a n c=some s1->∃ l,c l=some s1/\∀ (c':List Sc->Option St),loadAt { s with h:=s.h++tl } a n c'=c' l:=by
    intro n c h
    cases a with
    | l k off=>
     simp only [loadAt] at h ⊢
     obtain ⟨b,hb,h⟩:=oB h
     obtain ⟨cs,hcs,h⟩:=oB h
     obtain ⟨hq,h⟩:=gB.1 h
     refine ⟨_,h,fun c'=>?_⟩
     simp only [hb,Option.bind_some,hcs,cutK,hq,guardB,cond_true]
    | v x=>
     cases x with
     | agg l=>cases h
     | sc p=>
      simp only [loadAt] at h ⊢
      obtain ⟨id,off,rfl,h⟩:=asP_some.1 h
      obtain ⟨ob,hob,h⟩:=oB h
      obtain ⟨cs,hcs,h⟩:=oB h
      obtain ⟨hq,h⟩:=gB.1 h
      refine ⟨_,h,fun c'=>?_⟩
      simp only [asP,ldNK,get hob,Option.bind_some,hcs,cutK,hq,guardB,cond_true]
    | _=>cases h
   have l1:∀ {c:Sc->Option St},load1 s a c=some s1->∃ l,c l=some s1/\∀ (c':Sc->Option St),load1 { s with h:=s.h++tl } a c'=c' l:=by
    intro c h
    cases a with
    | l k off=>
     simp only [load1] at h ⊢
     obtain ⟨b,hb,h⟩:=oB h
     obtain ⟨cs,hcs,h⟩:=oB h
     obtain ⟨y,hy,h⟩:=oB h
     refine ⟨_,h,fun c'=>?_⟩
     simp only [hb,Option.bind_some,hcs,hy]
    | v x=>
     cases x with
     | agg l=>cases h
     | sc p=>
      simp only [load1] at h ⊢
      obtain ⟨id,off,rfl,h⟩:=asP_some.1 h
      obtain ⟨y,hy,h⟩:=oB h
      obtain ⟨ob,hob,hy⟩:=oB hy
      obtain ⟨cs,hcs,hy⟩:=oB hy
      refine ⟨_,h,fun c'=>?_⟩
      simp only [asP,ld1,get hob,Option.bind_some,hcs,hy]
    | _=>cases h
   cases hq:yo P t with
   | true=>
    simp only [hq,cond_true] at h ⊢
    obtain ⟨l,h,hk⟩:=la h
    rw [hk]
    have e:=yR (fun s':St=>some ({ s' with h:=s'.h++tl }:St)) (zN P 8 t) l fun ys=>some (setSl s o.dst (.v (.agg ys)))
    rw [h] at e
    simp only [Option.bind_some] at e
    simp only [hs]
    exact e.symm
   | false=>
    simp only [hq,cond_false] at h ⊢
    obtain ⟨l,h,hk⟩:=l1 h
    rw [hk]
    have e:=xS (fun s':St=>some ({ s' with h:=s'.h++tl }:St)) ((zN P 8 t).getD 0 .any) l fun y=>some (setSl s o.dst (.v (.sc y)))
    rw [h] at e
    simp only [Option.bind_some] at e
    simp only [hs]
    exact e.symm
  ·rename_i t x lo hi mx ho
   have ev0:∀ z,evV { s with h:=s.h++tl } z=evV s z:=fun z=>by simp only [evV,xZ]
   have bnd:∀ {z:Option Operand} {d:Nat} {c:Nat->Option St},boundI s z d c=some s1->∃ n,c n=some s1/\∀ (c':Nat->Option St),boundI { s with h:=s.h++tl } z d c'=c' n:=by
    intro z d c h
    cases z with
    | none=>exact ⟨d,h,fun c'=>rfl⟩
    | some z=>
     simp only [boundI] at h
     obtain ⟨v,hv,h⟩:=oB h
     split at h
     ·obtain ⟨hg,h⟩:=gB.1 h
      refine ⟨_,h,fun c'=>?_⟩
      simp only [boundI,ev0,hv,Option.bind_some,hg,guardB,cond_true]
     ·cases h
   have row:∀ {e:TypeId} {y:Sc},rowOk s.h e y=true->rowOk (s.h++tl) e y=true:=by
    intro e y h
    cases y with
    | sl id o n=>
     simp only [rowOk] at h ⊢
     cases hq:s.h[id]? with
     | none=>rw [hq] at h;cases h
     | some ob=>rw [get hq];rw [hq] at h;exact h
    | _=>exact h
   have sl:∀ {e:TypeId} {z:Nat} {y:Sc},sliceS s e z y lo hi mx (fun v=>some (setSl s o.dst (.v (.sc v))))=some s1->sliceS { s with h:=s.h++tl } e z y lo hi mx (fun v=>some (setSl { s with h:=s.h++tl } o.dst (.v (.sc v))))=some { s1 with h:=s1.h++tl }:=by
    intro e z y h
    unfold sliceS at h ⊢
    obtain ⟨l,h,k1⟩:=bnd h
    obtain ⟨hh,h,k2⟩:=bnd h
    obtain ⟨m,h,k3⟩:=bnd h
    obtain ⟨hg,h⟩:=gB.1 h
    rw [k1,k2,k3,gB]
    cases h
    refine ⟨?_,by simp only [hs]⟩
    simp only [Bool.and_eq_true] at hg ⊢
    exact ⟨⟨⟨⟨row hg.1.1.1.1,hg.1.1.1.2⟩,hg.1.1.2⟩,hg.1.2⟩,hg.2⟩
   unfold evOp at h ⊢
   rw [ho] at h ⊢
   simp only [setK_eq] at h ⊢
   split at h
   ·rename_i e hu
    try simp only [hu]
    obtain ⟨hg,h⟩:=gB.1 h
    obtain ⟨v,hv,h⟩:=oB h
    rw [gB]
    refine ⟨hg,?_⟩
    rw [ev0,hv,Option.bind_some]
    cases v with
    | agg l=>cases h
    | sc y=>exact sl h
   ·rename_i n e hu
    try simp only [hu]
    obtain ⟨hg,h⟩:=gB.1 h
    obtain ⟨v,hv,h⟩:=oB h
    rw [gB]
    refine ⟨hg,?_⟩
    rw [ev0,hv,Option.bind_some]
    cases v with
    | agg l=>cases h
    | sc y=>
     simp only [asSc] at h ⊢
     obtain ⟨id,off,rfl,h⟩:=asP_some.1 h
     obtain ⟨hb,h⟩:=gB.1 h
     simp only [asP]
     rw [gB]
     exact ⟨TZ hb,sl h⟩
   ·cases h
  ·cases hc
 unfold za at h ⊢
 cases hg:o.guard with
 | none=>rw [hg] at h;exact hop h
 | some p=>
  obtain ⟨j,w⟩:=p
  rw [hg] at h
  simp only at h ⊢
  cases hj:(ops[j]?).bind (·.dst) with
  | none=>rw [hj] at h;cases h
  | some g=>
   rw [hj] at h
   simp only [Option.bind_some] at h ⊢
   cases hv:s.sl.get g with
   | none=>rw [hv] at h;cases h
   | some v=>
    rw [hv] at h
    simp only [Option.bind_some] at h ⊢
    split at h
    ·split at h
     ·rename_i hw;rw [if_pos hw];exact hop h
     ·rename_i hw;rw [if_neg hw];cases h;rw [hs]
    ·cases h;rw [hs]
    ·cases h
theorem wa (hr:zR A ev) {s t:St} {o:Oper} (hc:YP A o=true) (h:za P A ev ops o s=some t):∃ v tl,t=setSl { s with h:=s.h++tl } o.dst v:=by
 unfold YP at hc
 split at hc
 case h_2=>cases hc
 rename_i n args ts ho
 obtain ⟨hn,hi⟩:=Bool.and_eq_true_iff.1 hc
 have hi:A.iso.contains n=false:=by simpa using hi
 have skip:some (setSl s o.dst .no)=some t->∃ v tl,t=setSl { s with h:=s.h++tl } o.dst v:=fun h=>by cases h;exact ⟨.no,[],by rw [List.append_nil]⟩
 have take:evOp P A ev o s some=some t->∃ v tl,t=setSl { s with h:=s.h++tl } o.dst v:=by
  intro h
  rw [xp ho] at h
  obtain ⟨⟨v,h'⟩,hq,h⟩:=oB h
  cases h
  have e:s.h <+: h':=by
   unfold xY at hq
   simp only [evV,evA,Option.bind_some,SV.val,asSc,asF] at hq
   replace hq:=oB hq
   obtain ⟨as,has,hq⟩:=hq
   replace hq:=oB hq
   obtain ⟨vs,hvs,hq⟩:=hq
   clear has hvs
   have ty:∀ {rs:List AV} {h1:AH},(typed P o.type rs fun v=>some (v,h1))=some (v,h')->h'=h1:=by
    intro rs h1 hq
    have e:=xQ (fun v:SV=>some (v,h1)) P o.type rs some
    simp only [Option.bind_some] at e
    rw [<- e] at hq
    obtain ⟨_,_,hq⟩:=oB hq
    cases hq;rfl
   unfold callK at hq
   simp only [hi,Bool.false_and,cond_false] at hq
   replace hq:=(gB.1 hq).2
   obtain ⟨⟨rs,h1⟩,hp,hq⟩:=oB hq
   rw [ty hq]
   exact hr.2.2 n hn _ _ _ _ hp
  obtain ⟨tl,e⟩:=e
  exact ⟨v,tl,by rw [e]⟩
 unfold za at h
 split at h
 ·exact take h
 ·obtain ⟨d,_,h⟩:=oB h
  obtain ⟨g,_,h⟩:=oB h
  split at h
  ·split at h
   ·exact take h
   ·exact skip h
  ·exact skip h
  ·cases h
theorem isGr_cl {o:Oper} (hc:YP A o=true):zb A o=.mem:=by
 unfold YP at hc
 split at hc
 ·rename_i ho;unfold zb;rw [ho]
 ·cases hc
theorem swap {x y:Oper} (hr:zR A ev) (hc:WB A ops x y=true) {s s1 s2:St} (hfx:zb A x=.new->∀ d,x.dst=some d->yj d s) (hfy:zb A y=.new->∀ d,y.dst=some d->yj d s)
  (h1:za P A ev ops x s=some s1) (h2:za P A ev ops y s1=some s2):∃ t,za P A ev ops y s=some t/\za P A ev ops x t=some s2:=by
 simp only [WB,Bool.and_eq_true,Bool.or_eq_true] at hc
 obtain ⟨hp,hap⟩:=hc
 obtain ⟨a1,a2,a3⟩:=Oper.apart_spec hap
 rcases hp with hp | hk
 case inr=>exact swapK hr (by unfold kdOk;rw [hk,hap];rfl) h1 h2
 rcases hp with ((hp | ⟨hxe,hys⟩) | ⟨hxe,hys⟩) | ⟨hxe,hys⟩
 case inl.inr=>
  have hcx:=Vq (A:=A) hxe
  have nx:zb A x≠.loc:=by rcases hcx with h | h<;>rw [h]<;>decide
  have nx':zb A x≠.new:=by rcases hcx with h | h<;>rw [h]<;>decide
  have hcy:zb A y=.mem:=by
   rcases hys with hys | hys
   ·exact Qo hys
   ·exact isGr_cl hys
  obtain ⟨⟨v1,H1,e1,_⟩,k1⟩:=yb nx nx' h1
  have hH1:H1=s.h:=by have:=k1 (by simpa using hcx);rw [e1] at this;simpa using this
  rw [We s hH1] at e1
  rw [e1,yA (by rw [hcy];decide) a1 (fun t ht=>a2 t ht) (fun hn=>by rw [hcy] at hn;cases hn),Option.map_eq_some_iff] at h2
  obtain ⟨t,ht,e2⟩:=h2
  refine ⟨t,ht,?_⟩
  obtain ⟨v2,tl,e3⟩:∃ v tl,t=setSl { s with h:=s.h++tl } y.dst v:=by
   rcases hys with hys | hys
   ·exact wC hys ht
   ·exact wa hr hys ht
  rw [<- e2,e3,yA nx a3 (fun t ht hx=>a2 t hx ht) (fun hn=>absurd hn nx'),Qc hxe h1,e1,Option.map_some]
  have e4:∀ (d:Option Tmp),({ setSl s d v1 with h:=(setSl s d v1).h++tl }:St)=setSl { s with h:=s.h++tl } d v1:=fun d=>by cases d<;>rfl
  rw [e4,zC (fun t ht=>a2 t ht)]
 case inl.inl.inr=>
  have hcx:zb A x=.pure:=by
   cases hc:zb A x<;>rw [hc] at hxe<;>first | rfl | cases hxe
  obtain ⟨⟨v1,H1,e1,_⟩,k1⟩:=yb (by rw [hcx];decide) (by rw [hcx];decide) h1
  have hH1:H1=s.h:=by have:=k1 (by simp [hcx]);rw [e1] at this;simpa using this
  rw [We s hH1] at e1
  rw [e1,ZR (isHst_store hys) a1 (fun t ht=>a2 t ht),Option.map_eq_some_iff] at h2
  obtain ⟨t,ht,e2⟩:=h2
  refine ⟨t,ht,?_⟩
  obtain ⟨h',e3⟩:=Tp hys ht
  rw [<- e2,e3,yA (by rw [hcx];decide) a3 (fun t ht hx=>a2 t hx ht) (fun hn=>by rw [hcx] at hn;cases hn),wB (.inl hcx),h1,e1,Option.map_some,Option.map_some]
  have e4:∀ (d:Option Tmp),({ setSl s d v1 with h:=h' }:St)=setSl { s with h:=h' } d v1:=fun d=>by cases d<;>rfl
  rw [e4,zC (fun t ht=>a2 t ht)]
 case inl.inl.inl.inr=>
  have hcx:zb A x=.pure:=by
   unfold UD at hxe
   split at hxe
   ·rename_i ho;unfold zb;rw [ho]
   ·cases hxe
  obtain ⟨⟨v1,H1,e1,_⟩,k1⟩:=yb (by rw [hcx];decide) (by rw [hcx];decide) h1
  have hH1:H1=s.h:=by have:=k1 (by simp [hcx]);rw [e1] at this;simpa using this
  rw [We s hH1] at e1
  rw [e1,ZR hys a1 (fun t ht=>a2 t ht),Option.map_eq_some_iff] at h2
  obtain ⟨t,ht,e2⟩:=h2
  refine ⟨t,ht,?_⟩
  obtain ⟨lo,h',e3⟩:=VT hys ht
  rw [<- e2,e3,yA (by rw [hcx];decide) a3 (fun t ht hx=>a2 t hx ht) (fun hn=>by rw [hcx] at hn;cases hn),evOne_slots hxe,h1,e1,Option.map_some,Option.map_some]
  have e4:∀ (d:Option Tmp),({ setSl s d v1 with lo:=lo,h:=h' }:St)=setSl { s with lo:=lo,h:=h' } d v1:=fun d=>by cases d<;>rfl
  rw [e4,zC (fun t ht=>a2 t ht)]
 have hx:zb A x≠.loc:=by intro e;rw [e] at hp;cases hp
 have hy:zb A y≠.loc:=by intro e;rw [e] at hp;revert hp;cases zb A x<;>simp [Up]
 have comm:∀ (s:St) v w,setSl (setSl s x.dst v) y.dst w=setSl (setSl s y.dst w) x.dst v:=fun s v w=>zC (fun t ht=>a2 t ht)
 have a2':∀ t,y.dst=some t->x.dst≠some t:=fun t ht hx=>a2 t hx ht
 by_cases nx:zb A x=.new
 ·obtain ⟨d,a,oz,hd,rfl,ha⟩:=YH nx (hfx nx) h1
  have hfd:=hfx nx d hd
  have hyd:y.dst≠some d:=a2 d hd
  have hky:zb A y=.new->∀ d',y.dst=some d'->killL d' a=a:=fun _ d' hd'=>(ha d' (fun e=>hyd (by rw [hd',e]))).2
  rw [WD hfd hy (a1 d hd) hyd hky,Option.map_eq_some_iff] at h2
  obtain ⟨t,ht,rfl⟩:=h2
  refine ⟨t,ht,?_⟩
  by_cases ny:zb A y=.new
  ·obtain ⟨d',a',oz',hd',rfl,ha'⟩:=YH ny (hfy ny) ht
   have hne:d≠d':=fun e=>hyd (by rw [hd',e])
   rw [WD (hfy ny d' hd') hx (a3 d' hd') (a2' d' hd') (fun _ d'' hd''=>(ha' d'' (fun e=>a2' d' hd' (by rw [hd'',e]))).2),h1,Option.map_some,upd_comm hne]
  ·obtain ⟨⟨v2,H2,rfl,hv2⟩,_⟩:=yb hy ny ht
   rw [yA hx a3 a2' (fun _ d'' hd''=>by rw [hd] at hd'';cases hd'';exact WV (hv2 d hfd)),wB (.inr nx),h1,Option.map_some,Option.map_some,QO hyd]
 ·obtain ⟨⟨v1,H1,e1,hv1⟩,k1⟩:=yb hx nx h1
  have k1':s1.h=H1:=by rw [e1];simp
  have hky:zb A y=.new->∀ d',y.dst=some d'->killL d' v1=v1:=fun ny d' hd'=>WV (hv1 d' (hfy ny d' hd'))
  rw [e1,yA hy a1 (fun t ht=>a2 t ht) hky,Option.map_eq_some_iff] at h2
  obtain ⟨u,hu,e2⟩:=h2
  by_cases ny:zb A y=.new
  ·rw [wB (.inr ny),Option.map_eq_some_iff] at hu
   obtain ⟨t,ht,rfl⟩:=hu
   refine ⟨t,ht,?_⟩
   obtain ⟨d',a',oz',hd',rfl,ha'⟩:=YH ny (hfy ny) ht
   rw [WD (hfy ny d' hd') hx (a3 d' hd') (a2' d' hd') (fun hn=>absurd hn nx),h1,Option.map_some,<- e2,e1,QO (a2' d' hd')]
  by_cases py:zb A y=.pure
  ·rw [wB (.inl py),Option.map_eq_some_iff] at hu
   obtain ⟨t,ht,e3⟩:=hu
   refine ⟨t,ht,?_⟩
   obtain ⟨⟨v2,H2,e4,_⟩,k2⟩:=yb hy ny ht
   have hH2:H2=s.h:=by have:=k2 (by simp [py]);rw [e4] at this;simpa using this
   rw [We s hH2] at e4
   have eu:u=setSl { s with h:=H1 } y.dst v2:=by rw [<- e3,e4];exact (zA s y.dst v2 H1).symm
   rw [e4,yA hx a3 a2' (fun hn=>absurd hn nx),h1,Option.map_some,e1,comm,<- eu,e2]
  ·have hr1:s1.h=s.h:=by
    refine k1 ?_
    cases hcx:zb A x<;>cases hcy:zb A y<;>simp_all [Up]
   have hH1:H1=s.h:=k1'.symm.trans hr1
   rw [We s hH1] at hu e1
   refine ⟨u,hu,?_⟩
   obtain ⟨⟨v2,H2,e4,_⟩,k2⟩:=yb hy ny hu
   rw [e4,yA hx a3 a2' (fun hn=>absurd hn nx)]
   by_cases px:zb A x=.pure
   ·rw [wB (.inl px),h1,Option.map_some,Option.map_some,<- e2,e4,e1,<- zA,comm]
   ·have hH2:H2=s.h:=by
     have:=k2 (by cases hcx:zb A x<;>cases hcy:zb A y<;>simp_all [Up])
     rw [e4] at this;simpa using this
    rw [We s hH2] at e4 ⊢
    rw [h1,Option.map_some,<- e2,e4,e1,comm]
def zM (y:Oper):Option Tmp:=match y.op with | .slice _ (.tmp d) _ _ _=>some d | .load _ (.tmp d)=>some d | _=>none
def Vv (A:FAn) (o:Oper):Bool:=(ZM A o||YP A o)||(match zb A o with | .pure=>true | .read=>true | .new=>true | _=>false)
theorem cond_some' {b x y:Bool}:cond b x y=true↔(b=true/\x=true)\/(b=false/\y=true):=by cases b<;>simp
def Vw (A:FAn) (ops:Array Oper) (y:Oper):List Oper->Bool
 | []=>true
 | o::r=>cond (o.dst==y.dst) (r.all fun o=>!(o.dst==y.dst)) ((Vv A o||!(o.apart ops y))&&Vw A ops y r)
def quiet (A:FAn) (ops:Array Oper) (y:Oper):Bool:=(zM y).isSome&&Vw A ops y ops.toList
theorem UX {y x:Oper}:∀ {l:List Oper} {i k:Nat},Vw A ops y l=true->l[i]?=some y->k < i->l[k]?=some x->(Vv A x||!(x.apart ops y))=true
 | [],i,k,_,hy,_,_=>by simp at hy
 | o::r,0,k,_,_,hk,_=>by omega
 | o::r,i+1,k,h,hy,hk,hx=>by
  have hy':r[i]?=some y:=by simpa using hy
  simp only [Vw] at h
  rcases cond_some'.1 h with ⟨c,h⟩ | ⟨c,h⟩
  ·have:=List.all_eq_true.1 h y (List.mem_of_getElem? hy')
   simp at this
  ·obtain ⟨h1,h2⟩:=Bool.and_eq_true_iff.1 h
   cases k with
   | zero=>
    have:o=x:=by simpa using hx
    rw [<- this];exact h1
   | succ k=>exact UX (k:=k) h2 hy' (by omega) (by simpa using hx)
def wN (A:FAn) (ops:Array Oper) (x y:Oper):Bool:=WB A ops x y||(((ZM A x||YP A x)&&quiet A ops y)&&x.apart ops y)
theorem QQ {x y:Oper} (h:wN A ops x y=true):x.apart ops y=true:=by
 unfold wN WB at h
 cases hx:x.apart ops y with
 | true=>rfl
 | false=>rw [hx] at h;simp at h
def scId:SV->Option Nat
 | .v (.sc (.sl id _ _))=>some id
 | .v (.sc (.ptr id _))=>some id
 | _=>none
def Ys (s:St) (d:Tmp):Prop:=∀ v id,s.sl.get d=some v->scId v=some id->id < s.h.length
theorem scId_kill {k:Nat} {x:SV} {id:Nat} (h:scId (killL k x)=some id):scId x=some id:=by
 cases x with
 | l j o=>simp only [killL] at h;cases hb:Nat.beq j k<;>rw [hb] at h<;>cases h
 | s j n=>simp only [killL] at h;cases hb:Nat.beq j k<;>rw [hb] at h<;>cases h
 | _=>exact h
theorem old_one (hr:zR A ev) {s s':St} {o:Oper} {d:Tmp} (hqo:Vv A o=true) (hne:o.dst≠some d) (hs:Ys s d) (h:za P A ev ops o s=some s'):Ys s' d:=by
 intro v id hv hid
 have setget:∀ (S:St) (w:SV),(setSl S o.dst w).sl.get d=S.sl.get d:=by
  intro S w
  cases hdst:o.dst with
  | none=>rfl
  | some e=>exact Tr.get_set_ne _ (fun he:e=d=>hne (by rw [hdst,he])) _
 rcases Bool.or_eq_true_iff.1 hqo with hon | hcl
 ·obtain ⟨w,tl,rfl⟩:∃ v tl,s'=setSl { s with h:=s.h++tl } o.dst v:=by
   rcases Bool.or_eq_true_iff.1 hon with hon | hon
   ·exact wC hon h
   ·exact wa hr hon h
  rw [setget] at hv
  have:=hs v id hv hid
  simp only [zf,List.length_append]
  omega
 ·by_cases hn:zb A o=.new
  ·obtain ⟨e,hdst,hcase⟩:=ZQ hn h
   have hed:e≠d:=fun he=>hne (by rw [hdst,he])
   rcases hcase with ⟨a,z,rfl,_⟩ | rfl
   ·simp only [newLocal] at hv
    rw [Tr.get_set_ne _ hed,Tr.get_map] at hv
    obtain ⟨y,hy,rfl⟩:=oM hv
    exact hs y id hy (scId_kill hid)
   ·simp only [setSl] at hv
    rw [Tr.get_set_ne _ hed] at hv
    exact hs v id hv hid
  ·have hpr:zb A o=.pure\/zb A o=.read:=by
    cases hc:zb A o<;>rw [hc] at hcl<;>first | exact .inl rfl | exact .inr rfl | exact absurd hc hn | cases hcl
   have nl:zb A o≠.loc:=by rcases hpr with h | h<;>rw [h]<;>decide
   obtain ⟨⟨w,H,e1,_⟩,k1⟩:=yb nl hn h
   have k2:=k1 (by simpa using hpr)
   have hvs:s.sl.get d=some v:=by
    rw [e1,setget] at hv
    exact hv
   rw [k2]
   exact hs v id hvs hid
theorem evOne_red {s s1:St} {tl:AH} {t:TypeId} {d:Tmp} {lo hi mx:Option Operand} {o:Oper} (ho:o.op=.slice t (.tmp d) lo hi mx) (hd:Ys s d) (h:za P A ev ops o { s with h:=s.h++tl }=some s1):∃ u,za P A ev ops o s=some u:=by
 have get:∀ {id:Nat},id < s.h.length->(s.h++tl)[id]?=s.h[id]?:=fun h=>List.getElem?_append_left h
 have hop:∀ {s1:St},evOp P A ev o { s with h:=s.h++tl } some=some s1->∃ u,evOp P A ev o s some=some u:=by
  intro s1 h
  have ev0:∀ z,evV { s with h:=s.h++tl } z=evV s z:=fun z=>by simp only [evV,xZ]
  have bnd:∀ {z:Option Operand} {d:Nat} {c:Nat->Option St},boundI { s with h:=s.h++tl } z d c=some s1->∃ n,c n=some s1/\∀ (c':Nat->Option St),boundI s z d c'=c' n:=by
   intro z d c h
   cases z with
   | none=>exact ⟨d,h,fun c'=>rfl⟩
   | some z=>
    simp only [boundI] at h
    obtain ⟨v,hv,h⟩:=oB h
    split at h
    ·obtain ⟨hg,h⟩:=gB.1 h
     refine ⟨_,h,fun c'=>?_⟩
     rw [ev0] at hv
     simp only [boundI,hv,Option.bind_some,hg,guardB,cond_true]
    ·cases h
  have row:∀ {e:TypeId} {y:Sc},(∀ id o n,y=.sl id o n->id < s.h.length)->rowOk (s.h++tl) e y=true->rowOk s.h e y=true:=by
   intro e y hy h
   cases y with
   | sl id o n=>
    simp only [rowOk] at h ⊢
    rw [get (hy id o n rfl)] at h
    exact h
   | _=>exact h
  have sl:∀ {e:TypeId} {z:Nat} {y:Sc},(∀ id o n,y=.sl id o n->id < s.h.length)->sliceS { s with h:=s.h++tl } e z y lo hi mx (fun v=>some (setSl { s with h:=s.h++tl } o.dst (.v (.sc v))))=some s1->∃ u,sliceS s e z y lo hi mx (fun v=>some (setSl s o.dst (.v (.sc v))))=some u:=by
   intro e z y hy h
   unfold sliceS at h ⊢
   obtain ⟨l,h,k1⟩:=bnd h
   obtain ⟨hh,h,k2⟩:=bnd h
   obtain ⟨m,h,k3⟩:=bnd h
   obtain ⟨hg,h⟩:=gB.1 h
   rw [k1,k2,k3]
   simp only [Bool.and_eq_true] at hg
   refine ⟨_,gB.2 ⟨?_,rfl⟩⟩
   simp only [Bool.and_eq_true]
   exact ⟨⟨⟨⟨row hy hg.1.1.1.1,hg.1.1.1.2⟩,hg.1.1.2⟩,hg.1.2⟩,hg.2⟩
  have old:∀ {v:AV} {y:Sc},evV s (.tmp d)=some v->v=.sc y->∀ id,(∃ o n,y=.sl id o n)\/(∃ o,y=.ptr id o)->id < s.h.length:=by
   intro v y hv hvy id hy
   simp only [evV,evA] at hv
   cases hg:s.sl.get d with
   | none=>rw [hg] at hv;simp at hv
   | some w=>
    rw [hg] at hv
    cases w with
    | v a=>
     have e:a=v:=Option.some.inj hv
     subst e;subst hvy
     refine hd _ id hg ?_
     rcases hy with ⟨o,n,rfl⟩ | ⟨o,rfl⟩<;>rfl
    | _=>cases hv
  unfold evOp at h ⊢
  rw [ho] at h ⊢
  simp only [setK_eq] at h ⊢
  split at h
  ·rename_i e hu
   try simp only [hu]
   obtain ⟨hg,h⟩:=gB.1 h
   obtain ⟨v,hv,h⟩:=oB h
   rw [ev0] at hv
   cases v with
   | agg l=>cases h
   | sc y=>
    obtain ⟨u,hu'⟩:=sl (fun id o n hy=>old hv rfl id (.inl ⟨o,n,hy⟩)) h
    exact ⟨u,gB.2 ⟨hg,by rw [hv,Option.bind_some];exact hu'⟩⟩
  ·rename_i n e hu
   try simp only [hu]
   obtain ⟨hg,h⟩:=gB.1 h
   obtain ⟨v,hv,h⟩:=oB h
   rw [ev0] at hv
   cases v with
   | agg l=>cases h
   | sc y=>
    simp only [asSc] at h
    obtain ⟨id,off,rfl,h⟩:=asP_some.1 h
    obtain ⟨hb,h⟩:=gB.1 h
    have hid:=old hv rfl id (.inr ⟨off,rfl⟩)
    obtain ⟨u,hu'⟩:=sl (fun id' o n hy=>by cases hy;exact hid) h
    refine ⟨u,gB.2 ⟨hg,?_⟩⟩
    rw [hv,Option.bind_some]
    simp only [asSc,asP]
    refine gB.2 ⟨?_,hu'⟩
    simp only [boxOk] at hb ⊢
    rw [get hid] at hb
    exact hb
  ·cases h
 unfold za at h ⊢
 cases hg:o.guard with
 | none=>rw [hg] at h;exact hop h
 | some p=>
  obtain ⟨j,w⟩:=p
  rw [hg] at h
  simp only at h ⊢
  cases hj:(ops[j]?).bind (·.dst) with
  | none=>rw [hj] at h;cases h
  | some g=>
   rw [hj] at h
   simp only [Option.bind_some] at h ⊢
   cases hv:s.sl.get g with
   | none=>rw [hv] at h;cases h
   | some v=>
    rw [hv] at h
    simp only [Option.bind_some] at h ⊢
    split at h
    ·split at h
     ·rename_i hw;rw [if_pos hw];exact hop h
     ·rename_i hw;rw [if_neg hw];exact ⟨_,rfl⟩
    ·exact ⟨_,rfl⟩
    ·cases h
theorem asLeaf_go {l:Leaf} {x:Sc} {R S:Type} {c:Sc->Option R} {r:R} (h:asLeaf l x c=some r) {d:Sc->S}:asLeaf l x (fun y=>some (d y))=some (d x):=by
 cases l with
 | any=>rfl
 | int k=>
  cases x<;>first | (cases h;done) | skip
  rename_i k' n
  simp only [asLeaf,asI] at h ⊢
  split at h
  ·rename_i e;rw [if_pos e,e]
  ·cases h
 | bool=>cases x<;>first | (cases h;done) | rfl
theorem VC:∀ {ls:List Leaf} {l:List Sc} {R S:Type} {c:List Sc->Option R} {r:R} (_:asLeaves ls l c=some r) {d:List Sc->S},asLeaves ls l (fun ys=>some (d ys))=some (d l)
 | [],l,R,S,c,r,h,d=>by
  obtain ⟨rfl,h⟩:=asN_some.1 h
  rfl
 | g::ls,l,R,S,c,r,h,d=>by
  obtain ⟨x,xs,rfl,k⟩:=asC_some.1 h
  simp only [asLeaves,asC]
  have h2:=yi (c:=fun y=>asLeaves ls xs fun ys=>c (y::ys)) k
  have e:=VC (d:=fun ys=>d (x::ys)) h2
  cases g with
  | any=>exact e
  | int k'=>
   cases x<;>first | (cases k;done) | skip
   rename_i k2 n
   simp only [asLeaf,asI] at k ⊢
   split at k
   ·rename_i e2;subst e2;rw [if_pos rfl];exact e
   ·cases k
  | bool=>cases x<;>first | (cases k;done) | exact e
theorem evOne_redL {s s1:St} {tl:AH} {t:TypeId} {d:Tmp} {o:Oper} (ho:o.op=.load t (.tmp d)) (hd:Ys s d) (h:za P A ev ops o { s with h:=s.h++tl }=some s1):∃ u,za P A ev ops o s=some u:=by
 have hop:∀ {s1:St},evOp P A ev o { s with h:=s.h++tl } some=some s1->∃ u,evOp P A ev o s some=some u:=by
  intro s1 h
  unfold evOp at h ⊢
  rw [ho] at h ⊢
  simp only [setK_eq] at h ⊢
  replace h:=gB.1 h
  obtain ⟨hg,h⟩:=h
  replace h:=oB h
  obtain ⟨a,ha,h⟩:=h
  have ha':evA s (.tmp d)=some a:=ha
  have get:∀ {id off:Nat},a=.v (.sc (.ptr id off))->(s.h++tl)[id]?=s.h[id]?:=fun {id off} e=>List.getElem?_append_left (hd a id ha' (by rw [e];rfl))
  replace h:=gB.1 h
  obtain ⟨hl,h⟩:=h
  have hx:(onlyL A (.tmp d) a&&onlyX A s.h (.tmp d) a)=true:=by
   unfold onlyX onlyB at hl ⊢
   cases a with
   | v c=>
    cases c with
    | sc p=>
     cases p with
     | ptr id off=>
      simp only [boxOk] at hl ⊢
      rw [get rfl] at hl
      exact hl
     | _=>exact hl
    | agg l=>exact hl
   | _=>exact hl
  rw [hg,ha']
  simp only [Option.bind_some]
  rw [hx]
  simp only [guardB,cond_true]
  have la:∀ {n:Nat} {c:List Sc->Option St},loadAt { s with h:=s.h++tl } a n c=some s1->∃ l,c l=some s1/\∀ (c':List Sc->Option St),loadAt s a n c'=c' l:=by
   intro n c h
   obtain ⟨l,h1,h2⟩:=zW h
   refine ⟨l,h2,fun c'=>?_⟩
   have e0:=xc c' s a n some
   simp only [Option.bind_some] at e0
   rw [<- e0]
   have e1:loadAt s a n some=some l:=by
    cases a with
    | l k off=>exact h1
    | v x=>
     cases x with
     | agg l=>cases h1
     | sc p=>
      cases p with
      | ptr id off=>
       simp only [loadAt,asP,ldNK] at h1 ⊢
       rw [get rfl] at h1
       exact h1
      | _=>cases h1
    | _=>cases h1
   rw [e1];rfl
  have l1:∀ {c:Sc->Option St},load1 { s with h:=s.h++tl } a c=some s1->∃ l,c l=some s1/\∀ (c':Sc->Option St),load1 s a c'=c' l:=by
   intro c h
   obtain ⟨l,h1,h2⟩:=yt h
   refine ⟨l,h2,fun c'=>?_⟩
   have e0:=xl c' s a some
   simp only [Option.bind_some] at e0
   rw [<- e0]
   have e1:load1 s a some=some l:=by
    cases a with
    | l k off=>exact h1
    | v x=>
     cases x with
     | agg l=>cases h1
     | sc p=>
      cases p with
      | ptr id off=>
       simp only [load1,asP,ld1] at h1 ⊢
       rw [get rfl] at h1
       exact h1
      | _=>cases h1
    | _=>cases h1
   rw [e1];rfl
  rcases cond_some.1 h with ⟨g3,h⟩ | ⟨g3,h⟩
  ·obtain ⟨l,h,k⟩:=la h
   rw [g3,cond_true,k]
   have e:=yR (fun s':St=>some ({ s' with h:=s'.h }:St)) (zN P 8 t) l fun ys=>some (setSl s o.dst (.v (.agg ys)))
   have h4:=zV (c:=fun ys=>some (setSl { s with h:=s.h++tl } o.dst (.v (.agg ys)))) h
   exact ⟨_,VC h⟩
  ·obtain ⟨l,h,k⟩:=l1 h
   rw [g3,cond_false,k]
   exact ⟨_,asLeaf_go h⟩
 unfold za at h ⊢
 cases hg:o.guard with
 | none=>rw [hg] at h;exact hop h
 | some p=>
  obtain ⟨j,w⟩:=p
  rw [hg] at h
  simp only at h ⊢
  cases hj:(ops[j]?).bind (·.dst) with
  | none=>rw [hj] at h;cases h
  | some g=>
   rw [hj] at h
   simp only [Option.bind_some] at h ⊢
   cases hv:s.sl.get g with
   | none=>rw [hv] at h;cases h
   | some v=>
    rw [hv] at h
    simp only [Option.bind_some] at h ⊢
    split at h
    ·split at h
     ·rename_i hw;rw [if_pos hw];exact hop h
     ·rename_i hw;rw [if_neg hw];exact ⟨_,rfl⟩
    ·exact ⟨_,rfl⟩
    ·cases h
theorem swap1 {x y:Oper} (hr:zR A ev) (hc:wN A ops x y=true) {s s1 s2:St} (hold:quiet A ops y=true->∀ d,zM y=some d->Ys s d) (hfx:zb A x=.new->∀ d,x.dst=some d->yj d s) (hfy:zb A y=.new->∀ d,y.dst=some d->yj d s)
  (h1:za P A ev ops x s=some s1) (h2:za P A ev ops y s1=some s2):∃ t,za P A ev ops y s=some t/\za P A ev ops x t=some s2:=by
 rcases Bool.or_eq_true_iff.1 hc with hc | hc
 ·exact swap hr hc hfx hfy h1 h2
 simp only [Bool.and_eq_true] at hc
 obtain ⟨⟨hxo,hq⟩,hap⟩:=hc
 obtain ⟨a1,a2,a3⟩:=Oper.apart_spec hap
 obtain ⟨d,hb⟩:=Option.isSome_iff_exists.1 (Bool.and_eq_true_iff.1 hq).1
 have hdo:Ys s d:=hold hq d hb
 have hy:Yf y=true/\∀ {tl:AH} {s1:St},za P A ev ops y { s with h:=s.h++tl }=some s1->∃ u,za P A ev ops y s=some u:=by
  unfold zM at hb
  split at hb
  ·rename_i t d' lo hi mx ho
   cases hb
   exact ⟨by unfold Yf;rw [ho],fun h=>evOne_red ho hdo h⟩
  ·rename_i t d' ho
   cases hb
   exact ⟨by unfold Yf;rw [ho],fun h=>evOne_redL ho hdo h⟩
  ·cases hb
 obtain ⟨hyl,hred⟩:=hy
 have hcy:=Vq (A:=A) hyl
 have ny:zb A y≠.loc:=by rcases hcy with h | h<;>rw [h]<;>decide
 have ny':zb A y≠.new:=by rcases hcy with h | h<;>rw [h]<;>decide
 have hcx:zb A x=.mem:=by
  rcases Bool.or_eq_true_iff.1 hxo with hxo | hxo
  ·exact Qo hxo
  ·unfold YP at hxo
   split at hxo
   ·rename_i ho;unfold zb;rw [ho]
   ·cases hxo
 obtain ⟨v,tl,rfl⟩:∃ v tl,s1=setSl { s with h:=s.h++tl } x.dst v:=by
  rcases Bool.or_eq_true_iff.1 hxo with hxo | hxo
  ·exact wC hxo h1
  ·exact wa hr hxo h1
 rw [yA ny a1 (fun t ht=>a2 t ht) (fun hn=>absurd hn ny'),Option.map_eq_some_iff] at h2
 obtain ⟨u,hu,rfl⟩:=h2
 obtain ⟨t',ht⟩:=hred hu
 refine ⟨t',ht,?_⟩
 have hu2:=Qc (tl:=tl) hyl ht
 rw [hu2] at hu
 cases hu
 obtain ⟨⟨w,H,e1,_⟩,k1⟩:=yb ny ny' ht
 have hH:H=s.h:=by have:=k1 (by simpa using hcy);rw [e1] at this;simpa using this
 rw [We s hH] at e1
 subst e1
 rw [yA (by rw [hcx];decide) a3 (fun t ht hx=>a2 t hx ht) (fun hn=>by rw [hcx] at hn;cases hn),h1,Option.map_some]
 have e4:∀ (d:Option Tmp),({ setSl s d w with h:=(setSl s d w).h++tl }:St)=setSl { s with h:=s.h++tl } d w:=fun d=>by cases d<;>rfl
 rw [e4,zC (fun t ht=>a2 t ht)]
theorem zG {i:Nat} {o:Oper} (hi:ops[i]?=some o) {r:List Nat} {s:St}:zq P A ev ops (i::r) s=(za P A ev ops o s).bind (zq P A ev ops r):=by
 simp [zq,hi]
theorem fresh_loc {k:Nat} {s s':St} {o:Oper} (hf:yj k s) (hc:zb A o=.loc) (h:za P A ev ops o s=some s'):yj k s':=by
 have skip:some (setSl s o.dst .no)=some s'->yj k s':=by intro h;cases h;exact ZS (h:=s.h) hf rfl
 have take:evOp P A ev o s some=some s'->yj k s':=by
  intro h
  unfold evOp at h
  simp only [setK_eq,newLocalK_eq] at h
  unfold zb at hc
  split at hc<;>first | cases hc | skip
  all_goals first
   | (split at hc<;>first | cases hc | (rename_i d _;cases hl:A.loc.contains d<;>rw [hl] at hc<;>cases hc))
   | (rename_i d _;cases hl:A.loc.contains d<;>rw [hl] at hc<;>cases hc)
   | (rename_i ho
      rw [ho] at h
      simp only at h
      replace h:=(gB.1 h).2
      obtain ⟨_,_,h⟩:=oB h
      obtain ⟨_,_,h⟩:=oB h
      replace h:=(gB.1 h).2
      obtain ⟨s1,h1,h⟩:=yH h
      cases h
      have e:=Tc h1
      exact ZS (s:=s1) (h:=s1.h) (by unfold yj;rw [e];exact hf) rfl)
 unfold za at h
 split at h
 ·exact take h
 ·obtain ⟨d,_,h⟩:=oB h
  obtain ⟨g,_,h⟩:=oB h
  split at h
  ·split at h
   ·exact take h
   ·exact skip h
  ·exact skip h
  ·cases h
def Zc (A:FAn) (ops:Array Oper) (l:List Nat) (s:St):Prop:=∀ j∈l,∀ o,ops[j]?=some o->zb A o=.new->∀ d,o.dst=some d->yj d s
def NewDst (A:FAn) (ops:Array Oper):Prop:=∀ (j:Nat) o,ops[j]?=some o->zb A o=.new->∀ d,o.dst=some d->∀ (k:Nat) x,k≠j->ops[k]?=some x->x.dst≠some d
theorem UB {l:List Nat} {k:Nat} {x:Oper} {s s':St} (hnd:NewDst A ops) (hx:ops[k]?=some x) (hk:k ∉ l) (hf:Zc A ops l s) (h:za P A ev ops x s=some s'):Zc A ops l s':=by
 intro j hj o ho hn d hd
 have hne:k≠j:=fun e=>hk (e▸hj)
 have hf':=hf j hj o ho hn d hd
 by_cases hc:zb A x=.loc
 ·exact fresh_loc hf' hc h
 ·exact fresh_one hf' hc (hnd j o ho hn d hd k x hne hx) h
theorem bubble (hr:zR A ev) (hnd:NewDst A ops) {i:Nat} {o:Oper} (hi:ops[i]?=some o) {r2:List Nat} {s':St}:∀ {r1:List Nat} {s:St},(r1++i::r2).Nodup->(quiet A ops o=true->∀ d,zM o=some d->Ys s d)->Zc A ops (r1++i::r2) s->(∀ k∈r1,k < i/\∃ x,ops[k]?=some x/\wN A ops x o=true)->zq P A ev ops (r1++i::r2) s=some s'->
  ∃ t,za P A ev ops o s=some t/\zq P A ev ops (r1++r2) t=some s'
 | [],s,_,_,_,_,h=>by
  rw [List.nil_append,zG hi] at h
  exact oB h
 | k::r1,s,hn,hq,hf,hk,h=>by
  obtain ⟨hki,x,hx,hc⟩:=hk k (List.mem_cons_self ..)
  rw [List.cons_append,zG hx] at h
  obtain ⟨s1,h1,h⟩:=oB h
  rw [List.cons_append,List.nodup_cons] at hn
  have hf1:Zc A ops (r1++i::r2) s1:=UB hnd hx hn.1 (fun j hj=>hf j (List.mem_cons_of_mem _ hj)) h1
  have hq1:quiet A ops o=true->∀ d,zM o=some d->Ys s1 d:=by
   intro hh d hd
   have hap:=QQ hc
   obtain ⟨a1,_,_⟩:=Oper.apart_spec hap
   have hqx:Vv A x=true:=by
    have:=UX (Bool.and_eq_true_iff.1 hh).2 (by simpa using hi) hki (by simpa using hx)
    rw [hap] at this
    simpa using this
   refine old_one hr hqx (fun he=>a1 d he ?_) (hq hh d hd) h1
   unfold zM at hd
   split at hd
   ·rename_i ho
    cases hd
    exact List.mem_append_left _ (List.mem_filterMap.2 ⟨.tmp _,by rw [ho];simp [Op.operands],rfl⟩)
   ·rename_i ho
    cases hd
    exact List.mem_append_left _ (List.mem_filterMap.2 ⟨.tmp _,by rw [ho];simp [Op.operands],rfl⟩)
   ·cases hd
  obtain ⟨t1,ht1,h⟩:=bubble hr hnd hi hn.2 hq1 hf1 (fun k hk'=>hk k (List.mem_cons_of_mem _ hk')) h
  obtain ⟨t,ht,hxt⟩:=swap1 hr hc hq (hf k (List.mem_cons_self ..) x hx) (hf i (List.mem_cons_of_mem _ (by simp)) o hi) h1 ht1
  refine ⟨t,ht,?_⟩
  rw [List.cons_append,zG hx,hxt]
  exact h
def xh (o:Oper):List Nat:=(o.after.toList.filter fun e=>Region.binds .any e).map (·.on)
def maskOf (M:List Nat) (es:List Nat):Nat:=es.foldl (fun m e=>m ||| (1 <<< e) ||| M.getD e 0) 0
def masks:List Oper->List Nat->List Nat
 | [],acc=>acc
 | o::r,acc=>masks r (acc++[maskOf acc (xh o)])
def newDst (A:FAn) (ops:Array Oper) (j:Nat) (o:Oper):Bool:=
 match zb A o,o.dst with
 | .new,some d=>(List.range ops.size).all fun k=>Nat.beq k j||(match ops[k]? with | some x=>!(x.dst==some d) | none=>true)
 | _,_=>true
def xW (cm:Oper->Oper->Bool) (A:FAn) (ops:Array Oper) (M:List Nat):Nat->List Oper->Bool
 | _,[]=>true
 | j,o::r=>((xh o).all fun e=>decide (e < j))&&Nat.beq (M.getD j 0) (maskOf M (xh o))&&newDst A ops j o&&
   ((List.range j).all fun i=>(M.getD j 0).testBit i||(match ops[i]? with | some x=>cm x o | none=>false))&&xW cm A ops M (j+1) r
def dOk0 (A:FAn) (ops:Array Oper):Bool:=xW (wN A ops) A ops (masks ops.toList []) 0 ops.toList
variable {cm : Oper -> Oper -> Bool}
theorem xN {M:List Nat}:∀ {l:List Oper} {k:Nat},xW cm A ops M k l=true->∀ {j:Nat} {o:Oper},l[j]?=some o->
  (∀ e∈xh o,e < k+j)/\M.getD (k+j) 0=maskOf M (xh o)/\∀ i,i < k+j->(M.getD (k+j) 0).testBit i=true\/∃ x,ops[i]?=some x/\cm x o=true
 | [],_,_,j,o,ho=>by simp at ho
 | x::l,k,h,j,o,ho=>by
  simp only [xW,Bool.and_eq_true] at h
  obtain ⟨⟨⟨⟨h1,h2⟩,_⟩,h3⟩,h4⟩:=h
  cases j with
  | zero=>
   simp at ho;subst ho
   refine ⟨fun e he=>by have:=List.all_eq_true.1 h1 e he;simpa using this,Nat.eq_of_beq_eq_true h2,fun i hi=>?_⟩
   have:=List.all_eq_true.1 h3 i (by simpa using hi)
   simp only [Bool.or_eq_true] at this
   rcases this with h | h
   ·exact .inl h
   ·refine .inr ?_
    split at h
    ·rename_i y hy;exact ⟨y,hy,h⟩
    ·cases h
  | succ j=>
   have:=xN h4 (j:=j) (by simpa using ho)
   rw [show k+(j+1)=k+1+j by omega]
   exact this
theorem UY {M:List Nat}:∀ {l:List Oper} {k:Nat},xW cm A ops M k l=true->∀ {j:Nat} {o:Oper},l[j]?=some o->newDst A ops (k+j) o=true
 | [],_,_,j,o,ho=>by simp at ho
 | x::l,k,h,j,o,ho=>by
  simp only [xW,Bool.and_eq_true] at h
  obtain ⟨⟨⟨⟨_,_⟩,h5⟩,_⟩,h4⟩:=h
  cases j with
  | zero=>simp at ho;subst ho;exact h5
  | succ j=>
   have:=UY h4 (j:=j) (by simpa using ho)
   rw [show k+(j+1)=k+1+j by omega]
   exact this
theorem newDst_of {M:List Nat} (h:xW cm A ops M 0 ops.toList=true):NewDst A ops:=by
 intro j o ho hn d hd k x hk hx
 have:=UY h (j:=j) (o:=o) (by simpa using ho)
 rw [Nat.zero_add] at this
 simp only [newDst,hn,hd] at this
 have h2:=List.all_eq_true.1 this k (by simpa using (Array.getElem?_eq_some_iff.1 hx).1)
 simp only [Bool.or_eq_true,hx,Bool.not_eq_true'] at h2
 rcases h2 with h2 | h2
 ·exact absurd (Nat.eq_of_beq_eq_true h2) hk
 ·intro e;rw [e] at h2;simp at h2
theorem UM {M:List Nat} {i:Nat}:∀ {es:List Nat} {m:Nat},(es.foldl (fun m e=>m ||| (1 <<< e) ||| M.getD e 0) m).testBit i=true->m.testBit i=true\/∃ e∈es,i=e\/(M.getD e 0).testBit i=true
 | [],m,h=>.inl h
 | e::es,m,h=>by
  simp only [List.foldl_cons] at h
  rcases UM h with h | ⟨e',he',h⟩
  ·simp only [Nat.testBit_or,Bool.or_eq_true] at h
   rcases h with (h | h) | h
   ·exact .inl h
   ·refine .inr ⟨e,List.mem_cons_self ..,.inl ?_⟩
    rw [Nat.shiftLeft_eq,Nat.one_mul,Nat.testBit_two_pow] at h
    exact (of_decide_eq_true h).symm
   ·exact .inr ⟨e,List.mem_cons_self ..,.inr h⟩
  ·exact .inr ⟨e',List.mem_cons_of_mem _ he',h⟩
def wq (ops:Array Oper) (L:Array Bool):Prop:=∀ (j:Nat) o,ops[j]?=some o->L.getD j true=true->∀ e∈xh o,L.getD e false=true
theorem Wn {M:List Nat} (hM:xW cm A ops M 0 ops.toList=true) {L:Array Bool} (hL:wq ops L) (hs:L.size=ops.size):∀ (j:Nat) (o:Oper),ops[j]?=some o->(∀ e∈xh o,L.getD e false=true)->
  ∀ i,(M.getD j 0).testBit i=true->L.getD i false=true:=by
 intro j
 induction j using Nat.strongRecOn with
 | _ j ih=>
  intro o ho hes i hi
  obtain ⟨h1,h2,_⟩:=xN hM (j:=j) (o:=o) (by simpa using ho)
  rw [Nat.zero_add] at h1 h2
  rw [h2] at hi
  rcases UM hi with h | ⟨e,he,h⟩
  ·simp at h
  ·rcases h with rfl | h
   ·exact hes _ he
   ·have hlt:=h1 e he
    have hj:=(Array.getElem?_eq_some_iff.1 ho).1
    have heo:ops[e]?=some ops[e]:=Array.getElem?_eq_getElem (by omega)
    have hel:=hes e he
    have hel2:L.getD e true=true:=by
     simp only [Array.getD_eq_getD_getElem?] at hel ⊢
     rw [Array.getElem?_eq_getElem (by omega)] at hel ⊢
     exact hel
    exact ih e hlt _ heo (hL e _ heo hel2) i h
def rem (ops:Array Oper) (L:Array Bool):List Nat:=(List.range ops.size).filter fun i=>!L.getD i true
theorem mem_rem {L:Array Bool} {i:Nat}:i∈rem ops L↔i < ops.size/\L.getD i true=false:=by
 simp [rem]
theorem xM (L:Array Bool):(rem ops L).Pairwise (· < ·):=List.Pairwise.filter _ List.pairwise_lt_range
theorem edges_ready {o:Oper} {L:Array Bool}:(o.after.all fun e=>!Region.binds .any e||L.getD e.on false)=true↔∀ e∈xh o,L.getD e false=true:=by
 simp only [Array.all_eq_true_iff_forall_mem,Bool.or_eq_true,Bool.not_eq_true',xh,List.mem_map,List.mem_filter,Array.mem_toList_iff]
 constructor
 ·rintro h e ⟨x,⟨hx,hb⟩,rfl⟩
  rcases h x hx with h | h
  ·rw [h] at hb;cases hb
  ·exact h
 ·intro h x hx
  cases hb:Region.binds .any x with
  | false=>exact .inl rfl
  | true=>exact .inr (h _ ⟨x,⟨hx,hb⟩,rfl⟩)
theorem mem_ready {L:Array Bool} {i:Nat}:i∈Region.ready .any ops L↔∃ o,ops[i]?=some o/\L.getD i true=false/\∀ e∈xh o,L.getD e false=true:=by
 simp only [Region.ready,List.mem_filter,List.mem_range,Bool.and_eq_true,Bool.not_eq_true']
 constructor
 ·rintro ⟨hi,h1,h2⟩
  have ho:ops[i]?=some ops[i]:=Array.getElem?_eq_getElem hi
  rw [ho] at h2
  exact ⟨_,ho,h1,edges_ready.1 (by simpa using h2)⟩
 ·rintro ⟨o,ho,h1,h2⟩
  refine ⟨(Array.getElem?_eq_some_iff.1 ho).1,h1,?_⟩
  rw [ho]
  simpa using edges_ready.2 h2
theorem rem_set {L:Array Bool} (hs:L.size=ops.size) {i:Nat} {r1 r2:List Nat} (h:rem ops L=r1++i::r2):rem ops (L.setIfInBounds i true)=r1++r2:=by
 have hi:i∈rem ops L:=by rw [h];simp
 have hsz:=(mem_rem.1 hi).1
 have e1:rem ops (L.setIfInBounds i true)=(rem ops L).filter fun k=>!decide (k=i):=by
  simp only [rem,List.filter_filter]
  apply List.filter_congr
  intro k hk
  simp only [Array.getD_eq_getD_getElem?]
  by_cases e:i=k
  ·subst e;simp [hs,hsz]
  ·rw [Array.getElem?_setIfInBounds_ne e]
   simp [Ne.symm e]
 rw [e1,h]
 have hp:=xM (ops:=ops) L
 rw [h] at hp
 obtain ⟨_,hp2,hp3⟩:=List.pairwise_append.1 hp
 have f1:r1.filter (fun k=>!decide (k=i))=r1:=List.filter_eq_self.2 fun k hk=>by
  have:=hp3 k hk i (by simp)
  simp;omega
 have f2:r2.filter (fun k=>!decide (k=i))=r2:=List.filter_eq_self.2 fun k hk=>by
  have:=List.rel_of_pairwise_cons hp2 hk
  simp;omega
 rw [List.filter_append,List.filter_cons,f1,f2]
 simp
theorem Uq {L:Array Bool} (hL:wq ops L) {i:Nat} {o:Oper} (ho:ops[i]?=some o) (hes:∀ e∈xh o,L.getD e false=true):wq ops (L.setIfInBounds i true):=by
 have mono:∀ e,L.getD e false=true->(L.setIfInBounds i true).getD e false=true:=by
  intro e he
  simp only [Array.getD_eq_getD_getElem?] at he ⊢
  by_cases h:i=e
  ·subst h
   have hlt:i < L.size:=by
    cases hl:L[i]? with
    | none=>rw [hl] at he;cases he
    | some b=>exact (Array.getElem?_eq_some_iff.1 hl).1
   simp [hlt]
  ·rw [Array.getElem?_setIfInBounds_ne h];exact he
 intro j oj hj hl e he
 by_cases h:i=j
 ·subst h;rw [ho] at hj;cases hj;exact mono e (hes e he)
 ·refine mono e (hL j oj hj ?_ e he)
  simp only [Array.getD_eq_getD_getElem?] at hl ⊢
  rw [Array.getElem?_setIfInBounds_ne h] at hl;exact hl
end
variable {P : Program} {A : FAn} {ev : Ev} {B : Nat} {Ie : List Loc} {he : AH} {we : World} {ops : Array Oper}
theorem old_rel {I:List Loc} {lam:Nat->Nat} {s:St} {a:Act} {w:World} (r:Rel P B Ie he we I lam s a w) (d:Tmp):Ys s d:=by
 intro v id hv hid
 obtain ⟨x,_,hx⟩:=r.tm d v hv
 have hlen:=r.hp.len
 unfold scId at hid
 split at hid
 ·cases hid
  obtain ⟨L,_,_,hL,_⟩:=hx
  rw [<- hlen];exact (List.getElem?_eq_some_iff.1 hL).1
 ·cases hid
  obtain ⟨L,hL,_⟩:=hx
  rw [<- hlen];exact (List.getElem?_eq_some_iff.1 hL).1
 ·cases hid
theorem any_in0 (hN:yc P=true) (hor:wX P B A) (hev:Zn P B ev) (hro:zR A ev) (hd:dOk0 A ops=true) {ro:Option Nat} {Q:Exit->Act->World->Prop}:∀ (fuel:Nat) {L:Array Bool} {I:List Loc} {lam:Nat->Nat} {s:St} {a:Act} {w:World},
  Rel P B Ie he we I lam s a w->Zc A ops (rem ops L) s->wq ops L->L.size=ops.size->(rem ops L).length<=fuel->∀ {s':St},zq P A ev ops (rem ops L) s=some s'->wr P B Ie he we a s' (Q .normal)->wpAnyIn (FW ro) 0 P .any ops Q fuel L a w:=by
 have hM:xW (wN A ops) A ops (masks ops.toList []) 0 ops.toList=true:=hd
 have noReady:∀ {L:Array Bool},wq ops L->L.size=ops.size->Region.ready .any ops L=[]->rem ops L=[]:=by
  intro L hL hs hr
  cases hrem:rem ops L with
  | nil=>rfl
  | cons i r=>
   exfalso
   have hi:i∈rem ops L:=by rw [hrem];simp
   obtain ⟨hlt,hl⟩:=mem_rem.1 hi
   have ho:ops[i]?=some ops[i]:=Array.getElem?_eq_getElem hlt
   have hready:i∈Region.ready .any ops L:=mem_ready.2 ⟨_,ho,hl,fun e he=>by
    obtain ⟨h1,_,_⟩:=xN hM (j:=i) (o:=ops[i]) (by simpa using ho)
    have hei:=h1 e he
    rw [Nat.zero_add] at hei
    have:e ∉ rem ops L:=by
     intro hm
     have hp:=xM (ops:=ops) L
     rw [hrem] at hp hm
     rcases List.mem_cons.1 hm with rfl | hm
     ·omega
     ·have:=List.rel_of_pairwise_cons hp hm;omega
    have hnl:¬ (e < ops.size/\L.getD e true=false):=fun h=>this (mem_rem.2 h)
    have hes:e < ops.size:=by omega
    have:L.getD e true=true:=by cases hh:L.getD e true with
     | true=>rfl
     | false=>exact absurd ⟨hes,hh⟩ hnl
    simp only [Array.getD_eq_getD_getElem?] at this ⊢
    rw [Array.getElem?_eq_getElem (by omega)] at this ⊢
    exact this⟩
   rw [hr] at hready;simp at hready
 intro fuel
 induction fuel with
 | zero=>
  intro L I lam s a w r _ hL hs hf s' h hn
  have hrem:rem ops L=[]:=List.eq_nil_of_length_eq_zero (by omega)
  rw [hrem] at h;cases h
  refine ⟨?_,hn _ _ _ _ r rfl⟩
  cases hr:Region.ready .any ops L with
  | nil=>rfl
  | cons i l=>
   have:i∈Region.ready .any ops L:=by rw [hr];simp
   obtain ⟨o,ho,hl,_⟩:=mem_ready.1 this
   have:i∈rem ops L:=mem_rem.2 ⟨(Array.getElem?_eq_some_iff.1 ho).1,hl⟩
   rw [hrem] at this;simp at this
 | succ fuel ih=>
  intro L I lam s a w r hfr hL hs hf s' h hn
  refine ⟨fun hr=>?_,fun i hi=>?_⟩
  ·rw [noReady hL hs hr] at h;cases h
   exact hn _ _ _ _ r rfl
  ·obtain ⟨o,ho,hl,hes⟩:=mem_ready.1 hi
   have hm:i∈rem ops L:=mem_rem.2 ⟨(Array.getElem?_eq_some_iff.1 ho).1,hl⟩
   obtain ⟨r1,r2,hr⟩:=List.append_of_mem hm
   have hp:=xM (ops:=ops) L
   rw [hr] at hp
   obtain ⟨_,_,hp3⟩:=List.pairwise_append.1 hp
   have hcomm:∀ k∈r1,k < i/\∃ x,ops[k]?=some x/\wN A ops x o=true:=by
    intro k hk
    have hlt:=hp3 k hk i (by simp)
    refine ⟨hlt,?_⟩
    obtain ⟨_,_,h3⟩:=xN hM (j:=i) (o:=o) (by simpa using ho)
    rw [Nat.zero_add] at h3
    rcases h3 k hlt with h3 | h3
    ·exfalso
     have hkl:=Wn hM hL hs i o ho hes k h3
     have hkr:k∈rem ops L:=by rw [hr];simp [hk]
     have hkr2:=(mem_rem.1 hkr).2
     have hks:=(mem_rem.1 hkr).1
     simp only [Array.getD_eq_getD_getElem?] at hkl hkr2
     rw [Array.getElem?_eq_getElem (by omega)] at hkl hkr2
     simp at hkl hkr2
     rw [hkl] at hkr2;cases hkr2
    ·exact h3
   rw [hr] at h
   have hnodup:(r1++i::r2).Nodup:=by rw [<- hr];exact (xM L).imp (fun h=>Nat.ne_of_lt h)
   have hnd:=newDst_of hM
   obtain ⟨t,ht,h⟩:=bubble hro hnd ho hnodup (fun _ d _=>old_rel r d) (by rw [<- hr];exact hfr) hcomm h
   have hi12:i ∉ r1++r2:=by
    intro hm
    have hp:=List.nodup_append.1 hnodup
    rcases List.mem_append.1 hm with hm | hm
    ·exact hp.2.2 i hm i (by simp) rfl
    ·exact (List.nodup_cons.1 hp.2.1).1 hm
   have hfr2:Zc A ops (r1++r2) t:=UB hnd ho hi12 (fun j hj=>hfr j (by rw [hr];rcases List.mem_append.1 hj with hj | hj<;>simp [hj])) ht
   refine one_in hN hor hev r ho ht fun I' lam' a' w' r' hd'=>?_
   have hrs:=rem_set hs hr
   refine ih r' (by rw [hrs];exact hfr2) (Uq hL ho hes) (by simp [hs]) ?_ (s':=s') (by rw [hrs];exact h) fun I2 l2 a2 w2 r2 hd2=>hn I2 l2 a2 w2 r2 (hd2.trans hd')
   rw [hrs]
   have hlen:(rem ops L).length=r1.length+(r2.length+1):=by rw [hr];simp
   simp only [List.length_append]
   omega
def tr (q i:Nat):Nat:=if i=q then q+1 else if i=q+1 then q else i
theorem VA (q i:Nat):tr q (tr q i)=i:=by
 unfold tr
 by_cases h1:i=q
 ·simp [h1]
 ·by_cases h2:i=q+1
  ·simp [h2]
  ·simp [h1,h2]
theorem Tf {q i:Nat} (h:i < q):tr q i=i:=by unfold tr;rw [if_neg (by omega),if_neg (by omega)]
theorem tr_gt {q i:Nat} (h:q+1 < i):tr q i=i:=by unfold tr;rw [if_neg (by omega),if_neg (by omega)]
def sw {α:Type} (q:Nat) (l:List α):List α:=match l[q]?,l[q+1]? with
 | some a,some b=>(l.set q b).set (q+1) a
 | _,_=>l
theorem xL {α:Type} (q:Nat) (l:List α):(sw q l).length=l.length:=by unfold sw;split<;>simp
theorem xX {α:Type} {q:Nat} {l:List α} (h:q+1 < l.length) (i:Nat):(sw q l)[i]?=l[tr q i]?:=by
 have h1:l[q]?=some l[q]:=List.getElem?_eq_getElem (by omega)
 have h2:l[q+1]?=some l[q+1]:=List.getElem?_eq_getElem h
 unfold sw
 rw [h1,h2]
 simp only
 by_cases c1:i=q
 ·subst c1
  rw [List.getElem?_set_ne (by omega),List.getElem?_set_self (by omega)]
  unfold tr;rw [if_pos rfl,h2]
 ·by_cases c2:i=q+1
  ·subst c2
   rw [List.getElem?_set_self (by simp;omega)]
   unfold tr;rw [if_neg (by omega),if_pos rfl,h1]
  ·rw [List.getElem?_set_ne (by omega),List.getElem?_set_ne (by omega)]
   unfold tr;rw [if_neg c1,if_neg c2]
theorem sw_snoc {α:Type} {q:Nat} {l:List α} (h:q+1 < l.length) (x:α):sw q (l++[x])=sw q l++[x]:=by
 apply List.ext_getElem?
 intro i
 rw [xX (by simp;omega)]
 by_cases hi:i < l.length
 ·have ht:tr q i < l.length:=by unfold tr;split<;>(try split)<;>omega
  rw [List.getElem?_append_left ht,List.getElem?_append_left (by rw [xL];exact hi),xX h]
 ·rw [tr_gt (by omega),List.getElem?_append_right (by omega),List.getElem?_append_right (by rw [xL];omega),xL]
theorem sw_last {α:Type} (l:List α) (x y:α):sw l.length (l++[x]++[y])=l++[y]++[x]:=by
 apply List.ext_getElem?
 intro i
 rw [xX (by simp)]
 rcases Nat.lt_trichotomy i l.length with h | h | h
 ·rw [Tf h]
  simp only [List.append_assoc]
  rw [List.getElem?_append_left h,List.getElem?_append_left h]
 ·subst h
  unfold tr;rw [if_pos rfl]
  simp
 ·by_cases h2:i=l.length+1
  ·subst h2
   unfold tr;rw [if_neg (by omega),if_pos rfl]
   simp
  ·rw [tr_gt (by omega),List.getElem?_eq_none (by simp;omega),List.getElem?_eq_none (by simp;omega)]
noncomputable def AO.ren (f:Nat->Nat):AO->AO
 | .row own e cs=>.row own e (Sc.renL f cs)
 | .box e cs=>.box e (Sc.renL f cs)
 | .dead=>.dead
 | .loop l=>.loop { l with sl:=l.sl.map (SV.ren f) }
noncomputable def St.ren (q:Nat) (s:St):St:={ sl:=s.sl.map (SV.ren (tr q)),lo:=s.lo.map (Option.map (Sc.renL (tr q))),h:=(sw q s.h).map (AO.ren (tr q)) }
theorem yP (f:Nat->Nat):∀ (l:List Sc),Sc.renL f l=l.map (Sc.ren f)
 | []=>rfl
 | c::r=>by rw [Sc.renL,yP f r];rfl
section
variable {I I' : List Loc} {f : Nat -> Nat}
theorem fnIn_ren (hI:∀ i L,I[f i]?=some L->I'[i]?=some L) {g:Fn} {cap:Array Value} (h:VW I cap (YK f g)):VW I' cap g/\YJ I (YK f g)=YJ I' g:=by
 cases g<;>try exact ⟨trivial,rfl⟩
 rename_i id
 have h1:f id < I.length:=h.1
 have h2:=hI id _ (List.getElem?_eq_getElem h1)
 refine ⟨⟨(List.getElem?_eq_some_iff.1 h2).1,h.2⟩,?_⟩
 simp only [YK,YJ,h2,List.getElem?_eq_getElem h1]
theorem fnRen_fix {q:Nat} (hq:I.length<=q) {g:Fn} {cap:Array Value} (h:VW I cap g):YK (tr q) g=g:=by
 cases g<;>try rfl
 rename_i id
 have h1:id < I.length:=h.1
 simp only [YK]
 rw [Tf (by omega)]
mutual
theorem ZZ (hI:∀ i L,I[f i]?=some L->I'[i]?=some L):∀ (s:Sc) (v:Value),ScRel I (s.ren f) v->ScRel I' s v
 | .ptr _ _,_,⟨L,h1,h2⟩=>⟨L,hI _ _ h1,h2⟩
 | .sl _ _ _,_,⟨L,c,a,h1,h2⟩=>⟨L,c,a,hI _ _ h1,h2⟩
 | .fn _ _ _ cs,_,⟨g,c,h1,h2,h3,h0,h4⟩=>⟨g,c,h1.trans (by rw [(fnIn_ren hI h0).2]),h2,h3,(fnIn_ren hI h0).1,wK hI cs _ h4⟩
 | .bool _,_,r=>r
 | .int _ _,_,r=>r
 | .str _,_,r=>r
 | .nilp,_,r=>r
 | .nils _,_,r=>r
 | .nilf,_,r=>r
 | .nili,_,r=>r
theorem wK (hI:∀ i L,I[f i]?=some L->I'[i]?=some L):∀ (s:List Sc) (v:List Value),ScRels I (Sc.renL f s) v->ScRels I' s v
 | [],[],_=>trivial
 | x::xs,v::vs,⟨h1,h2⟩=>⟨ZZ hI x v h1,wK hI xs vs h2⟩
 | [],_::_,r=>r
 | _::_,[],r=>r
end
theorem TX (hI:∀ i L,I[f i]?=some L->I'[i]?=some L) {a:AV} {v:Value} (r:AVRel I (a.ren f) v):AVRel I' a v:=by
 cases a with
 | sc s=>exact ZZ hI s v r
 | agg cs=>obtain ⟨arr,h1,h2⟩:=r;exact ⟨arr,h1,wK hI _ _ h2⟩
theorem Um (hI:∀ i L,I[f i]?=some L->I'[i]?=some L):∀ {a:List AV} {v:List Value},AVRels I (a.map (AV.ren f)) v->AVRels I' a v
 | [],[],_=>trivial
 | _::_,_::_,⟨h1,h2⟩=>⟨TX hI h1,Um hI h2⟩
 | [],_::_,r=>r.elim
 | _::_,[],r=>r.elim
theorem QL (hI:∀ i L,I[f i]?=some L->I'[i]?=some L) {lam:Nat->Nat} {a:SV} {v:Value} (r:SVRel I lam (a.ren f) v):SVRel I' lam a v:=by
 cases a with
 | u=>trivial
 | no=>exact r
 | v a=>exact TX hI r
 | t vs=>obtain ⟨arr,h1,h2⟩:=r;exact ⟨arr,h1,Um hI h2⟩
 | l k o=>exact r
 | s k n=>exact r
mutual
theorem Vh {q:Nat} (hq:I.length<=q):∀ (s:Sc) (v:Value),ScRel I s v->s.ren (tr q)=s
 | .ptr _ _,_,⟨L,h1,h2⟩=>by rw [Sc.ren,Tf (by have:=(List.getElem?_eq_some_iff.1 h1).1;omega)]
 | .sl _ _ _,_,⟨L,c,a,h1,h2⟩=>by rw [Sc.ren,Tf (by have:=(List.getElem?_eq_some_iff.1 h1).1;omega)]
 | .fn _ _ _ cs,_,⟨g,c,h1,h2,h3,h0,h4⟩=>by rw [Sc.ren,wJ hq cs _ h4,fnRen_fix hq h0]
 | .bool _,_,_=>rfl
 | .int _ _,_,_=>rfl
 | .str _,_,_=>rfl
 | .nilp,_,_=>rfl
 | .nils _,_,_=>rfl
 | .nilf,_,_=>rfl
 | .nili,_,_=>rfl
theorem wJ {q:Nat} (hq:I.length<=q):∀ (s:List Sc) (v:List Value),ScRels I s v->Sc.renL (tr q) s=s
 | [],[],_=>rfl
 | x::xs,v::vs,⟨h1,h2⟩=>by rw [Sc.renL,Vh hq x v h1,wJ hq xs vs h2]
 | [],_::_,r=>r.elim
 | _::_,[],r=>r.elim
end
theorem TW {q:Nat} (hq:I.length<=q) {a:AV} {v:Value} (r:AVRel I a v):a.ren (tr q)=a:=by
 cases a with
 | sc s=>rw [AV.ren,Vh hq s v r]
 | agg cs=>obtain ⟨arr,h1,h2⟩:=r;rw [AV.ren,wJ hq _ _ h2]
theorem Ul {q:Nat} (hq:I.length<=q):∀ {a:List AV} {v:List Value},AVRels I a v->a.map (AV.ren (tr q))=a
 | [],[],_=>rfl
 | _::_,_::_,⟨h1,h2⟩=>by rw [List.map_cons,TW hq h1,Ul hq h2]
 | [],_::_,r=>r.elim
 | _::_,[],r=>r.elim
theorem QK {q:Nat} (hq:I.length<=q) {lam:Nat->Nat} {a:SV} {v:Value} (r:SVRel I lam a v):a.ren (tr q)=a:=by
 cases a with
 | u=>rfl
 | no=>rfl
 | v a=>rw [SV.ren,TW hq r]
 | t vs=>obtain ⟨arr,h1,h2⟩:=r;rw [SV.ren,Ul hq h2]
 | l k o=>rfl
 | s k n=>rfl
end
structure Wf (s:St):Prop where
 sl:∀ q,s.h.length<=q->∀ (i:Nat) v,s.sl.get i=some v->v.ren (tr q)=v
 lo:∀ q,s.h.length<=q->∀ (k:Nat) cs,s.lo.get k=some cs->cs.map (Sc.renL (tr q))=cs
 h:∀ q,s.h.length<=q->∀ o∈s.h,o.ren (tr q)=o
variable {P : Program} {A : FAn} {ev : Ev} {B : Nat} {Ie : List Loc} {he : AH} {we : World} {I : List Loc} {lam : Nat -> Nat} {s t : St} {a : Act} {w : World} {ops : Array Oper}
theorem cells_fix {q:Nat} {cs:List Sc} (h:∀ (j:Nat) c,cs[j]?=some c->c.ren (tr q)=c):Sc.renL (tr q) cs=cs:=by
 rw [yP]
 apply List.ext_getElem?
 intro i
 rw [List.getElem?_map]
 cases hi:cs[i]? with
 | none=>rfl
 | some c=>rw [Option.map_some,h i c hi]
theorem Rel.wf (r:Rel P B Ie he we I lam s a w):Wf s where
 sl q hq i v hv:=by
  obtain ⟨x,_,hx⟩:=r.tm i v hv
  exact QK (by rw [r.hp.len];exact hq) hx
 lo q hq k cs hk:=by
  cases cs with
  | none=>rfl
  | some cs=>
   obtain ⟨_,⟨arr,e,_,h⟩,_⟩:=r.lo.cells k cs hk
   rw [Option.map_some,wJ (by rw [r.hp.len];exact hq) _ _ h]
 h q hq o ho:=by
  obtain ⟨i,hi⟩:=List.getElem?_of_mem ho
  have hlt:i < I.length:=by rw [r.hp.len];exact (List.getElem?_eq_some_iff.1 hi).1
  have ho:=r.hp.obj i o _ hi (List.getElem?_eq_getElem hlt)
  cases o with
  | row own e cs=>
   have hc:∀ (j:Nat) c,cs[j]?=some c->∃ v,ScRel I c v:=by
    intro j c hj
    cases own with
    | false=>obtain ⟨_,_,h⟩:=ho;obtain ⟨v,_,hv⟩:=h j c hj;exact ⟨v,hv⟩
    | true=>obtain ⟨_,_,arr,_,_,_,h⟩:=ho;obtain ⟨v,_,hv⟩:=h j c hj;exact ⟨v,hv⟩
   rw [AO.ren,cells_fix fun j c hj=>by
    obtain ⟨v,hv⟩:=hc j c hj
    exact Vh (by rw [r.hp.len];exact hq) c v hv]
  | box e cs=>
   obtain ⟨_,_,_,arr,_,h⟩:=ho
   rw [AO.ren,wJ (by rw [r.hp.len];exact hq) _ _ h]
  | dead=>rfl
  | loop l=>
   obtain ⟨_,_,_,_,_,_,_,_,h⟩:=ho
   have e:l.sl.map (SV.ren (tr q))=l.sl:=by
    refine Tr.map_id' fun i v hv=>?_
    obtain ⟨x,_,hx,_⟩:=h i v hv
    exact QK (by rw [r.hp.len];exact hq) hx
   rw [AO.ren,e]
theorem Rel.unren {q:Nat} (r:Rel P B Ie he we I lam (St.ren q s) a w) (h1:Ie.length<=q) (h2:q+1 < s.h.length):Rel P B Ie he we (sw q I) lam s a w:=by
 have hl:I.length=s.h.length:=by have:=r.hp.len;simpa [St.ren,xL] using this
 have hI:∀ i L,I[tr q i]?=some L->(sw q I)[i]?=some L:=fun i L h=>by rw [xX (by omega)];exact h
 have hI2:∀ {i L},(sw q I)[i]?=some L->I[tr q i]?=some L:=fun h=>by rw [xX (by omega)] at h;exact h
 have hh:∀ {i o},s.h[i]?=some o->(St.ren q s).h[tr q i]?=some (o.ren (tr q)):=fun {i o} h=>by
  show ((sw q s.h).map _)[_]?=_
  rw [List.getElem?_map,xX h2,VA,h];rfl
 have own:∀ b,OwnB (sw q I) s.h b->OwnB I (St.ren q s).h b:=by
  rintro b ⟨i,o,L,g1,g2,g3,g4⟩
  exact ⟨tr q i,_,L,hh g1,by cases o<;>first | exact g2 | (rename_i ow _ _;cases ow<;>exact g2),hI2 g3,g4⟩
 refine ⟨fun i v hv=>?_,⟨fun k cs hk=>?_,fun k k' cs cs' hk hk'=>?_⟩,⟨by rw [xL];exact hl,fun i o L g1 g2=>?_,fun i j o o' L L' g1 g2 g3 g4 g5 g6 g7=>?_⟩,⟨?_,r.kp.bel,r.kp.size,r.kp.foot,fun b hb=>r.kp.fresh b (own b hb)⟩,r.base,r.df⟩
 ·obtain ⟨x,g1,g2⟩:=r.tm i (v.ren (tr q)) (by show (s.sl.map _).get i=_;rw [Tr.get_map,hv];rfl)
  exact ⟨x,g1,QL hI g2⟩
 ·obtain ⟨g1,⟨arr,e,g2,g3⟩,g4⟩:=r.lo.cells k (Sc.renL (tr q) cs) (by show (s.lo.map _).get k=_;rw [Tr.get_map,hk];rfl)
  exact ⟨g1,⟨arr,e,g2,wK hI _ _ g3⟩,fun hb=>g4 (own _ hb)⟩
 ·exact r.lo.apart k k' _ _ (by show (s.lo.map _).get k=some (some (Sc.renL (tr q) cs));rw [Tr.get_map,hk];rfl) (by show (s.lo.map _).get k'=some (some (Sc.renL (tr q) cs'));rw [Tr.get_map,hk'];rfl)
 ·have ho:=r.hp.obj (tr q i) _ L (hh g1) (hI2 g2)
  cases o with
  | row ow e cs=>
   have hc:∀ (j:Nat) c,cs[j]?=some c->(Sc.renL (tr q) cs)[j]?=some (c.ren (tr q)):=fun j c h=>by rw [yP,List.getElem?_map,h];rfl
   cases ow with
   | false=>
    obtain ⟨k1,k2,k3⟩:=ho
    exact ⟨k1,k2,fun j c hj=>by obtain ⟨v,e1,e2⟩:=k3 j _ (hc j c hj);exact ⟨v,e1,ZZ hI c v e2⟩⟩
   | true=>
    obtain ⟨k1,k2,arr,k3,k4,k5,k6⟩:=ho
    exact ⟨k1,k2,arr,k3,k4,by rw [yP,List.length_map] at k5;exact k5,fun j c hj=>by obtain ⟨v,e1,e2⟩:=k6 j _ (hc j c hj);exact ⟨v,e1,ZZ hI c v e2⟩⟩
  | box e cs=>
   obtain ⟨k1,k2,k3,arr,k4,k5⟩:=ho
   exact ⟨k1,k2,k3,arr,k4,wK hI _ _ k5⟩
  | dead=>trivial
  | loop l=>
   obtain ⟨k1,r,k2,k3,k4,k5,k6,k7,k8⟩:=ho
   refine ⟨k1,r,k2,k3,k4,k5,k6,k7,fun i v hv=>?_⟩
   obtain ⟨x,g1,g2,g3⟩:=k8 i (v.ren (tr q)) (by show (l.sl.map _).get i=_;rw [Tr.get_map,hv];rfl)
   refine ⟨x,g1,QL hI g2,?_⟩
   cases v<;>first | rfl | (simp [SV.ren,noLoc] at g3)
 ·have:=r.hp.uniq (tr q i) (tr q j) _ _ L L' (hh g1) (hh g2) (by cases o<;>first | exact g3 | (rename_i ow _ _;cases ow<;>exact g3)) (by cases o'<;>first | exact g4 | (rename_i ow _ _;cases ow<;>exact g4)) (hI2 g5) (hI2 g6) g7
  have e:=congrArg (tr q) this
  rwa [VA,VA] at e
 ·have hp:=List.prefix_iff_eq_take.1 r.kp.pre
  rw [List.prefix_iff_eq_take]
  apply List.ext_getElem?
  intro i
  rw [List.getElem?_take]
  by_cases hi:i < Ie.length
  ·rw [if_pos hi,xX (by omega),Tf (by omega)]
   have e:=congrArg (fun l=>l[i]?) hp
   simp only [List.getElem?_take,if_pos hi] at e
   exact e
  ·rw [if_neg hi,List.getElem?_eq_none (by omega)]
inductive Rn (n:Nat):St->St->Prop
 | refl (s:St):Rn n s s
 | step {s t:St} (q:Nat) (h1:n<=q) (h2:q+1 < s.h.length) (r:Rn n s t):Rn n (St.ren q s) t
theorem Rn.rel {n:Nat} {s t:St} (h:Rn n s t) (hn:Ie.length<=n):∀ {I:List Loc},Rel P B Ie he we I lam s a w->∃ I',Rel P B Ie he we I' lam t a w:=by
 induction h with
 | refl s=>exact fun r=>⟨_,r⟩
 | step q h1 h2 _ ih=>exact fun r=>ih (r.unren (by omega) h2)
variable {P : Program} {A : FAn} {ev : Ev} {B : Nat} {Ie : List Loc} {he : AH} {we : World} {I : List Loc} {lam : Nat -> Nat} {s t : St} {a : Act} {w : World} {ops : Array Oper}
theorem Za {f:Nat->Nat} {v:Value} {x:Sc} (h:ofConst v=some x):x.ren f=x:=by
 unfold ofConst at h
 split at h<;>first | (cases h;rfl) | cases h
theorem Va {f:Nat->Nat}:∀ {l:List Value} {z:List Sc},ofConsts l=some z->Sc.renL f z=z
 | [],z,h=>by cases h;rfl
 | v::r,z,h=>by
  simp only [ofConsts,Option.bind_eq_some_iff] at h
  obtain ⟨x,h1,xs,h2,h3⟩:=h
  cases h3
  rw [Sc.renL,Za h1,Va h2]
theorem xo {f:Nat->Nat} {e:TypeId} {z:List Sc} (h:zeroCells P e=some z):Sc.renL f z=z:=by
 simp only [zeroCells,Option.bind_eq_some_iff] at h
 obtain ⟨_,_,_,_,h⟩:=h
 exact Va h
theorem renL_append (f:Nat->Nat) (l m:List Sc):Sc.renL f (l++m)=Sc.renL f l++Sc.renL f m:=by simp only [yP,List.map_append]
theorem TI {f:Nat->Nat} {z:List Sc} (h:Sc.renL f z=z):∀ n,Sc.renL f (rep n z)=rep n z
 | 0=>rfl
 | n+1=>by
  have e:rep (n+1) z=z++rep n z:=by simp [rep,List.replicate_succ]
  rw [e,renL_append,h,TI h n]
theorem ZA (q:Nat) (s:St) (x:Operand):evA (St.ren q s) x=(evA s x).map (SV.ren (tr q)):=by
 cases x with
 | tmp t=>exact Tr.get_map _ _ _
 | const v=>
  simp only [evA]
  cases h:ofConst v with
  | none=>rfl
  | some x=>simp only [Option.bind_some,Option.map_some,SV.ren,AV.ren,Za h]
 | func f=>rfl
 | global g=>rfl
theorem Tq (q:Nat) (s:St) (x:Operand):evV (St.ren q s) x=(evV s x).map (AV.ren (tr q)):=by
 unfold evV
 rw [ZA]
 cases evA s x with
 | none=>rfl
 | some v=>cases v<;>rfl
theorem yp (q:Nat) (s:St) (d:Option Tmp) (v:SV):St.ren q (setSl s d v)=setSl (St.ren q s) d (v.ren (tr q)):=by
 cases d with
 | none=>rfl
 | some d=>simp only [setSl,St.ren,Tr.map_set]
theorem push_ren {q:Nat} {s:St} (h:q+1 < s.h.length) (o:AO):St.ren q { s with h:=s.h++[o] }={ St.ren q s with h:=(St.ren q s).h++[o.ren (tr q)] }:=by
 simp only [St.ren,sw_snoc h,List.map_append,List.map_cons,List.map_nil]
theorem YN {q:Nat} {s:St} (hq:q+1 < s.h.length) {i:Nat}:(St.ren q s).h[tr q i]?=(s.h[i]?).map (AO.ren (tr q)):=by
 show ((sw q s.h).map _)[_]?=_
 rw [List.getElem?_map,xX hq,VA]
theorem Vg {f:Nat->Nat} (o:AO):zU (o.ren f)=(zU o).map (Sc.renL f):=by cases o<;>rfl
theorem zY (f:Nat->Nat) (l:List Sc):(Sc.renL f l).length=l.length:=by rw [yP,List.length_map]
theorem VQ {f:Nat->Nat} {cs l:List Sc} {off n:Nat} (h:cutK cs off n some=some l):cutK (Sc.renL f cs) off n some=some (Sc.renL f l):=by
 unfold cutK at h ⊢
 obtain ⟨h1,h2⟩:=gB.1 h
 cases h2
 rw [zY,h1]
 simp only [yP,List.map_take,List.map_drop,guardB,cond_true]
theorem Wh (f:Nat->Nat) (cs v:List Sc) (off:Nat):Sc.renL f (splice cs off v)=splice (Sc.renL f cs) off (Sc.renL f v):=by
 simp only [splice,yP,List.map_append,List.map_take,List.map_drop,List.length_map]
theorem loadAt_ren {q:Nat} (hq:q+1 < s.h.length) {sv:SV} {n:Nat} {l:List Sc} (h:loadAt s sv n some=some l):loadAt (St.ren q s) (sv.ren (tr q)) n some=some (Sc.renL (tr q) l):=by
 unfold loadAt at h
 split at h
 ·rename_i k off
  obtain ⟨b,h1,h⟩:=oB h
  obtain ⟨cs,rfl,h⟩:=oB h
  show ((s.lo.map _).get k).bind _=_
  rw [Tr.get_map,h1]
  exact VQ h
 ·rename_i p
  unfold asP at h
  split at h
  case h_2=>cases h
  rename_i id off
  unfold ldNK at h
  obtain ⟨o,h1,h⟩:=oB h
  obtain ⟨cs,h2,h⟩:=oB h
  show ldNK (St.ren q s).h (tr q id) off n some=_
  unfold ldNK
  rw [YN hq,h1,Option.map_some,Option.bind_some,Vg,h2,Option.map_some,Option.bind_some]
  exact VQ h
 ·cases h
theorem load1_ren {q:Nat} (hq:q+1 < s.h.length) {sv:SV} {x:Sc} (h:load1 s sv some=some x):load1 (St.ren q s) (sv.ren (tr q)) some=some (x.ren (tr q)):=by
 unfold load1 at h
 split at h
 ·rename_i k off
  obtain ⟨b,h1,k2⟩:=oB h
  obtain ⟨cs,rfl,k3⟩:=oB k2
  obtain ⟨y,h2,k4⟩:=oB k3
  cases k4
  show ((s.lo.map _).get k).bind _=_
  rw [Tr.get_map,h1]
  simp only [Option.map_some,Option.bind_some,yP,List.getElem?_map,h2]
 ·rename_i p
  unfold asP at h
  split at h
  case h_2=>cases h
  rename_i id off
  obtain ⟨y,h1,h⟩:=oB h
  cases h
  unfold ld1 at h1
  obtain ⟨o,h2,h1⟩:=oB h1
  obtain ⟨cs,h3,h1⟩:=oB h1
  show (ld1 (St.ren q s).h (tr q id) off).bind some=_
  unfold ld1
  rw [YN hq,h2,Option.map_some,Option.bind_some,Vg,h3,Option.map_some,Option.bind_some,yP,List.getElem?_map,h1]
  rfl
 ·cases h
theorem sw_set {α:Type} {q:Nat} {l:List α} (h:q+1 < l.length) {i:Nat} {x:α} (hi:i < l.length):sw q (l.set i x)=(sw q l).set (tr q i) x:=by
 apply List.ext_getElem?
 intro j
 rw [xX (by simpa using h)]
 by_cases e:tr q j=i
 ·have e2:tr q i=j:=by rw [<- e,VA]
  rw [e,e2,List.getElem?_set_self hi,List.getElem?_set_self (by
   rw [xL,<- e2]
   unfold tr;split<;>(try split)<;>omega)]
 ·have e2:tr q i≠j:=fun h=>e (by rw [<- h,VA])
  rw [List.getElem?_set_ne (Ne.symm e),List.getElem?_set_ne e2,xX h]
theorem storeAt_ren {q:Nat} (hq:q+1 < s.h.length) {sv:SV} {v:List Sc} {s':St} (h:storeAt s sv v some=some s'):storeAt (St.ren q s) (sv.ren (tr q)) (Sc.renL (tr q) v) some=some (St.ren q s')/\s.h.length<=s'.h.length:=by
 have put:∀ {cs:List Sc} {off:Nat} {l:List Sc},putK cs off v some=some l->putK (Sc.renL (tr q) cs) off (Sc.renL (tr q) v) some=some (Sc.renL (tr q) l):=by
  intro cs off l h
  unfold putK at h ⊢
  obtain ⟨h1,h2⟩:=gB.1 h
  cases h2
  rw [zY,zY,h1,Wh]
  rfl
 have putb:∀ {cs:List Sc} {off:Nat} {S:Type} {c:List Sc->Option S} {x:S},putK cs off v c=some x->∃ l,putK cs off v some=some l/\c l=some x:=by
  intro cs off S c x h
  unfold putK at h ⊢
  obtain ⟨h1,h2⟩:=gB.1 h
  exact ⟨_,by rw [h1];rfl,h2⟩
 have puta:∀ {cs v:List Sc} {off:Nat} {l:List Sc},putK cs off v some=some l->∀ {S:Type} (c:List Sc->Option S),putK cs off v c=c l:=by
  intro cs v off l h S c
  unfold putK at h ⊢
  obtain ⟨h1,h2⟩:=gB.1 h
  cases h2
  rw [h1];rfl
 unfold storeAt at h
 split at h
 ·rename_i k off
  obtain ⟨b,h1,k2⟩:=oB h
  obtain ⟨cs,rfl,k3⟩:=oB k2
  obtain ⟨l,h2,k4⟩:=putb k3
  rw [Tr.setT_eq] at k4
  cases k4
  refine ⟨?_,Nat.le_refl _⟩
  show ((s.lo.map _).get k).bind _=_
  rw [Tr.get_map,h1]
  simp only [Option.map_some,Option.bind_some]
  rw [puta (put h2),Tr.setT_eq]
  simp only [St.ren,Tr.map_set,Option.map_some]
 ·rename_i p
  unfold asP at h
  split at h
  case h_2=>cases h
  rename_i id off
  unfold stK at h
  obtain ⟨o,h1,h⟩:=oB h
  have hid:=(List.getElem?_eq_some_iff.1 h1).1
  have key:storeAt (St.ren q s) (SV.ren (tr q) (.v (.sc (.ptr id off)))) (Sc.renL (tr q) v) some=stK (St.ren q s).h (tr q id) off (Sc.renL (tr q) v) fun h=>some { St.ren q s with h:=h }:=rfl
  rw [key]
  unfold stK
  rw [YN hq,h1,Option.map_some,Option.bind_some]
  have fin:∀ (o':AO),St.ren q { s with h:=s.h.set id o' }={ St.ren q s with h:=(St.ren q s).h.set (tr q id) (o'.ren (tr q)) }:=fun o'=>by
   simp only [St.ren,sw_set hq hid,List.map_set]
  split at h
  ·obtain ⟨l,h2,h⟩:=putb h
   cases h
   refine ⟨?_,by simp⟩
   simp only [AO.ren]
   rw [puta (put h2),fin];rfl
  ·obtain ⟨l,h2,h⟩:=putb h
   cases h
   refine ⟨?_,by simp⟩
   simp only [AO.ren]
   rw [puta (put h2),fin];rfl
  ·cases h
 ·cases h
theorem Zx {f:Nat->Nat} {l:Leaf} {x:Sc} {R S:Type} {c:Sc->Option R} {r:R} (h:asLeaf l x c=some r) (d:Sc->Option S):asLeaf l (x.ren f) d=d (x.ren f):=by
 cases l with
 | any=>rfl
 | int k=>
  cases x<;>first | (cases h;done) | skip
  rename_i k' n
  simp only [asLeaf,asI,Sc.ren] at h ⊢
  split at h
  ·rename_i e;rw [if_pos e,e]
  ·cases h
 | bool=>cases x<;>first | (cases h;done) | rfl
theorem wu {f:Nat->Nat}:∀ {ls:List Leaf} {l:List Sc} {R S:Type} {c:List Sc->Option R} {r:R} (h:asLeaves ls l c=some r) (d:List Sc->Option S),asLeaves ls (Sc.renL f l) d=d (Sc.renL f l)
 | [],l,R,S,c,r,h,d=>by
  obtain ⟨rfl,h⟩:=asN_some.1 h
  rfl
 | g::ls,l,R,S,c,r,h,d=>by
  obtain ⟨x,xs,rfl,k⟩:=asC_some.1 h
  simp only [asLeaves,Sc.renL,asC]
  rw [Zx k]
  have h2:=yi (c:=fun y=>asLeaves ls xs fun ys=>c (y::ys)) k
  exact wu (f:=f) (c:=fun ys=>c (x::ys)) h2 fun ys=>d (x.ren f::ys)
theorem onlyL_ren {x:Operand} {v:SV} {f:Nat->Nat}:onlyL A x (v.ren f)=onlyL A x v:=by cases x<;>cases v<;>rfl
theorem Qx {x:Operand} {v:SV} {f:Nat->Nat}:onlyH A x (v.ren f)=onlyH A x v:=by cases x<;>cases v<;>rfl
theorem Qz {x:Operand} {v:SV} {f:Nat->Nat}:onlyR A x (v.ren f)=onlyR A x v:=by
 unfold onlyR
 cases rootOf A x with
 | none=>rfl
 | some k=>cases v<;>rfl
theorem boxOk_ren {q:Nat} (hq:q+1 < s.h.length) (id:Nat):boxOk (St.ren q s).h (tr q id)=boxOk s.h id:=by
 unfold boxOk
 rw [YN hq]
 cases s.h[id]? with
 | none=>rfl
 | some o=>cases o with
  | row ow e cs=>cases ow<;>rfl
  | box e cs=>rfl
  | dead=>rfl
  | loop l=>rfl
theorem onlyB_ren {q:Nat} (hq:q+1 < s.h.length) {x:Operand} {v:SV}:onlyB A (St.ren q s).h x (v.ren (tr q))=onlyB A s.h x v:=by
 unfold onlyB
 cases x with
 | tmp d=>
  cases v with
  | v a=>cases a with
   | sc c=>cases c with
    | ptr id o=>simp only [SV.ren,AV.ren,Sc.ren,boxOk_ren hq]
    | _=>rfl
   | agg cs=>rfl
  | _=>rfl
 | _=>rfl
theorem onlyX_ren {q:Nat} (hq:q+1 < s.h.length) {x:Operand} {v:SV}:onlyX A (St.ren q s).h x (v.ren (tr q))=onlyX A s.h x v:=by
 unfold onlyX;rw [Qx,Qz,onlyB_ren hq]
theorem Zf {f:Nat->Nat} (v:AV):(v.ren f).cells=Sc.renL f v.cells:=by cases v<;>rfl
theorem op_ren_load {o:Oper} {ty:TypeId} {x:Operand} (ho:o.op=.load ty x) {q:Nat} (hq:q+1 < s.h.length) (h:evOp P A ev o s some=some t):evOp P A ev o (St.ren q s) some=some (St.ren q t)/\s.h.length<=t.h.length:=by
 unfold evOp at h ⊢
 rw [ho] at h ⊢
 simp only [setK_eq] at h ⊢
 obtain ⟨g1,h⟩:=gB.1 h
 obtain ⟨sv,h1,h⟩:=oB h
 obtain ⟨g2,h⟩:=gB.1 h
 rw [ZA,h1,Option.map_some,Option.bind_some,onlyL_ren,onlyX_ren hq,g1,g2]
 simp only [guardB,cond_true]
 rcases cond_some.1 h with ⟨g3,h⟩ | ⟨g3,h⟩
 ·obtain ⟨l,h2,h⟩:=zW h
  rw [g3,cond_true]
  have h4:=zV (c:=fun ys=>some (setSl s o.dst (.v (.agg ys)))) h
  cases h4
  obtain ⟨m,e1,e2⟩:=zW (c:=some) (loadAt_ren hq h2)
  cases e2
  have e3:∀ {S:Type} (d:List Sc->Option S),loadAt (St.ren q s) (sv.ren (tr q)) (P.cellsOf ty) d=d (Sc.renL (tr q) l):=fun d=>by
   have e0:=xc d (St.ren q s) (sv.ren (tr q)) (P.cellsOf ty) some
   simp only [Option.bind_some] at e0
   rw [<- e0,e1];rfl
  rw [e3,wu h,yp]
  exact ⟨rfl,by simp⟩
 ·obtain ⟨l,h2,h⟩:=yt h
  rw [g3,cond_false]
  have h4:=yi (c:=fun y=>some (setSl s o.dst (.v (.sc y)))) h
  cases h4
  have e3:∀ {S:Type} (d:Sc->Option S),load1 (St.ren q s) (sv.ren (tr q)) d=d (l.ren (tr q)):=fun d=>by
   have e0:=xl d (St.ren q s) (sv.ren (tr q)) some
   simp only [Option.bind_some] at e0
   rw [<- e0,load1_ren hq h2];rfl
  rw [e3,Zx h,yp]
  exact ⟨rfl,by simp⟩
theorem op_ren_store {o:Oper} {ty:TypeId} {x y:Operand} (ho:o.op=.store ty x y) {q:Nat} (hq:q+1 < s.h.length) (h:evOp P A ev o s some=some t):evOp P A ev o (St.ren q s) some=some (St.ren q t)/\s.h.length<=t.h.length:=by
 unfold evOp at h ⊢
 rw [ho] at h ⊢
 simp only [setK_eq] at h ⊢
 obtain ⟨g1,h⟩:=gB.1 h
 obtain ⟨sv,h1,h⟩:=oB h
 obtain ⟨v,h2,h⟩:=oB h
 obtain ⟨g2,h⟩:=gB.1 h
 obtain ⟨s',h3,h⟩:=yH h
 cases h
 unfold onlyS at g2 ⊢
 rw [ZA,h1,Tq,h2,g1]
 simp only [guardB,cond_true,Option.map_some,Option.bind_some]
 rw [Qx,Qz,Zf,zY,g2,cond_true]
 obtain ⟨e1,e2⟩:=storeAt_ren hq h3
 have e0:=yQ (fun s'=>some (setSl s' o.dst .no)) (St.ren q s) (sv.ren (tr q)) (Sc.renL (tr q) v.cells) some
 simp only [Option.bind_some] at e0
 rw [<- e0,e1,Option.bind_some,yp]
 exact ⟨rfl,by simpa using e2⟩
theorem Vb {o:Oper} {ty:TypeId} {x:Operand} {i:Nat} (ho:o.op=.fieldAddr ty x i) {q:Nat} (h:evOp P A ev o s some=some t):evOp P A ev o (St.ren q s) some=some (St.ren q t)/\s.h.length<=t.h.length:=by
 unfold evOp at h ⊢
 rw [ho] at h ⊢
 simp only [setK_eq] at h ⊢
 split at h
 case h_2=>cases h
 obtain ⟨fd,h1,h⟩:=oB h
 obtain ⟨g1,h⟩:=gB.1 h
 obtain ⟨sv,h2,h⟩:=oB h
 rw [h1,Option.bind_some,ZA,h2,g1,Option.map_some,Option.bind_some]
 simp only [guardB,cond_true]
 unfold addAt at h ⊢
 cases sv<;>first | (cases h;done) | skip
 ·rename_i a
  cases a<;>first | (cases h;done) | skip
  rename_i c
  cases c<;>first | (cases h;done) | skip
  cases h
  exact ⟨by rw [yp];rfl,by simp⟩
 ·cases h
  exact ⟨by rw [yp];rfl,by simp⟩
theorem UU {o:Oper} {args:Array Operand} {ts:Array TypeId} (ho:o.op=.call { callee:=.builtin .len,args:=args,argTypes:=ts }) {q:Nat} (h:evOp P A ev o s some=some t):evOp P A ev o (St.ren q s) some=some (St.ren q t)/\s.h.length<=t.h.length:=by
 unfold evOp at h ⊢
 rw [ho] at h ⊢
 simp only [setK_eq] at h ⊢
 generalize ts.toList=tl at h ⊢
 generalize args.toList=al at h ⊢
 unfold builtinK at h ⊢
 match tl,al,h with
 | [ty],[x],h=>
  simp only at h ⊢
  split at h
  ·obtain ⟨sv,h1,h⟩:=oB h
   rw [ZA,h1,Option.map_some,Option.bind_some]
   unfold lenA at h ⊢
   cases sv<;>first | (cases h;done) | skip
   ·rename_i a
    cases a<;>first | (cases h;done) | skip
    rename_i c
    cases c<;>first | (cases h;done) | skip
    all_goals (cases h;exact ⟨by rw [yp];rfl,by simp⟩)
   ·cases h
    exact ⟨by rw [yp];rfl,by simp⟩
  ·cases h
   exact ⟨by rw [yp];rfl,by simp⟩
  ·cases h
theorem grow_load {o:Oper} {ty:TypeId} {x:Operand} (ho:o.op=.load ty x) (h:evOp P A ev o s some=some t):s.h.length<=t.h.length:=by
 unfold evOp at h
 rw [ho] at h
 simp only [setK_eq] at h
 obtain ⟨g1,h⟩:=gB.1 h
 obtain ⟨sv,h1,h⟩:=oB h
 obtain ⟨g2,h⟩:=gB.1 h
 rcases cond_some.1 h with ⟨g3,h⟩ | ⟨g3,h⟩
 ·obtain ⟨l,h2,h⟩:=zW h
  have h4:=zV (c:=fun ys=>some (setSl s o.dst (.v (.agg ys)))) h
  cases h4;simp
 ·obtain ⟨l,h2,h⟩:=yt h
  have h4:=yi (c:=fun y=>some (setSl s o.dst (.v (.sc y)))) h
  cases h4;simp
theorem grow_store {o:Oper} {ty:TypeId} {x y:Operand} (ho:o.op=.store ty x y) (h:evOp P A ev o s some=some t):s.h.length<=t.h.length:=by
 unfold evOp at h
 rw [ho] at h
 simp only [setK_eq] at h
 obtain ⟨g1,h⟩:=gB.1 h
 obtain ⟨sv,h1,h⟩:=oB h
 obtain ⟨v,h2,h⟩:=oB h
 obtain ⟨g2,h⟩:=gB.1 h
 obtain ⟨s',h3,h⟩:=yH h
 cases h
 unfold storeAt at h3
 split at h3
 ·obtain ⟨b,q1,q2⟩:=oB h3
  obtain ⟨cs,_,q3⟩:=oB q2
  unfold putK at q3
  obtain ⟨_,q4⟩:=gB.1 q3
  simp only [Tr.setT_eq] at q4
  cases q4;simp
 ·unfold asP at h3
  split at h3
  case h_2=>cases h3
  unfold stK at h3
  obtain ⟨o,q1,q2⟩:=oB h3
  split at q2
  ·unfold putK at q2
   obtain ⟨_,q4⟩:=gB.1 q2
   cases q4;simp
  ·unfold putK at q2
   obtain ⟨_,q4⟩:=gB.1 q2
   cases q4;simp
  ·cases q2
 ·cases h3
variable {P : Program} {A : FAn} {ev : Ev} {s t : St} {ops : Array Oper}
noncomputable def St.fr (f:Nat->Nat) (h2:AH) (s:St):St:={ sl:=s.sl.map (SV.ren f),lo:=s.lo.map (Option.map (Sc.renL f)),h:=h2 }
def isV:SV->Bool
 | .v _=>true
 | _=>false
def xw (A:FAn) (s:St):Prop:=∀ d:Nat,A.loc.contains d=true->∀ v,s.sl.get d=some v->isV v=false
section
variable {f : Nat -> Nat} {h2 : AH}
theorem Zh (s:St) (x:Operand):evA (St.fr f h2 s) x=(evA s x).map (SV.ren f):=by
 cases x with
 | tmp t=>exact Tr.get_map _ _ _
 | const v=>
  simp only [evA]
  cases h:ofConst v with
  | none=>rfl
  | some x=>simp only [Option.bind_some,Option.map_some,SV.ren,AV.ren,Za h]
 | func f=>rfl
 | global g=>rfl
theorem WG (s:St) (x:Operand):evV (St.fr f h2 s) x=(evV s x).map (AV.ren f):=by
 unfold evV
 rw [Zh]
 cases evA s x with
 | none=>rfl
 | some v=>cases v<;>rfl
theorem xe (s:St) (d:Option Tmp) (v:SV):St.fr f h2 (setSl s d v)=setSl (St.fr f h2 s) d (v.ren f):=by
 cases d with
 | none=>rfl
 | some d=>simp only [setSl,St.fr,Tr.map_set]
theorem Tr.map_map {α β γ:Type} (g:β->γ) (f:α->β):∀ (t:Tr α),(t.map f).map g=t.map fun x=>g (f x)
 | .nil=>rfl
 | .leaf v=>rfl
 | .node l r=>by
  show Tr.node ((l.map f).map g) ((r.map f).map g)=Tr.node _ _
  rw [Tr.map_map g f l,Tr.map_map g f r]
  rfl
theorem kill_ren (d:Nat) (v:SV):killL d (v.ren f)=(killL d v).ren f:=by
 cases v with
 | l k o=>simp only [SV.ren,killL];cases Nat.beq k d<;>rfl
 | s k n=>simp only [SV.ren,killL];cases Nat.beq k d<;>rfl
 | _=>rfl
theorem VE (s:St) (d:Tmp) (a:SV) (z:List Sc):St.fr f h2 (newLocal s d a z)=newLocal (St.fr f h2 s) d (a.ren f) (Sc.renL f z):=by
 simp only [newLocal,St.fr,Tr.map_set,Tr.map_map,kill_ren,Option.map_some]
end
def inLoc (A:FAn) (x:Operand):Bool:=match x with
 | .tmp d=>A.loc.contains d
 | _=>false
def WM (A:FAn) (o:Oper):Bool:=o.guard.isNone&&(match o.op with
 | .alloc _ | .box _ _=>(match o.dst with | some d=>A.loc.contains d | none=>false)
 | .store _ x _=>(rootOf A x).isSome&&(match o.dst with | some d=>!(A.loc.contains d) | none=>true)
 | .load _ (.tmp d)=>A.loc.contains d&&(match o.dst with | some d=>!(A.loc.contains d) | none=>true)
 | .move _ | .assign _=>(match o.dst with | some d=>!(A.loc.contains d) | none=>true)
 | .fieldAddr _ x _ | .indexAddr _ x _=>(match o.dst with | some d=>!(A.loc.contains d) | none=>true)||inLoc A x
 | _=>false)
theorem locS_set {v:SV} {d:Option Tmp} {h:AH} (hs:xw A s) (hd:(match d with | some d=>!(A.loc.contains d) | none=>true)=true):xw A (setSl { s with h:=h } d v):=by
 intro e he w hw
 cases d with
 | none=>exact hs e he w hw
 | some d=>
  simp only [setSl] at hw
  have hne:d≠e:=fun h=>by subst h;simp only [he] at hd;cases hd
  rw [Tr.get_set_ne _ hne] at hw
  exact hs e he w hw
theorem Qt {v:SV} {d:Option Tmp} (hs:xw A s) (hv:isV v=false):xw A (setSl s d v):=by
 intro e he w hw
 cases d with
 | none=>exact hs e he w hw
 | some d=>
  simp only [setSl] at hw
  by_cases h:d=e
  ·subst h
   rw [Tr.get_set_self] at hw
   obtain ⟨_,_,rfl⟩:=oM hw
   exact hv
  ·rw [Tr.get_set_ne _ h] at hw
   exact hs e he w hw
theorem WS {x:Operand} {sv:SV} (hs:xw A s) (hx:inLoc A x=true) (h:evA s x=some sv):isV sv=false:=by
 unfold inLoc at hx
 split at hx
 ·exact hs _ hx _ h
 ·cases hx
theorem locS_new {d:Nat} {a:SV} {z:List Sc} (hs:xw A s) (ha:isV a=false):xw A (newLocal s d a z):=by
 intro e he w hw
 simp only [newLocal] at hw
 by_cases h:d=e
 ·subst h
  rw [Tr.get_set_self] at hw
  obtain ⟨_,_,rfl⟩:=oM hw
  exact ha
 ·rw [Tr.get_set_ne _ h,Tr.get_map] at hw
  obtain ⟨y,hy,rfl⟩:=oM hw
  have:=hs e he y hy
  cases y with
  | l k o=>simp only [killL];cases Nat.beq k d<;>rfl
  | s k n=>simp only [killL];cases Nat.beq k d<;>rfl
  | v _=>cases this
  | _=>rfl
def Frs (A:FAn) (s t:St) (g:St->Option St):Prop:=t.h=s.h/\xw A t/\∀ (f:Nat->Nat) (h2:AH),g (St.fr f h2 s)=some (St.fr f h2 t)
theorem fr_store {sv:SV} {k:Nat} {off:Nat} {v:List Sc} {s':St} (h:storeAt s (.l k off) v some=some s'):s'.h=s.h/\s'.sl=s.sl/\∀ (f:Nat->Nat) (h2:AH),storeAt (St.fr f h2 s) (.l k off) (Sc.renL f v) some=some (St.fr f h2 s'):=by
 unfold storeAt at h
 simp only at h
 obtain ⟨b,h1,k2⟩:=oB h
 obtain ⟨cs,rfl,k3⟩:=oB k2
 unfold putK at k3
 obtain ⟨g1,k4⟩:=gB.1 k3
 simp only [Tr.setT_eq] at k4
 cases k4
 refine ⟨rfl,rfl,fun f h2=>?_⟩
 unfold storeAt
 show ((s.lo.map _).get k).bind _=_
 rw [Tr.get_map,h1]
 simp only [Option.map_some,Option.bind_some]
 unfold putK
 rw [zY,zY,g1]
 simp only [guardB,cond_true,Tr.setT_eq,St.fr,Tr.map_set,Option.map_some,Wh]
theorem fr_load {k off n:Nat} {l:List Sc} (h:loadAt s (.l k off) n some=some l) (f:Nat->Nat) (h2:AH):loadAt (St.fr f h2 s) (.l k off) n some=some (Sc.renL f l):=by
 unfold loadAt at h ⊢
 simp only at h ⊢
 obtain ⟨b,h1,h⟩:=oB h
 obtain ⟨cs,rfl,h⟩:=oB h
 show ((s.lo.map _).get k).bind _=_
 rw [Tr.get_map,h1]
 exact VQ h
theorem fr_load1 {k off:Nat} {x:Sc} (h:load1 s (.l k off) some=some x) (f:Nat->Nat) (h2:AH):load1 (St.fr f h2 s) (.l k off) some=some (x.ren f):=by
 unfold load1 at h ⊢
 simp only at h ⊢
 obtain ⟨b,h1,k2⟩:=oB h
 obtain ⟨cs,rfl,k3⟩:=oB k2
 obtain ⟨y,h2',k4⟩:=oB k3
 cases k4
 show ((s.lo.map _).get k).bind _=_
 rw [Tr.get_map,h1]
 simp only [Option.map_some,Option.bind_some,yP,List.getElem?_map,h2']
theorem fr_op {o:Oper} (ho:WM A o=true) (hs:xw A s) (h:evOp P A ev o s some=some t):Frs A s t (fun s=>evOp P A ev o s some):=by
 unfold WM at ho
 rw [Bool.and_eq_true_iff] at ho
 have ho:=ho.2
 unfold Frs
 have hset:∀ {v:SV},(match o.dst with | some d=>!(A.loc.contains d) | none=>true)=true->xw A (setSl s o.dst v):=fun hd=>locS_set (h:=s.h) hs hd
 unfold evOp at h ⊢
 split at ho
 case h_1 e hop=>
  rw [hop] at h ⊢
  simp only [setK_eq,newLocalK_eq] at h ⊢
  obtain ⟨d,hd,h⟩:=oB h
  obtain ⟨z,hz,h⟩:=oB h
  obtain ⟨g1,h⟩:=gB.1 h
  rw [hd] at ho
  simp only at ho
  rw [ho,cond_true] at h
  cases h
  refine ⟨rfl,locS_new hs rfl,fun f h2=>?_⟩
  simp only [hd,Option.bind_some,hz,g1,guardB,cond_true,ho,VE,xo hz,SV.ren]
 case h_2 e x hop=>
  rw [hop] at h ⊢
  simp only [setK_eq,newLocalK_eq] at h ⊢
  obtain ⟨d,hd,h⟩:=oB h
  obtain ⟨v,hv,h⟩:=oB h
  obtain ⟨g1,h⟩:=gB.1 h
  rw [hd] at ho
  simp only at ho
  rw [ho,cond_true] at h
  cases h
  refine ⟨rfl,locS_new hs rfl,fun f h2=>?_⟩
  simp only [hd,Option.bind_some,WG,hv,Option.map_some,Zf,zY,g1,guardB,cond_true,ho,VE,SV.ren]
 case h_3 ty x y hop=>
  obtain ⟨hroot,hdst⟩:=Bool.and_eq_true_iff.1 ho
  obtain ⟨k,hk⟩:=Option.isSome_iff_exists.1 hroot
  rw [hop] at h ⊢
  simp only [setK_eq] at h ⊢
  obtain ⟨g1,h⟩:=gB.1 h
  obtain ⟨sv,h1,h⟩:=oB h
  obtain ⟨v,h2,h⟩:=oB h
  obtain ⟨g2,h⟩:=gB.1 h
  obtain ⟨s',h3,h⟩:=yH h
  cases h
  have hl:∃ k' off,sv=.l k' off:=by
   unfold onlyS onlyR at g2
   rw [hk] at g2
   simp only [Bool.and_eq_true] at g2
   cases sv<;>first | exact ⟨_,_,rfl⟩ | (exact absurd g2.2.2 (by simp))
  obtain ⟨k',off,rfl⟩:=hl
  obtain ⟨e1,e2,e3⟩:=fr_store (sv:=.no) h3
  refine ⟨by simpa using e1,?_,fun f h2'=>?_⟩
  ·refine locS_set (s:=s') (h:=s'.h) (fun d hd w hw=>hs d hd w (by rw [<- e2];exact hw)) hdst
  ·rw [Zh,h1,WG,h2,g1]
   simp only [guardB,cond_true,Option.map_some,Option.bind_some,SV.ren,Zf,zY]
   rw [g2,cond_true]
   have e0:=yQ (fun s'=>some (setSl s' o.dst .no)) (St.fr f h2' s) (.l k' off) (Sc.renL f v.cells) some
   simp only [Option.bind_some] at e0
   rw [<- e0,e3 f h2',Option.bind_some,xe]
   rfl
 case h_4 ty d hop=>
  obtain ⟨hloc,hdst⟩:=Bool.and_eq_true_iff.1 ho
  rw [hop] at h ⊢
  simp only [setK_eq] at h ⊢
  obtain ⟨g1,h⟩:=gB.1 h
  obtain ⟨sv,h1,h⟩:=oB h
  obtain ⟨g2,h⟩:=gB.1 h
  have hl:∃ k' off,sv=.l k' off:=by
   unfold onlyL at g2
   simp only [hloc,Bool.and_eq_true,Bool.not_true,Bool.false_or] at g2
   cases sv<;>first | exact ⟨_,_,rfl⟩ | (exact absurd g2.1 (by simp))
  obtain ⟨k',off,rfl⟩:=hl
  have go:∀ (f:Nat->Nat) (h2:AH),(onlyL A (.tmp d) (SV.l k' off)&&onlyX A h2 (.tmp d) (SV.l k' off))=true:=by
   intro f h2
   unfold onlyX onlyB at g2 ⊢
   exact g2
  rcases cond_some.1 h with ⟨g3,h⟩ | ⟨g3,h⟩
  ·obtain ⟨l,h2,h⟩:=zW h
   have h4:=zV (c:=fun ys=>some (setSl s o.dst (.v (.agg ys)))) h
   cases h4
   refine ⟨by simp,hset hdst,fun f hh=>?_⟩
   rw [Zh,h1,g1]
   simp only [guardB,cond_true,Option.map_some,Option.bind_some,SV.ren]
   rw [show (St.fr f hh s).h=hh from rfl,go f hh,g3]
   simp only [cond_true]
   have e0:=xc (fun l=>asLeaves (zN P 8 ty) l fun ys=>some (setSl (St.fr f hh s) o.dst (.v (.agg ys)))) (St.fr f hh s) (.l k' off) (P.cellsOf ty) some
   simp only [Option.bind_some] at e0
   rw [<- e0,fr_load h2 f hh,Option.bind_some,wu h,xe]
   rfl
  ·obtain ⟨l,h2,h⟩:=yt h
   have h4:=yi (c:=fun y=>some (setSl s o.dst (.v (.sc y)))) h
   cases h4
   refine ⟨by simp,hset hdst,fun f hh=>?_⟩
   rw [Zh,h1,g1]
   simp only [guardB,cond_true,Option.map_some,Option.bind_some,SV.ren]
   rw [show (St.fr f hh s).h=hh from rfl,go f hh,g3]
   simp only [cond_true,cond_false]
   have e0:=xl (fun x=>asLeaf ((zN P 8 ty).getD 0 .any) x fun y=>some (setSl (St.fr f hh s) o.dst (.v (.sc y)))) (St.fr f hh s) (.l k' off) some
   simp only [Option.bind_some] at e0
   rw [<- e0,fr_load1 h2 f hh,Option.bind_some,Zx h,xe]
   rfl
 case h_5 x hop=>
  rw [hop] at h ⊢
  simp only [setK_eq] at h ⊢
  obtain ⟨v,hv,h⟩:=oB h
  cases h
  refine ⟨by simp,hset ho,fun f h2=>?_⟩
  rw [Zh,hv,xe];rfl
 case h_6 x hop=>
  rw [hop] at h ⊢
  simp only [setK_eq] at h ⊢
  obtain ⟨v,hv,h⟩:=oB h
  cases h
  refine ⟨by simp,hset ho,fun f h2=>?_⟩
  rw [Zh,hv,xe];rfl
 case h_7 ty x i hop=>
  rw [hop] at h ⊢
  simp only [setK_eq] at h ⊢
  split at h
  case h_2=>cases h
  obtain ⟨fd,h1,h⟩:=oB h
  obtain ⟨g1,h⟩:=gB.1 h
  obtain ⟨sv,h2,h⟩:=oB h
  simp only [h1,Option.bind_some,Zh,h2,g1,Option.map_some,guardB,cond_true]
  unfold addAt at h ⊢
  cases sv<;>first | (cases h;done) | skip
  ·rename_i a
   cases a<;>first | (cases h;done) | skip
   rename_i c
   cases c<;>first | (cases h;done) | skip
   cases h
   refine ⟨by simp,?_,fun f h2=>by rw [xe];rfl⟩
   rcases Bool.or_eq_true_iff.1 ho with ho | ho
   ·exact hset ho
   ·have:=WS hs ho h2;cases this
  ·cases h
   exact ⟨by simp,Qt hs rfl,fun f h2=>by rw [xe];rfl⟩
 case h_8 ty x i hop=>
  rw [hop] at h ⊢
  simp only [setK_eq] at h ⊢
  split at h
  ·rename_i e hu
   obtain ⟨g1,h⟩:=gB.1 h
   obtain ⟨xv,h1,h⟩:=oB h
   obtain ⟨y,rfl,h⟩:=asSc_some.1 h
   obtain ⟨id,off,len,rfl,h⟩:=asS_some.1 h
   obtain ⟨iv,h2,h⟩:=oB h
   have hi:∀ {R:Type} {c:Nat->Option R} {r:R},idxI iv len c=some r->∃ n,c n=some r/\∀ (f:Nat->Nat) {S:Type} (c':Nat->Option S),idxI (iv.ren f) len c'=c' n:=by
    intro R c r h
    unfold idxI at h
    split at h
    ·obtain ⟨g,h⟩:=gB.1 h
     exact ⟨_,h,fun f S c'=>by simp only [AV.ren,Sc.ren,idxI,g,guardB,cond_true]⟩
    ·cases h
   obtain ⟨n,h',hn⟩:=hi h
   clear h hi
   have h:=h'
   clear h'
   cases h
   refine ⟨by simp,?_,fun f h2'=>?_⟩
   ·rcases Bool.or_eq_true_iff.1 ho with ho | ho
    ·exact hset ho
    ·unfold evV at h1
     obtain ⟨sv,k1,k2⟩:=oB h1
     have:=WS hs ho k1
     cases sv<;>first | (cases this;done) | cases k2
   have e:AV.ren f (.sc (.sl id off len))=.sc (.sl (f id) off len):=rfl
   rw [WG,h1,WG,h2,g1]
   simp only [Option.map_some,Option.bind_some,e,asSc,asS,guardB,cond_true]
   rw [hn,xe];rfl
  ·rename_i m e hu
   replace h:=gB.1 h
   obtain ⟨g1,h⟩:=h
   replace h:=oB h
   obtain ⟨sv,h1,h⟩:=h
   replace h:=oB h
   obtain ⟨iv,h2,h⟩:=h
   have hi:∀ {R:Type} {c:Nat->Option R} {r:R},idxI iv m c=some r->∃ n,c n=some r/\∀ (f:Nat->Nat) {S:Type} (c':Nat->Option S),idxI (iv.ren f) m c'=c' n:=by
    intro R c r h
    unfold idxI at h
    split at h
    ·obtain ⟨g,h⟩:=gB.1 h
     exact ⟨_,h,fun f S c'=>by simp only [AV.ren,Sc.ren,idxI,g,guardB,cond_true]⟩
    ·cases h
   obtain ⟨n,h',hn⟩:=hi h
   clear h hi
   have h:=h'
   clear h'
   simp only [Zh,h1,WG,h2,g1,Option.map_some,Option.bind_some,guardB,cond_true]
   simp only [hn]
   unfold addAt at h ⊢
   cases sv<;>first | (cases h;done) | skip
   ·rename_i a
    cases a<;>first | (cases h;done) | skip
    rename_i c
    cases c<;>first | (cases h;done) | skip
    cases h
    refine ⟨by simp,?_,fun f h2=>by rw [xe];rfl⟩
    rcases Bool.or_eq_true_iff.1 ho with ho | ho
    ·exact hset ho
    ·have:=WS hs ho h1;cases this
   ·cases h
    exact ⟨by simp,Qt hs rfl,fun f h2=>by rw [xe];rfl⟩
  ·cases h
 case h_9=>cases ho
end Go.AM
