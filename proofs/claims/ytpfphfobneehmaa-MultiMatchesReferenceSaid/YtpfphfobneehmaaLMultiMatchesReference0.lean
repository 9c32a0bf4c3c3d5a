/- Plain lists: what loops come to. -/
import Derived.Test.YtpfphfobneehmaaG2
set_option linter.all false
namespace Go.TM
open Go Go.AM
theorem obE {α β:Type} [Inhabited α] {o:Option α} {f:α->Option β}:ob o f=cond (ok o) (f (val o)) none:=rfl
@[simp] theorem qh {α:Type} (x:α):ok (some x)=true:=rfl
@[simp] theorem qf {α:Type} [Inhabited α] (x:α):val (some x)=x:=rfl
@[simp] theorem gR {α β:Type} (x:β):isL (some (.inr x:α ⊕ β))=false:=rfl
@[simp] theorem gw {α β:Type} (x:β):zB (some (.inr x:α ⊕ β))=some x:=rfl
theorem qE {α:Type} (b:Bool) (x y:α):cond (!b) x y=cond b y x:=by cases b<;>rfl
theorem qi {x:Int} (h1:-9223372036854775808<=x) (h2:x<=9223372036854775807):wI x=x:=by
 simp [wI,wU,IntKind.wrap,IntKind.bits,IntKind.signed]
 omega
theorem up1 {i:Nat} (h:i < 9223372036854775807):wI ((i:Int)+1)=((i+1:Nat):Int):=by rw [qi (by omega) (by omega)];omega
theorem dn1 {i:Nat} (h0:0 < i) (h:i<=9223372036854775807):wI ((i:Int) - 1)=((i - 1:Nat):Int):=by rw [qi (by omega) (by omega)];omega
theorem Ku {α:Type} {l:List α} {i:Nat} (h:i < l.length) (d:α):l.drop i=l.getD i d::l.drop (i+1):=by
 rw [List.drop_eq_getElem_cons h]
 congr 1
 simp [List.getD,List.getElem?_eq_getElem h]
theorem qT {α:Type} {l:List α} {i:Nat} (h:i < l.length) (d:α):l.getD i d∈l:=by
 have:l.getD i d=l[i]:=by simp [List.getD,List.getElem?_eq_getElem h]
 rw [this];exact List.getElem_mem h
abbrev Len {α:Type} (l:List α):Prop:=l.length<=9223372036854775807
theorem qd6 (p q:Prop) [Decidable p] [Decidable q]:cond (decide p) (some (decide q)) (some false)=some (decide (p/\q)):=by
 by_cases h:p<;>simp [h]
theorem bne_dec (x y:Int):(x != y)=!decide (x=y):=rfl
theorem qv (x y:Int):(x==y)=decide (x=y):=rfl
theorem qC {m:Nat} (hm:m<=9223372036854775807) (F:Nat->Int->Option (Bool ⊕ Unit)) (g:Nat->Bool)
  (hs:∀ n (i:Nat),i < m->F (n+1) (i:Int)=cond (g i) (F n ((i+1:Nat):Int)) (some (.inl false))) (he:∀ n,F (n+1) (m:Int)=some (.inr ())) :
  F FU 0=some (cond ((List.range m).all g) (.inr ()) (.inl false)):=by
 have key:∀ (k n i:Nat),i+k=m->k < n->F n (i:Int)=some (cond ((List.range' i k).all g) (.inr ()) (.inl false)):=by
  intro k
  induction k with
  | zero=>
   intro n i h1 h2
   cases n with
   | zero=>omega
   | succ n=>
    have:i=m:=by omega
    subst this
    rw [he];rfl
  | succ k ih=>
   intro n i h1 h2
   cases n with
   | zero=>omega
   | succ n=>
    rw [hs n i (by omega),ih n (i+1) (by omega) (by omega),List.range'_succ,List.all_cons]
    cases g i<;>rfl
 have:=key m FU 0 (by omega) (by unfold FU;omega)
 rw [List.range_eq_range']
 exact this
theorem qhf {m:Nat} (hm:m<=9223372036854775807) (F:Nat->Int->Option (Bool ⊕ Unit)) (g:Nat->Bool)
  (hs:∀ n (i:Nat),i < m->F (n+1) (i:Int)=cond (g i) (some (.inl true)) (F n ((i+1:Nat):Int))) (he:∀ n,F (n+1) (m:Int)=some (.inr ())) :
  F FU 0=some (cond ((List.range m).any g) (.inl true) (.inr ())):=by
 have key:∀ (k n i:Nat),i+k=m->k < n->F n (i:Int)=some (cond ((List.range' i k).any g) (.inl true) (.inr ())):=by
  intro k
  induction k with
  | zero=>
   intro n i h1 h2
   cases n with
   | zero=>omega
   | succ n=>
    have:i=m:=by omega
    subst this
    rw [he];rfl
  | succ k ih=>
   intro n i h1 h2
   cases n with
   | zero=>omega
   | succ n=>
    rw [hs n i (by omega),ih n (i+1) (by omega) (by omega),List.range'_succ,List.any_cons]
    cases g i<;>rfl
 have:=key m FU 0 (by omega) (by unfold FU;omega)
 rw [List.range_eq_range']
 exact this
theorem qfA {m:Nat} (hm:m<=9223372036854775807) (F:Nat->Int->Option (Int ⊕ Unit)) (g:Nat->Bool)
  (hs:∀ n (i:Nat),i < m->F (n+1) (i:Int)=cond (g i) (some (.inl (i:Int))) (F n ((i+1:Nat):Int))) (he:∀ n,F (n+1) (m:Int)=some (.inr ())) :
  (∃ j:Nat,j < m/\F FU 0=some (.inl (j:Int))/\g j=true/\∀ i,i < j->g i=false)\/(F FU 0=some (.inr ())/\∀ i,i < m->g i=false):=by
 have key:∀ (k n i:Nat),i+k=m->k < n->(∃ j:Nat,i<=j/\j < m/\F n (i:Int)=some (.inl (j:Int))/\g j=true/\∀ x,i<=x->x < j->g x=false)\/(F n (i:Int)=some (.inr ())/\∀ x,i<=x->x < m->g x=false):=by
  intro k
  induction k with
  | zero=>
   intro n i h1 h2
   cases n with
   | zero=>omega
   | succ n=>
    have:i=m:=by omega
    subst this
    exact .inr ⟨he n,fun x h1 h2=>by omega⟩
  | succ k ih=>
   intro n i h1 h2
   cases n with
   | zero=>omega
   | succ n=>
    rw [hs n i (by omega)]
    cases hg:g i with
    | true=>exact .inl ⟨i,Nat.le_refl _,by omega,rfl,hg,fun x h1 h2=>by omega⟩
    | false=>
     rcases ih n (i+1) (by omega) (by omega) with ⟨j,h3,h4,h5,h6,h7⟩ | ⟨h3,h4⟩
     ·refine .inl ⟨j,by omega,h4,h5,h6,fun x hx1 hx2=>?_⟩
      by_cases e:x=i
      ·rw [e];exact hg
      ·exact h7 x (by omega) hx2
     ·refine .inr ⟨h3,fun x hx1 hx2=>?_⟩
      by_cases e:x=i
      ·rw [e];exact hg
      ·exact h4 x (by omega) hx2
 rcases key m FU 0 (by omega) (by unfold FU;omega) with ⟨j,h3,h4,h5,h6,h7⟩ | ⟨h3,h4⟩
 ·exact .inl ⟨j,h4,h5,h6,fun x hx=>h7 x (by omega) hx⟩
 ·exact .inr ⟨h3,fun x hx=>h4 x (by omega) hx⟩
theorem qD {α:Type} (l:List α) (d:α) (p:α->Bool):(List.range l.length).all (fun i=>p (l.getD i d))=l.all p:=by
 apply Bool.eq_iff_iff.2
 simp only [List.all_eq_true,List.mem_range]
 constructor
 ·intro h x hx
  obtain ⟨i,hi,rfl⟩:=List.getElem_of_mem hx
  have:=h i hi
  simpa [List.getD,List.getElem?_eq_getElem hi] using this
 ·intro h i hi
  exact h _ (qT hi d)
theorem Ks {α:Type} (l:List α) (d:α) (p:α->Bool):(List.range l.length).any (fun i=>p (l.getD i d))=l.any p:=by
 apply Bool.eq_iff_iff.2
 simp only [List.any_eq_true,List.mem_range]
 constructor
 ·rintro ⟨i,hi,h⟩;exact ⟨_,qT hi d,h⟩
 ·rintro ⟨x,hx,h⟩
  obtain ⟨i,hi,rfl⟩:=List.getElem_of_mem hx
  exact ⟨i,hi,by simpa [List.getD,List.getElem?_eq_getElem hi] using h⟩
theorem qgI {α:Type} (l:List α) (d:α):(List.range l.length).map (fun i=>l.getD i d)=l:=by
 apply List.ext_getElem?
 intro i
 rw [List.getElem?_map]
 by_cases hi:i < l.length
 ·rw [List.getElem?_range hi]
  simp [List.getD,List.getElem?_eq_getElem hi]
 ·rw [List.getElem?_eq_none (by simpa using hi),List.getElem?_eq_none (by omega)];rfl
end Go.TM
namespace Go.Proofs.Ytpfphfobneehmaa
open Go Go.AM Go.TM Go.Proofs
abbrev Fl:=List (List (List Int))
def fewF (flows:Fl):Bool:=flows.all fun f=>cond (decide (f.length<=20)) (f.all fun l=>decide (l.length<=20)) false
def fewS (caps:List Int) (flows:Fl) (rates:List (List Int)) (prices:List Int):Bool:=
 decide (caps.length<=20)&&(decide (flows.length<=20)&&(decide (rates.length<=20)&&(decide (prices.length<=20)&&(fewF flows&&rates.all fun l=>decide (l.length<=20)))))
theorem dgt (a:Nat):decide ((a:Int) > 20)=!decide (a<=20):=by
 by_cases h:a<=20
 ·rw [decide_eq_true h,decide_eq_false (by omega)];rfl
 ·rw [decide_eq_false h,decide_eq_true (by omega)];rfl
structure Few (caps:List Int) (flows:Fl) (rates:List (List Int)) (prices:List Int):Prop where
 hc:caps.length<=20
 hf:flows.length<=20
 hr:rates.length<=20
 hp:prices.length<=20
 flow:∀ i,(flows.getD i []).length<=20
 path:∀ i k,((flows.getD i []).getD k []).length<=20
 rate:∀ i,(rates.getD i []).length<=20
theorem few_iff {caps:List Int} {flows:Fl} {rates:List (List Int)} {prices:List Int} (h:fewS caps flows rates prices=true):Few caps flows rates prices:=by
 unfold fewS fewF at h
 simp only [Bool.and_eq_true,decide_eq_true_eq] at h
 obtain ⟨h1,h2,h3,h4,h5,h6⟩:=h
 have hf:∀ i,(flows.getD i []).length<=20/\∀ k,((flows.getD i []).getD k []).length<=20:=by
  intro i
  by_cases hi:i < flows.length
  ·have:=List.all_eq_true.1 h5 _ (qT hi [])
   by_cases hl:(flows.getD i []).length<=20
   ·rw [decide_eq_true hl] at this
    simp only [cond_true] at this
    refine ⟨hl,fun k=>?_⟩
    by_cases hk:k < (flows.getD i []).length
    ·simpa using List.all_eq_true.1 this _ (qT hk [])
    ·rw [List.getD_eq_getElem?_getD (l:=flows.getD i []),List.getElem?_eq_none (by omega)];simp
   ·rw [decide_eq_false hl] at this;cases this
  ·rw [List.getD_eq_getElem?_getD,List.getElem?_eq_none (by omega)];simp
 refine ⟨h1,h2,h3,h4,fun i=>(hf i).1,fun i=>(hf i).2,fun i=>?_⟩
 by_cases hi:i < rates.length
 ·simpa using List.all_eq_true.1 h6 _ (qT hi [])
 ·rw [List.getD_eq_getElem?_getD,List.getElem?_eq_none (by omega)];simp
def gM (links:Int):Int->List Int->Bool
 | _,[]=>true
 | last,k::r=>cond (decide (last < k/\k < links)) (gM links k r) false
def jP (l:List Int) (links:Int):Bool:=cond (gM links (-1) l) (decide (1<=l.length/\l.length<=6)) false
def KU (caps:List Int):Bool:=caps.all fun n=>decide (0<=n/\n<=1000)
def gH (links:Int) (f:List (List Int)):Bool:=cond (decide (1<=f.length/\f.length<=4)) (f.all fun l=>jP l links) false
def qw (caps:List Int) (flows:Fl):Bool:=
 decide (1<=caps.length/\caps.length<=8)&&(decide (1<=flows.length/\flows.length<=8)&&(KU caps&&flows.all (gH caps.length)))
end Go.Proofs.Ytpfphfobneehmaa
namespace Go.TM
open Go Go.AM
theorem qp {m:Nat} (hm:m<=9223372036854775807) {σ ρ:Type} (F:Nat->Int->σ->Option ρ) (g:Nat->σ) (r:ρ)
  (hs:∀ n (i:Nat),i < m->F (n+1) (i:Int) (g i)=F n ((i+1:Nat):Int) (g (i+1))) (he:∀ n,F (n+1) (m:Int) (g m)=some r):F FU 0 (g 0)=some r:=by
 have key:∀ (k n i:Nat),i+k=m->k < n->F n (i:Int) (g i)=some r:=by
  intro k
  induction k with
  | zero=>
   intro n i h1 h2
   cases n with
   | zero=>omega
   | succ n=>rw [show i=m by omega];exact he n
  | succ k ih=>
   intro n i h1 h2
   cases n with
   | zero=>omega
   | succ n=>rw [hs n i (by omega)];exact ih n (i+1) (by omega) (by omega)
 exact key m FU 0 (by omega) (by unfold FU;omega)
theorem qcK {m:Nat} (hm:m<=9223372036854775807) (F:Nat->Int->Option (Int ⊕ Unit)) (g:Nat->Bool)
  (hs:∀ n (i:Nat),i < m->F (n+1) (i:Int)=cond (g i) (some (.inl (i:Int))) (F n ((i+1:Nat):Int))) (he:∀ n,F (n+1) (m:Int)=some (.inr ())) :
  ∃ j:Int,cond (isL (F FU 0)) (some (zx (F FU 0))) (cond (ok (zB (F FU 0))) (some (-1:Int)) none)=some j/\decide (j≥0)=(List.range m).any g:=by
 rcases qfA hm F g hs he with ⟨j,h1,h2,h3,_⟩ | ⟨h2,h3⟩
 ·refine ⟨(j:Int),by rw [h2];rfl,?_⟩
  rw [decide_eq_true (show (j:Int)≥0 by omega),eq_comm,List.any_eq_true]
  exact ⟨j,List.mem_range.2 h1,h3⟩
 ·refine ⟨-1,by rw [h2];rfl,?_⟩
  rw [decide_eq_false (show ¬ (-1:Int)≥0 by omega),eq_comm,List.any_eq_false]
  intro x hx
  rw [h3 x (List.mem_range.1 hx)];simp
def ql:Nat->(Nat->Int)->Int
 | 0,_=>0
 | n+1,f=>ql n f+f n
theorem KP {n:Nat} {f g:Nat->Int} (h:∀ i,i < n->f i<=g i):ql n f<=ql n g:=by
 induction n with
 | zero=>exact Int.le_refl _
 | succ n ih=>exact Int.add_le_add (ih fun i hi=>h i (by omega)) (h n (by omega))
theorem Gh {n:Nat} {f g:Nat->Int} (h:∀ i,i < n->f i=g i):ql n f=ql n g:=by
 induction n with
 | zero=>rfl
 | succ n ih=>simp only [ql];rw [ih fun i hi=>h i (by omega),h n (by omega)]
theorem KX (n:Nat) (c:Int):ql n (fun _=>c)=n*c:=by
 induction n with
 | zero=>simp [ql]
 | succ n ih=>simp only [ql];rw [ih];push_cast;rw [Int.add_mul];omega
theorem Kw (n:Nat):ql n (fun _=>0)=0:=by rw [KX];simp
theorem jB {n:Nat} {f:Nat->Int} (h:∀ i,i < n->0<=f i):0<=ql n f:=by
 have:=KP (n:=n) (f:=fun _=>0) (g:=f) h
 rw [Kw] at this;exact this
theorem qB {n m:Nat} {f:Nat->Int} {c:Int} (hn:n<=m) (h:∀ i,i < n->0<=f i/\f i<=c) (hc:0<=c):0<=ql n f/\ql n f<=m*c:=by
 refine ⟨jB fun i hi=>(h i hi).1,?_⟩
 have:=KP (n:=n) (f:=f) (g:=fun _=>c) fun i hi=>(h i hi).2
 rw [KX] at this
 exact Int.le_trans this (Int.mul_le_mul_of_nonneg_right (by omega) hc)
theorem qee (n:Nat) (f:Nat->Int) (c:Int):ql n (fun i=>c*f i)=c*ql n f:=by
 induction n with
 | zero=>simp [ql]
 | succ n ih=>simp only [ql];rw [ih,Int.mul_add]
theorem G9 (n:Nat) (f:Nat->Int) (c:Int):ql n (fun i=>f i*c)=ql n f*c:=by
 rw [Int.mul_comm,<- qee];exact Gh fun i _=>Int.mul_comm _ _
theorem jQ (n:Nat) {f:Nat->Int} {i:Nat} (hi:i < n) (h:∀ j,j < n->0<=f j):f i<=ql n f:=by
 induction n with
 | zero=>omega
 | succ n ih=>
  simp only [ql]
  by_cases hn:i=n
  ·have:=jB (n:=n) (f:=f) fun j hj=>h j (by omega)
   rw [hn];omega
  ·have:=ih (by omega) fun j hj=>h j (by omega)
   have:=h n (by omega)
   omega
theorem KN {p x c:Int} (hp:0 < p) (hx:0<=x) (hc:0 < c):x < Int.tdiv (c+p - 1) p↔p*x < c:=by
 rw [Int.tdiv_eq_ediv_of_nonneg (by omega)]
 have h1:=Int.mul_ediv_add_emod (c+p - 1) p
 have h2:=Int.emod_nonneg (c+p - 1) (show p≠0 by omega)
 have h3:=Int.emod_lt_of_pos (c+p - 1) hp
 constructor
 ·intro h
  have h4:p*(x+1)<=p*((c+p - 1) / p):=Int.mul_le_mul_of_nonneg_left (by omega) (by omega)
  rw [Int.mul_add,Int.mul_one] at h4
  omega
 ·intro h
  apply Int.lt_of_not_ge
  intro h4
  have h5:p*((c+p - 1) / p)<=p*x:=Int.mul_le_mul_of_nonneg_left h4 (by omega)
  omega
theorem HL {p c:Int} (hp:0 < p) (hc:0 < c):0<=Int.tdiv (c+p - 1) p/\Int.tdiv (c+p - 1) p<=c:=by
 refine ⟨?_,?_⟩
 ·rw [Int.tdiv_eq_ediv_of_nonneg (by omega)];exact Int.ediv_nonneg (by omega) (by omega)
 ·apply Int.le_of_not_gt
  intro h
  have:=(KN hp (by omega) hc).1 h
  have h2:1*c<=p*c:=Int.mul_le_mul_of_nonneg_right (by omega) (by omega)
  omega
end Go.TM
namespace Go.Proofs.Ytpfphfobneehmaa
open Go Go.AM Go.TM Go.Proofs
theorem Kr (a b c:Int):v43 a b c=some (decide (b<=a/\a<=c)):=by
 unfold v43 tv43;rw [qd6]
theorem HN {α:Type} (l:List α) (d:α) (p:α->Bool):(!(List.range l.length).any fun i=>!p (l.getD i d))=l.all p:=by
 rw [Ks l d fun x=>!p x,<- qD l d p,qD l d p]
 rw [List.all_eq_not_any_not]
theorem qaP (l:List Int) (hl:Len l) (p:Int->Bool) (F:Nat->Int->Option (Int ⊕ Unit))
  (hs:∀ n (i:Nat),i < l.length->F (n+1) (i:Int)=cond (!p (l.getD i 0)) (some (.inl (i:Int))) (F n ((i+1:Nat):Int))) (he:∀ n,F (n+1) (l.length:Int)=some (.inr ())) :
  ∃ j:Int,cond (isL (F FU 0)) (some (zx (F FU 0))) (cond (ok (zB (F FU 0))) (some (-1:Int)) none)=some j/\(!decide (j≥0))=l.all p:=by
 obtain ⟨j,h1,h2⟩:=qcK (m:=l.length) hl F (fun i=>!p (l.getD i 0)) hs he
 exact ⟨j,h1,by rw [h2,HN l 0 p]⟩
theorem v47_eq (l:List Int) (hl:Len l):v47 l=some (KU l):=by
 have hl':l.length<=9223372036854775807:=hl
 obtain ⟨j,h1,h2⟩:=qaP l hl (fun n=>decide (0<=n/\n<=1000)) (fun n i=>gg n l (l.length:Int) i) (fun n i hi=>by
  show gg (n+1) _ _ _=_
  rw [qby];unfold GN ck;(repeat rewrite [obE]);rw [decide_eq_true (show (i:Int) < (l.length:Int) by omega),decide_eq_true (show (0:Int)<=(i:Int) by omega),up1 (by omega)]
  unfold v67 tv67 v48 tv48;(repeat rewrite [obE])
  simp only [cond_true,Int.toNat_natCast,Kr,qh,qf]) fun n=>by
  show gg (n+1) _ _ _=_
  rw [qby];unfold GN ck;(repeat rewrite [obE]);rw [decide_eq_false (show ¬ (l.length:Int) < (l.length:Int) by omega)]
  rfl
 unfold v47 tv47 v66 tv66 v77 tv77 KU;(repeat rewrite [obE])
 rw [h1]
 simp only [qh,qf,cond_true]
 exact congrArg some h2
def upto (m:Int) (l:List Int):Bool:=l.all fun n=>decide (0<=n/\n<=m)
theorem qij (l:List Int) (hl:Len l):K6 l=some (upto 1000000000 l):=by
 have hl':l.length<=9223372036854775807:=hl
 obtain ⟨j,h1,h2⟩:=qaP l hl (fun n=>decide (0<=n/\n<=1000000000)) (fun n i=>gh n l (l.length:Int) i) (fun n i hi=>by
  show gh (n+1) _ _ _=_
  rw [qbz];unfold GO ck;(repeat rewrite [obE]);rw [decide_eq_true (show (i:Int) < (l.length:Int) by omega),decide_eq_true (show (0:Int)<=(i:Int) by omega),up1 (by omega)]
  unfold qde qc3 v63 tv63;(repeat rewrite [obE])
  simp only [cond_true,Int.toNat_natCast,Kr,qh,qf]) fun n=>by
  show gh (n+1) _ _ _=_
  rw [qbz];unfold GO ck;(repeat rewrite [obE]);rw [decide_eq_false (show ¬ (l.length:Int) < (l.length:Int) by omega)]
  rfl
 unfold K6 qcX qdb qc0 qdg qc7 upto;(repeat rewrite [obE])
 rw [h1]
 simp only [qh,qf,cond_true]
 exact congrArg some h2
theorem qik (l:List Int) (hl:Len l):HS l=some (upto 1000000000000 l):=by
 have hl':l.length<=9223372036854775807:=hl
 obtain ⟨j,h1,h2⟩:=qaP l hl (fun n=>decide (0<=n/\n<=1000000000000)) (fun n i=>gi n l (l.length:Int) i) (fun n i hi=>by
  show gi (n+1) _ _ _=_
  rw [qbA];unfold GP ck;(repeat rewrite [obE]);rw [decide_eq_true (show (i:Int) < (l.length:Int) by omega),decide_eq_true (show (0:Int)<=(i:Int) by omega),up1 (by omega)]
  unfold qdf qc4 v64 tv64;(repeat rewrite [obE])
  simp only [cond_true,Int.toNat_natCast,Kr,qh,qf]) fun n=>by
  show gi (n+1) _ _ _=_
  rw [qbA];unfold GP ck;(repeat rewrite [obE]);rw [decide_eq_false (show ¬ (l.length:Int) < (l.length:Int) by omega)]
  rfl
 unfold HS qcY qdc qc1 qdh qc8 upto;(repeat rewrite [obE])
 rw [h1]
 simp only [qh,qf,cond_true]
 exact congrArg some h2
theorem l53 (l:List Int) (links:Int) (hl:Len l):∀ (k n i:Nat) (last:Int),i+k=l.length->k < n->
  gO n l links last l (l.length:Int) (i:Int)=some (cond (gM links last (l.drop i)) (.inr ()) (.inl false)):=by
 intro k
 induction k with
 | zero=>
  intro n i last h1 h2
  cases n with
  | zero=>omega
  | succ n=>
   rw [qbp];unfold GH ck;rw [decide_eq_false (show ¬ ((i:Int) < (l.length:Int)) by omega),List.drop_of_length_le (show l.length<=i by omega)]
   rfl
 | succ k ih=>
  intro n i last h1 h2
  cases n with
  | zero=>omega
  | succ n=>
   have hi:i < l.length:=by omega
   have hl':l.length<=9223372036854775807:=hl
   rw [qbp];unfold GH ck;rw [decide_eq_true (show (i:Int) < (l.length:Int) by omega),decide_eq_true (show (0:Int)<=(i:Int) by omega),up1 (by omega)]
   simp only [cond_true,Int.toNat_natCast]
   rw [Ku hi 0,gM,ih n (i+1) _ (by omega) (by omega)]
   by_cases c1:l.getD i 0<=last
   ·rw [decide_eq_true c1,decide_eq_false (show ¬ (last < l.getD i 0/\l.getD i 0 < links) by omega)];rfl
   rw [decide_eq_false c1]
   by_cases c2:l.getD i 0≥links
   ·rw [decide_eq_true c2,decide_eq_false (show ¬ (last < l.getD i 0/\l.getD i 0 < links) by omega)];rfl
   rw [decide_eq_false c2,decide_eq_true (show last < l.getD i 0/\l.getD i 0 < links by omega)]
   rfl
theorem v53_eq (l:List Int) (links:Int) (hl:Len l):v53 l links=some (jP l links):=by
 unfold v53 tv53 jP;(repeat rewrite [obE])
 have h:=l53 l links hl l.length FU 0 (-1) (by omega) (by have:l.length<=9223372036854775807:=hl;unfold FU;omega)
 simp only [Int.natCast_zero,List.drop_zero] at h
 rw [h]
 cases gM links (-1) l with
 | false=>rfl
 | true=>
  simp only [cond_true,gR,gw,qh,qf,cond_false,Kr]
  congr 1
  apply decide_eq_decide.2
  constructor<;>intro h<;>omega
theorem v51_eq (f:List (List Int)) (caps:List Int) (flows:Fl) (hl:f.length<=20) (hp:∀ k,(f.getD k []).length<=20):v51 f caps flows=some (f.all fun l=>jP l caps.length):=by
 obtain ⟨j,h1,h2⟩:=qcK (m:=f.length) (by omega) (fun n i=>gl n f (f.length:Int) i caps flows) (fun i=>!jP (f.getD i []) caps.length) (fun n i hi=>by
  have:=hp i
  show gl (n+1) _ _ _ _ _=_
  rw [qbD];unfold GS ck;(repeat rewrite [obE]);rw [decide_eq_true (show (i:Int) < (f.length:Int) by omega),decide_eq_true (show (0:Int)<=(i:Int) by omega),up1 (by omega)]
  unfold v71 tv71 v52 tv52;(repeat rewrite [obE])
  simp only [cond_true,Int.toNat_natCast]
  rw [v53_eq _ _ (show (f.getD i []).length<=9223372036854775807 by omega)]
  simp only [qh,qf,cond_true]) fun n=>by
  show gl (n+1) _ _ _ _ _=_
  rw [qbD];unfold GS ck;(repeat rewrite [obE]);rw [decide_eq_false (show ¬ (f.length:Int) < (f.length:Int) by omega)]
  rfl
 have h3:=HN f [] fun l=>jP l caps.length
 unfold v51 tv51 v70 tv70 v79 tv79;(repeat rewrite [obE])
 rw [h1]
 simp only [qh,qf,cond_true]
 exact congrArg some ((congrArg (!·) h2).trans h3)
theorem v49_eq (caps:List Int) (flows:Fl) (hl:flows.length<=20) (hf:∀ i,(flows.getD i []).length<=20) (hp:∀ i k,((flows.getD i []).getD k []).length<=20):v49 flows caps flows=some (flows.all (gH caps.length)):=by
 obtain ⟨j,h1,h2⟩:=qcK (m:=flows.length) (by omega) (fun n i=>gk n flows (flows.length:Int) i caps flows) (fun i=>!gH caps.length (flows.getD i [])) (fun n i hi=>by
  show gk (n+1) _ _ _ _ _=_
  rw [qbC];unfold GR ck;(repeat rewrite [obE]);rw [decide_eq_true (show (i:Int) < (flows.length:Int) by omega),decide_eq_true (show (0:Int)<=(i:Int) by omega),up1 (by omega)]
  have hv:v50 (flows.getD i []) caps flows=some (gH caps.length (flows.getD i [])):=by
   unfold v50 tv50 gH;(repeat rewrite [obE])
   rw [Kr,v51_eq _ _ _ (hf i) (hp i)]
   by_cases c1:1<=(flows.getD i []).length/\(flows.getD i []).length<=4
   ·rw [decide_eq_true c1,decide_eq_true (show (1:Int)<=((flows.getD i []).length:Int)/\((flows.getD i []).length:Int)<=4 by omega)];rfl
   ·rw [decide_eq_false c1,decide_eq_false (show ¬ ((1:Int)<=((flows.getD i []).length:Int)/\((flows.getD i []).length:Int)<=4) by omega)];rfl
  unfold v69 tv69;(repeat rewrite [obE])
  simp only [cond_true,Int.toNat_natCast,hv,qh,qf]) fun n=>by
  show gk (n+1) _ _ _ _ _=_
  rw [qbC];unfold GR ck;(repeat rewrite [obE]);rw [decide_eq_false (show ¬ (flows.length:Int) < (flows.length:Int) by omega)]
  rfl
 have h3:=HN flows [] fun f=>gH caps.length f
 unfold v49 tv49 v68 tv68 v78 tv78;(repeat rewrite [obE])
 rw [h1]
 simp only [qh,qf,cond_true]
 exact congrArg some ((congrArg (!·) h2).trans h3)
theorem qeG {caps:List Int} {flows:Fl} {rates:List (List Int)} {prices:List Int} (h:Few caps flows rates prices):v28 caps flows=some (qw caps flows):=by
 unfold v28 tv28 qw;(repeat rewrite [obE])
 have hc:=h.hc
 rw [Kr,Kr,v47_eq caps (show caps.length<=9223372036854775807 by omega),v49_eq caps flows h.hf h.flow h.path]
 simp only [qh,qf,cond_true,qE]
 by_cases c1:1<=caps.length/\caps.length<=8
 case neg=>rw [decide_eq_false c1,decide_eq_false (show ¬ ((1:Int)<=(caps.length:Int)/\(caps.length:Int)<=8) by omega)];rfl
 rw [decide_eq_true c1,decide_eq_true (show (1:Int)<=(caps.length:Int)/\(caps.length:Int)<=8 by omega)]
 by_cases c2:1<=flows.length/\flows.length<=8
 case neg=>rw [decide_eq_false c2,decide_eq_false (show ¬ ((1:Int)<=(flows.length:Int)/\(flows.length:Int)<=8) by omega)];rfl
 rw [decide_eq_true c2,decide_eq_true (show (1:Int)<=(flows.length:Int)/\(flows.length:Int)<=8 by omega)]
 simp only [cond_true,Bool.true_and]
 cases KU caps<;>rfl
def ja (flows:Fl) (rates:List (List Int)):Bool:=decide (rates.length=flows.length)&&(List.range rates.length).all fun i=>cond (decide ((rates.getD i []).length=(flows.getD i []).length)) (upto 1000000000 (rates.getD i [])) false
def qN (caps prices:List Int):Bool:=decide (prices.length=caps.length)&&upto 1000000000000 prices
theorem JP {α β:Type} (a:List α) (b:List β):((a.length:Int) != (b.length:Int))=!decide (a.length=b.length):=by
 rw [bne_dec]
 congr 1
 apply decide_eq_decide.2
 omega
theorem v44_eq {caps:List Int} {flows:Fl} {rates:List (List Int)} {prices:List Int} (h:Few caps flows rates prices):v44 caps flows rates prices=some (ja flows rates&&qN caps prices):=by
 have hp:=h.hp
 have hr:=h.hr
 unfold v44 tv44 ja qN;(repeat rewrite [obE])
 rw [JP,JP,qik prices (show prices.length<=9223372036854775807 by omega)]
 simp only [qE,qh,qf,cond_true]
 by_cases c1:rates.length=flows.length
 case neg=>rw [decide_eq_false c1];rfl
 rw [decide_eq_true c1]
 have hL:jK FU prices rates (rates.length:Int) 0 caps flows=some (cond ((List.range rates.length).all fun i=>cond (decide ((rates.getD i []).length=(flows.getD i []).length)) (upto 1000000000 (rates.getD i [])) false) (.inr ()) (.inl false)):=by
  refine qC (m:=rates.length) (by omega) (fun n j=>jK n prices rates (rates.length:Int) j caps flows) _ (fun n i hi=>?_) fun n=>?_
  ·show jK (n+1) _ _ _ _ _ _=_
   have:=h.rate i
   rw [qbn];unfold Kk ck;(repeat rewrite [obE]);rw [decide_eq_true (show (i:Int) < (rates.length:Int) by omega),decide_eq_true (show (0:Int)<=(i:Int) by omega),decide_eq_true (show (i:Int) < (flows.length:Int) by omega),up1 (by omega)]
   simp only [cond_true,Int.toNat_natCast]
   rw [JP,qij _ (show (rates.getD i []).length<=9223372036854775807 by omega)]
   simp only [qE,qh,qf,cond_true]
   cases decide ((rates.getD i []).length=(flows.getD i []).length)<;>rfl
  ·show jK (n+1) _ _ _ _ _ _=_
   rw [qbn];unfold Kk ck;(repeat rewrite [obE]);rw [decide_eq_false (show ¬ (rates.length:Int) < (rates.length:Int) by omega)]
   rfl
 rw [hL]
 cases decide (prices.length=caps.length) with
 | false=>simp
 | true=>
  simp only [cond_true,Bool.true_and]
  cases (List.range rates.length).all fun i=>cond (decide ((rates.getD i []).length=(flows.getD i []).length)) (upto 1000000000 (rates.getD i [])) false<;>rfl
def tab (c:Nat) (f:Nat->Int):List Int:=(List.range c).map f
@[simp] theorem qq (c:Nat) (f:Nat->Int):(tab c f).length=c:=by simp [tab]
theorem qr {c k:Nat} (f:Nat->Int) (h:k < c):(tab c f).getD k 0=f k:=by
 simp [tab,List.getD,List.getElem?_map,List.getElem?_range h]
theorem qm {c:Nat} {f g:Nat->Int} (h:∀ k,k < c->f k=g k):tab c f=tab c g:=by
 unfold tab
 exact List.map_congr_left fun k hk=>h k (List.mem_range.1 hk)
theorem qU {c p:Nat} (f:Nat->Int) (v:Int):(tab c f).set p v=tab c fun k=>if k=p then v else f k:=by
 apply List.ext_getElem?
 intro k
 rw [List.getElem?_set]
 by_cases hk:k < c
 ·simp only [tab,List.length_map,List.length_range,List.getElem?_map,List.getElem?_range hk,Option.map_some]
  by_cases h:p=k
  ·subst h;simp [hk]
  ·rw [if_neg h,if_neg (show ¬ k=p from fun e=>h e.symm)]
 ·simp [tab,List.getElem?_eq_none (l:=List.range c) (i:=k) (by simp;omega)]
  omega
theorem qG (c:Nat):List.replicate c (0:Int)=tab c fun _=>0:=by
 apply List.ext_getElem?
 intro k
 by_cases hk:k < c<;>simp [tab,hk,List.getElem?_replicate]
abbrev pth (flows:Fl) (i k:Nat):List Int:=(flows.getD i []).getD k []
abbrev rt (rates:List (List Int)) (i k:Nat):Int:=(rates.getD i []).getD k 0
def pk (l:List Int) (r:Int) (k:Nat):Int:=ql l.length fun t=>cond (l.getD t 0==(k:Int)) r 0
def qn (flows:Fl) (rates:List (List Int)) (k:Nat):Int:=ql flows.length fun i=>ql (flows.getD i []).length fun t=>pk (pth flows i t) (rt rates i t) k
def qu (r:List Int):Int:=ql r.length fun t=>r.getD t 0
def qj (l prices:List Int):Int:=ql l.length fun t=>prices.getD (Int.toNat (l.getD t 0)) 0
def qH (caps prices:List Int):Int:=ql prices.length fun k=>prices.getD k 0*caps.getD k 0
def q9 (caps:List Int) (flows:Fl) (rates:List (List Int)):Bool:=(List.range caps.length).all fun k=>decide (qn flows rates k<=1000000*caps.getD k 0)
def Gg (flows:Fl) (rates:List (List Int)) (prices:List Int):Bool:=(List.range flows.length).all fun i=>(List.range (flows.getD i []).length).all fun t=>decide (1000000000000<=qj (pth flows i t) prices*qu (rates.getD i []))
def gy (caps:List Int) (flows:Fl) (rates:List (List Int)) (prices:List Int):Bool:=q9 caps flows rates&&Gg flows rates prices
theorem G6 {links:Int}:∀ {l:List Int} {last:Int},gM links last l=true->(∀ j,j < l.length->last < l.getD j 0/\l.getD j 0 < links)/\∀ a b,a < b->b < l.length->l.getD a 0 < l.getD b 0
 | [],last,_=>⟨fun j hj=>absurd hj (Nat.not_lt_zero j),fun a b _ hb=>absurd hb (Nat.not_lt_zero b)⟩
 | x::r,last,h=>by
  unfold gM at h
  by_cases c:last < x/\x < links
  ·rw [decide_eq_true c] at h
   obtain ⟨h1,h2⟩:=G6 h
   refine ⟨fun j hj=>?_,fun a b hab hb=>?_⟩
   ·cases j with
    | zero=>exact c
    | succ j=>
     have:=h1 j (by simpa using hj)
     have e:(x::r).getD (j+1) 0=r.getD j 0:=by simp
     rw [e];omega
   ·cases b with
    | zero=>omega
    | succ b=>
     have e:(x::r).getD (b+1) 0=r.getD b 0:=by simp
     have hb':b < r.length:=by simpa using hb
     rw [e]
     cases a with
     | zero=>exact (h1 b hb').1
     | succ a=>
      have e:(x::r).getD (a+1) 0=r.getD a 0:=by simp
      rw [e]
      exact h2 a b (by omega) hb'
  ·rw [decide_eq_false c] at h;cases h
structure Ok (caps:List Int) (flows:Fl) (rates:List (List Int)) (prices:List Int):Prop where
 few:Few caps flows rates prices
 c1:1<=caps.length/\caps.length<=8
 f1:1<=flows.length/\flows.length<=8
 cap:∀ k,0<=caps.getD k 0/\caps.getD k 0<=1000
 sub:∀ i,i < flows.length->1<=(flows.getD i []).length/\(flows.getD i []).length<=4
 hop:∀ i t,i < flows.length->t < (flows.getD i []).length->1<=(pth flows i t).length/\(pth flows i t).length<=6
 link:∀ i t j,i < flows.length->t < (flows.getD i []).length->j < (pth flows i t).length->0<=(pth flows i t).getD j 0/\(pth flows i t).getD j 0 < (caps.length:Int)
 inc:∀ i t a b,i < flows.length->t < (flows.getD i []).length->a < b->b < (pth flows i t).length->(pth flows i t).getD a 0 < (pth flows i t).getD b 0
 rl:rates.length=flows.length
 rli:∀ i,i < flows.length->(rates.getD i []).length=(flows.getD i []).length
 rate:∀ i t,0<=rt rates i t/\rt rates i t<=1000000000
 pl:prices.length=caps.length
 price:∀ k,0<=prices.getD k 0/\prices.getD k 0<=1000000000000
theorem GU {m:Int} (hm:0<=m) {l:List Int} (h:upto m l=true) (k:Nat):0<=l.getD k 0/\l.getD k 0<=m:=by
 by_cases hk:k < l.length
 ·have:=List.all_eq_true.1 h _ (qT hk 0)
  simpa using this
 ·rw [List.getD_eq_getElem?_getD,List.getElem?_eq_none (by omega)]
  exact ⟨Int.le_refl _,hm⟩
theorem ok_of {caps:List Int} {flows:Fl} {rates:List (List Int)} {prices:List Int} (hf:Few caps flows rates prices) (h1:qw caps flows=true) (h2:ja flows rates=true) (h3:qN caps prices=true):Ok caps flows rates prices:=by
 unfold qw at h1
 unfold ja at h2
 unfold qN at h3
 simp only [Bool.and_eq_true,decide_eq_true_eq] at h1 h2 h3
 obtain ⟨hc,hfl,hcs,hfs⟩:=h1
 obtain ⟨hr1,hr2⟩:=h2
 obtain ⟨hp1,hp2⟩:=h3
 have hflow:∀ i,i < flows.length->(1<=(flows.getD i []).length/\(flows.getD i []).length<=4)/\∀ t,t < (flows.getD i []).length->jP (pth flows i t) caps.length=true:=by
  intro i hi
  have:=List.all_eq_true.1 hfs _ (qT hi [])
  unfold gH at this
  by_cases c:1<=(flows.getD i []).length/\(flows.getD i []).length<=4
  ·rw [decide_eq_true c] at this
   exact ⟨c,fun t ht=>List.all_eq_true.1 this _ (qT ht [])⟩
  ·rw [decide_eq_false c] at this;cases this
 have hpath:∀ i t,i < flows.length->t < (flows.getD i []).length->gM caps.length (-1) (pth flows i t)=true/\1<=(pth flows i t).length/\(pth flows i t).length<=6:=by
  intro i t hi ht
  have:=(hflow i hi).2 t ht
  unfold jP at this
  cases hx:gM caps.length (-1) (pth flows i t) with
  | false=>rw [hx] at this;cases this
  | true=>rw [hx] at this;exact ⟨rfl,by simpa using this⟩
 have hrt:∀ i,i < flows.length->(rates.getD i []).length=(flows.getD i []).length/\upto 1000000000 (rates.getD i [])=true:=by
  intro i hi
  have:=List.all_eq_true.1 hr2 i (List.mem_range.2 (by omega))
  by_cases c:(rates.getD i []).length=(flows.getD i []).length
  ·rw [decide_eq_true c] at this;exact ⟨c,this⟩
  ·rw [decide_eq_false c] at this;cases this
 refine ⟨hf,hc,hfl,fun k=>GU (by omega) hcs k,fun i hi=>(hflow i hi).1,fun i t hi ht=>(hpath i t hi ht).2,fun i t j hi ht hj=>?_,fun i t a b hi ht hab hb=>(G6 (hpath i t hi ht).1).2 a b hab hb,hr1,fun i hi=>(hrt i hi).1,fun i t=>?_,hp1,fun k=>GU (by omega) hp2 k⟩
 ·have:=(G6 (hpath i t hi ht).1).1 j hj
  omega
 ·by_cases hi:i < flows.length
  ·exact GU (by omega) (hrt i hi).2 t
  ·have e:rates.getD i []=[]:=by rw [List.getD_eq_getElem?_getD,List.getElem?_eq_none (by omega)];rfl
   show 0<=(rates.getD i []).getD t 0/\(rates.getD i []).getD t 0<=_
   rw [e];simp
section
variable {caps : List Int} {flows : Fl} {rates : List (List Int)} {prices : List Int} (h : Ok caps flows rates prices)
include h
theorem pk_bd {l:List Int} {r:Int} (hl:l.length<=20) (hr:0<=r/\r<=1000000000) (k:Nat):0<=pk l r k/\pk l r k<=20*1000000000:=by
 unfold pk
 exact qB hl (fun t _=>by cases (l.getD t 0==(k:Int))<;>simp<;>omega) (by omega)
theorem qcR {i j:Nat} (hj:j<=20) (k:Nat):0<=ql j (fun t=>pk (pth flows i t) (rt rates i t) k)/\ql j (fun t=>pk (pth flows i t) (rt rates i t) k)<=20*(20*1000000000):=
 qB hj (fun t _=>pk_bd h (h.few.path i t) (h.rate i t) k) (by omega)
theorem qeS {j:Nat} (hj:j<=20) (k:Nat):0<=ql j (fun i=>ql (flows.getD i []).length fun t=>pk (pth flows i t) (rt rates i t) k)/\ql j (fun i=>ql (flows.getD i []).length fun t=>pk (pth flows i t) (rt rates i t) k)<=20*(20*(20*1000000000)):=
 qB hj (fun i _=>qcR h (h.few.flow i) k) (by omega)
theorem qeg {i j:Nat} (hj:j<=20):0<=ql j (fun t=>rt rates i t)/\ql j (fun t=>rt rates i t)<=20*1000000000:=
 qB hj (fun t _=>h.rate i t) (by omega)
omit h in
theorem qdj (l:List Int) (r:Int) (k j:Nat):ql (j+1) (fun t=>cond (l.getD t 0==(k:Int)) r 0)=ql j (fun t=>cond (l.getD t 0==(k:Int)) r 0)+cond (l.getD j 0==(k:Int)) r 0:=rfl
theorem l45_16 {i t:Nat} (hi:i < flows.length) (ht:t < (flows.getD i []).length) {r:Int} (hr:0<=r/\r<=1000000000) (f:Nat->Int) (hf:∀ k,0<=f k/\f k<=100000000000000) (y:List Int) :
  q6 FU (pth flows i t) ((pth flows i t).length:Int) 0 (pth flows i t) r (tab caps.length f) y=some (tab caps.length fun k=>f k+pk (pth flows i t) r k):=by
 have hl:=(h.hop i t hi ht).2
 have:=qp (m:=(pth flows i t).length) (by omega) (fun n j (s:List Int)=>q6 n (pth flows i t) ((pth flows i t).length:Int) j (pth flows i t) r s y)
  (fun j=>tab caps.length fun k=>f k+ql j fun t'=>cond ((pth flows i t).getD t' 0==(k:Int)) r 0) (tab caps.length fun k=>f k+pk (pth flows i t) r k) (fun n j hj=>?_) fun n=>?_
 ·simp only [ql,Int.add_zero] at this
  exact this
 ·show q6 (n+1) _ _ _ _ _ _ _=q6 n _ _ _ _ _ _ _
  have hk:=h.link i t j hi ht hj
  obtain ⟨p,hp⟩:∃ p:Nat,(pth flows i t).getD j 0=(p:Int):=⟨Int.toNat ((pth flows i t).getD j 0),by omega⟩
  have hpc:p < caps.length:=by omega
  rw [Sp];unfold Jo ck;rw [decide_eq_true (show (j:Int) < ((pth flows i t).length:Int) by omega),decide_eq_true (show (0:Int)<=(j:Int) by omega),up1 (by omega)]
  simp only [cond_true,Int.toNat_natCast,hp,qq]
  rw [decide_eq_true (show (0:Int)<=(p:Int) by omega),decide_eq_true (show (p:Int) < (caps.length:Int) by omega),decide_eq_true hpc,qr _ hpc,qU]
  simp only [cond_true]
  congr 1
  apply qm
  intro k hkc
  have hb:=qB (n:=j) (m:=20) (f:=fun t'=>cond ((pth flows i t).getD t' 0==(p:Int)) r 0) (c:=1000000000) (by omega) (fun t' _=>by cases ((pth flows i t).getD t' 0==(p:Int))<;>simp<;>omega) (by omega)
  have hfp:=hf p
  rw [qdj,hp]
  by_cases hkp:k=p
  ·subst hkp
   rw [if_pos rfl,qi (by omega) (by omega)]
   simp;omega
  ·rw [if_neg hkp,show ((p:Int)==(k:Int))=false from beq_false_of_ne (by omega)]
   simp
 ·show q6 (n+1) _ _ _ _ _ _ _=_
  rw [Sp];unfold Jo ck;rw [decide_eq_false (show ¬ ((pth flows i t).length:Int) < ((pth flows i t).length:Int) by omega)]
  rfl
def Ld (caps:List Int) (flows:Fl) (rates:List (List Int)) (i j:Nat):List Int:=tab caps.length fun k=>ql i (fun q=>ql (flows.getD q []).length fun t=>pk (pth flows q t) (rt rates q t) k)+ql j fun t=>pk (pth flows i t) (rt rates i t) k
def Sm (flows:Fl) (rates:List (List Int)) (i j:Nat):List Int:=tab flows.length fun q=>if q < i then ql (flows.getD q []).length (fun t=>rt rates q t) else if q=i then ql j (fun t=>rt rates i t) else 0
theorem vR_eq {i t:Nat} (hi:i < flows.length) (ht:t < (flows.getD i []).length):vR (i:Int) (pth flows i t) (rt rates i t) (Ld caps flows rates i t) (Sm flows rates i t)=some (Ld caps flows rates i (t+1),Sm flows rates i (t+1)):=by
 unfold vR tvR ck;(repeat rewrite [obE])
 have h4:=(h.sub i hi).2
 have hr:=h.rate i t
 have hsl:(Sm flows rates i t).length=flows.length:=by simp [Sm]
 rw [decide_eq_true (show (0:Int)<=(i:Int) by omega),hsl,decide_eq_true (show (i:Int) < (flows.length:Int) by omega)]
 simp only [cond_true,Int.toNat_natCast]
 rw [decide_eq_true hi]
 have e1:List.set (Sm flows rates i t) i (wI ((Sm flows rates i t).getD i 0+rt rates i t))=Sm flows rates i (t+1):=by
  unfold Sm
  rw [qr _ hi,qU]
  apply qm
  intro q hq
  have hb:=qeg h (i:=i) (j:=t) (by omega)
  by_cases hqi:q=i
  ·subst hqi
   rw [if_pos rfl,if_neg (Nat.lt_irrefl q),if_pos rfl,if_neg (Nat.lt_irrefl q),if_pos rfl,qi (by omega) (by omega)]
   rfl
  ·rw [if_neg hqi,if_neg hqi,if_neg hqi]
 have e2:=l45_16 h hi ht hr (fun k=>ql i (fun q=>ql (flows.getD q []).length fun t=>pk (pth flows q t) (rt rates q t) k)+ql t fun t=>pk (pth flows i t) (rt rates i t) k)
  (fun k=>by
   have:=qeS h (j:=i) (by have:=h.few.hf;omega) k
   have:=qcR h (i:=i) (j:=t) (by omega) k
   omega) (Sm flows rates i (t+1))
 simp only [cond_true]
 rw [e1]
 unfold Ld
 rw [e2]
 simp only [qh,qf,cond_true]
 congr 1
 rw [Prod.mk.injEq]
 refine ⟨qm fun k hk=>?_,rfl⟩
 simp only [ql]
 omega
theorem l76_16 {i:Nat} (hi:i < flows.length):jA FU (i:Int) flows (flows.length:Int) (i:Int) (flows.getD i []) ((flows.getD i []).length:Int) 0 (Ld caps flows rates i 0) (Sm flows rates i 0) caps flows rates=some (Ld caps flows rates i (flows.getD i []).length,Sm flows rates i (flows.getD i []).length):=by
 have h4:=(h.sub i hi).2
 have hrl:=h.rli i hi
 have hr:=h.rl
 refine qp (m:=(flows.getD i []).length) (by omega) (fun n j (s:List Int×List Int)=>jA n (i:Int) flows (flows.length:Int) (i:Int) (flows.getD i []) ((flows.getD i []).length:Int) j s.1 s.2 caps flows rates)
  (fun j=>(Ld caps flows rates i j,Sm flows rates i j)) (Ld caps flows rates i (flows.getD i []).length,Sm flows rates i (flows.getD i []).length) (fun n j hj=>?_) fun n=>?_
 ·show jA (n+1) _ _ _ _ _ _ _ _ _ _ _ _=jA n _ _ _ _ _ _ _ _ _ _ _ _
  have hv:=vR_eq h hi hj
  rw [Sx];unfold Ju ck;(repeat rewrite [obE]);rw [decide_eq_true (show (j:Int) < ((flows.getD i []).length:Int) by omega),decide_eq_true (show (0:Int)<=(j:Int) by omega),decide_eq_true (show (0:Int)<=(i:Int) by omega),decide_eq_true (show (i:Int) < (rates.length:Int) by omega),up1 (by omega)]
  simp only [cond_true,Int.toNat_natCast]
  rw [decide_eq_true (show (j:Int) < ((rates.getD i []).length:Int) by omega),hv]
  simp only [cond_true,qh,qf]
 ·show jA (n+1) _ _ _ _ _ _ _ _ _ _ _ _=_
  rw [Sx];unfold Ju ck;(repeat rewrite [obE]);rw [decide_eq_false (show ¬ ((flows.getD i []).length:Int) < ((flows.getD i []).length:Int) by omega)]
  rfl
omit h in
theorem qeQ (i:Nat):Ld caps flows rates i (flows.getD i []).length=Ld caps flows rates (i+1) 0:=by
 unfold Ld
 apply qm
 intro k hk
 simp only [ql,Int.add_zero]
omit h in
theorem Sm_next (i:Nat):Sm flows rates i (flows.getD i []).length=Sm flows rates (i+1) 0:=by
 unfold Sm
 apply qm
 intro q hq
 by_cases h1:q < i
 ·rw [if_pos h1,if_pos (by omega)]
 rw [if_neg h1]
 by_cases h2:q=i
 ·subst h2;rw [if_pos rfl,if_pos (by omega)]
 rw [if_neg h2,if_neg (by omega)]
 split<;>rfl
theorem v76_eq:v76 (List.replicate caps.length 0) (List.replicate flows.length 0) caps flows rates=some (tab caps.length (qn flows rates),tab flows.length fun i=>qu (rates.getD i [])):=by
 have hf:=h.few.hf
 have h0:gf FU flows (flows.length:Int) 0 (Ld caps flows rates 0 0) (Sm flows rates 0 0) caps flows rates=some (Ld caps flows rates flows.length 0,Sm flows rates flows.length 0):=by
  refine qp (m:=flows.length) (by omega) (fun n j (s:List Int×List Int)=>gf n flows (flows.length:Int) j s.1 s.2 caps flows rates)
   (fun j=>(Ld caps flows rates j 0,Sm flows rates j 0)) (Ld caps flows rates flows.length 0,Sm flows rates flows.length 0) (fun n i hi=>?_) fun n=>?_
  ·show gf (n+1) _ _ _ _ _ _ _ _=gf n _ _ _ _ _ _ _ _
   rw [qbw];unfold GL ck;(repeat rewrite [obE]);rw [decide_eq_true (show (i:Int) < (flows.length:Int) by omega),decide_eq_true (show (0:Int)<=(i:Int) by omega),up1 (by omega)]
   simp only [cond_true,Int.toNat_natCast]
   rw [l76_16 h hi]
   simp only [cond_true,qh,qf]
   rw [qeQ,Sm_next]
  ·show gf (n+1) _ _ _ _ _ _ _ _=_
   rw [qbw];unfold GL ck;(repeat rewrite [obE]);rw [decide_eq_false (show ¬ (flows.length:Int) < (flows.length:Int) by omega)]
   rfl
 have e1:List.replicate caps.length (0:Int)=Ld caps flows rates 0 0:=qG _
 have e2:List.replicate flows.length (0:Int)=Sm flows rates 0 0:=by
  rw [qG];unfold Sm
  apply qm
  intro q _
  rw [if_neg (by omega)]
  split<;>rfl
 have e3:Ld caps flows rates flows.length 0=tab caps.length (qn flows rates):=qm fun k _=>Int.add_zero _
 have e4:Sm flows rates flows.length 0=tab flows.length fun i=>qu (rates.getD i []):=by
  apply qm
  intro q hq
  rw [if_pos hq]
  unfold qu
  rw [h.rli q hq]
 unfold v76 tv76;(repeat rewrite [obE])
 rw [e1,e2,h0]
 simp only [qh,qf,cond_true,e3,e4]
theorem qaS {i t j:Nat} (hj:j<=20):0<=ql j (fun x=>prices.getD (Int.toNat ((pth flows i t).getD x 0)) 0)/\ql j (fun x=>prices.getD (Int.toNat ((pth flows i t).getD x 0)) 0)<=20*1000000000000:=
 qB hj (fun x _=>h.price _) (by omega)
theorem l45_64 {i t:Nat} (hi:i < flows.length) (ht:t < (flows.getD i []).length) (b:Bool) (y:List Int):jv FU (i:Int) 0 (pth flows i t) ((pth flows i t).length:Int) 0 prices b y=some (qj (pth flows i t) prices):=by
 have hl:=(h.hop i t hi ht).2
 refine qp (m:=(pth flows i t).length) (by omega) (fun n j (s:Int)=>jv n (i:Int) s (pth flows i t) ((pth flows i t).length:Int) j prices b y)
  (fun j=>ql j fun x=>prices.getD (Int.toNat ((pth flows i t).getD x 0)) 0) (qj (pth flows i t) prices) (fun n j hj=>?_) fun n=>?_
 ·show jv (n+1) _ _ _ _ _ _ _ _=jv n _ _ _ _ _ _ _ _
  have hk:=h.link i t j hi ht hj
  have hpl:=h.pl
  have hb:=qaS h (i:=i) (t:=t) (j:=j+1) (by omega)
  have hs:ql (j+1) (fun x=>prices.getD (Int.toNat ((pth flows i t).getD x 0)) 0)=ql j (fun x=>prices.getD (Int.toNat ((pth flows i t).getD x 0)) 0)+prices.getD (Int.toNat ((pth flows i t).getD j 0)) 0:=rfl
  rw [Sr];unfold Ga ck;rw [decide_eq_true (show (j:Int) < ((pth flows i t).length:Int) by omega),decide_eq_true (show (0:Int)<=(j:Int) by omega),up1 (by omega)]
  simp only [cond_true,Int.toNat_natCast]
  rw [decide_eq_true hk.1,decide_eq_true (show (pth flows i t).getD j 0 < (prices.length:Int) by omega),<- hs,qi (by omega) (by omega)]
  rfl
 ·show jv (n+1) _ _ _ _ _ _ _ _=_
  rw [Sr];unfold Ga ck;rw [decide_eq_false (show ¬ ((pth flows i t).length:Int) < ((pth flows i t).length:Int) by omega)]
  rfl
theorem G8 {i t:Nat}:0<=qj (pth flows i t) prices/\qj (pth flows i t) prices<=20*1000000000000:=qaS h (h.few.path i t)
theorem qeV (i:Nat):0<=qu (rates.getD i [])/\qu (rates.getD i [])<=20*1000000000:=qeg h (i:=i) (h.few.rate i)
theorem vR_1_eq {i t:Nat} (hi:i < flows.length) (ht:t < (flows.getD i []).length) (x:Int) (b:Bool):K8 (i:Int) (pth flows i t) x prices b (tab flows.length fun i=>qu (rates.getD i []))=
  some (cond (decide (1000000000000<=qj (pth flows i t) prices*qu (rates.getD i []))) (.inr ()) (.inl ())):=by
 unfold K8 qd5 ck;(repeat rewrite [obE])
 rw [l45_64 h hi ht,qh,qf]
 have hp:=G8 h (i:=i) (t:=t)
 have hx:=qeV h i
 simp only [qh,qf,cond_true,qq,Int.toNat_natCast]
 rw [decide_eq_true (show (0:Int)<=(i:Int) by omega),decide_eq_true (show (i:Int) < (flows.length:Int) by omega),decide_eq_true hi,qv]
 simp only [cond_true,qr (fun i=>qu (rates.getD i [])) hi]
 generalize hP:qj (pth flows i t) prices=p at*
 generalize hX:qu (rates.getD i [])=y at*
 by_cases c:p=0
 ·rw [decide_eq_true c,c,decide_eq_false (show ¬ (1000000000000:Int)<=0*y by omega)];rfl
 rw [decide_eq_false c,@decide_eq_true _ _ (show p≠0 from c)]
 have hc:=KN (p:=p) (x:=y) (c:=1000000000000) (by omega) (by omega) (by omega)
 have hc2:=HL (p:=p) (c:=1000000000000) (by omega) (by omega)
 have w1:wI (1000000000000+p)=1000000000000+p:=qi (by omega) (by omega)
 have w2:wI (1000000000000+p - 1)=1000000000000+p - 1:=qi (by omega) (by omega)
 have w3:wI (Int.tdiv (1000000000000+p - 1) p)=Int.tdiv (1000000000000+p - 1) p:=qi (by omega) (by omega)
 simp only [cond_true,cond_false,w1,w2,w3]
 by_cases c2:p*y < 1000000000000
 ·rw [decide_eq_true (hc.2 c2),decide_eq_false (show ¬ 1000000000000<=p*y by omega)];rfl
 ·rw [decide_eq_false (show ¬ _ from fun e=>c2 (hc.1 e)),decide_eq_true (show 1000000000000<=p*y by omega)];rfl
theorem qin (b:Bool):KM prices b (tab flows.length fun i=>qu (rates.getD i [])) caps flows rates=some (cond (Gg flows rates prices) (.inr ()) (.inl false)):=by
 have hf:=h.few.hf
 have hr:=h.rl
 have h0:jM FU flows (flows.length:Int) 0 prices b (tab flows.length fun i=>qu (rates.getD i [])) caps flows rates=some (cond (Gg flows rates prices) (.inr ()) (.inl false)):=by
  unfold Gg
  refine qC (m:=flows.length) (by omega) (fun n j=>jM n flows (flows.length:Int) j prices b (tab flows.length fun i=>qu (rates.getD i [])) caps flows rates) _ (fun n i hi=>?_) fun n=>?_
  ·show jM (n+1) _ _ _ _ _ _ _ _ _=_
   have h4:=(h.sub i hi).2
   have hrl:=h.rli i hi
   have h1:q8 FU (i:Int) flows (flows.length:Int) (i:Int) (flows.getD i []) ((flows.getD i []).length:Int) 0 prices b (tab flows.length fun i=>qu (rates.getD i [])) caps flows rates=some (cond ((List.range (flows.getD i []).length).all fun t=>decide (1000000000000<=qj (pth flows i t) prices*qu (rates.getD i []))) (.inr ()) (.inl false)):=by
    refine qC (m:=(flows.getD i []).length) (by omega) (fun n j=>q8 n (i:Int) flows (flows.length:Int) (i:Int) (flows.getD i []) ((flows.getD i []).length:Int) j prices b (tab flows.length fun i=>qu (rates.getD i [])) caps flows rates) _ (fun n j hj=>?_) fun n=>?_
    ·show q8 (n+1) _ _ _ _ _ _ _ _ _ _ _ _ _=_
     have hv:=vR_1_eq h hi hj (rt rates i j) b
     rw [Sy];unfold Jv ck;(repeat rewrite [obE]);rw [decide_eq_true (show (j:Int) < ((flows.getD i []).length:Int) by omega),decide_eq_true (show (0:Int)<=(j:Int) by omega),decide_eq_true (show (0:Int)<=(i:Int) by omega),decide_eq_true (show (i:Int) < (rates.length:Int) by omega),up1 (by omega)]
     simp only [cond_true,Int.toNat_natCast]
     rw [decide_eq_true (show (j:Int) < ((rates.getD i []).length:Int) by omega),hv]
     cases decide (1000000000000<=qj (pth flows i j) prices*qu (rates.getD i []))<;>rfl
    ·show q8 (n+1) _ _ _ _ _ _ _ _ _ _ _ _ _=_
     rw [Sy];unfold Jv ck;(repeat rewrite [obE]);rw [decide_eq_false (show ¬ ((flows.getD i []).length:Int) < ((flows.getD i []).length:Int) by omega)]
     rfl
   rw [qbx];unfold GM ck;(repeat rewrite [obE]);rw [decide_eq_true (show (i:Int) < (flows.length:Int) by omega),decide_eq_true (show (0:Int)<=(i:Int) by omega),up1 (by omega)]
   simp only [cond_true,Int.toNat_natCast]
   rw [h1]
   cases (List.range (flows.getD i []).length).all fun t=>decide (1000000000000<=qj (pth flows i t) prices*qu (rates.getD i []))<;>rfl
  ·show jM (n+1) _ _ _ _ _ _ _ _ _=_
   rw [qbx];unfold GM ck;(repeat rewrite [obE]);rw [decide_eq_false (show ¬ (flows.length:Int) < (flows.length:Int) by omega)]
   rfl
 unfold KM qc6;(repeat rewrite [obE])
 rw [h0]
 cases Gg flows rates prices<;>rfl
theorem v45_eq:v45 caps flows rates prices=some (gy caps flows rates prices):=by
 have hc:=h.few.hc
 have hf:=h.few.hf
 have hn:∀ n:Nat,Int.toNat (n:Int)=n:=fun n=>Int.toNat_natCast n
 unfold v45 tv45 gy;(repeat rewrite [obE])
 rw [hn,hn,v76_eq h]
 rw [decide_eq_true (show (caps.length:Int)<=(caps.length:Int) by omega),decide_eq_true (show (caps.length:Int)<=((2147483648:Nat):Int) by omega),decide_eq_true (show (flows.length:Int)<=(flows.length:Int) by omega),decide_eq_true (show (flows.length:Int)<=((2147483648:Nat):Int) by omega)]
 simp only [qh,qf,cond_true,qq]
 have h0:q7 FU rates (caps.length:Int) 0 caps flows (tab flows.length fun i=>qu (rates.getD i [])) false (tab caps.length (qn flows rates)) prices=some (cond (q9 caps flows rates) (.inr ()) (.inl false)):=by
  unfold q9
  refine qC (m:=caps.length) (by omega) (fun n j=>q7 n rates (caps.length:Int) j caps flows (tab flows.length fun i=>qu (rates.getD i [])) false (tab caps.length (qn flows rates)) prices) _ (fun n k hk=>?_) fun n=>?_
  ·show q7 (n+1) _ _ _ _ _ _ _ _ _=_
   have hcap:=h.cap k
   rw [Sq];unfold Jp ck;rw [decide_eq_true (show (k:Int) < (caps.length:Int) by omega),decide_eq_true (show (0:Int)<=(k:Int) by omega),up1 (by omega)]
   simp only [cond_true,Int.toNat_natCast,qq]
   rw [decide_eq_true (show (k:Int) < (caps.length:Int) by omega),decide_eq_true hk]
   have w1:wI (1000000*caps.getD k 0)=1000000*caps.getD k 0:=qi (by omega) (by omega)
   simp only [cond_true,qr (qn flows rates) hk,w1]
   by_cases c:qn flows rates k<=1000000*caps.getD k 0
   ·rw [decide_eq_true c,decide_eq_false (show ¬ qn flows rates k > 1000000*caps.getD k 0 by omega)];rfl
   ·rw [decide_eq_false c,decide_eq_true (show qn flows rates k > 1000000*caps.getD k 0 by omega)];rfl
  ·show q7 (n+1) _ _ _ _ _ _ _ _ _=_
   rw [Sq];unfold Jp ck;rw [decide_eq_false (show ¬ (caps.length:Int) < (caps.length:Int) by omega)]
   rfl
 rw [h0,qin h]
 cases q9 caps flows rates with
 | false=>rfl
 | true=>cases Gg flows rates prices<;>rfl
theorem JQ {j:Nat} (hj:j<=20):0<=ql j (fun k=>prices.getD k 0*caps.getD k 0)/\ql j (fun k=>prices.getD k 0*caps.getD k 0)<=20*(1000000000000*1000):=
 qB hj (fun k _=>by
  have hp:=h.price k
  have hc:=h.cap k
  exact ⟨Int.mul_nonneg hp.1 hc.1,Int.le_trans (Int.mul_le_mul_of_nonneg_right hp.2 hc.1) (Int.mul_le_mul_of_nonneg_left hc.2 (by omega))⟩) (by omega)
theorem v46_eq:v46 caps flows prices=some (qH caps prices):=by
 have hp:=h.few.hp
 have hpl:=h.pl
 have h0:gb FU 0 prices (prices.length:Int) 0 caps flows=some (qH caps prices):=by
  refine qp (m:=prices.length) (by omega) (fun n j (s:Int)=>gb n s prices (prices.length:Int) j caps flows) (fun j=>ql j fun k=>prices.getD k 0*caps.getD k 0) (qH caps prices) (fun n k hk=>?_) fun n=>?_
  ·show gb (n+1) _ _ _ _ _ _=gb n _ _ _ _ _ _
   have hb:=JQ h (j:=k+1) (by omega)
   have hb0:=JQ h (j:=k) (by omega)
   have hs:ql (k+1) (fun k=>prices.getD k 0*caps.getD k 0)=ql k (fun k=>prices.getD k 0*caps.getD k 0)+prices.getD k 0*caps.getD k 0:=rfl
   have hk1:=h.price k
   have hk2:=h.cap k
   have hm0:0<=prices.getD k 0*caps.getD k 0:=Int.mul_nonneg hk1.1 hk2.1
   rw [qbo];unfold Kl ck;rw [decide_eq_true (show (k:Int) < (prices.length:Int) by omega),decide_eq_true (show (0:Int)<=(k:Int) by omega),decide_eq_true (show (k:Int) < (caps.length:Int) by omega),up1 (by omega)]
   simp only [cond_true,Int.toNat_natCast]
   rw [qi (x:=prices.getD k 0*caps.getD k 0) (by omega) (by omega),<- hs,qi (by omega) (by omega)]
  ·show gb (n+1) _ _ _ _ _ _=_
   rw [qbo];unfold Kl ck;rw [decide_eq_false (show ¬ (prices.length:Int) < (prices.length:Int) by omega)]
   rfl
 unfold v46 tv46;(repeat rewrite [obE])
 rw [h0];rfl
end
def gn (caps:List Int) (flows:Fl) (rates:List (List Int)) (prices:List Int):Int×Int:=
 cond (qw caps flows&&(ja flows rates&&qN caps prices)) (cond (gy caps flows rates prices) (cond (decide (max 0 (qH caps prices - 1000000*(flows.length:Int))<=1000000000000)) (max 0 (qH caps prices - 1000000*(flows.length:Int)),0) (0,3)) (0,17)) (0,1)
theorem qha {caps:List Int} {flows:Fl} {rates:List (List Int)} {prices:List Int} (hf:Few caps flows rates prices):v26 caps flows rates prices=some (gn caps flows rates prices):=by
 unfold v26 tv26 gn;(repeat rewrite [obE])
 rw [qeG hf,v44_eq hf]
 simp only [qh,qf,cond_true,qE]
 cases h1:qw caps flows with
 | false=>rfl
 | true=>
  cases h2:ja flows rates with
  | false=>rfl
  | true=>
   cases h3:qN caps prices with
   | false=>rfl
   | true=>
    have h:=ok_of hf h1 h2 h3
    have hc:=JQ h (j:=prices.length) hf.hp
    have hfl:=hf.hf
    have hc':0<=qH caps prices/\qH caps prices<=20*(1000000000000*1000):=hc
    rw [v45_eq h,v46_eq h]
    simp only [qh,qf,cond_true,Bool.and_self]
    have w1:wI (1000000*(flows.length:Int))=1000000*(flows.length:Int):=qi (by omega) (by omega)
    have w2:wI (qH caps prices - 1000000*(flows.length:Int))=qH caps prices - 1000000*(flows.length:Int):=qi (by omega) (by omega)
    simp only [w1,w2]
    cases gy caps flows rates prices with
    | false=>rfl
    | true=>
     simp only [cond_true]
     generalize max 0 (qH caps prices - 1000000*(flows.length:Int))=g
     by_cases c:g<=1000000000000
     ·rw [decide_eq_true c,decide_eq_false (show ¬ g > 1000000000000 by omega)];rfl
     ·rw [decide_eq_false c,decide_eq_true (show g > 1000000000000 by omega)];rfl
theorem gG {n p:Nat} {f:Nat->Int} (hp:p < n) (h:∀ i,i < n->i≠p->f i=0):ql n f=f p:=by
 induction n with
 | zero=>omega
 | succ n ih=>
  simp only [ql]
  by_cases e:n=p
  ·subst e
   rw [Gh (g:=fun _=>0) fun i hi=>h i (by omega) (by omega),Kw];omega
  ·rw [ih (by omega) fun i hi hne=>h i (by omega) hne,h n (by omega) e];omega
theorem Gk (x:Int):wU x=x % 18446744073709551616:=by
 simp [wI,wU,IntKind.wrap,IntKind.bits,IntKind.signed]
theorem qz {x:Int} (h1:0<=x) (h2:x < 18446744073709551616):wU x=x:=by rw [Gk];omega
theorem qfy:IntKind.bits IntKind.u64=64:=rfl
theorem Sz (x:Int):Int.fdiv x ((2:Int) ^ min (Int.toNat (32:Int)) (IntKind.bits IntKind.u64))=x / 4294967296:=by
 show Int.fdiv x 4294967296=_
 rw [Int.fdiv_eq_ediv_of_nonneg _ (by omega)]
theorem sh16 (x:Int):Int.fdiv x ((2:Int) ^ min (Int.toNat (16:Int)) (IntKind.bits IntKind.u64))=x / 65536:=by
 show Int.fdiv x 65536=_
 rw [Int.fdiv_eq_ediv_of_nonneg _ (by omega)]
theorem sh8 (x:Int):Int.fdiv x ((2:Int) ^ min (Int.toNat (8:Int)) (IntKind.bits IntKind.u64))=x / 256:=by
 show Int.fdiv x 256=_
 rw [Int.fdiv_eq_ediv_of_nonneg _ (by omega)]
theorem Kv {x:Int} (h1:0<=x) (h2:x < 18446744073709551616):(BitVec.ofInt 64 x).toNat=x.toNat:=by
 rw [BitVec.toNat_ofInt]
 show (x % 18446744073709551616).toNat=_
 rw [Int.emod_eq_of_lt h1 h2]
theorem qcM {x:Int} (h1:0<=x) (h2:x < 18446744073709551616):wU (↑(BitVec.toNat (BitVec.ofInt (IntKind.bits IntKind.u64) x &&& BitVec.ofInt (IntKind.bits IntKind.u64) (4294967295:Int))):Int)=x % 4294967296:=by
 have e:BitVec.toNat (BitVec.ofInt (IntKind.bits IntKind.u64) x &&& BitVec.ofInt (IntKind.bits IntKind.u64) (4294967295:Int))=x.toNat % 4294967296:=by
  show BitVec.toNat (BitVec.ofInt 64 x &&& BitVec.ofInt 64 (4294967295:Int))=_
  rw [BitVec.toNat_and,Kv h1 h2,Kv (by omega) (by omega)]
  exact Nat.and_two_pow_sub_one_eq_mod x.toNat 32
 rw [e,Gk]
 omega
theorem or_add {a b:Int} {s:Nat} (ha:0<=a) (hb:0<=b) (h1:a < 18446744073709551616) (h2:a % 2 ^ s=0) (h3:b < 2 ^ s) (hs:s<=64) :
  wU (↑(BitVec.toNat (BitVec.ofInt (IntKind.bits IntKind.u64) a ||| BitVec.ofInt (IntKind.bits IntKind.u64) b)):Int)=a+b:=by
 have hp:(2:Int) ^ s<=18446744073709551616:=by
  have:=Nat.pow_le_pow_right (show 0 < 2 by omega) hs
  have h:(2:Nat) ^ 64=18446744073709551616:=rfl
  have c:((2 ^ s:Nat):Int)=(2:Int) ^ s:=by simp
  omega
 have c:((2 ^ s:Nat):Int)=(2:Int) ^ s:=by simp
 have hb2:b < 18446744073709551616:=by omega
 obtain ⟨q,hq⟩:=Int.dvd_of_emod_eq_zero h2
 have hpp:0 < (2:Int) ^ s:=by have:=Nat.two_pow_pos s;omega
 have hq0:0<=q:=by
  rcases Int.lt_or_le q 0 with h | h
  ·have:=Int.mul_lt_mul_of_pos_left h hpp
   omega
  ·exact h
 have e:BitVec.toNat (BitVec.ofInt (IntKind.bits IntKind.u64) a ||| BitVec.ofInt (IntKind.bits IntKind.u64) b)=a.toNat+b.toNat:=by
  show BitVec.toNat (BitVec.ofInt 64 a ||| BitVec.ofInt 64 b)=_
  rw [BitVec.toNat_or,Kv ha h1,Kv hb hb2]
  have e1:a.toNat=2 ^ s*q.toNat:=by
   have:(a.toNat:Int)=((2 ^ s*q.toNat:Nat):Int):=by
    rw [Int.toNat_of_nonneg ha,Int.natCast_mul,Int.toNat_of_nonneg hq0,c,hq]
   exact Int.ofNat_inj.1 this
  rw [e1]
  exact (Nat.two_pow_add_eq_or_of_lt (show b.toNat < 2 ^ s by omega) q.toNat).symm
 have hs2:a+b < 18446744073709551616:=by
  have hd:(2:Int) ^ s ∣ 18446744073709551616:=by
   have:(2:Nat) ^ s ∣ 2 ^ 64:=Nat.pow_dvd_pow 2 hs
   obtain ⟨t,ht⟩:=this
   refine ⟨(t:Int),?_⟩
   have h:(2:Nat) ^ 64=18446744073709551616:=rfl
   rw [<- c,<- Int.natCast_mul,<- ht];rfl
  obtain ⟨t,ht⟩:=hd
  have hqt:q < t:=by
   rcases Int.lt_or_le q t with h | h
   ·exact h
   ·have:=Int.mul_le_mul_of_nonneg_left h (show 0<=(2:Int) ^ s by omega)
    omega
  have:=Int.mul_le_mul_of_nonneg_left (show q+1<=t by omega) (show 0<=(2:Int) ^ s by omega)
  rw [Int.mul_add] at this
  omega
 rw [e,Gk]
 omega
theorem qff {x y:Int} (hx:0<=x) (hx2:x < 18446744073709551616) (hy:0<=y) (hy2:y < 18446744073709551616) :
  ∃ a b c d:Int,a=(x / 4294967296)*(y / 4294967296)/\b=(x / 4294967296)*(y % 4294967296)/\c=(x % 4294967296)*(y / 4294967296)/\d=(x % 4294967296)*(y % 4294967296)/\
   x*y=a*18446744073709551616+(b+c)*4294967296+d/\(0<=a/\a<=18446744065119617025)/\(0<=b/\b<=18446744065119617025)/\(0<=c/\c<=18446744065119617025)/\(0<=d/\d<=18446744065119617025):=by
 have bd:∀ u v:Int,0<=u->u<=4294967295->0<=v->v<=4294967295->0<=u*v/\u*v<=18446744065119617025:=by
  intro u v h1 h2 h3 h4
  refine ⟨Int.mul_nonneg h1 h3,?_⟩
  have:=Int.mul_le_mul h2 h4 h3 (show (0:Int)<=4294967295 by omega)
  omega
 refine ⟨_,_,_,_,rfl,rfl,rfl,rfl,?_,bd _ _ (by omega) (by omega) (by omega) (by omega),bd _ _ (by omega) (by omega) (by omega) (by omega),bd _ _ (by omega) (by omega) (by omega) (by omega),bd _ _ (by omega) (by omega) (by omega) (by omega)⟩
 have ex:x=4294967296*(x / 4294967296)+x % 4294967296:=by omega
 have ey:y=4294967296*(y / 4294967296)+y % 4294967296:=by omega
 generalize x / 4294967296=p at*
 generalize x % 4294967296=q at*
 generalize y / 4294967296=r at*
 generalize y % 4294967296=s at*
 subst ex;subst ey
 rw [Int.add_mul,Int.mul_add,Int.mul_add]
 have e1:4294967296*p*(4294967296*r)=18446744073709551616*(p*r):=by
  rw [Int.mul_assoc,<- Int.mul_assoc p,Int.mul_comm p,Int.mul_assoc,<- Int.mul_assoc]
  rfl
 have e2:4294967296*p*s=4294967296*(p*s):=Int.mul_assoc _ _ _
 have e3:q*(4294967296*r)=4294967296*(q*r):=by rw [<- Int.mul_assoc,Int.mul_comm q,Int.mul_assoc]
 rw [e1,e2,e3]
 omega
theorem guess {u d y p z:Int} (hy:y=p*4294967296+z) (hz:0<=z) (hz2:z < 4294967296) (hp:0 < p) (hu:0<=u) (hd:0<=d) (hd2:d < 4294967296) :
  (u*4294967296+d) / y<=u / p:=by
 have hyp:0 < y:=by omega
 obtain ⟨Q,hQ⟩:∃ Q,Q=(u*4294967296+d) / y:=⟨_,rfl⟩
 rw [<- hQ]
 have h1:Q*y<=u*4294967296+d:=by rw [hQ];exact Int.ediv_mul_le _ (by omega)
 have hQ0:0<=Q:=by rw [hQ];exact Int.ediv_nonneg (by omega) (by omega)
 have h2:Q*y=Q*p*4294967296+Q*z:=by rw [hy,Int.mul_add,<- Int.mul_assoc]
 have h3:0<=Q*z:=Int.mul_nonneg hQ0 hz
 have h4:Q*p<=u:=by omega
 exact (Int.le_ediv_iff_mul_le hp).2 h4
theorem KL {u d y p z q r:Int} (hy:y=p*4294967296+z) (hyp:0 < y) (hr:q*p+r=u):(u*4294967296+d) / y < q↔q*z > 4294967296*r+d:=by
 rw [Int.ediv_lt_iff_lt_mul hyp]
 have h2:q*y=q*p*4294967296+q*z:=by rw [hy,Int.mul_add,<- Int.mul_assoc]
 rw [h2]
 constructor<;>intro h<;>omega
theorem v73_eq {x y:Int} (hx:0<=x) (hx2:x < 18446744073709551616) (hy:0<=y) (hy2:y < 18446744073709551616) :
  v73 x y=some (x*y / 18446744073709551616,x*y % 18446744073709551616):=by
 obtain ⟨a,b,c,d,ea,eb,ec,ed,exy,ha,hb,hc,hd⟩:=qff hx hx2 hy hy2
 unfold v73 tv73
 rw [qcM hx hx2,qcM hy hy2,Sz x,Sz y,<- ea,<- eb,<- ec,<- ed]
 have w1:wU d=d:=qz (by omega) (by omega)
 have w2:wU b=b:=qz (by omega) (by omega)
 have w3:wU c=c:=qz (by omega) (by omega)
 have w4:wU a=a:=qz (by omega) (by omega)
 rw [w1,w2,Sz d,qz (x:=b+d / 4294967296) (by omega) (by omega),qcM (x:=b+d / 4294967296) (by omega) (by omega),Sz (b+d / 4294967296),w3,w4,qz (x:=(b+d / 4294967296) % 4294967296+c) (by omega) (by omega),Sz,qz (x:=a+(b+d / 4294967296) / 4294967296) (by omega) (by omega),qz (x:=a+(b+d / 4294967296) / 4294967296+((b+d / 4294967296) % 4294967296+c) / 4294967296) (by omega) (by omega),Gk,exy]
 have e:a+(b+d / 4294967296) / 4294967296+((b+d / 4294967296) % 4294967296+c) / 4294967296=(a*18446744073709551616+(b+c)*4294967296+d) / 18446744073709551616:=by omega
 rw [e]
theorem tab8:∃ A:ByteArray,(∀ x0 x1:Int,gv x0 x1=cond (decide ((0:Int)<=IntKind.wrap IntKind.u8 x0)) (cond (decide (Int.toNat (IntKind.wrap IntKind.u8 x0) < ByteArray.size A)) (some (wI (x1+wI (↑(UInt8.toNat (Array.getD (ByteArray.data A) (Int.toNat (IntKind.wrap IntKind.u8 x0)) (0:UInt8))):Int)))) none) none)/\
  A.size=256/\∀ i:Fin 256,UInt8.toNat (A.data.getD i.val 0)<=8/\i.val < 2 ^ UInt8.toNat (A.data.getD i.val 0)/\(UInt8.toNat (A.data.getD i.val 0)=0\/2 ^ (UInt8.toNat (A.data.getD i.val 0) - 1)<=i.val):=by
 apply Exists.intro
 apply And.intro
 ·intro x0 x1;unfold gv KJ;rfl
 apply And.intro
 ·decide +kernel
 ·decide +kernel
theorem len8 {x n:Int} (h1:0<=x) (h2:x < 256) (hn:0<=n) (hn2:n<=100):∃ k:Nat,k<=8/\x < (2:Int) ^ k/\(k=0\/(2:Int) ^ (k - 1)<=x)/\gv x n=some (n+k):=by
 obtain ⟨A,e,hA,h⟩:=tab8
 have w:IntKind.wrap IntKind.u8 x=x:=by
  simp [wI,wU,IntKind.wrap,IntKind.bits,IntKind.signed]
  omega
 obtain ⟨g1,g2,g3⟩:=h ⟨x.toNat,by omega⟩
 rw [e,w,hA]
 simp only at g1 g2 g3
 generalize UInt8.toNat (A.data.getD x.toNat 0)=k at*
 have c:∀ k:Nat,((2 ^ k:Nat):Int)=(2:Int) ^ k:=fun k=>by simp
 refine ⟨k,g1,?_,?_,?_⟩
 ·rw [<- c];omega
 ·rcases g3 with g | g
  ·exact .inl g
  ·refine .inr ?_
   rw [<- c];omega
 ·rw [decide_eq_true h1,decide_eq_true (show x.toNat < 256 by omega),qi (x:=(k:Int)) (by omega) (by omega),qi (by omega) (by omega)];rfl
theorem DZ (k j:Nat):(2:Int) ^ (k+j)=2 ^ k*2 ^ j:=Int.pow_add 2 k j
theorem longer {x y:Int} {k j:Nat} {c:Int} (hc:(2:Int) ^ j=c) (hc0:0 < c) (hx:0<=x) (hy:y=x / c) (hy1:1<=y) (h1:y < (2:Int) ^ k) (h2:k=0\/(2:Int) ^ (k - 1)<=y):x < (2:Int) ^ (k+j)/\(2:Int) ^ (k+j - 1)<=x:=by
 have hk:k≠0:=by intro h;rw [h] at h1;simp at h1;omega
 obtain ⟨i,rfl⟩:∃ i,k=i+1:=⟨k - 1,by omega⟩
 have h3:(2:Int) ^ i<=y:=by
  rcases h2 with h | h
  ·omega
  ·simpa using h
 rw [DZ (i+1) j,hc,show i+1+j - 1=i+j by omega,DZ i j,hc]
 subst hy
 constructor
 ·have:x / c < 2 ^ (i+1):=h1
  exact (Int.ediv_lt_iff_lt_mul hc0).1 this
 ·exact (Int.le_ediv_iff_mul_le hc0).1 h3
theorem len16 {x n:Int} (h1:0<=x) (h2:x < 65536) (hn:0<=n) (hn2:n<=80):∃ k:Nat,k<=16/\x < (2:Int) ^ k/\(k=0\/(2:Int) ^ (k - 1)<=x)/\gL x n=some (n+k):=by
 unfold gL KI;(repeat rewrite [obE])
 by_cases c:x≥256
 ·rw [decide_eq_true c,sh8,qi (x:=n+8) (by omega) (by omega)]
  obtain ⟨k,g1,g2,g3,e⟩:=len8 (x:=x / 256) (n:=n+8) (by omega) (by omega) (by omega) (by omega)
  obtain ⟨g4,g5⟩:=longer (c:=256) (j:=8) (by decide) (by omega) h1 rfl (by omega) g2 g3
  refine ⟨k+8,by omega,g4,.inr g5,?_⟩
  rw [e]
  simp only [qh,qf,cond_true]
  congr 1;omega
 ·rw [decide_eq_false c]
  obtain ⟨k,g1,g2,g3,e⟩:=len8 (x:=x) (n:=n) (by omega) (by omega) (by omega) (by omega)
  refine ⟨k,by omega,g2,g3,?_⟩
  rw [e];rfl
theorem len32 {x n:Int} (h1:0<=x) (h2:x < 4294967296) (hn:0<=n) (hn2:n<=60):∃ k:Nat,k<=32/\x < (2:Int) ^ k/\(k=0\/(2:Int) ^ (k - 1)<=x)/\gK x n=some (n+k):=by
 unfold gK KH;(repeat rewrite [obE])
 by_cases c:x≥65536
 ·rw [decide_eq_true c,sh16,qi (x:=n+16) (by omega) (by omega)]
  obtain ⟨k,g1,g2,g3,e⟩:=len16 (x:=x / 65536) (n:=n+16) (by omega) (by omega) (by omega) (by omega)
  obtain ⟨g4,g5⟩:=longer (c:=65536) (j:=16) (by decide) (by omega) h1 rfl (by omega) g2 g3
  refine ⟨k+16,by omega,g4,.inr g5,?_⟩
  rw [e]
  simp only [qh,qf,cond_true]
  congr 1;omega
 ·rw [decide_eq_false c]
  obtain ⟨k,g1,g2,g3,e⟩:=len16 (x:=x) (n:=n) (by omega) (by omega) (by omega) (by omega)
  refine ⟨k,by omega,g2,g3,?_⟩
  rw [e];rfl
theorem v84_eq {x:Int} (h1:0<=x) (h2:x < 18446744073709551616):∃ k:Nat,k<=64/\x < (2:Int) ^ k/\(k=0\/(2:Int) ^ (k - 1)<=x)/\v84 x=some (k:Int):=by
 unfold v84 tv84;(repeat rewrite [obE])
 by_cases c:x≥4294967296
 ·rw [decide_eq_true c,Sz]
  obtain ⟨k,g1,g2,g3,e⟩:=len32 (x:=x / 4294967296) (n:=32) (by omega) (by omega) (by omega) (by omega)
  obtain ⟨g4,g5⟩:=longer (c:=4294967296) (j:=32) (by decide) (by omega) h1 rfl (by omega) g2 g3
  refine ⟨k+32,by omega,g4,.inr g5,?_⟩
  rw [e]
  simp only [qh,qf,cond_true]
  congr 1;omega
 ·rw [decide_eq_false c]
  obtain ⟨k,g1,g2,g3,e⟩:=len32 (x:=x) (n:=0) (by omega) (by omega) (by omega) (by omega)
  refine ⟨k,by omega,g2,g3,?_⟩
  rw [e]
  simp only [qh,qf,cond_true,cond_false]
  congr 1;omega
theorem v80_eq {x:Int} (h1:0 < x) (h2:x < 18446744073709551616):∃ s:Nat,s<=63/\9223372036854775808<=x*2 ^ s/\x*2 ^ s < 18446744073709551616/\v80 x=some (s:Int):=by
 obtain ⟨k,g1,g2,g3,e⟩:=v84_eq (by omega) h2
 have hk:k≠0:=by intro h;rw [h] at g2;simp at g2;omega
 obtain ⟨i,rfl⟩:∃ i,k=i+1:=⟨k - 1,by omega⟩
 have h3:(2:Int) ^ i<=x:=by
  rcases g3 with h | h
  ·omega
  ·simpa using h
 have hp:0 < (2:Int) ^ (63 - i):=Int.pow_pos (by omega)
 refine ⟨63 - i,by omega,?_,?_,?_⟩
 ·have:=Int.mul_le_mul_of_nonneg_right h3 (Int.le_of_lt hp)
  rw [<- DZ,show i+(63 - i)=63 by omega] at this
  exact this
 ·have:=Int.mul_lt_mul_of_pos_right g2 hp
  rw [<- DZ,show i+1+(63 - i)=64 by omega] at this
  exact this
 ·unfold v80 tv80;(repeat rewrite [obE])
  rw [e,qf,qi (by omega) (by omega)]
  simp only [qh,cond_true]
  congr 1;omega
theorem l74_0 {u d y p z:Int} (hy:y=p*4294967296+z) (hz:0<=z) (hz2:z < 4294967296) (hp:2147483648<=p) (hp2:p < 4294967296) (hu:0<=u) (hu2:u < y) (hd:0<=d) (hd2:d < 4294967296)
  (x0 x1 x4 x6:Int):∀ (k n:Nat) (q r:Int),q*p+r=u->0<=r->r < 4294967296->(u*4294967296+d) / y<=q->q<=4294967297->4294967296<=r+k*2147483648->k < n->
   Gp n x0 x1 p z x4 d x6 q r=some ((u*4294967296+d) / y):=by
 have hyp:0 < y:=by omega
 have hQ:(u*4294967296+d) / y < 4294967296:=(Int.ediv_lt_iff_lt_mul hyp).2 (by omega)
 have hQ0:0<=(u*4294967296+d) / y:=Int.ediv_nonneg (by omega) (by omega)
 intro k
 induction k with
 | zero=>intro n q r h1 h2 h3 h4 h5 h6 h7;omega
 | succ k ih=>
  intro n q r h1 h2 h3 h4 h5 h6 h7
  obtain ⟨m,rfl⟩:∃ m,n=m+1:=⟨n - 1,by omega⟩
  have hg:=KL (u:=u) (d:=d) hy hyp h1
  have w1:wU (r+p)=r+p:=qz (by omega) (by omega)
  have hdn:q*p+r=u->(q - 1)*p+(r+p)=u:=fun h=>by rw [Int.sub_mul];omega
  rw [qec];unfold Kq;rw [w1]
  have down:(u*4294967296+d) / y < q->cond (decide (r+p≥4294967296)) (some (wU (q - 1))) (Gp m x0 x1 p z x4 d x6 (wU (q - 1)) (r+p))=some ((u*4294967296+d) / y):=by
   intro hl
   rw [qz (x:=q - 1) (by omega) (by omega)]
   by_cases c:r+p≥4294967296
   ·rw [decide_eq_true c]
    have hg2:=KL (u:=u) (d:=d) hy hyp (hdn h1)
    have hb:(q - 1)*z<=4294967296*4294967295:=by
     rcases Int.lt_or_le (q - 1) 0 with h | h
     ·omega
     ·exact Int.mul_le_mul (by omega) (by omega) hz (by omega)
    have:¬ (u*4294967296+d) / y < q - 1:=fun h=>by
     have:=hg2.1 h
     omega
    show some (q - 1)=_
    congr 1;omega
   ·rw [decide_eq_false c]
    exact ih m (q - 1) (r+p) (hdn h1) (by omega) (by omega) (by omega) (by omega) (by omega) (by omega)
  by_cases c1:q≥4294967296
  ·rw [decide_eq_true c1]
   exact down (by omega)
  rw [decide_eq_false c1,cond_false]
  have hqz:0<=q*z/\q*z<=4294967295*4294967295:=⟨Int.mul_nonneg (by omega) hz,Int.mul_le_mul (by omega) (by omega) hz (by omega)⟩
  rw [qz (x:=q*z) (by omega) (by omega),qz (x:=4294967296*r) (by omega) (by omega),qz (x:=4294967296*r+d) (by omega) (by omega)]
  by_cases c2:q*z > 4294967296*r+d
  ·rw [decide_eq_true c2]
   exact down (hg.2 c2)
  ·rw [decide_eq_false c2]
   have:¬ (u*4294967296+d) / y < q:=fun h=>c2 (hg.1 h)
   show some q=_
   congr 1;omega
theorem l74_16 {u d y p z:Int} (hy:y=p*4294967296+z) (hz:0<=z) (hz2:z < 4294967296) (hp:2147483648<=p) (hp2:p < 4294967296) (hu:0<=u) (hu2:u < y) (hd:0<=d) (hd2:d < 4294967296)
  (x0 x1 x4 x6:Int):∀ (k n:Nat) (q r:Int),q*p+r=u->0<=r->r < 4294967296->(u*4294967296+d) / y<=q->q<=4294967297->4294967296<=r+k*2147483648->k < n->
   gJ n x0 x1 p z d x4 r x6 q=some ((u*4294967296+d) / y):=by
 have hyp:0 < y:=by omega
 have hQ:(u*4294967296+d) / y < 4294967296:=(Int.ediv_lt_iff_lt_mul hyp).2 (by omega)
 have hQ0:0<=(u*4294967296+d) / y:=Int.ediv_nonneg (by omega) (by omega)
 intro k
 induction k with
 | zero=>intro n q r h1 h2 h3 h4 h5 h6 h7;omega
 | succ k ih=>
  intro n q r h1 h2 h3 h4 h5 h6 h7
  obtain ⟨m,rfl⟩:∃ m,n=m+1:=⟨n - 1,by omega⟩
  have hg:=KL (u:=u) (d:=d) hy hyp h1
  have w1:wU (r+p)=r+p:=qz (by omega) (by omega)
  have hdn:q*p+r=u->(q - 1)*p+(r+p)=u:=fun h=>by rw [Int.sub_mul];omega
  rw [qdF];unfold Jr;rw [w1]
  have down:(u*4294967296+d) / y < q->cond (decide (r+p≥4294967296)) (some (wU (q - 1))) (gJ m x0 x1 p z d x4 (r+p) x6 (wU (q - 1)))=some ((u*4294967296+d) / y):=by
   intro hl
   rw [qz (x:=q - 1) (by omega) (by omega)]
   by_cases c:r+p≥4294967296
   ·rw [decide_eq_true c]
    have hg2:=KL (u:=u) (d:=d) hy hyp (hdn h1)
    have hb:(q - 1)*z<=4294967296*4294967295:=by
     rcases Int.lt_or_le (q - 1) 0 with h | h
     ·omega
     ·exact Int.mul_le_mul (by omega) (by omega) hz (by omega)
    have:¬ (u*4294967296+d) / y < q - 1:=fun h=>by
     have:=hg2.1 h
     omega
    show some (q - 1)=_
    congr 1;omega
   ·rw [decide_eq_false c]
    exact ih m (q - 1) (r+p) (hdn h1) (by omega) (by omega) (by omega) (by omega) (by omega) (by omega)
  by_cases c1:q≥4294967296
  ·rw [decide_eq_true c1]
   exact down (by omega)
  rw [decide_eq_false c1,cond_false]
  have hqz:0<=q*z/\q*z<=4294967295*4294967295:=⟨Int.mul_nonneg (by omega) hz,Int.mul_le_mul (by omega) (by omega) hz (by omega)⟩
  rw [qz (x:=q*z) (by omega) (by omega),qz (x:=4294967296*r) (by omega) (by omega),qz (x:=4294967296*r+d) (by omega) (by omega)]
  by_cases c2:q*z > 4294967296*r+d
  ·rw [decide_eq_true c2]
   exact down (hg.2 c2)
  ·rw [decide_eq_false c2]
   have:¬ (u*4294967296+d) / y < q:=fun h=>c2 (hg.1 h)
   show some q=_
   congr 1;omega
theorem HU {u y p z:Int} (hy:y=p*4294967296+z) (hz:0<=z) (hz2:z < 4294967296) (hp:2147483648<=p) (hp2:p < 4294967296) (hu:0<=u) (hu2:u < y) (hu3:u < 18446744073709551616) :
  (p≠0)/\wU (Int.tdiv u p)=u / p/\(0<=u / p/\u / p<=4294967297)/\wU (u - wU (u / p*p))=u % p/\u / p*p+u % p=u/\(0<=u % p/\u % p < p):=by
 have e:u / p*p+u % p=u:=by rw [Int.mul_comm];exact Int.mul_ediv_add_emod u p
 have h1:0<=u / p:=Int.ediv_nonneg hu (by omega)
 have h2:u / p<=4294967297:=by
  have:u / p < 4294967298:=(Int.ediv_lt_iff_lt_mul (by omega)).2 (by omega)
  omega
 have h3:0<=u % p:=Int.emod_nonneg _ (by omega)
 have h4:u % p < p:=Int.emod_lt_of_pos _ (by omega)
 have h5:0<=u / p*p:=Int.mul_nonneg h1 (by omega)
 refine ⟨by omega,?_,⟨h1,h2⟩,?_,e,h3,h4⟩
 ·rw [Int.tdiv_eq_ediv_of_nonneg hu,qz (by omega) (by omega)]
 ·rw [qz (x:=u / p*p) (by omega) (by omega),qz (by omega) (by omega)]
  omega
theorem qhg {y p z u d1 d0:Int} {s:Nat} (hs:s<=63) (hy:y=p*4294967296+z) (hz:0<=z) (hz2:z < 4294967296) (hp:2147483648<=p) (hp2:p < 4294967296) (hu:0<=u) (hu2:u < y) (hd:0<=d1) (hd2:d1 < 4294967296) (hd0:0<=d0) (hd02:d0 < 4294967296) :
  ∃ r,gP y (s:Int) p z u d1 d0=some ((u*18446744073709551616+d1*4294967296+d0) / y,r):=by
 have hy2:y < 18446744073709551616:=by omega
 have hyp:0 < y:=by omega
 obtain ⟨g0,g1,g2,g3,g4,g5⟩:=HU hy hz hz2 hp hp2 hu hu2 (by omega)
 have hl:=l74_0 hy hz hz2 hp hp2 hu hu2 hd hd2 y s u d0 2 FU (u / p) (u % p) g4 g5.1 (by omega) (guess hy hz hz2 (by omega) hu hd hd2) g2.2 (by omega) (by unfold FU;omega)
 obtain ⟨Q,hQ⟩:∃ Q,Q=(u*4294967296+d1) / y:=⟨_,rfl⟩
 have hQ2:Q < 4294967296:=by rw [hQ];exact (Int.ediv_lt_iff_lt_mul hyp).2 (by omega)
 have hQ0:0<=Q:=by rw [hQ];exact Int.ediv_nonneg (by omega) (by omega)
 have hm:Q*y+(u*4294967296+d1) % y=u*4294967296+d1:=by rw [hQ,Int.mul_comm];exact Int.mul_ediv_add_emod _ y
 have hm0:0<=(u*4294967296+d1) % y:=Int.emod_nonneg _ (by omega)
 have hm1:(u*4294967296+d1) % y < y:=Int.emod_lt_of_pos _ hyp
 obtain ⟨v,hv⟩:∃ v,v=(u*4294967296+d1) % y:=⟨_,rfl⟩
 rw [<- hv] at hm hm0 hm1
 rw [<- hQ] at hl
 obtain ⟨k0,k1,k2,k3,k4,k5⟩:=HU hy hz hz2 hp hp2 hm0 hm1 (by omega)
 have hl2:=l74_16 hy hz hz2 hp hp2 hm0 hm1 hd0 hd02 y s Q v 2 FU (v / p) (v % p) k4 k5.1 (by omega) (guess hy hz hz2 (by omega) hm0 hd0 hd02) k2.2 (by omega) (by unfold FU;omega)
 obtain ⟨R,hR⟩:∃ R,R=(v*4294967296+d0) / y:=⟨_,rfl⟩
 have hR2:R < 4294967296:=by rw [hR];exact (Int.ediv_lt_iff_lt_mul hyp).2 (by omega)
 have hR0:0<=R:=by rw [hR];exact Int.ediv_nonneg (by omega) (by omega)
 rw [<- hR] at hl2
 have hfin:(u*18446744073709551616+d1*4294967296+d0) / y=Q*4294967296+R:=by
  have:u*18446744073709551616+d1*4294967296+d0=(v*4294967296+d0)+(Q*4294967296)*y:=by
   have e:Q*4294967296*y=Q*y*4294967296:=by rw [Int.mul_assoc,Int.mul_comm 4294967296,<- Int.mul_assoc]
   rw [e];omega
  rw [this,Int.add_mul_ediv_right _ _ (by omega),hR]
  omega
 rw [hfin]
 unfold gP JC;(repeat rewrite [obE])
 rw [decide_eq_true g0,g1]
 unfold GZ JD;(repeat rewrite [obE])
 rw [g3,hl]
 unfold G0 JF;(repeat rewrite [obE])
 have w:wU (wU (wU (u*4294967296)+d1) - wU (Q*y))=v:=by
  rw [Gk,Gk,Gk,Gk]
  omega
 simp only [qh,qf,cond_true,w]
 unfold G1 JG;(repeat rewrite [obE])
 rw [decide_eq_true k0,k1]
 unfold G2 JH;(repeat rewrite [obE])
 rw [k3,hl2]
 unfold G3 JI
 rw [decide_eq_true (show (0:Int)<=(s:Int) by omega),qz (x:=Q*4294967296) (by omega) (by omega)]
 simp only [qh,qf,cond_true]
 rw [qz (x:=Q*4294967296+R) (by omega) (by omega)]
 exact ⟨_,rfl⟩
theorem minw {s:Nat} (hs:s<=64):min (Int.toNat (wU (s:Int))) (IntKind.bits IntKind.u64)=s:=by
 rw [qz (by omega) (by omega),qfy,Int.toNat_natCast]
 omega
theorem mins {s:Nat} (hs:s<=64):min (Int.toNat (s:Int)) (IntKind.bits IntKind.u64)=s:=by
 rw [qfy,Int.toNat_natCast]
 omega
theorem v74_eq {hi lo y:Int} (h1:0<=hi) (h2:hi < y) (h3:y < 18446744073709551616) (h4:0<=lo) (h5:lo < 18446744073709551616) :
  ∃ r,v74 hi lo y=some ((hi*18446744073709551616+lo) / y,r):=by
 unfold v74 tv74;(repeat rewrite [obE])
 rw [show (y==(0:Int))=false from by rw [qv];exact decide_eq_false (by omega),decide_eq_false (show ¬ y<=hi by omega)]
 by_cases c:hi=0
 ·subst c
  refine ⟨Int.tmod lo y,?_⟩
  have hq:0<=lo / y:=Int.ediv_nonneg h4 (by omega)
  have hq2:lo / y<=lo:=Int.ediv_le_self _ h4
  rw [decide_eq_true (show y≠0 by omega),Int.tdiv_eq_ediv_of_nonneg h4,qz hq (by omega)]
  simp
 rw [show (hi==(0:Int))=false from by rw [qv];exact decide_eq_false c]
 obtain ⟨s,hs,g1,g2,e⟩:=v80_eq (x:=y) (by omega) h3
 have w0:wU (s:Int)=s:=qz (by omega) (by omega)
 have hP:0 < (2:Int) ^ s:=Int.pow_pos (by omega)
 rw [e,qf,minw (by omega),w0,qz (x:=y*2 ^ s) (by omega) g2,decide_eq_true (show (0:Int)<=(s:Int) by omega)]
 simp only [cond_true,cond_false,qh]
 have hh:hi*2 ^ s < y*2 ^ s:=Int.mul_lt_mul_of_pos_right h2 hP
 have hh0:0<=hi*2 ^ s:=Int.mul_nonneg h1 (by omega)
 have hT:0 < (2:Int) ^ (64 - s):=Int.pow_pos (by omega)
 have hPT:(2:Int) ^ s*2 ^ (64 - s)=18446744073709551616:=by rw [<- DZ,show s+(64 - s)=64 by omega];rfl
 have hlo:lo / 2 ^ (64 - s) < 2 ^ s:=(Int.ediv_lt_iff_lt_mul hT).2 (by omega)
 have hlo0:0<=lo / 2 ^ (64 - s):=Int.ediv_nonneg h4 (by omega)
 have hlm:lo / 2 ^ (64 - s)*2 ^ (64 - s)+lo % 2 ^ (64 - s)=lo:=by rw [Int.mul_comm];exact Int.mul_ediv_add_emod _ _
 have hr0:0<=lo % 2 ^ (64 - s):=Int.emod_nonneg _ (by omega)
 have hr1:lo % 2 ^ (64 - s) < 2 ^ (64 - s):=Int.emod_lt_of_pos _ hT
 have hls:lo*2 ^ s=lo / 2 ^ (64 - s)*18446744073709551616+lo % 2 ^ (64 - s)*2 ^ s:=by
  have:lo*2 ^ s=(lo / 2 ^ (64 - s)*2 ^ (64 - s)+lo % 2 ^ (64 - s))*2 ^ s:=by rw [hlm]
  rw [this,Int.add_mul,Int.mul_assoc,Int.mul_comm (2 ^ (64 - s)),hPT]
 have hrs0:0<=lo % 2 ^ (64 - s)*2 ^ s:=Int.mul_nonneg hr0 (by omega)
 have hrs1:lo % 2 ^ (64 - s)*2 ^ s < 18446744073709551616:=by
  have:=Int.mul_lt_mul_of_pos_right hr1 hP
  rw [Int.mul_comm (2 ^ (64 - s)),hPT] at this
  exact this
 have wl:wU (lo*2 ^ s)=lo % 2 ^ (64 - s)*2 ^ s:=by rw [Gk,hls];omega
 have wh:wU (hi*2 ^ s)=hi*2 ^ s:=qz hh0 (by omega)
 have wor:=or_add (a:=hi*2 ^ s) (b:=lo / 2 ^ (64 - s)) (s:=s) hh0 hlo0 (by omega) (Int.mul_emod_left _ _) hlo (by omega)
 have wc:wU (64 - (s:Int))=((64 - s:Nat):Int):=by rw [qz (by omega) (by omega)];omega
 have hu:hi*2 ^ s+lo / 2 ^ (64 - s) < y*2 ^ s:=by
  have:(hi+1)*2 ^ s<=y*2 ^ s:=Int.mul_le_mul_of_nonneg_right (by omega) (by omega)
  rw [Int.add_mul,Int.one_mul] at this
  omega
 have hN:(hi*18446744073709551616+lo)*2 ^ s=(hi*2 ^ s+lo / 2 ^ (64 - s))*18446744073709551616+lo % 2 ^ (64 - s)*2 ^ s:=by
  rw [Int.add_mul,hls,Int.add_mul,Int.mul_assoc,Int.mul_comm 18446744073709551616,<- Int.mul_assoc]
  omega
 have hdv:(hi*18446744073709551616+lo) / y=((hi*18446744073709551616+lo)*2 ^ s) / (y*2 ^ s):=(Int.mul_ediv_mul_of_pos_left _ _ hP).symm
 rw [hdv,hN]
 generalize y*2 ^ s=y' at*
 generalize hV:lo % 2 ^ (64 - s)*2 ^ s=w at*
 generalize hU:hi*2 ^ s+lo / 2 ^ (64 - s)=u at*
 obtain ⟨r,hr⟩:=qhg (y:=y') (p:=y' / 4294967296) (z:=y' % 4294967296) (u:=u) (d1:=w / 4294967296) (d0:=w % 4294967296) hs (by omega) (by omega) (by omega) (by omega) (by omega) (by omega) hu (by omega) (by omega) (by omega) (by omega)
 have eu:u*18446744073709551616+w / 4294967296*4294967296+w % 4294967296=u*18446744073709551616+w:=by omega
 rw [eu] at hr
 refine ⟨r,?_⟩
 unfold Gq KC;(repeat rewrite [obE])
 rw [wc,mins (s:=s) (by omega),mins (s:=64 - s) (by omega),Sz y',qcM (x:=y') (by omega) (by omega),wh,Int.fdiv_eq_ediv_of_nonneg _ (Int.le_of_lt hT),wor]
 unfold GY JB;(repeat rewrite [obE])
 rw [mins (s:=s) (by omega),wl,Sz w,qcM (x:=w) (by omega) (by omega)]
 rw [decide_eq_true (show (0:Int)<=(s:Int) by omega),decide_eq_true (show (0:Int)<=((64 - s:Nat):Int) by omega),hr]
 rfl
theorem qeN {a b c:Int} (ha:0<=a) (ha2:a<=9223372036854775807) (hb:0<=b) (hb2:b<=9223372036854775807) (hc:0 < c) (hc2:c<=9223372036854775807) (hq:a*b / c<=9223372036854775807) :
  v56 a b c=some (a*b / c):=by
 have w:∀ x:Int,0<=x->x<=9223372036854775807->wU x=x:=fun x h1 h2=>qz h1 (by omega)
 have h0:0<=a*b:=Int.mul_nonneg ha hb
 have hlt:a*b < 9223372036854775808*c:=(Int.ediv_lt_iff_lt_mul hc).1 (by omega)
 obtain ⟨r,hr⟩:=v74_eq (hi:=a*b / 18446744073709551616) (lo:=a*b % 18446744073709551616) (y:=c) (by omega) (by omega) (by omega) (by omega) (by omega)
 have e:a*b / 18446744073709551616*18446744073709551616+a*b % 18446744073709551616=a*b:=by omega
 rw [e] at hr
 have hq0:0<=a*b / c:=Int.ediv_nonneg h0 (by omega)
 unfold v56 tv56;(repeat rewrite [obE])
 rw [w a ha ha2,w b hb hb2,w c (by omega) hc2,v73_eq ha (by omega) hb (by omega)]
 simp only [qf]
 rw [hr]
 simp only [qf,qh,cond_true]
 rw [qi (by omega) hq]
theorem qd {α:Type} {p:Prop} {inst:Decidable p} (h:p) (a b:α):cond (@decide p inst) a b=a:=by rw [decide_eq_true h];rfl
theorem qe {α:Type} {p:Prop} {inst:Decidable p} (h:¬ p) (a b:α):cond (@decide p inst) a b=b:=by rw [decide_eq_false h];rfl
structure Nw (caps:List Int) (flows:Fl):Prop where
 c1:1<=caps.length/\caps.length<=8
 f1:1<=flows.length/\flows.length<=8
 cap:∀ k,0<=caps.getD k 0/\caps.getD k 0<=1000
 sub:∀ i,i < flows.length->1<=(flows.getD i []).length/\(flows.getD i []).length<=4
 hop:∀ i t,i < flows.length->t < (flows.getD i []).length->1<=(pth flows i t).length/\(pth flows i t).length<=6
 link:∀ i t j,i < flows.length->t < (flows.getD i []).length->j < (pth flows i t).length->0<=(pth flows i t).getD j 0/\(pth flows i t).getD j 0 < (caps.length:Int)
 inc:∀ i t a b,i < flows.length->t < (flows.getD i []).length->a < b->b < (pth flows i t).length->(pth flows i t).getD a 0 < (pth flows i t).getD b 0
theorem KW {caps:List Int} {flows:Fl} (h1:qw caps flows=true):Nw caps flows:=by
 unfold qw at h1
 simp only [Bool.and_eq_true,decide_eq_true_eq] at h1
 obtain ⟨hc,hfl,hcs,hfs⟩:=h1
 have hflow:∀ i,i < flows.length->(1<=(flows.getD i []).length/\(flows.getD i []).length<=4)/\∀ t,t < (flows.getD i []).length->jP (pth flows i t) caps.length=true:=by
  intro i hi
  have:=List.all_eq_true.1 hfs _ (qT hi [])
  unfold gH at this
  by_cases c:1<=(flows.getD i []).length/\(flows.getD i []).length<=4
  ·rw [decide_eq_true c] at this
   exact ⟨c,fun t ht=>List.all_eq_true.1 this _ (qT ht [])⟩
  ·rw [decide_eq_false c] at this;cases this
 have hpath:∀ i t,i < flows.length->t < (flows.getD i []).length->gM caps.length (-1) (pth flows i t)=true/\1<=(pth flows i t).length/\(pth flows i t).length<=6:=by
  intro i t hi ht
  have:=(hflow i hi).2 t ht
  unfold jP at this
  cases hx:gM caps.length (-1) (pth flows i t) with
  | false=>rw [hx] at this;cases this
  | true=>rw [hx] at this;exact ⟨rfl,by simpa using this⟩
 refine ⟨hc,hfl,fun k=>GU (by omega) hcs k,fun i hi=>(hflow i hi).1,fun i t hi ht=>(hpath i t hi ht).2,fun i t j hi ht hj=>?_,fun i t a b hi ht hab hb=>(G6 (hpath i t hi ht).1).2 a b hab hb⟩
 have:=(G6 (hpath i t hi ht).1).1 j hj
 omega
theorem out3 {flows:Fl} {i:Nat} (h:flows.length<=i):flows.getD i []=[]:=by rw [List.getD_eq_getElem?_getD,List.getElem?_eq_none h];rfl
theorem out2 {f:List (List Int)} {i:Nat} (h:f.length<=i):f.getD i []=[]:=by rw [List.getD_eq_getElem?_getD,List.getElem?_eq_none h];rfl
theorem out1 {l:List Int} {i:Nat} (h:l.length<=i):l.getD i 0=0:=by rw [List.getD_eq_getElem?_getD,List.getElem?_eq_none h];rfl
structure Wt (n:Nat) (ws:List Int):Prop where
 len:ws.length=n
 bd:∀ k,k < n->16<=ws.getD k 0/\ws.getD k 0<=1048576
theorem Wt.nn {n:Nat} {ws:List Int} (h:Wt n ws) (k:Nat):0<=ws.getD k 0/\ws.getD k 0<=1048576:=by
 by_cases hk:k < n
 ·have:=h.bd k hk;omega
 ·rw [out1 (by rw [h.len];omega)];omega
theorem qeH {l w:List Int} (hl:l.length<=20) (hk:∀ j,j < l.length->0<=l.getD j 0/\l.getD j 0 < (w.length:Int)) (hw:∀ k,0<=w.getD k 0/\w.getD k 0<=1000000000000):v29 l w=some (qj l w):=by
 have h0:jV FU w 0 l (l.length:Int) 0=some (qj l w):=by
  refine qp (m:=l.length) (by omega) (fun n j (s:Int)=>jV n w s l (l.length:Int) j)
   (fun j=>ql j fun x=>w.getD (Int.toNat (l.getD x 0)) 0) (qj l w) (fun n j hj=>?_) fun n=>?_
  ·show jV (n+1) _ _ _ _ _=jV n _ _ _ _ _
   have hb:=qB (n:=j+1) (m:=20) (f:=fun x=>w.getD (Int.toNat (l.getD x 0)) 0) (c:=1000000000000) (by omega) (fun x _=>hw _) (by omega)
   have hkj:=hk j hj
   have hs:ql (j+1) (fun x=>w.getD (Int.toNat (l.getD x 0)) 0)=ql j (fun x=>w.getD (Int.toNat (l.getD x 0)) 0)+w.getD (Int.toNat (l.getD j 0)) 0:=rfl
   rw [qa6];unfold Gx ck;rw [qd (show (j:Int) < (l.length:Int) by omega),qd (show (0:Int)<=(j:Int) by omega),up1 (by omega)]
   simp only [Int.toNat_natCast]
   rw [qd (show (j:Int) < (l.length:Int) by omega),qd hkj.1,qd hkj.2,<- hs,qi (by omega) (by omega)]
  ·show jV (n+1) _ _ _ _ _=_
   rw [qa6];unfold Gx ck;rw [qe (show ¬ (l.length:Int) < (l.length:Int) by omega)]
   rfl
 unfold v29 tv29;(repeat rewrite [obE])
 rw [h0];rfl
def qS (caps l:List Int):Bool:=l.all fun k=>!(caps.getD k.toNat 0==0)
theorem use_iff {caps l:List Int}:qS caps l=true↔∀ j,j < l.length->caps.getD (l.getD j 0).toNat 0≠0:=by
 unfold qS
 rw [<- qD l 0 fun k=>!(caps.getD k.toNat 0==0),List.all_eq_true]
 constructor
 ·intro h j hj
  simpa using h j (List.mem_range.2 hj)
 ·intro h j hj
  simpa using h j (List.mem_range.1 hj)
theorem qhd {l caps:List Int} (hl:l.length<=20) (hk:∀ j,j < l.length->0<=l.getD j 0/\l.getD j 0 < (caps.length:Int)) {flows:Fl} {A R:List (List Int)} {P:List Int} {g:Int} {w h:List Int} :
  v54 l caps flows A R P g w h=some (qS caps l):=by
 obtain ⟨j,h1,h2⟩:=qcK (m:=l.length) (by omega) (fun n i=>gj n l (l.length:Int) i caps flows A R P g w h) (fun i=>!(!(caps.getD (l.getD i 0).toNat 0==0))) (fun n i hi=>by
  have hki:=hk i hi
  show gj (n+1) _ _ _ _ _ _ _ _ _ _ _=_
  rw [qbB];unfold GQ ck;(repeat rewrite [obE]);rw [qd (show (i:Int) < (l.length:Int) by omega),qd (show (0:Int)<=(i:Int) by omega),qd (show (i:Int) < (l.length:Int) by omega),up1 (by omega)]
  unfold v72 tv72 ck
  simp only [Int.toNat_natCast]
  rw [qd hki.1,qd hki.2]
  simp only [qh,qf,cond_true,Bool.not_not]) fun n=>by
  show gj (n+1) _ _ _ _ _ _ _ _ _ _ _=_
  rw [qbB];unfold GQ ck;(repeat rewrite [obE]);rw [qe (show ¬ (l.length:Int) < (l.length:Int) by omega)]
 have h3:=HN l 0 fun k=>!(caps.getD k.toNat 0==0)
 unfold v54 tv54 qdd qc2 qdi qc9;(repeat rewrite [obE])
 rw [h1]
 simp only [qh,qf,cond_true]
 exact congrArg some ((congrArg (!·) h2).trans h3)
def chF (caps:List Int) (f:List (List Int)) (w:List Int) (j:Nat) (s:Int×Int):Int×Int:=
 cond (qS caps (f.getD j [])) (cond (decide (s.1 < 0)) ((j:Int),qj (f.getD j []) w) (cond (decide (qj (f.getD j []) w < s.2)) ((j:Int),qj (f.getD j []) w) s)) s
def chN (caps:List Int) (f:List (List Int)) (w:List Int):Nat->Int×Int
 | 0=>(-1,0)
 | j+1=>chF caps f w j (chN caps f w j)
abbrev chS (caps:List Int) (flows:Fl) (w:List Int) (i:Nat):Int×Int:=chN caps (flows.getD i []) w (flows.getD i []).length
theorem JW (caps:List Int) (f:List (List Int)) (w:List Int):∀ j,((chN caps f w j).1=-1/\∀ t,t < j->qS caps (f.getD t [])=false)\/
  ∃ b:Nat,b < j/\qS caps (f.getD b [])=true/\chN caps f w j=((b:Int),qj (f.getD b []) w)/\(∀ t,t < j->qS caps (f.getD t [])=true->qj (f.getD b []) w<=qj (f.getD t []) w)/\∀ t,t < b->qS caps (f.getD t [])=true->qj (f.getD b []) w < qj (f.getD t []) w
 | 0=>.inl ⟨rfl,fun t ht=>by omega⟩
 | j+1=>by
  have ih:=JW caps f w j
  show ((chF caps f w j (chN caps f w j)).1=-1/\_)\/∃ b:Nat,b < j+1/\_/\chF caps f w j (chN caps f w j)=_/\_
  unfold chF
  cases hu:qS caps (f.getD j []) with
  | false=>
   rcases ih with ⟨h1,h2⟩ | ⟨b,h1,h2,h3,h4,h5⟩
   ·refine .inl ⟨h1,fun t ht=>?_⟩
    by_cases c:t=j
    ·rw [c];exact hu
    ·exact h2 t (by omega)
   ·refine .inr ⟨b,by omega,h2,h3,fun t ht ht2=>?_,h5⟩
    by_cases c:t=j
    ·rw [c,hu] at ht2;cases ht2
    ·exact h4 t (by omega) ht2
  | true=>
   rw [cond_true]
   rcases ih with ⟨h1,h2⟩ | ⟨b,h1,h2,h3,h4,h5⟩
   ·rw [qd (show (chN caps f w j).1 < 0 by omega)]
    refine .inr ⟨j,by omega,hu,rfl,fun t ht ht2=>?_,fun t ht ht2=>?_⟩
    ·by_cases c:t=j
     ·rw [c];exact Int.le_refl _
     ·rw [h2 t (by omega)] at ht2;cases ht2
    ·rw [h2 t ht] at ht2;cases ht2
   ·rw [h3,qe (show ¬ ((b:Int) < 0) by omega)]
    by_cases c:qj (f.getD j []) w < qj (f.getD b []) w
    ·rw [qd c]
     refine .inr ⟨j,by omega,hu,rfl,fun t ht ht2=>?_,fun t ht ht2=>?_⟩
     ·by_cases c2:t=j
      ·rw [c2];exact Int.le_refl _
      ·have:=h4 t (by omega) ht2;omega
     ·have:=h4 t ht ht2;omega
    ·rw [qe c]
     refine .inr ⟨b,by omega,h2,rfl,fun t ht ht2=>?_,h5⟩
     by_cases c2:t=j
     ·rw [c2];omega
     ·exact h4 t (by omega) ht2
section
variable {caps : List Int} {flows : Fl} (hn : Nw caps flows)
include hn
theorem qeK {ws:List Int} (hw:Wt caps.length ws) {i:Nat} (hi:i < flows.length) {A R:List (List Int)} {P:List Int} {g:Int} {h:List Int}:v33 (i:Int) caps flows A R P g ws h=some (chS caps flows ws i):=by
 have h4:=hn.sub i hi
 have h0:j5 FU (-1) 0 (flows.getD i []) ((flows.getD i []).length:Int) 0 caps flows A R P g ws h=some (chS caps flows ws i):=by
  refine qp (m:=(flows.getD i []).length) (by omega) (fun n j (s:Int×Int)=>j5 n s.1 s.2 (flows.getD i []) ((flows.getD i []).length:Int) j caps flows A R P g ws h)
   (chN caps (flows.getD i []) ws) (chS caps flows ws i) (fun n j hj=>?_) fun n=>?_
  ·show j5 (n+1) _ _ _ _ _ _ _ _ _ _ _ _ _=j5 n (chF caps (flows.getD i []) ws j (chN caps (flows.getD i []) ws j)).1 (chF caps (flows.getD i []) ws j (chN caps (flows.getD i []) ws j)).2 _ _ _ _ _ _ _ _ _ _ _
   have hp:=hn.hop i j hi hj
   rw [qbd];unfold GD ck;(repeat rewrite [obE]);rw [qd (show (j:Int) < ((flows.getD i []).length:Int) by omega),qd (show (0:Int)<=(j:Int) by omega),qd (show (j:Int) < ((flows.getD i []).length:Int) by omega),up1 (by omega)]
   have e1:=qeH (l:=(flows.getD i []).getD j []) (w:=ws) (show (pth flows i j).length<=20 by omega) (fun x hx=>by rw [hw.len];exact hn.link i j x hi hj hx) (fun k=>by have:=hw.nn k;omega)
   have e2:=qhd (l:=(flows.getD i []).getD j []) (caps:=caps) (show (pth flows i j).length<=20 by omega) (fun x hx=>hn.link i j x hi hj hx) (flows:=flows) (A:=A) (R:=R) (P:=P) (g:=g) (w:=ws) (h:=h)
   simp only [Int.toNat_natCast,e1,e2,qh,qf,cond_true]
   unfold chF
   cases qS caps ((flows.getD i []).getD j []) with
   | false=>rfl
   | true=>
    simp only [cond_true]
    cases decide ((chN caps (flows.getD i []) ws j).1 < 0) with
    | true=>rfl
    | false=>cases decide (qj ((flows.getD i []).getD j []) ws < (chN caps (flows.getD i []) ws j).2)<;>rfl
  ·show j5 (n+1) _ _ _ _ _ _ _ _ _ _ _ _ _=_
   rw [qbd];unfold GD ck;(repeat rewrite [obE]);rw [qe (show ¬ ((flows.getD i []).length:Int) < ((flows.getD i []).length:Int) by omega)]
 unfold v33 tv33 ck;(repeat rewrite [obE])
 rw [qd (show (0:Int)<=(i:Int) by omega),qd (show (i:Int) < (flows.length:Int) by omega),Int.toNat_natCast,h0]
 rfl
theorem price_w {ws:List Int} (hw:Wt caps.length ws) {i t:Nat} (hi:i < flows.length) (ht:t < (flows.getD i []).length):16<=qj (pth flows i t) ws/\qj (pth flows i t) ws<=6291456:=by
 have hp:=hn.hop i t hi ht
 have hb:=qB (n:=(pth flows i t).length) (m:=6) (f:=fun x=>ws.getD (Int.toNat ((pth flows i t).getD x 0)) 0) (c:=1048576) hp.2 (fun x _=>hw.nn _) (by omega)
 have h1:=jQ (n:=(pth flows i t).length) (f:=fun x=>ws.getD (Int.toNat ((pth flows i t).getD x 0)) 0) (i:=0) (by omega) (fun x _=>(hw.nn _).1)
 have hl:=hn.link i t 0 hi ht (by omega)
 have h2:=hw.bd (Int.toNat ((pth flows i t).getD 0 0)) (by omega)
 unfold qj
 omega
end
theorem KY {n:Nat} {f:Nat->Int} (h:0 < ql n f):∃ i,i < n/\0 < f i:=by
 induction n with
 | zero=>simp [ql] at h
 | succ n ih=>
  simp only [ql] at h
  by_cases c:0 < f n
  ·exact ⟨n,by omega,c⟩
  ·obtain ⟨i,h1,h2⟩:=ih (by omega)
   exact ⟨i,by omega,h2⟩
def rtT (flows:Fl) (f:Nat->Nat->Int):List (List Int):=(List.range flows.length).map fun i=>tab (flows.getD i []).length (f i)
@[simp] theorem HO (flows:Fl) (f:Nat->Nat->Int):(rtT flows f).length=flows.length:=by simp [rtT]
theorem JR {flows:Fl} (f:Nat->Nat->Int) {i:Nat} (h:i < flows.length):(rtT flows f).getD i []=tab (flows.getD i []).length (f i):=by
 simp [rtT,List.getD,List.getElem?_map,List.getElem?_range h]
theorem qF {flows:Fl} (f:Nat->Nat->Int) {i t:Nat} (hi:i < flows.length) (ht:t < (flows.getD i []).length):rt (rtT flows f) i t=f i t:=by
 show ((rtT flows f).getD i []).getD t 0=_
 rw [JR f hi,qr _ ht]
theorem qeT {flows:Fl} (f:Nat->Nat->Int) {i t:Nat} (h:¬ (i < flows.length/\t < (flows.getD i []).length)):rt (rtT flows f) i t=0:=by
 show ((rtT flows f).getD i []).getD t 0=_
 by_cases hi:i < flows.length
 ·rw [JR f hi,out1 (by rw [qq];omega)]
 ·rw [out2 (by rw [HO];omega)];rfl
theorem qg3 {flows:Fl} {f g:Nat->Nat->Int} (h:∀ i t,i < flows.length->t < (flows.getD i []).length->f i t=g i t):rtT flows f=rtT flows g:=
 List.map_congr_left fun i hi=>qm fun t ht=>h i t (List.mem_range.1 hi) ht
structure Rg (caps:List Int) (flows:Fl) (m:Int) (rates:List (List Int)):Prop where
 rl:rates.length=flows.length
 rli:∀ i,i < flows.length->(rates.getD i []).length=(flows.getD i []).length
 rate:∀ i t,0<=rt rates i t/\rt rates i t<=m
 us:∀ i t,i < flows.length->t < (flows.getD i []).length->rt rates i t≠0->qS caps (pth flows i t)=true
theorem KO {caps:List Int} {flows:Fl} {m:Int} (hm:0<=m) {f:Nat->Nat->Int} (h1:∀ i t,i < flows.length->t < (flows.getD i []).length->0<=f i t/\f i t<=m)
  (h2:∀ i t,i < flows.length->t < (flows.getD i []).length->f i t≠0->qS caps (pth flows i t)=true):Rg caps flows m (rtT flows f):=by
 refine ⟨HO _ _,fun i hi=>by rw [JR f hi,qq],fun i t=>?_,fun i t hi ht h=>h2 i t hi ht (by rwa [qF f hi ht] at h)⟩
 by_cases c:i < flows.length/\t < (flows.getD i []).length
 ·rw [qF f c.1 c.2];exact h1 i t c.1 c.2
 ·rw [qeT f c];exact ⟨Int.le_refl _,hm⟩
def qA (flows:Fl):List (List Int):=rtT flows fun _ _=>1
def ldL (caps:List Int) (flows:Fl) (rates:List (List Int)):List Int:=tab caps.length (qn flows rates)
section
variable {caps : List Int} {flows : Fl} (hn : Nw caps flows)
include hn
theorem qcO {i t j:Nat} (hi:i < flows.length) (ht:t < (flows.getD i []).length) (hj:j < (pth flows i t).length) (r:Int):pk (pth flows i t) r ((pth flows i t).getD j 0).toNat=r:=by
 have hl:=hn.link i t j hi ht hj
 unfold pk
 rw [gG hj fun x hx hne=>?_]
 ·rw [show ((pth flows i t).getD j 0==(((pth flows i t).getD j 0).toNat:Int))=true from by rw [qv];exact decide_eq_true (by omega)];rfl
 ·have hd:(pth flows i t).getD x 0≠(pth flows i t).getD j 0:=by
   intro e
   by_cases hlt:x < j
   ·have:=hn.inc i t x j hi ht hlt hj;omega
   ·have:=hn.inc i t j x hi ht (by omega) hx;omega
  rw [show ((pth flows i t).getD x 0==(((pth flows i t).getD j 0).toNat:Int))=false from by rw [qv];exact decide_eq_false (by omega)];rfl
theorem pk_no {i t:Nat} (r:Int) (k:Nat) (h:∀ j,j < (pth flows i t).length->(pth flows i t).getD j 0≠(k:Int)):pk (pth flows i t) r k=0:=by
 unfold pk
 rw [Gh (g:=fun _=>0) (fun j hj=>?_),Kw]
 rw [show ((pth flows i t).getD j 0==(k:Int))=false from by rw [qv];exact decide_eq_false (h j hj)];rfl
theorem gI {i t:Nat} (hi:i < flows.length) (ht:t < (flows.getD i []).length) (k:Nat):(∀ r,pk (pth flows i t) r k=0)\/((∀ r,pk (pth flows i t) r k=r)/\∃ j,j < (pth flows i t).length/\(pth flows i t).getD j 0=(k:Int)):=by
 by_cases c:∃ j,j < (pth flows i t).length/\(pth flows i t).getD j 0=(k:Int)
 ·obtain ⟨j,h1,h2⟩:=c
  refine .inr ⟨fun r=>?_,j,h1,h2⟩
  have:=qcO hn hi ht h1 r
  rwa [h2,Int.toNat_natCast] at this
 ·exact .inl fun r=>pk_no hn r k fun j h1 h2=>c ⟨j,h1,h2⟩
theorem qcL {m:Int} (hm:0<=m) {rates:List (List Int)} (hr:Rg caps flows m rates) (k:Nat):0<=qn flows rates k/\qn flows rates k<=32*m:=by
 have h:=qB (n:=flows.length) (m:=8) (f:=fun i=>ql (flows.getD i []).length fun t=>pk (pth flows i t) (rt rates i t) k) (c:=4*m) hn.f1.2 (fun i hi=>by
  have:=qB (n:=(flows.getD i []).length) (m:=4) (f:=fun t=>pk (pth flows i t) (rt rates i t) k) (c:=m) (hn.sub i hi).2 (fun t ht=>by
   have:=hr.rate i t
   rcases gI hn hi ht k with h | ⟨h,_⟩<;>rw [h]<;>omega) hm
  omega) (by omega)
 unfold qn
 omega
theorem ld_ge {m:Int} {rates:List (List Int)} (hr:Rg caps flows m rates) {i t j:Nat} (hi:i < flows.length) (ht:t < (flows.getD i []).length) (hj:j < (pth flows i t).length):rt rates i t<=qn flows rates ((pth flows i t).getD j 0).toNat:=by
 have hp:∀ i' t',i' < flows.length->t' < (flows.getD i' []).length->0<=pk (pth flows i' t') (rt rates i' t') ((pth flows i t).getD j 0).toNat:=fun i' t' hi' ht'=>by
  have:=(hr.rate i' t').1
  rcases gI hn hi' ht' ((pth flows i t).getD j 0).toNat with h | ⟨h,_⟩<;>rw [h]<;>omega
 have h1:=jQ (flows.getD i []).length (f:=fun t'=>pk (pth flows i t') (rt rates i t') ((pth flows i t).getD j 0).toNat) ht (fun t' ht'=>hp i t' hi ht')
 have h2:=jQ flows.length (f:=fun i'=>ql (flows.getD i' []).length fun t'=>pk (pth flows i' t') (rt rates i' t') ((pth flows i t).getD j 0).toNat) hi (fun i' hi'=>jB fun t' ht'=>hp i' t' hi' ht')
 simp only [qcO hn hi ht hj] at h1
 exact Int.le_trans h1 h2
theorem ld_pos {m:Int} {rates:List (List Int)} (hr:Rg caps flows m rates) {k:Nat} (h:0 < qn flows rates k):∃ i t j,i < flows.length/\t < (flows.getD i []).length/\j < (pth flows i t).length/\(pth flows i t).getD j 0=(k:Int)/\0 < rt rates i t:=by
 obtain ⟨i,hi,h1⟩:=KY h
 obtain ⟨t,ht,h2⟩:=KY h1
 rcases gI hn hi ht k with h3 | ⟨h3,j,hj,hk⟩
 ·rw [h3] at h2;omega
 ·rw [h3] at h2
  exact ⟨i,t,j,hi,ht,hj,hk,h2⟩
theorem qea {m:Int} {rates:List (List Int)} (hr:Rg caps flows m rates) {k:Nat} (h:0 < qn flows rates k):k < caps.length/\1<=caps.getD k 0:=by
 obtain ⟨i,t,j,hi,ht,hj,hk,h2⟩:=ld_pos hn hr h
 have hl:=hn.link i t j hi ht hj
 have hu:=use_iff.1 (hr.us i t hi ht (by omega)) j hj
 rw [hk,Int.toNat_natCast] at hu
 have:=hn.cap k
 omega
end
def tgF (caps ld:List Int) (k:Nat) (o:Int):Int:=
 cond (decide (ld.getD k 0 > 0)) (cond (decide (o < 0)) (k:Int) (cond (decide (caps.getD k 0*ld.getD o.toNat 0 < caps.getD o.toNat 0*ld.getD k 0)) (k:Int) o)) o
def tgN (caps ld:List Int):Nat->Int
 | 0=>-1
 | k+1=>tgF caps ld k (tgN caps ld k)
theorem cross {a b c p q r:Int} (hq:1<=q) (hp:0<=p) (hr:0<=r) (h1:a*q<=b*p) (h2:b*r<=c*q):a*r<=c*p:=by
 have e1:a*q*r<=b*p*r:=Int.mul_le_mul_of_nonneg_right h1 hr
 have e2:b*r*p<=c*q*p:=Int.mul_le_mul_of_nonneg_right h2 hp
 have e3:a*r*q<=c*p*q:=by
  have t1:a*q*r=a*r*q:=by rw [Int.mul_assoc,Int.mul_comm q r,<- Int.mul_assoc]
  have t2:b*p*r=b*r*p:=by rw [Int.mul_assoc,Int.mul_comm p r,<- Int.mul_assoc]
  have t3:c*q*p=c*p*q:=by rw [Int.mul_assoc,Int.mul_comm q p,<- Int.mul_assoc]
  omega
 exact Int.le_of_mul_le_mul_right e3 (by omega)
theorem K3 (caps ld:List Int):∀ k,(tgN caps ld k=-1/\∀ l,l < k->ld.getD l 0<=0)\/∃ b:Nat,b < k/\tgN caps ld k=(b:Int)/\0 < ld.getD b 0/\∀ l,l < k->0 < ld.getD l 0->caps.getD b 0*ld.getD l 0<=caps.getD l 0*ld.getD b 0
 | 0=>.inl ⟨rfl,fun l hl=>by omega⟩
 | k+1=>by
  have ih:=K3 caps ld k
  show (tgF caps ld k (tgN caps ld k)=-1/\_)\/∃ b:Nat,b < k+1/\tgF caps ld k (tgN caps ld k)=(b:Int)/\_
  unfold tgF
  by_cases c:ld.getD k 0 > 0
  ·rw [qd c]
   rcases ih with ⟨h1,h2⟩ | ⟨b,h1,h2,h3,h4⟩
   ·rw [h1,qd (show (-1:Int) < 0 by omega)]
    refine .inr ⟨k,by omega,rfl,c,fun l hl hp=>?_⟩
    by_cases e:l=k
    ·rw [e];exact Int.le_refl _
    ·have:=h2 l (by omega);omega
   ·rw [h2,qe (show ¬ (b:Int) < 0 by omega),Int.toNat_natCast]
    by_cases c2:caps.getD k 0*ld.getD b 0 < caps.getD b 0*ld.getD k 0
    ·rw [qd c2]
     refine .inr ⟨k,by omega,rfl,c,fun l hl hp=>?_⟩
     by_cases e:l=k
     ·rw [e];exact Int.le_refl _
     ·exact cross (q:=ld.getD b 0) (b:=caps.getD b 0) (by omega) (by omega) (by omega) (by omega) (h4 l (by omega) hp)
    ·rw [qe c2]
     refine .inr ⟨b,by omega,rfl,h3,fun l hl hp=>?_⟩
     by_cases e:l=k
     ·rw [e];omega
     ·exact h4 l (by omega) hp
  ·rw [qe c]
   rcases ih with ⟨h1,h2⟩ | ⟨b,h1,h2,h3,h4⟩
   ·refine .inl ⟨h1,fun l hl=>?_⟩
    by_cases e:l=k
    ·rw [e];omega
    ·exact h2 l (by omega)
   ·refine .inr ⟨b,by omega,h2,h3,fun l hl hp=>?_⟩
    by_cases e:l=k
    ·rw [e] at hp;omega
    ·exact h4 l (by omega) hp
def tgS (caps:List Int) (flows:Fl) (rates:List (List Int)):Nat:=(tgN caps (ldL caps flows rates) caps.length).toNat
def scS (caps:List Int) (flows:Fl) (rates:List (List Int)) (i t:Nat):Int:=rt rates i t*(1000000*caps.getD (tgS caps flows rates) 0) / qn flows rates (tgS caps flows rates)
def scR (caps:List Int) (flows:Fl) (rates:List (List Int)):List (List Int):=rtT flows (scS caps flows rates)
def Nz (flows:Fl) (rates:List (List Int)):Prop:=∃ i t,i < flows.length/\t < (flows.getD i []).length/\0 < rt rates i t
section
variable {caps : List Int} {flows : Fl} (hn : Nw caps flows) {m : Int} {rates : List (List Int)} (hr : Rg caps flows m rates) (hz : Nz flows rates)
include hn hr hz
theorem Gj:tgN caps (ldL caps flows rates) caps.length=(tgS caps flows rates:Int)/\tgS caps flows rates < caps.length/\0 < qn flows rates (tgS caps flows rates)/\1<=caps.getD (tgS caps flows rates) 0/\
  ∀ l,0 < qn flows rates l->caps.getD (tgS caps flows rates) 0*qn flows rates l<=caps.getD l 0*qn flows rates (tgS caps flows rates):=by
 have hg:∀ k,k < caps.length->(ldL caps flows rates).getD k 0=qn flows rates k:=fun k hk=>qr _ hk
 unfold tgS
 rcases K3 caps (ldL caps flows rates) caps.length with ⟨h1,h2⟩ | ⟨b,h1,h2,h3,h4⟩
 ·obtain ⟨i,t,hi,ht,hp⟩:=hz
  have h3:=ld_ge hn hr hi ht (j:=0) (by have:=hn.hop i t hi ht;omega)
  have h4:=qea hn hr (k:=((pth flows i t).getD 0 0).toNat) (by omega)
  have h5:=h2 _ h4.1
  rw [hg _ h4.1] at h5
  omega
 ·rw [h2,Int.toNat_natCast]
  rw [hg b h1] at h3
  refine ⟨rfl,h1,h3,(qea hn hr h3).2,fun l hl=>?_⟩
  have hl2:=(qea hn hr hl).1
  have:=h4 l hl2 (by rw [hg l hl2];exact hl)
  rwa [hg l hl2,hg b h1] at this
theorem qcQ {i t:Nat} (hi:i < flows.length) (ht:t < (flows.getD i []).length):0<=scS caps flows rates i t/\scS caps flows rates i t<=1000000000:=by
 obtain ⟨h1,h2,h3,h4,h5⟩:=Gj hn hr hz
 have h6:=(hr.rate i t).1
 have h0:0<=rt rates i t*(1000000*caps.getD (tgS caps flows rates) 0):=Int.mul_nonneg h6 (by omega)
 unfold scS
 refine ⟨Int.ediv_nonneg h0 (by omega),?_⟩
 by_cases c:rt rates i t=0
 ·rw [c,Int.zero_mul,Int.zero_ediv];omega
 have h7:=ld_ge hn hr hi ht (j:=0) (by have:=hn.hop i t hi ht;omega)
 have h8:=h5 ((pth flows i t).getD 0 0).toNat (by omega)
 have h9:=hn.cap ((pth flows i t).getD 0 0).toNat
 have h10:rt rates i t*caps.getD (tgS caps flows rates) 0<=qn flows rates ((pth flows i t).getD 0 0).toNat*caps.getD (tgS caps flows rates) 0:=Int.mul_le_mul_of_nonneg_right h7 (by omega)
 have h11:caps.getD ((pth flows i t).getD 0 0).toNat 0*qn flows rates (tgS caps flows rates)<=1000*qn flows rates (tgS caps flows rates):=Int.mul_le_mul_of_nonneg_right h9.2 (by omega)
 rw [Int.mul_comm (caps.getD _ 0) (qn flows rates ((pth flows i t).getD 0 0).toNat)] at h8
 have h12:rt rates i t*(1000000*caps.getD (tgS caps flows rates) 0)=1000000*(rt rates i t*caps.getD (tgS caps flows rates) 0):=by
  rw [<- Int.mul_assoc,Int.mul_comm (rt rates i t) 1000000,Int.mul_assoc]
 have:rt rates i t*(1000000*caps.getD (tgS caps flows rates) 0) / qn flows rates (tgS caps flows rates) < 1000000001:=(Int.ediv_lt_iff_lt_mul h3).2 (by omega)
 omega
theorem gE:Rg caps flows 1000000000 (scR caps flows rates):=by
 refine KO (by omega) (fun i t hi ht=>qcQ hn hr hz hi ht) fun i t hi ht h=>hr.us i t hi ht fun e=>h ?_
 unfold scS
 rw [e,Int.zero_mul,Int.zero_ediv]
theorem qid:ja flows (scR caps flows rates)=true:=by
 have hg:=gE hn hr hz
 unfold ja
 rw [Bool.and_eq_true]
 refine ⟨decide_eq_true hg.rl,List.all_eq_true.2 fun i hi=>?_⟩
 have hi':i < flows.length:=by have:=List.mem_range.1 hi;rw [hg.rl] at this;exact this
 rw [decide_eq_true (hg.rli i hi'),cond_true]
 unfold upto
 rw [<- qD _ (0:Int) fun n=>decide (0<=n/\n<=1000000000)]
 exact List.all_eq_true.2 fun t ht=>decide_eq_true (hg.rate i t)
theorem qeP:q9 caps flows (scR caps flows rates)=true:=by
 obtain ⟨h1,h2,h3,h4,h5⟩:=Gj hn hr hz
 unfold q9
 refine List.all_eq_true.2 fun k hk=>decide_eq_true ?_
 have hd:∀ a:Int,0<=a->a*(1000000*caps.getD (tgS caps flows rates) 0) / qn flows rates (tgS caps flows rates)*qn flows rates (tgS caps flows rates)<=a*(1000000*caps.getD (tgS caps flows rates) 0):=fun a ha=>Int.ediv_mul_le _ (by omega)
 have hs:qn flows (scR caps flows rates) k*qn flows rates (tgS caps flows rates)<=qn flows rates k*(1000000*caps.getD (tgS caps flows rates) 0):=by
  unfold qn
  rw [<- G9,<- G9]
  refine KP fun i hi=>?_
  rw [<- G9,<- G9]
  refine KP fun t ht=>?_
  rcases gI hn hi ht k with h | ⟨h,_⟩
  ·rw [h,h];simp
  ·rw [h,h,show rt (scR caps flows rates) i t=_ from qF _ hi ht]
   exact hd _ (hr.rate i t).1
 have hk0:0<=qn flows rates k:=(jB fun i hi=>jB fun t ht=>by
  have:=(hr.rate i t).1
  rcases gI hn hi ht k with h | ⟨h,_⟩<;>rw [h]<;>omega)
 have hc:=hn.cap k
 by_cases c:0 < qn flows rates k
 ·have h6:=h5 k c
  have e:qn flows rates k*(1000000*caps.getD (tgS caps flows rates) 0)=1000000*(caps.getD (tgS caps flows rates) 0*qn flows rates k):=by
   rw [<- Int.mul_assoc,Int.mul_comm (qn flows rates k) 1000000,Int.mul_assoc,Int.mul_comm (qn flows rates k)]
  rw [e] at hs
  have h7:qn flows (scR caps flows rates) k*qn flows rates (tgS caps flows rates)<=1000000*caps.getD k 0*qn flows rates (tgS caps flows rates):=by
   rw [Int.mul_assoc]
   omega
  exact Int.le_of_mul_le_mul_right h7 h3
 ·have e:qn flows rates k=0:=by omega
  rw [e,Int.zero_mul] at hs
  have h7:qn flows (scR caps flows rates) k*qn flows rates (tgS caps flows rates)<=0*qn flows rates (tgS caps flows rates):=by omega
  have:=Int.le_of_mul_le_mul_right h7 h3
  omega
end
def Fit (caps:List Int) (flows:Fl):Prop:=∀ i,i < flows.length->∃ t,t < (flows.getD i []).length/\qS caps (pth flows i t)=true
def qt (x:Int):Int:=Int.tdiv (1000000000000+x - 1) x
def nmF (x l:Int) (s:Int×Int):Int×Int:=cond (decide (s.1*l < qt x*s.2)) (qt x,l) s
def nmN (x l:Nat->Int):Nat->Int×Int
 | 0=>(0,1)
 | i+1=>nmF (x i) (l i) (nmN x l i)
theorem Gt {x:Int} (hx:1<=x):1000000000000<=qt x*x/\1<=qt x/\qt x<=1000000000000:=by
 have h1:=HL (p:=x) (c:=1000000000000) (by omega) (by omega)
 have h0:1<=qt x:=by
  have:=(KN (p:=x) (x:=0) (c:=1000000000000) (by omega) (by omega) (by omega)).2 (by rw [Int.mul_zero];omega)
  unfold qt;omega
 have h2:¬ qt x < Int.tdiv (1000000000000+x - 1) x:=by unfold qt;omega
 have h3:¬ qt x*x < 1000000000000:=fun h=>h2 ((KN (p:=x) (x:=qt x) (c:=1000000000000) (by omega) (by omega) (by omega)).2 (by rw [Int.mul_comm];exact h))
 refine ⟨by omega,h0,h1.2⟩
theorem qaR {x l:Nat->Int} {m:Nat} (hx:∀ i,i < m->1<=x i) (hl:∀ i,i < m->1<=l i/\l i<=6291456):∀ j,j<=m->
  (0<=(nmN x l j).1/\(nmN x l j).1<=1000000000000)/\(1<=(nmN x l j).2/\(nmN x l j).2<=6291456)/\(∀ i,i < j->qt (x i)*(nmN x l j).2<=(nmN x l j).1*l i)/\(j=0\/∃ b,b < j/\nmN x l j=(qt (x b),l b))
 | 0,_=>⟨⟨Int.le_refl _,by show (0:Int)<=_;omega⟩,⟨Int.le_refl _,by show (1:Int)<=_;omega⟩,fun i hi=>by omega,.inl rfl⟩
 | j+1,hj=>by
  obtain ⟨h1,h2,h3,h4⟩:=qaR hx hl j (by omega)
  have hn:=Gt (hx j (by omega))
  have hlj:=hl j (by omega)
  show (0<=(nmF (x j) (l j) (nmN x l j)).1/\(nmF (x j) (l j) (nmN x l j)).1<=_)/\(1<=(nmF (x j) (l j) (nmN x l j)).2/\(nmF (x j) (l j) (nmN x l j)).2<=_)/\(∀ i,i < j+1->qt (x i)*(nmF (x j) (l j) (nmN x l j)).2<=(nmF (x j) (l j) (nmN x l j)).1*l i)/\(j+1=0\/∃ b,b < j+1/\nmF (x j) (l j) (nmN x l j)=_)
  unfold nmF
  by_cases c:(nmN x l j).1*l j < qt (x j)*(nmN x l j).2
  ·rw [qd c]
   refine ⟨⟨by show 0<=qt (x j);omega,hn.2.2⟩,hlj,fun i hi=>?_,.inr ⟨j,by omega,rfl⟩⟩
   by_cases e:i=j
   ·rw [e];exact Int.le_refl _
   ·have hli:=hl i (by omega)
    exact cross (q:=(nmN x l j).2) (b:=(nmN x l j).1) h2.1 (by omega) (by omega) (h3 i (by omega)) (show (nmN x l j).1*l j<=qt (x j)*(nmN x l j).2 by omega)
  ·rw [qe c]
   refine ⟨h1,h2,fun i hi=>?_,?_⟩
   ·by_cases e:i=j
    ·rw [e];omega
    ·exact h3 i (by omega)
   ·rcases h4 with h | ⟨b,hb,he⟩
    ·subst h
     exfalso
     apply c
     show (0:Int)*l 0 < qt (x 0)*1
     omega
    ·exact .inr ⟨b,by omega,he⟩
def prS (caps:List Int) (flows:Fl) (ws:List Int) (s:Int×Int) (k:Nat):Int:=
 cond (caps.getD k 0==0) 1000000000000 (cond (decide (qn flows (qA flows) k > 0)) (Int.tdiv (s.1*ws.getD k 0+s.2 - 1) s.2) 0)
def prL (caps:List Int) (flows:Fl) (ws:List Int) (s:Int×Int):List Int:=tab caps.length (prS caps flows ws s)
def qo (caps:List Int) (flows:Fl) (rates:List (List Int)) (i:Nat):Int:=qu ((scR caps flows rates).getD i [])
def qs (caps:List Int) (flows:Fl) (ws:List Int) (i:Nat):Int:=(chS caps flows ws i).2
def nmS (caps:List Int) (flows:Fl) (rates:List (List Int)) (ws:List Int):Int×Int:=nmN (qo caps flows rates) (qs caps flows ws) flows.length
def gC (caps:List Int) (flows:Fl) (rates:List (List Int)):Bool:=(List.range flows.length).all fun i=>!(qo caps flows rates i==0)
abbrev Cert:=List (List Int)×List Int×Int×Bool
def qx (caps:List Int) (flows:Fl) (rates:List (List Int)) (ws:List Int):Cert:=
 cond (gC caps flows rates) (scR caps flows rates,prL caps flows ws (nmS caps flows rates ws),(gn caps flows (scR caps flows rates) (prL caps flows ws (nmS caps flows rates ws))).1,(gn caps flows (scR caps flows rates) (prL caps flows ws (nmS caps flows rates ws))).2==0)
  (scR caps flows rates,tab caps.length (fun _=>0),0,false)
def jN (caps:List Int) (flows:Fl) (o:List (List Int)×List Int×Int):Prop:=gn caps flows o.1 o.2.1=(o.2.2,0)
theorem jO {caps:List Int} {flows:Fl} {rates:List (List Int)} {ws:List Int} (h:(qx caps flows rates ws).2.2.2=true):jN caps flows ((qx caps flows rates ws).1,(qx caps flows rates ws).2.1,(qx caps flows rates ws).2.2.1):=by
 unfold qx at h ⊢
 cases hf:gC caps flows rates with
 | false=>rw [hf] at h;cases h
 | true=>
  rw [hf,cond_true] at h
  simp only [cond_true]
  unfold jN
  have h2:(gn caps flows (scR caps flows rates) (prL caps flows ws (nmS caps flows rates ws))).2=0:=by simpa using h
  exact Prod.ext rfl h2
section
variable {caps : List Int} {flows : Fl} (hn : Nw caps flows) {ws : List Int} (hw : Wt caps.length ws) (hfit : Fit caps flows)
include hn hw hfit
theorem HM {i:Nat} (hi:i < flows.length):∃ b:Nat,b < (flows.getD i []).length/\qS caps (pth flows i b)=true/\chS caps flows ws i=((b:Int),qj (pth flows i b) ws)/\(∀ t,t < (flows.getD i []).length->qS caps (pth flows i t)=true->qj (pth flows i b) ws<=qj (pth flows i t) ws)/\
  (∀ t,t < b->qS caps (pth flows i t)=true->qj (pth flows i b) ws < qj (pth flows i t) ws)/\16<=qs caps flows ws i/\qs caps flows ws i<=6291456:=by
 rcases JW caps (flows.getD i []) ws (flows.getD i []).length with ⟨h1,h2⟩ | ⟨b,h1,h2,h3,h4,h5⟩
 ·obtain ⟨t,ht,hu⟩:=hfit i hi
  rw [h2 t ht] at hu;cases hu
 ·have hp:=price_w hn hw hi h1
  refine ⟨b,h1,h2,h3,h4,h5,?_⟩
  show 16<=(chN caps (flows.getD i []) ws (flows.getD i []).length).2/\(chN caps (flows.getD i []) ws (flows.getD i []).length).2<=6291456
  rw [h3];exact hp
variable {m : Int} {rates : List (List Int)} (hr : Rg caps flows m rates) (hz : Nz flows rates) (hfull : gC caps flows rates = true)
include hr hz hfull
theorem qeW {i:Nat} (hi:i < flows.length):1<=qo caps flows rates i/\qo caps flows rates i<=4000000000:=by
 have hg:=gE hn hr hz
 have h1:=List.all_eq_true.1 hfull i (List.mem_range.2 hi)
 have h2:qo caps flows rates i≠0:=by simpa using h1
 have h3:=qB (n:=((scR caps flows rates).getD i []).length) (m:=4) (f:=fun t=>((scR caps flows rates).getD i []).getD t 0) (c:=1000000000) (by rw [hg.rli i hi];exact (hn.sub i hi).2) (fun t ht=>hg.rate i t) (by omega)
 have h4:qo caps flows rates i=ql ((scR caps flows rates).getD i []).length fun t=>((scR caps flows rates).getD i []).getD t 0:=rfl
 omega
theorem qcN:(0<=(nmS caps flows rates ws).1/\(nmS caps flows rates ws).1<=1000000000000)/\(1<=(nmS caps flows rates ws).2/\(nmS caps flows rates ws).2<=6291456)/\(∀ i,i < flows.length->qt (qo caps flows rates i)*(nmS caps flows rates ws).2<=(nmS caps flows rates ws).1*qs caps flows ws i)/\
  (∃ b,b < flows.length/\nmS caps flows rates ws=(qt (qo caps flows rates b),qs caps flows ws b)):=by
 obtain ⟨h1,h2,h3,h4⟩:=qaR (x:=qo caps flows rates) (l:=qs caps flows ws) (m:=flows.length) (fun i hi=>(qeW hn hw hfit hr hz hfull hi).1) (fun i hi=>by
  obtain ⟨b,_,_,_,_,_,h⟩:=HM hn hw hfit hi
  omega) flows.length (Nat.le_refl _)
 refine ⟨h1,h2,h3,?_⟩
 rcases h4 with h | h
 ·have:=hn.f1;omega
 ·exact h
theorem qgK (k:Nat):0<=prS caps flows ws (nmS caps flows rates ws) k:=by
 obtain ⟨h1,h2,_,_⟩:=qcN hn hw hfit hr hz hfull
 have h3:=(hw.nn k).1
 have h4:0<=(nmS caps flows rates ws).1*ws.getD k 0:=Int.mul_nonneg h1.1 h3
 unfold prS
 cases caps.getD k 0==0 with
 | true=>show (0:Int)<=1000000000000;omega
 | false=>
  cases decide (qn flows (qA flows) k > 0) with
  | true=>exact Int.tdiv_nonneg (by omega) (by omega)
  | false=>exact Int.le_refl _
theorem qgJ {i t j:Nat} (hi:i < flows.length) (ht:t < (flows.getD i []).length) (hj:j < (pth flows i t).length) :
  (prL caps flows ws (nmS caps flows rates ws)).getD (Int.toNat ((pth flows i t).getD j 0)) 0=cond (caps.getD (Int.toNat ((pth flows i t).getD j 0)) 0==0) 1000000000000 (Int.tdiv ((nmS caps flows rates ws).1*ws.getD (Int.toNat ((pth flows i t).getD j 0)) 0+(nmS caps flows rates ws).2 - 1) (nmS caps flows rates ws).2):=by
 have hl:=hn.link i t j hi ht hj
 unfold prL
 rw [qr _ (by omega)]
 unfold prS
 have h1:qn flows (qA flows) ((pth flows i t).getD j 0).toNat > 0:=by
  have hg2:∀ i' t',i' < flows.length->t' < (flows.getD i' []).length->0<=pk (pth flows i' t') (rt (qA flows) i' t') ((pth flows i t).getD j 0).toNat:=fun i' t' hi' ht'=>by
   have e:rt (qA flows) i' t'=1:=qF _ hi' ht'
   rw [e]
   rcases gI hn hi' ht' ((pth flows i t).getD j 0).toNat with h | ⟨h,_⟩<;>rw [h]<;>omega
  have h1:=jQ (flows.getD i []).length (f:=fun t'=>pk (pth flows i t') (rt (qA flows) i t') ((pth flows i t).getD j 0).toNat) ht (fun t' ht'=>hg2 i t' hi ht')
  have h2:=jQ flows.length (f:=fun i'=>ql (flows.getD i' []).length fun t'=>pk (pth flows i' t') (rt (qA flows) i' t') ((pth flows i t).getD j 0).toNat) hi (fun i' hi'=>jB fun t' ht'=>hg2 i' t' hi' ht')
  have e:rt (qA flows) i t=1:=qF _ hi ht
  simp only [qcO hn hi ht hj,e] at h1
  exact Int.lt_of_lt_of_le (show (0:Int) < 1 by omega) (Int.le_trans h1 h2)
 rw [qd h1]
theorem qfz:Gg flows (scR caps flows rates) (prL caps flows ws (nmS caps flows rates ws))=true:=by
 obtain ⟨h1,h2,h3,_⟩:=qcN hn hw hfit hr hz hfull
 unfold Gg
 refine List.all_eq_true.2 fun i hi=>List.all_eq_true.2 fun t ht=>decide_eq_true ?_
 replace hi:=List.mem_range.1 hi
 replace ht:=List.mem_range.1 ht
 have hx:=(qeW hn hw hfit hr hz hfull hi).1
 have hnd:=Gt hx
 have e:qu ((scR caps flows rates).getD i [])=qo caps flows rates i:=rfl
 rw [e]
 have hP0:∀ j,j < (pth flows i t).length->0<=(prL caps flows ws (nmS caps flows rates ws)).getD (Int.toNat ((pth flows i t).getD j 0)) 0:=fun j hj=>by
  have hl:=hn.link i t j hi ht hj
  unfold prL
  rw [qr _ (by omega)]
  exact qgK hn hw hfit hr hz hfull _
 have key:qt (qo caps flows rates i)<=qj (pth flows i t) (prL caps flows ws (nmS caps flows rates ws)):=by
  cases hu:qS caps (pth flows i t) with
  | true=>
   have hu':=use_iff.1 hu
   have hs:(nmS caps flows rates ws).1*qj (pth flows i t) ws<=qj (pth flows i t) (prL caps flows ws (nmS caps flows rates ws))*(nmS caps flows rates ws).2:=by
    unfold qj
    rw [<- qee,<- G9]
    refine KP fun j hj=>?_
    rw [qgJ hn hw hfit hr hz hfull hi ht hj,show (caps.getD (Int.toNat ((pth flows i t).getD j 0)) 0==0)=false from by rw [qv];exact decide_eq_false (hu' j hj),cond_false]
    have h4:=(hw.nn (Int.toNat ((pth flows i t).getD j 0))).1
    have h5:0<=(nmS caps flows rates ws).1*ws.getD (Int.toNat ((pth flows i t).getD j 0)) 0:=Int.mul_nonneg h1.1 h4
    generalize (nmS caps flows rates ws).1*ws.getD (Int.toNat ((pth flows i t).getD j 0)) 0=a at*
    generalize (nmS caps flows rates ws).2=d at*
    rw [Int.tdiv_eq_ediv_of_nonneg (by omega)]
    have h6:=Int.mul_ediv_add_emod (a+d - 1) d
    have h7:=Int.emod_lt_of_pos (a+d - 1) (show 0 < d by omega)
    rw [Int.mul_comm] at h6
    omega
   obtain ⟨b,hb,hbu,hbe,hbl,_,hl16⟩:=HM hn hw hfit hi
   have hle:qs caps flows ws i<=qj (pth flows i t) ws:=by
    unfold qs
    rw [hbe];exact hbl t ht hu
   have h8:=h3 i hi
   have h9:(nmS caps flows rates ws).1*qs caps flows ws i<=(nmS caps flows rates ws).1*qj (pth flows i t) ws:=Int.mul_le_mul_of_nonneg_left hle h1.1
   have h10:qt (qo caps flows rates i)*(nmS caps flows rates ws).2<=qj (pth flows i t) (prL caps flows ws (nmS caps flows rates ws))*(nmS caps flows rates ws).2:=by omega
   exact Int.le_of_mul_le_mul_right h10 (by omega)
  | false=>
   have hex:∃ j,j < (pth flows i t).length/\caps.getD (Int.toNat ((pth flows i t).getD j 0)) 0=0:=by
    apply Classical.byContradiction
    intro hno
    have:qS caps (pth flows i t)=true:=use_iff.2 fun j hj he=>hno ⟨j,hj,he⟩
    rw [hu] at this;cases this
   obtain ⟨j,hj,he⟩:=hex
   have h4:=jQ (pth flows i t).length (f:=fun j=>(prL caps flows ws (nmS caps flows rates ws)).getD (Int.toNat ((pth flows i t).getD j 0)) 0) hj hP0
   simp only [qgJ hn hw hfit hr hz hfull hi ht hj,he] at h4
   have h5:(1000000000000:Int)<=qj (pth flows i t) (prL caps flows ws (nmS caps flows rates ws)):=h4
   omega
 have:=Int.mul_le_mul_of_nonneg_right key (show 0<=qo caps flows rates i by omega)
 omega
theorem qeY:gy caps flows (scR caps flows rates) (prL caps flows ws (nmS caps flows rates ws))=true:=by
 unfold gy
 rw [qeP hn hr hz,qfz hn hw hfit hr hz hfull];rfl
end
end Go.Proofs.Ytpfphfobneehmaa
