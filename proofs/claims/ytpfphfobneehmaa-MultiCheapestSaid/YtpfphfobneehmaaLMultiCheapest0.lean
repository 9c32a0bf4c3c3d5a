/- MultiCheapest: it returns true at every input; no conditions. -/
import Derived.Test.YtpfphfobneehmaaG7
import Derived.Test.YtpfphfobneehmaaRows
import Derived.ProofKit
set_option linter.all false
namespace Go.TM
open Go Go.AM
@[simp] theorem qh {α:Type} (x:α):ok (some x)=true:=rfl
@[simp] theorem qi {α:Type} [Inhabited α] (x:α):val (some x)=x:=rfl
@[simp] theorem qR {α β:Type} (x:β):isL (some (.inr x:α ⊕ β))=false:=rfl
@[simp] theorem qJ {α β:Type} (x:β):zn (some (.inr x:α ⊕ β))=some x:=rfl
theorem qr {α:Type} (b:Bool) (x y:α):cond (!b) x y=cond b y x:=by cases b<;>rfl
theorem ql {x:Int} (h1:-9223372036854775808≤x) (h2:x≤9223372036854775807):wI x=x:=by
 simp [wI,wU,IntKind.wrap,IntKind.bits,IntKind.signed]
 omega
theorem up1 {i:Nat} (h:i < 9223372036854775807):wI ((i:Int)+1)=((i+1:Nat):Int):=by rw [ql (by omega) (by omega)];omega
theorem dn1 {i:Nat} (h0:0 < i) (h:i≤9223372036854775807):wI ((i:Int) - 1)=((i - 1:Nat):Int):=by rw [ql (by omega) (by omega)];omega
theorem qM {α:Type} {l:List α} {i:Nat} (h:i < l.length) (d:α):l.drop i=l.getD i d::l.drop (i+1):=by
 rw [List.drop_eq_getElem_cons h]
 congr 1
 simp [List.getD,List.getElem?_eq_getElem h]
theorem qs {α:Type} {l:List α} {i:Nat} (h:i < l.length) (d:α):l.getD i d∈l:=by
 have:l.getD i d=l[i]:=by simp [List.getD,List.getElem?_eq_getElem h]
 rw [this];exact List.getElem_mem h
abbrev Len {α:Type} (l:List α):Prop:=l.length≤9223372036854775807
theorem q0 (p q:Prop) [Decidable p] [Decidable q]:cond (decide p) (some (decide q)) (some false)=some (decide (p∧q)):=by
 by_cases h:p<;>simp [h]
theorem bne_dec (x y:Int):(x != y)=!decide (x=y):=rfl
theorem beq_dec (x y:Int):(x==y)=decide (x=y):=rfl
theorem qm {m:Nat} (hm:m≤9223372036854775807) (F:Nat→Int→Option (Bool ⊕ Unit)) (g:Nat→Bool)
  (hs:∀ n (i:Nat),i < m→F (n+1) (i:Int)=cond (g i) (F n ((i+1:Nat):Int)) (some (.inl false))) (he:∀ n,F (n+1) (m:Int)=some (.inr ())) :
  F FU 0=some (cond ((List.range m).all g) (.inr ()) (.inl false)):=by
 have key:∀ (k n i:Nat),i+k=m→k < n→F n (i:Int)=some (cond ((List.range' i k).all g) (.inr ()) (.inl false)):=by
  intro k
  induction k with
  | zero=>
   intro n i h1 h2
   cases n with
   | zero=>omega
   | succ n=>
    have:i=m:=by omega
    subst this
    rw [he];rfl
  | succ k ih=>
   intro n i h1 h2
   cases n with
   | zero=>omega
   | succ n=>
    rw [hs n i (by omega),ih n (i+1) (by omega) (by omega),List.range'_succ,List.all_cons]
    cases g i<;>rfl
 have:=key m FU 0 (by omega) (by unfold FU;omega)
 rw [List.range_eq_range']
 exact this
theorem jm {m:Nat} (hm:m≤9223372036854775807) (F:Nat→Int→Option (Bool ⊕ Unit)) (g:Nat→Bool)
  (hs:∀ n (i:Nat),i < m→F (n+1) (i:Int)=cond (g i) (some (.inl true)) (F n ((i+1:Nat):Int))) (he:∀ n,F (n+1) (m:Int)=some (.inr ())) :
  F FU 0=some (cond ((List.range m).any g) (.inl true) (.inr ())):=by
 have key:∀ (k n i:Nat),i+k=m→k < n→F n (i:Int)=some (cond ((List.range' i k).any g) (.inl true) (.inr ())):=by
  intro k
  induction k with
  | zero=>
   intro n i h1 h2
   cases n with
   | zero=>omega
   | succ n=>
    have:i=m:=by omega
    subst this
    rw [he];rfl
  | succ k ih=>
   intro n i h1 h2
   cases n with
   | zero=>omega
   | succ n=>
    rw [hs n i (by omega),ih n (i+1) (by omega) (by omega),List.range'_succ,List.any_cons]
    cases g i<;>rfl
 have:=key m FU 0 (by omega) (by unfold FU;omega)
 rw [List.range_eq_range']
 exact this
theorem ji {m:Nat} (hm:m≤9223372036854775807) (F:Nat→Int→Option (Int ⊕ Unit)) (g:Nat→Bool)
  (hs:∀ n (i:Nat),i < m→F (n+1) (i:Int)=cond (g i) (some (.inl (i:Int))) (F n ((i+1:Nat):Int))) (he:∀ n,F (n+1) (m:Int)=some (.inr ())) :
  (∃ j:Nat,j < m∧F FU 0=some (.inl (j:Int))∧g j=true∧∀ i,i < j→g i=false)∨(F FU 0=some (.inr ())∧∀ i,i < m→g i=false):=by
 have key:∀ (k n i:Nat),i+k=m→k < n→(∃ j:Nat,i≤j∧j < m∧F n (i:Int)=some (.inl (j:Int))∧g j=true∧∀ x,i≤x→x < j→g x=false)∨(F n (i:Int)=some (.inr ())∧∀ x,i≤x→x < m→g x=false):=by
  intro k
  induction k with
  | zero=>
   intro n i h1 h2
   cases n with
   | zero=>omega
   | succ n=>
    have:i=m:=by omega
    subst this
    exact .inr ⟨he n,fun x h1 h2=>by omega⟩
  | succ k ih=>
   intro n i h1 h2
   cases n with
   | zero=>omega
   | succ n=>
    rw [hs n i (by omega)]
    cases hg:g i with
    | true=>exact .inl ⟨i,Nat.le_refl _,by omega,rfl,hg,fun x h1 h2=>by omega⟩
    | false=>
     rcases ih n (i+1) (by omega) (by omega) with ⟨j,h3,h4,h5,h6,h7⟩ | ⟨h3,h4⟩
     ·refine .inl ⟨j,by omega,h4,h5,h6,fun x hx1 hx2=>?_⟩
      by_cases e:x=i
      ·rw [e];exact hg
      ·exact h7 x (by omega) hx2
     ·refine .inr ⟨h3,fun x hx1 hx2=>?_⟩
      by_cases e:x=i
      ·rw [e];exact hg
      ·exact h4 x (by omega) hx2
 rcases key m FU 0 (by omega) (by unfold FU;omega) with ⟨j,h3,h4,h5,h6,h7⟩ | ⟨h3,h4⟩
 ·exact .inl ⟨j,h4,h5,h6,fun x hx=>h7 x (by omega) hx⟩
 ·exact .inr ⟨h3,fun x hx=>h4 x (by omega) hx⟩
theorem qo {α:Type} (l:List α) (d:α) (p:α→Bool):(List.range l.length).all (fun i=>p (l.getD i d))=l.all p:=by
 apply Bool.eq_iff_iff.2
 simp only [List.all_eq_true,List.mem_range]
 constructor
 ·intro h x hx
  obtain ⟨i,hi,rfl⟩:=List.getElem_of_mem hx
  have:=h i hi
  simpa [List.getD,List.getElem?_eq_getElem hi] using this
 ·intro h i hi
  exact h _ (qs hi d)
theorem qO {α:Type} (l:List α) (d:α) (p:α→Bool):(List.range l.length).any (fun i=>p (l.getD i d))=l.any p:=by
 apply Bool.eq_iff_iff.2
 simp only [List.any_eq_true,List.mem_range]
 constructor
 ·rintro ⟨i,hi,h⟩;exact ⟨_,qs hi d,h⟩
 ·rintro ⟨x,hx,h⟩
  obtain ⟨i,hi,rfl⟩:=List.getElem_of_mem hx
  exact ⟨i,hi,by simpa [List.getD,List.getElem?_eq_getElem hi] using h⟩
end Go.TM
namespace Go.Proofs.Ytpfphfobneehmaa
open Go Go.AM Go.TM Go.Proofs
abbrev Fl:=List (List (List Int))
def fewF (Fw:Fl):Bool:=Fw.all fun f=>cond (decide (f.length≤20)) (f.all fun l=>decide (l.length≤20)) false
def fewS (Cq:List Int) (Fw:Fl) (Rq:List (List Int)) (Pq:List Int):Bool:=
 decide (Cq.length≤20)&&(decide (Fw.length≤20)&&(decide (Rq.length≤20)&&(decide (Pq.length≤20)&&(fewF Fw&&Rq.all fun l=>decide (l.length≤20)))))
theorem dgt (a:Nat):decide ((a:Int) > 20)=!decide (a≤20):=by
 by_cases h:a≤20
 ·rw [dT h,dF (by omega)];rfl
 ·rw [dF h,dT (by omega)];rfl
structure Few (Cq:List Int) (Fw:Fl) (Rq:List (List Int)) (Pq:List Int):Prop where
 hc:Cq.length≤20
 hf:Fw.length≤20
 hr:Rq.length≤20
 hp:Pq.length≤20
 flow:∀ i,(Fw.getD i []).length≤20
 path:∀ i k,((Fw.getD i []).getD k []).length≤20
 rate:∀ i,(Rq.getD i []).length≤20
theorem few_iff {Cq:List Int} {Fw:Fl} {Rq:List (List Int)} {Pq:List Int} (h:fewS Cq Fw Rq Pq=true):Few Cq Fw Rq Pq:=by
 unfold fewS fewF at h
 simp only [Bool.and_eq_true,decide_eq_true_eq] at h
 obtain ⟨h1,h2,h3,h4,h5,h6⟩:=h
 have hf:∀ i,(Fw.getD i []).length≤20∧∀ k,((Fw.getD i []).getD k []).length≤20:=by
  intro i
  by_cases hi:i < Fw.length
  ·have:=List.all_eq_true.1 h5 _ (qs hi [])
   by_cases hl:(Fw.getD i []).length≤20
   ·rw [dT hl] at this
    simp only [cond_true] at this
    refine ⟨hl,fun k=>?_⟩
    by_cases hk:k < (Fw.getD i []).length
    ·simpa using List.all_eq_true.1 this _ (qs hk [])
    ·rw [List.getD_eq_getElem?_getD (l:=Fw.getD i []),List.getElem?_eq_none (by omega)];simp
   ·rw [dF hl] at this;cases this
  ·rw [List.getD_eq_getElem?_getD,List.getElem?_eq_none (by omega)];simp
 refine ⟨h1,h2,h3,h4,fun i=>(hf i).1,fun i=>(hf i).2,fun i=>?_⟩
 by_cases hi:i < Rq.length
 ·simpa using List.all_eq_true.1 h6 _ (qs hi [])
 ·rw [List.getD_eq_getElem?_getD,List.getElem?_eq_none (by omega)];simp
def qx (links:Int):Int→List Int→Bool
 | _,[]=>true
 | last,k::r=>cond (decide (last < k∧k < links)) (qx links k r) false
def qt (l:List Int) (links:Int):Bool:=cond (qx links (-1) l) (decide (1≤l.length∧l.length≤6)) false
def qI (Cq:List Int):Bool:=Cq.all fun n=>decide (0≤n∧n≤1000)
def qw (links:Int) (f:List (List Int)):Bool:=cond (decide (1≤f.length∧f.length≤4)) (f.all fun l=>qt l links) false
def qq (Cq:List Int) (Fw:Fl):Bool:=
 decide (1≤Cq.length∧Cq.length≤8)&&(decide (1≤Fw.length∧Fw.length≤8)&&(qI Cq&&Fw.all (qw Cq.length)))
end Go.Proofs.Ytpfphfobneehmaa
namespace Go.TM
open Go Go.AM
theorem qz {m:Nat} (hm:m≤9223372036854775807) {σ ρ:Type} (F:Nat→Int→σ→Option ρ) (g:Nat→σ) (r:ρ)
  (hs:∀ n (i:Nat),i < m→F (n+1) (i:Int) (g i)=F n ((i+1:Nat):Int) (g (i+1))) (he:∀ n,F (n+1) (m:Int) (g m)=some r):F FU 0 (g 0)=some r:=by
 have key:∀ (k n i:Nat),i+k=m→k < n→F n (i:Int) (g i)=some r:=by
  intro k
  induction k with
  | zero=>
   intro n i h1 h2
   cases n with
   | zero=>omega
   | succ n=>rw [show i=m by omega];exact he n
  | succ k ih=>
   intro n i h1 h2
   cases n with
   | zero=>omega
   | succ n=>rw [hs n i (by omega)];exact ih n (i+1) (by omega) (by omega)
 exact key m FU 0 (by omega) (by unfold FU;omega)
theorem q9 {m:Nat} (hm:m≤9223372036854775807) (F:Nat→Int→Option (Int ⊕ Unit)) (g:Nat→Bool)
  (hs:∀ n (i:Nat),i < m→F (n+1) (i:Int)=cond (g i) (some (.inl (i:Int))) (F n ((i+1:Nat):Int))) (he:∀ n,F (n+1) (m:Int)=some (.inr ())) :
  ∃ j:Int,cond (isL (F FU 0)) (some (zz (F FU 0))) (cond (ok (zn (F FU 0))) (some (-1:Int)) none)=some j∧decide (j≥0)=(List.range m).any g:=by
 rcases ji hm F g hs he with ⟨j,h1,h2,h3,_⟩ | ⟨h2,h3⟩
 ·refine ⟨(j:Int),by rw [h2];rfl,?_⟩
  rw [decide_eq_true (show (j:Int)≥0 by omega),eq_comm,List.any_eq_true]
  exact ⟨j,List.mem_range.2 h1,h3⟩
 ·refine ⟨-1,by rw [h2];rfl,?_⟩
  rw [decide_eq_false (show ¬ (-1:Int)≥0 by omega),eq_comm,List.any_eq_false]
  intro x hx
  rw [h3 x (List.mem_range.1 hx)];simp
def qd:Nat→(Nat→Int)→Int
 | 0,_=>0
 | n+1,f=>qd n f+f n
theorem qH {n:Nat} {f g:Nat→Int} (h:∀ i,i < n→f i≤g i):qd n f≤qd n g:=by
 induction n with
 | zero=>exact Int.le_refl _
 | succ n ih=>exact Int.add_le_add (ih fun i hi=>h i (by omega)) (h n (by omega))
theorem qn {n:Nat} {f g:Nat→Int} (h:∀ i,i < n→f i=g i):qd n f=qd n g:=by
 induction n with
 | zero=>rfl
 | succ n ih=>simp only [qd];rw [ih fun i hi=>h i (by omega),h n (by omega)]
theorem qU (n:Nat) (c:Int):qd n (fun _=>c)=n*c:=by
 induction n with
 | zero=>simp [qd]
 | succ n ih=>simp only [qd];rw [ih];push_cast;rw [Int.add_mul];omega
theorem qG (n:Nat):qd n (fun _=>0)=0:=by rw [qU];simp
theorem ja {n:Nat} {f:Nat→Int} (h:∀ i,i < n→0≤f i):0≤qd n f:=by
 have:=qH (n:=n) (f:=fun _=>0) (g:=f) h
 rw [qG] at this;exact this
theorem qB {n m:Nat} {f:Nat→Int} {c:Int} (hn:n≤m) (h:∀ i,i < n→0≤f i∧f i≤c) (hc:0≤c):0≤qd n f∧qd n f≤m*c:=by
 refine ⟨ja fun i hi=>(h i hi).1,?_⟩
 have:=qH (n:=n) (f:=f) (g:=fun _=>c) fun i hi=>(h i hi).2
 rw [qU] at this
 exact Int.le_trans this (Int.mul_le_mul_of_nonneg_right (by omega) hc)
theorem qV {p x c:Int} (hp:0 < p) (hx:0≤x) (hc:0 < c):x < Int.tdiv (c+p - 1) p↔p*x < c:=by
 rw [Int.tdiv_eq_ediv_of_nonneg (by omega)]
 have h1:=Int.mul_ediv_add_emod (c+p - 1) p
 have h2:=Int.emod_nonneg (c+p - 1) (show p≠0 by omega)
 have h3:=Int.emod_lt_of_pos (c+p - 1) hp
 constructor
 ·intro h
  have h4:p*(x+1)≤p*((c+p - 1) / p):=Int.mul_le_mul_of_nonneg_left (by omega) (by omega)
  rw [Int.mul_add,Int.mul_one] at h4
  omega
 ·intro h
  apply Int.lt_of_not_ge
  intro h4
  have h5:p*((c+p - 1) / p)≤p*x:=Int.mul_le_mul_of_nonneg_left h4 (by omega)
  omega
theorem jc {p c:Int} (hp:0 < p) (hc:0 < c):0≤Int.tdiv (c+p - 1) p∧Int.tdiv (c+p - 1) p≤c:=by
 refine ⟨?_,?_⟩
 ·rw [Int.tdiv_eq_ediv_of_nonneg (by omega)];exact Int.ediv_nonneg (by omega) (by omega)
 ·apply Int.le_of_not_gt
  intro h
  have:=(qV hp (by omega) hc).1 h
  have h2:1*c≤p*c:=Int.mul_le_mul_of_nonneg_right (by omega) (by omega)
  omega
end Go.TM
namespace Go.Proofs.Ytpfphfobneehmaa
open Go Go.AM Go.TM Go.Proofs
theorem qN (a b c:Int):v43 a b c=some (decide (b≤a∧a≤c)):=by
 unfold v43;rw [q0]
theorem qY {α:Type} (l:List α) (d:α) (p:α→Bool):(!(List.range l.length).any fun i=>!p (l.getD i d))=l.all p:=by
 rw [qO l d fun x=>!p x,← qo l d p,qo l d p]
 rw [List.all_eq_not_any_not]
theorem jn (l:List Int) (hl:Len l) (p:Int→Bool) (F:Nat→Int→Option (Int ⊕ Unit))
  (hs:∀ n (i:Nat),i < l.length→F (n+1) (i:Int)=cond (!p (l.getD i 0)) (some (.inl (i:Int))) (F n ((i+1:Nat):Int))) (he:∀ n,F (n+1) (l.length:Int)=some (.inr ())) :
  ∃ j:Int,cond (isL (F FU 0)) (some (zz (F FU 0))) (cond (ok (zn (F FU 0))) (some (-1:Int)) none)=some j∧(!decide (j≥0))=l.all p:=by
 obtain ⟨j,h1,h2⟩:=q9 (m:=l.length) hl F (fun i=>!p (l.getD i 0)) hs he
 exact ⟨j,h1,by rw [h2,qY l 0 p]⟩
theorem v47_eq (l:List Int) (hl:Len l):v47 l=some (qI l):=by
 have hl':l.length≤9223372036854775807:=hl
 obtain ⟨j,h1,h2⟩:=jn l hl (fun n=>decide (0≤n∧n≤1000)) (fun n i=>LaO n l (l.length:Int) i) (fun n i hi=>by
  show LaO (n+1) _ _ _=_
  rw [qLaO,dT (show (i:Int) < (l.length:Int) by omega),dT (show (0:Int)≤(i:Int) by omega),up1 (by omega)]
  unfold v67 v48
  simp only [cond_true,tN,qN,qh,qi]) fun n=>by
  show LaO (n+1) _ _ _=_
  rw [qLaO,dF (show ¬ (l.length:Int) < (l.length:Int) by omega)]
  rfl
 unfold v47 v66 v77 tv77 qI
 rw [h1]
 simp only [qh,qi,cond_true]
 exact congrArg some h2
def upto (m:Int) (l:List Int):Bool:=l.all fun n=>decide (0≤n∧n≤m)
theorem l53 (l:List Int) (links:Int) (hl:Len l):∀ (k n i:Nat) (last:Int),i+k=l.length→k < n→
  LaV n l links last l (l.length:Int) (i:Int)=some (cond (qx links last (l.drop i)) (.inr ()) (.inl false)):=by
 intro k
 induction k with
 | zero=>
  intro n i last h1 h2
  cases n with
  | zero=>omega
  | succ n=>
   rw [qLaV,dF (show ¬ ((i:Int) < (l.length:Int)) by omega),List.drop_of_length_le (show l.length≤i by omega)]
   rfl
 | succ k ih=>
  intro n i last h1 h2
  cases n with
  | zero=>omega
  | succ n=>
   have hi:i < l.length:=by omega
   have hl':l.length≤9223372036854775807:=hl
   rw [qLaV,dT (show (i:Int) < (l.length:Int) by omega),dT (show (0:Int)≤(i:Int) by omega),up1 (by omega)]
   simp only [cond_true,tN]
   rw [qM hi 0,qx,ih n (i+1) _ (by omega) (by omega)]
   by_cases c1:l.getD i 0≤last
   ·rw [dT c1,dF (show ¬ (last < l.getD i 0∧l.getD i 0 < links) by omega)];rfl
   rw [dF c1]
   by_cases c2:l.getD i 0≥links
   ·rw [dT c2,dF (show ¬ (last < l.getD i 0∧l.getD i 0 < links) by omega)];rfl
   rw [dF c2,dT (show last < l.getD i 0∧l.getD i 0 < links by omega)]
   rfl
theorem v53_eq (l:List Int) (links:Int) (hl:Len l):v53 l links=some (qt l links):=by
 unfold v53 tv53 qt
 have h:=l53 l links hl l.length FU 0 (-1) (by omega) (by have:l.length≤9223372036854775807:=hl;unfold FU;omega)
 simp only [Int.natCast_zero,List.drop_zero] at h
 rw [h]
 cases qx links (-1) l with
 | false=>rfl
 | true=>
  simp only [cond_true,qR,qJ,qh,qi,cond_false,qN]
  congr 1
  apply decide_eq_decide.2
  constructor<;>intro h<;>omega
theorem v51_eq (f:List (List Int)) (Cq:List Int) (Fw:Fl) (hl:f.length≤20) (hp:∀ k,(f.getD k []).length≤20):v51 f Cq Fw=some (f.all fun l=>qt l Cq.length):=by
 obtain ⟨j,h1,h2⟩:=q9 (m:=f.length) (by omega) (fun n i=>LaK n f (f.length:Int) i Cq Fw) (fun i=>!qt (f.getD i []) Cq.length) (fun n i hi=>by
  have:=hp i
  show LaK (n+1) _ _ _ _ _=_
  rw [qLaK,dT (show (i:Int) < (f.length:Int) by omega),dT (show (0:Int)≤(i:Int) by omega),up1 (by omega)]
  unfold v71 v52
  simp only [cond_true,tN]
  rw [v53_eq _ _ (show (f.getD i []).length≤9223372036854775807 by omega)]
  simp only [qh,qi,cond_true]) fun n=>by
  show LaK (n+1) _ _ _ _ _=_
  rw [qLaK,dF (show ¬ (f.length:Int) < (f.length:Int) by omega)]
  rfl
 have h3:=qY f [] fun l=>qt l Cq.length
 unfold v51 v70 v79 tv79
 rw [h1]
 simp only [qh,qi,cond_true]
 exact congrArg some ((congrArg (!·) h2).trans h3)
theorem v49_eq (Cq:List Int) (Fw:Fl) (hl:Fw.length≤20) (hf:∀ i,(Fw.getD i []).length≤20) (hp:∀ i k,((Fw.getD i []).getD k []).length≤20):v49 Fw Cq Fw=some (Fw.all (qw Cq.length)):=by
 obtain ⟨j,h1,h2⟩:=q9 (m:=Fw.length) (by omega) (fun n i=>LaM n Fw (Fw.length:Int) i Cq Fw) (fun i=>!qw Cq.length (Fw.getD i [])) (fun n i hi=>by
  show LaM (n+1) _ _ _ _ _=_
  rw [qLaM,dT (show (i:Int) < (Fw.length:Int) by omega),dT (show (0:Int)≤(i:Int) by omega),up1 (by omega)]
  have hv:v50 (Fw.getD i []) Cq Fw=some (qw Cq.length (Fw.getD i [])):=by
   unfold v50 tv50 qw
   rw [qN,v51_eq _ _ _ (hf i) (hp i)]
   by_cases c1:1≤(Fw.getD i []).length∧(Fw.getD i []).length≤4
   ·rw [dT c1,dT (show (1:Int)≤((Fw.getD i []).length:Int)∧((Fw.getD i []).length:Int)≤4 by omega)];rfl
   ·rw [dF c1,dF (show ¬ ((1:Int)≤((Fw.getD i []).length:Int)∧((Fw.getD i []).length:Int)≤4) by omega)];rfl
  unfold v69
  simp only [cond_true,tN,hv,qh,qi]) fun n=>by
  show LaM (n+1) _ _ _ _ _=_
  rw [qLaM,dF (show ¬ (Fw.length:Int) < (Fw.length:Int) by omega)]
  rfl
 have h3:=qY Fw [] fun f=>qw Cq.length f
 unfold v49 v68 v78 tv78
 rw [h1]
 simp only [qh,qi,cond_true]
 exact congrArg some ((congrArg (!·) h2).trans h3)
theorem v28_eq {Cq:List Int} {Fw:Fl} {Rq:List (List Int)} {Pq:List Int} (h:Few Cq Fw Rq Pq):v28 Cq Fw=some (qq Cq Fw):=by
 unfold v28 tv28 qq
 have hc:=h.hc
 rw [qN,qN,v47_eq Cq (show Cq.length≤9223372036854775807 by omega),v49_eq Cq Fw h.hf h.flow h.path]
 simp only [qh,qi,cond_true,qr]
 by_cases c1:1≤Cq.length∧Cq.length≤8
 case neg=>rw [dF c1,dF (show ¬ ((1:Int)≤(Cq.length:Int)∧(Cq.length:Int)≤8) by omega)];rfl
 rw [dT c1,dT (show (1:Int)≤(Cq.length:Int)∧(Cq.length:Int)≤8 by omega)]
 by_cases c2:1≤Fw.length∧Fw.length≤8
 case neg=>rw [dF c2,dF (show ¬ ((1:Int)≤(Fw.length:Int)∧(Fw.length:Int)≤8) by omega)];rfl
 rw [dT c2,dT (show (1:Int)≤(Fw.length:Int)∧(Fw.length:Int)≤8 by omega)]
 simp only [cond_true,Bool.true_and]
 cases qI Cq<;>rfl
def qE (Fw:Fl) (Rq:List (List Int)):Bool:=decide (Rq.length=Fw.length)&&(List.range Rq.length).all fun i=>cond (decide ((Rq.getD i []).length=(Fw.getD i []).length)) (upto 1000000000 (Rq.getD i [])) false
def qv (Cq Pq:List Int):Bool:=decide (Pq.length=Cq.length)&&upto 1000000000000 Pq
theorem qX {α β:Type} (a:List α) (b:List β):((a.length:Int) != (b.length:Int))=!decide (a.length=b.length):=by
 rw [bne_dec]
 congr 1
 apply decide_eq_decide.2
 omega
abbrev pth (Fw:Fl) (i k:Nat):List Int:=(Fw.getD i []).getD k []
abbrev rt (Rq:List (List Int)) (i k:Nat):Int:=(Rq.getD i []).getD k 0
def pk (l:List Int) (r:Int) (k:Nat):Int:=qd l.length fun t=>cond (l.getD t 0==(k:Int)) r 0
def qC (Fw:Fl) (Rq:List (List Int)) (k:Nat):Int:=qd Fw.length fun i=>qd (Fw.getD i []).length fun t=>pk (pth Fw i t) (rt Rq i t) k
def qg (r:List Int):Int:=qd r.length fun t=>r.getD t 0
def qe (l Pq:List Int):Int:=qd l.length fun t=>Pq.getD (Int.toNat (l.getD t 0)) 0
def qp (Cq Pq:List Int):Int:=qd Pq.length fun k=>Pq.getD k 0*Cq.getD k 0
def qu (Cq:List Int) (Fw:Fl) (Rq:List (List Int)):Bool:=(List.range Cq.length).all fun k=>decide (qC Fw Rq k≤1000000*Cq.getD k 0)
def qQ (Fw:Fl) (Rq:List (List Int)) (Pq:List Int):Bool:=(List.range Fw.length).all fun i=>(List.range (Fw.getD i []).length).all fun t=>decide (1000000000000≤qe (pth Fw i t) Pq*qg (Rq.getD i []))
def qA (Cq:List Int) (Fw:Fl) (Rq:List (List Int)) (Pq:List Int):Bool:=qu Cq Fw Rq&&qQ Fw Rq Pq
theorem qD {links:Int}:∀ {l:List Int} {last:Int},qx links last l=true→(∀ j,j < l.length→last < l.getD j 0∧l.getD j 0 < links)∧∀ a b,a < b→b < l.length→l.getD a 0 < l.getD b 0
 | [],last,_=>⟨fun j hj=>absurd hj (Nat.not_lt_zero j),fun a b _ hb=>absurd hb (Nat.not_lt_zero b)⟩
 | x::r,last,h=>by
  unfold qx at h
  by_cases c:last < x∧x < links
  ·rw [dT c] at h
   obtain ⟨h1,h2⟩:=qD h
   refine ⟨fun j hj=>?_,fun a b hab hb=>?_⟩
   ·cases j with
    | zero=>exact c
    | succ j=>
     have:=h1 j (by simpa using hj)
     have e:(x::r).getD (j+1) 0=r.getD j 0:=by simp
     rw [e];omega
   ·cases b with
    | zero=>omega
    | succ b=>
     have e:(x::r).getD (b+1) 0=r.getD b 0:=by simp
     have hb':b < r.length:=by simpa using hb
     rw [e]
     cases a with
     | zero=>exact (h1 b hb').1
     | succ a=>
      have e:(x::r).getD (a+1) 0=r.getD a 0:=by simp
      rw [e]
      exact h2 a b (by omega) hb'
  ·rw [dF c] at h;cases h
structure Ok (Cq:List Int) (Fw:Fl) (Rq:List (List Int)) (Pq:List Int):Prop where
 few:Few Cq Fw Rq Pq
 c1:1≤Cq.length∧Cq.length≤8
 f1:1≤Fw.length∧Fw.length≤8
 cap:∀ k,0≤Cq.getD k 0∧Cq.getD k 0≤1000
 sub:∀ i,i < Fw.length→1≤(Fw.getD i []).length∧(Fw.getD i []).length≤4
 hop:∀ i t,i < Fw.length→t < (Fw.getD i []).length→1≤(pth Fw i t).length∧(pth Fw i t).length≤6
 link:∀ i t j,i < Fw.length→t < (Fw.getD i []).length→j < (pth Fw i t).length→0≤(pth Fw i t).getD j 0∧(pth Fw i t).getD j 0 < (Cq.length:Int)
 inc:∀ i t a b,i < Fw.length→t < (Fw.getD i []).length→a < b→b < (pth Fw i t).length→(pth Fw i t).getD a 0 < (pth Fw i t).getD b 0
 rl:Rq.length=Fw.length
 rli:∀ i,i < Fw.length→(Rq.getD i []).length=(Fw.getD i []).length
 rate:∀ i t,0≤rt Rq i t∧rt Rq i t≤1000000000
 pl:Pq.length=Cq.length
 price:∀ k,0≤Pq.getD k 0∧Pq.getD k 0≤1000000000000
theorem qF {m:Int} (hm:0≤m) {l:List Int} (h:upto m l=true) (k:Nat):0≤l.getD k 0∧l.getD k 0≤m:=by
 by_cases hk:k < l.length
 ·have:=List.all_eq_true.1 h _ (qs hk 0)
  simpa using this
 ·rw [List.getD_eq_getElem?_getD,List.getElem?_eq_none (by omega)]
  exact ⟨Int.le_refl _,hm⟩
theorem ok_of {Cq:List Int} {Fw:Fl} {Rq:List (List Int)} {Pq:List Int} (hf:Few Cq Fw Rq Pq) (h1:qq Cq Fw=true) (h2:qE Fw Rq=true) (h3:qv Cq Pq=true):Ok Cq Fw Rq Pq:=by
 unfold qq at h1
 unfold qE at h2
 unfold qv at h3
 simp only [Bool.and_eq_true,decide_eq_true_eq] at h1 h2 h3
 obtain ⟨hc,hfl,hcs,hfs⟩:=h1
 obtain ⟨hr1,hr2⟩:=h2
 obtain ⟨hp1,hp2⟩:=h3
 have hflow:∀ i,i < Fw.length→(1≤(Fw.getD i []).length∧(Fw.getD i []).length≤4)∧∀ t,t < (Fw.getD i []).length→qt (pth Fw i t) Cq.length=true:=by
  intro i hi
  have:=List.all_eq_true.1 hfs _ (qs hi [])
  unfold qw at this
  by_cases c:1≤(Fw.getD i []).length∧(Fw.getD i []).length≤4
  ·rw [dT c] at this
   exact ⟨c,fun t ht=>List.all_eq_true.1 this _ (qs ht [])⟩
  ·rw [dF c] at this;cases this
 have hpath:∀ i t,i < Fw.length→t < (Fw.getD i []).length→qx Cq.length (-1) (pth Fw i t)=true∧1≤(pth Fw i t).length∧(pth Fw i t).length≤6:=by
  intro i t hi ht
  have:=(hflow i hi).2 t ht
  unfold qt at this
  cases hx:qx Cq.length (-1) (pth Fw i t) with
  | false=>rw [hx] at this;cases this
  | true=>rw [hx] at this;exact ⟨rfl,by simpa using this⟩
 have hrt:∀ i,i < Fw.length→(Rq.getD i []).length=(Fw.getD i []).length∧upto 1000000000 (Rq.getD i [])=true:=by
  intro i hi
  have:=List.all_eq_true.1 hr2 i (List.mem_range.2 (by omega))
  by_cases c:(Rq.getD i []).length=(Fw.getD i []).length
  ·rw [dT c] at this;exact ⟨c,this⟩
  ·rw [dF c] at this;cases this
 refine ⟨hf,hc,hfl,fun k=>qF (by omega) hcs k,fun i hi=>(hflow i hi).1,fun i t hi ht=>(hpath i t hi ht).2,fun i t j hi ht hj=>?_,fun i t a b hi ht hab hb=>(qD (hpath i t hi ht).1).2 a b hab hb,hr1,fun i hi=>(hrt i hi).1,fun i t=>?_,hp1,fun k=>qF (by omega) hp2 k⟩
 ·have:=(qD (hpath i t hi ht).1).1 j hj
  omega
 ·by_cases hi:i < Fw.length
  ·exact qF (by omega) (hrt i hi).2 t
  ·have e:Rq.getD i []=[]:=by rw [List.getD_eq_getElem?_getD,List.getElem?_eq_none (by omega)];rfl
   show 0≤(Rq.getD i []).getD t 0∧(Rq.getD i []).getD t 0≤_
   rw [e];simp
section
variable {Cq : List Int} {Fw : Fl} {Rq : List (List Int)} {Pq : List Int} (h : Ok Cq Fw Rq Pq)
include h
theorem pk_bd {l:List Int} {r:Int} (hl:l.length≤20) (hr:0≤r∧r≤1000000000) (k:Nat):0≤pk l r k∧pk l r k≤20*1000000000:=by
 unfold pk
 exact qB hl (fun t _=>by cases (l.getD t 0==(k:Int))<;>simp<;>omega) (by omega)
theorem q8 {i j:Nat} (hj:j≤20) (k:Nat):0≤qd j (fun t=>pk (pth Fw i t) (rt Rq i t) k)∧qd j (fun t=>pk (pth Fw i t) (rt Rq i t) k)≤20*(20*1000000000):=
 qB hj (fun t _=>pk_bd h (h.few.path i t) (h.rate i t) k) (by omega)
theorem load_bd {j:Nat} (hj:j≤20) (k:Nat):0≤qd j (fun i=>qd (Fw.getD i []).length fun t=>pk (pth Fw i t) (rt Rq i t) k)∧qd j (fun i=>qd (Fw.getD i []).length fun t=>pk (pth Fw i t) (rt Rq i t) k)≤20*(20*(20*1000000000)):=
 qB hj (fun i _=>q8 h (h.few.flow i) k) (by omega)
theorem jj {i j:Nat} (hj:j≤20):0≤qd j (fun t=>rt Rq i t)∧qd j (fun t=>rt Rq i t)≤20*1000000000:=
 qB hj (fun t _=>h.rate i t) (by omega)
theorem q6 {i t j:Nat} (hj:j≤20):0≤qd j (fun x=>Pq.getD (Int.toNat ((pth Fw i t).getD x 0)) 0)∧qd j (fun x=>Pq.getD (Int.toNat ((pth Fw i t).getD x 0)) 0)≤20*1000000000000:=
 qB hj (fun x _=>h.price _) (by omega)
theorem qL {i t:Nat}:0≤qe (pth Fw i t) Pq∧qe (pth Fw i t) Pq≤20*1000000000000:=q6 h (h.few.path i t)
theorem qP (i:Nat):0≤qg (Rq.getD i [])∧qg (Rq.getD i [])≤20*1000000000:=jj h (i:=i) (h.few.rate i)
theorem qW {j:Nat} (hj:j≤20):0≤qd j (fun k=>Pq.getD k 0*Cq.getD k 0)∧qd j (fun k=>Pq.getD k 0*Cq.getD k 0)≤20*(1000000000000*1000):=
 qB hj (fun k _=>by
  have hp:=h.price k
  have hc:=h.cap k
  exact ⟨Int.mul_nonneg hp.1 hc.1,Int.le_trans (Int.mul_le_mul_of_nonneg_right hp.2 hc.1) (Int.mul_le_mul_of_nonneg_left hc.2 (by omega))⟩) (by omega)
end
def gapS (Cq:List Int) (Fw:Fl) (Rq:List (List Int)) (Pq:List Int):Int×Int:=
 cond (qq Cq Fw&&(qE Fw Rq&&qv Cq Pq)) (cond (qA Cq Fw Rq Pq) (cond (decide (max 0 (qp Cq Pq - 1000000*(Fw.length:Int))≤1000000000000)) (max 0 (qp Cq Pq - 1000000*(Fw.length:Int)),0) (0,3)) (0,17)) (0,1)
def qT (Cq:List Int) (Fw:Fl) (Rq:List (List Int)) (Pq:List Int) (gap:Int):Bool:=
 decide ((gapS Cq Fw Rq Pq).2=0∧(gapS Cq Fw Rq Pq).1≤gap∧gap≤1000000000000)
theorem qS {n p:Nat} {f:Nat→Int} (hp:p < n) (h:∀ i,i < n→i≠p→f i=0):qd n f=f p:=by
 induction n with
 | zero=>omega
 | succ n ih=>
  simp only [qd]
  by_cases e:n=p
  ·subst e
   rw [qn (g:=fun _=>0) fun i hi=>h i (by omega) (by omega),qG];omega
  ·rw [ih (by omega) fun i hi hne=>h i (by omega) hne,h n (by omega) e];omega
theorem qf {α:Type} {p:Prop} {inst:Decidable p} (h:p) (a b:α):cond (@decide p inst) a b=a:=by rw [dT h];rfl
theorem qj {α:Type} {p:Prop} {inst:Decidable p} (h:¬ p) (a b:α):cond (@decide p inst) a b=b:=by rw [dF h];rfl
structure Nw (Cq:List Int) (Fw:Fl):Prop where
 c1:1≤Cq.length∧Cq.length≤8
 f1:1≤Fw.length∧Fw.length≤8
 cap:∀ k,0≤Cq.getD k 0∧Cq.getD k 0≤1000
 sub:∀ i,i < Fw.length→1≤(Fw.getD i []).length∧(Fw.getD i []).length≤4
 hop:∀ i t,i < Fw.length→t < (Fw.getD i []).length→1≤(pth Fw i t).length∧(pth Fw i t).length≤6
 link:∀ i t j,i < Fw.length→t < (Fw.getD i []).length→j < (pth Fw i t).length→0≤(pth Fw i t).getD j 0∧(pth Fw i t).getD j 0 < (Cq.length:Int)
 inc:∀ i t a b,i < Fw.length→t < (Fw.getD i []).length→a < b→b < (pth Fw i t).length→(pth Fw i t).getD a 0 < (pth Fw i t).getD b 0
theorem nw_of {Cq:List Int} {Fw:Fl} (h1:qq Cq Fw=true):Nw Cq Fw:=by
 unfold qq at h1
 simp only [Bool.and_eq_true,decide_eq_true_eq] at h1
 obtain ⟨hc,hfl,hcs,hfs⟩:=h1
 have hflow:∀ i,i < Fw.length→(1≤(Fw.getD i []).length∧(Fw.getD i []).length≤4)∧∀ t,t < (Fw.getD i []).length→qt (pth Fw i t) Cq.length=true:=by
  intro i hi
  have:=List.all_eq_true.1 hfs _ (qs hi [])
  unfold qw at this
  by_cases c:1≤(Fw.getD i []).length∧(Fw.getD i []).length≤4
  ·rw [dT c] at this
   exact ⟨c,fun t ht=>List.all_eq_true.1 this _ (qs ht [])⟩
  ·rw [dF c] at this;cases this
 have hpath:∀ i t,i < Fw.length→t < (Fw.getD i []).length→qx Cq.length (-1) (pth Fw i t)=true∧1≤(pth Fw i t).length∧(pth Fw i t).length≤6:=by
  intro i t hi ht
  have:=(hflow i hi).2 t ht
  unfold qt at this
  cases hx:qx Cq.length (-1) (pth Fw i t) with
  | false=>rw [hx] at this;cases this
  | true=>rw [hx] at this;exact ⟨rfl,by simpa using this⟩
 refine ⟨hc,hfl,fun k=>qF (by omega) hcs k,fun i hi=>(hflow i hi).1,fun i t hi ht=>(hpath i t hi ht).2,fun i t j hi ht hj=>?_,fun i t a b hi ht hab hb=>(qD (hpath i t hi ht).1).2 a b hab hb⟩
 have:=(qD (hpath i t hi ht).1).1 j hj
 omega
structure Wt (n:Nat) (ws:List Int):Prop where
 len:ws.length=n
 bd:∀ k,k < n→16≤ws.getD k 0∧ws.getD k 0≤1048576
theorem v29_eq {l w:List Int} (hl:l.length≤20) (hk:∀ j,j < l.length→0≤l.getD j 0∧l.getD j 0 < (w.length:Int)) (hw:∀ k,0≤w.getD k 0∧w.getD k 0≤1000000000000):v29 l w=some (qe l w):=by
 have h0:LaJ FU w 0 l (l.length:Int) 0=some (qe l w):=by
  refine qz (m:=l.length) (by omega) (fun n j (s:Int)=>LaJ n w s l (l.length:Int) j)
   (fun j=>qd j fun x=>w.getD (Int.toNat (l.getD x 0)) 0) (qe l w) (fun n j hj=>?_) fun n=>?_
  ·show LaJ (n+1) _ _ _ _ _=LaJ n _ _ _ _ _
   have hb:=qB (n:=j+1) (m:=20) (f:=fun x=>w.getD (Int.toNat (l.getD x 0)) 0) (c:=1000000000000) (by omega) (fun x _=>hw _) (by omega)
   have hkj:=hk j hj
   have hs:qd (j+1) (fun x=>w.getD (Int.toNat (l.getD x 0)) 0)=qd j (fun x=>w.getD (Int.toNat (l.getD x 0)) 0)+w.getD (Int.toNat (l.getD j 0)) 0:=rfl
   rw [qLaJ,qf (show (j:Int) < (l.length:Int) by omega),qf (show (0:Int)≤(j:Int) by omega),up1 (by omega)]
   simp only [tN]
   rw [qf (show (j:Int) < (l.length:Int) by omega),qf hkj.1,qf hkj.2,← hs,ql (by omega) (by omega)]
  ·show LaJ (n+1) _ _ _ _ _=_
   rw [qLaJ,qj (show ¬ (l.length:Int) < (l.length:Int) by omega)]
   rfl
 unfold v29 tv29
 rw [h0];rfl
section
variable {Cq : List Int} {Fw : Fl} (hn : Nw Cq Fw)
include hn
end
def btF (f:List (List Int)) (l:List Int) (j:Nat) (s:Int×Int):Int×Int:=
 cond (decide (s.2 < 0)) ((j:Int),qe (f.getD j []) l) (cond (decide (qe (f.getD j []) l < s.2)) ((j:Int),qe (f.getD j []) l) s)
def btN (f:List (List Int)) (l:List Int):Nat→Int×Int
 | 0=>(0,-1)
 | j+1=>btF f l j (btN f l j)
theorem q7 {f:List (List Int)} {l:List Int} (h0:∀ j,0≤qe (f.getD j []) l):∀ j,∃ b:Nat,b < j+1∧btN f l (j+1)=((b:Int),qe (f.getD b []) l)∧(∀ t,t < j+1→qe (f.getD b []) l≤qe (f.getD t []) l)∧∀ t,t < b→qe (f.getD b []) l < qe (f.getD t []) l
 | 0=>by
  refine ⟨0,by omega,rfl,fun t ht=>?_,fun t ht=>by omega⟩
  have:t=0:=by omega
  rw [this];exact Int.le_refl _
 | j+1=>by
  obtain ⟨b,h1,h2,h3,h4⟩:=q7 h0 j
  have hb:=h0 b
  show ∃ b:Nat,b < j+1+1∧btF f l (j+1) (btN f l (j+1))=_∧_
  unfold btF
  rw [h2,qj (show ¬ qe (f.getD b []) l < 0 by omega)]
  by_cases c:qe (f.getD (j+1) []) l < qe (f.getD b []) l
  ·rw [qf c]
   refine ⟨j+1,by omega,rfl,fun t ht=>?_,fun t ht=>?_⟩
   ·by_cases e:t=j+1
    ·rw [e];exact Int.le_refl _
    ·have:=h3 t (by omega);omega
   ·have:=h3 t (by omega);omega
  ·rw [qj c]
   refine ⟨b,by omega,rfl,fun t ht=>?_,h4⟩
   by_cases e:t=j+1
   ·rw [e];omega
   ·exact h3 t (by omega)
def askB (Cq:List Int) (Fw:Fl) (l:List Int) (flow:Int):Bool:=qq Cq Fw&&(decide (l.length=Cq.length)&&(decide (0≤flow∧flow < (Fw.length:Int))&&upto 1000000000000 l))
def bestS (Cq:List Int) (Fw:Fl) (l:List Int) (flow:Int):Int×Int×Int:=
 cond (askB Cq Fw l flow) ((btN (Fw.getD flow.toNat []) l (Fw.getD flow.toNat []).length).1,(btN (Fw.getD flow.toNat []) l (Fw.getD flow.toNat []).length).2,0) (0,0,1)
theorem v12_eq {Cq:List Int} {Fw:Fl} {Rq:List (List Int)} {l:List Int} (hf:Few Cq Fw Rq l) (flow:Int):v12 Cq Fw l flow=some (bestS Cq Fw l flow):=by
 have hp:=hf.hp
 unfold v12 tv12 bestS askB
 rw [v28_eq hf,qX]
 simp only [qh,qi,cond_true,qr]
 cases hv:qq Cq Fw with
 | false=>rfl
 | true=>
 rw [cond_true,Bool.true_and]
 by_cases c1:l.length=Cq.length
 case neg=>rw [dF c1];rfl
 rw [dT c1,cond_true,Bool.true_and]
 by_cases c2:flow < 0
 ·rw [qf c2,dF (show ¬ (0≤flow∧flow < (Fw.length:Int)) by omega)];rfl
 rw [qj c2]
 by_cases c3:flow≥(Fw.length:Int)
 ·rw [qf c3,dF (show ¬ (0≤flow∧flow < (Fw.length:Int)) by omega)];rfl
 rw [qj c3,dT (show 0≤flow∧flow < (Fw.length:Int) by omega),Bool.true_and]
 have hn:=nw_of hv
 obtain ⟨i,rfl⟩:∃ i:Nat,flow=(i:Int):=⟨flow.toNat,by omega⟩
 have hi:i < Fw.length:=by omega
 have h0:Lam FU l (i:Int) l (l.length:Int) 0 Cq Fw=some (cond (upto 1000000000000 l) (.inr ()) (.inl (0,0,1))):=by
  have key:∀ k n j,j+k=l.length→k < n→Lam n l (i:Int) l (l.length:Int) (j:Int) Cq Fw=some (cond (upto 1000000000000 (l.drop j)) (.inr ()) (.inl (0,0,1))):=by
   intro k
   induction k with
   | zero=>
    intro n j h1 h2
    cases n with
    | zero=>omega
    | succ n=>rw [qLam,qj (show ¬ (j:Int) < (l.length:Int) by omega),List.drop_of_length_le (by omega)];rfl
   | succ k ih=>
    intro n j h1 h2
    cases n with
    | zero=>omega
    | succ n=>
     rw [qLam,qf (show (j:Int) < (l.length:Int) by omega),qf (show (0:Int)≤(j:Int) by omega),qf (show (j:Int) < (l.length:Int) by omega),up1 (by omega),tN,ih n (j+1) (by omega) (by omega),qM (i:=j) (by omega) 0]
     unfold upto
     rw [List.all_cons]
     by_cases d1:l.getD j 0 < 0
     ·rw [qf d1,dF (show ¬ (0≤l.getD j 0∧l.getD j 0≤1000000000000) by omega)];rfl
     rw [qj d1]
     by_cases d2:l.getD j 0 > 1000000000000
     ·rw [qf d2,dF (show ¬ (0≤l.getD j 0∧l.getD j 0≤1000000000000) by omega)];rfl
     rw [qj d2,dT (show 0≤l.getD j 0∧l.getD j 0≤1000000000000 by omega),Bool.true_and]
  have:=key l.length FU 0 (by omega) (by unfold FU;omega)
  rwa [List.drop_zero] at this
 rw [h0]
 cases hu:upto 1000000000000 l with
 | false=>rfl
 | true=>
 have hub:=fun k=>qF (m:=1000000000000) (by omega) hu k
 have h4:=hn.sub i hi
 have h16:Laf FU l 0 (-1) (Fw.getD i []) ((Fw.getD i []).length:Int) 0=some (btN (Fw.getD i []) l (Fw.getD i []).length):=by
  refine qz (m:=(Fw.getD i []).length) (by omega) (fun n j (s:Int×Int)=>Laf n l s.1 s.2 (Fw.getD i []) ((Fw.getD i []).length:Int) j) (btN (Fw.getD i []) l) _ (fun n j hj=>?_) fun n=>?_
  ·show Laf (n+1) _ _ _ _ _ _=Laf n _ (btF (Fw.getD i []) l j (btN (Fw.getD i []) l j)).1 (btF (Fw.getD i []) l j (btN (Fw.getD i []) l j)).2 _ _ _
   have hp:=hn.hop i j hi hj
   have e1:=v29_eq (l:=(Fw.getD i []).getD j []) (w:=l) (show (pth Fw i j).length≤20 by omega) (fun x hx=>by rw [c1];exact hn.link i j x hi hj hx) hub
   rw [qLaf,qf (show (j:Int) < ((Fw.getD i []).length:Int) by omega),qf (show (0:Int)≤(j:Int) by omega),qf (show (j:Int) < ((Fw.getD i []).length:Int) by omega),up1 (by omega)]
   simp only [tN,e1,qh,qi,cond_true]
   unfold btF
   cases decide ((btN (Fw.getD i []) l j).2 < 0) with
   | true=>rfl
   | false=>
    simp only [cond_false]
    by_cases c:qe ((Fw.getD i []).getD j []) l < (btN (Fw.getD i []) l j).2
    ·rw [qf c,qf c]
    ·rw [qj c,qj c]
  ·show Laf (n+1) _ _ _ _ _ _=_
   rw [qLaf,qj (show ¬ ((Fw.getD i []).length:Int) < ((Fw.getD i []).length:Int) by omega)]
 simp only [cond_true,qR,qJ,qh,cond_false]
 rw [qf (show (0:Int)≤(i:Int) by omega),qf (show (i:Int) < (Fw.length:Int) by omega),tN,h16]
 rfl
theorem l42 (l:List Int) (links:Int) (hl:Len l):∀ (k n i:Nat) (last:Int),i+k=l.length→k < n→(i=0→last=-1)→(0 < i→last=l.getD (i - 1) 0∧0≤last)→
  LaE n l links (i:Int)=some (cond (qx links last (l.drop i)) (.inr ()) (.inl false)):=by
 intro k
 induction k with
 | zero=>
  intro n i last h1 h2 h3 h4
  cases n with
  | zero=>omega
  | succ n=>
   rw [qLaE,dF (show ¬ ((i:Int) < (l.length:Int)) by omega),List.drop_of_length_le (show l.length≤i by omega)]
   rfl
 | succ k ih=>
  intro n i last h1 h2 h3 h4
  cases n with
  | zero=>omega
  | succ n=>
   have hi:i < l.length:=by omega
   have hl':l.length≤9223372036854775807:=hl
   rw [qLaE,dT (show (i:Int) < (l.length:Int) by omega),dT (show (0:Int)≤(i:Int) by omega),up1 (by omega)]
   simp only [cond_true,tN]
   rw [qM hi 0,qx]
   have step:0≤l.getD i 0→LaE n l links ((i+1:Nat):Int)=some (cond (qx links (l.getD i 0) (l.drop (i+1))) (.inr ()) (.inl false)):=fun h0=>ih n (i+1) _ (by omega) (by omega) (by omega) fun _=>⟨by simp,h0⟩
   by_cases c1:l.getD i 0 < 0
   ·rw [dT c1,dF (show ¬ (last < l.getD i 0∧l.getD i 0 < links) by
     rintro ⟨h5,_⟩
     by_cases hz:i=0
     ·rw [h3 hz] at h5;omega
     ·have:=h4 (by omega);omega)]
    rfl
   rw [dF c1]
   by_cases c2:l.getD i 0≥links
   ·rw [dT c2,dF (show ¬ (last < l.getD i 0∧l.getD i 0 < links) by omega)]
    rfl
   rw [dF c2]
   simp only [cond_false]
   by_cases hz:i=0
   ·subst hz
    rw [dF (show ¬ ((0:Nat):Int) > 0 by omega),dT (show last < l.getD 0 0∧l.getD 0 0 < links by rw [h3 rfl];omega)]
    simp only [cond_true,cond_false]
    exact step (by omega)
   ·obtain ⟨h5,h6⟩:=h4 (by omega)
    rw [dT (show (i:Int) > 0 by omega),dn1 (by omega) (by omega),dT (show (0:Int)≤((i - 1:Nat):Int) by omega),dT (show ((i - 1:Nat):Int) < (l.length:Int) by omega)]
    simp only [cond_true,tN]
    by_cases c3:l.getD i 0≤l.getD (i - 1) 0
    ·rw [dT c3,dF (show ¬ (last < l.getD i 0∧l.getD i 0 < links) by omega)];rfl
    ·rw [dF c3,dT (show last < l.getD i 0∧l.getD i 0 < links by omega)]
     simp only [cond_true,cond_false]
     exact step (by omega)
theorem v42_eq (l:List Int) (links:Int) (hl:Len l):v42 l links=some (qt l links):=by
 unfold v42 tv42 qt
 have h:=l42 l links hl l.length FU 0 (-1) (by omega) (by have:l.length≤9223372036854775807:=hl;unfold FU;omega) (fun _=>rfl) (fun h=>by omega)
 simp only [Int.natCast_zero,List.drop_zero] at h
 rw [h]
 cases qx links (-1) l with
 | false=>rfl
 | true=>
  simp only [cond_true,qR,qJ,qh,cond_false,q0]
  congr 1
  apply decide_eq_decide.2
  constructor<;>intro h<;>omega
theorem l24_0 (Cq:List Int) (Fw:Fl) (hl:Cq.length≤20):Laz FU 0 Cq Fw=some (cond (qI Cq) (.inr ()) (.inl false)):=by
 unfold qI
 rw [← qo Cq 0 fun n=>decide (0≤n∧n≤1000)]
 refine qm (m:=Cq.length) (by omega) (fun n j=>Laz n j Cq Fw) _ (fun n i hi=>?_) fun n=>?_
 ·show Laz (n+1) _ _ _=_
  rw [qLaz,dT (show (i:Int) < (Cq.length:Int) by omega),dT (show (0:Int)≤(i:Int) by omega),up1 (by omega)]
  simp only [cond_true,tN]
  by_cases c1:Cq.getD i 0 < 0
  ·rw [dT c1,dF (show ¬ (0≤Cq.getD i 0∧Cq.getD i 0≤1000) by omega)];rfl
  by_cases c2:Cq.getD i 0 > 1000
  ·rw [dF c1,dT c2,dF (show ¬ (0≤Cq.getD i 0∧Cq.getD i 0≤1000) by omega)];rfl
  rw [dF c1,dF c2,dT (show 0≤Cq.getD i 0∧Cq.getD i 0≤1000 by omega)];rfl
 ·show Laz (n+1) _ _ _=_
  rw [qLaz,dF (show ¬ (Cq.length:Int) < (Cq.length:Int) by omega)]
  rfl
theorem l24_32 (x0:Int) (f:List (List Int)) (Cq:List Int) (Fw:Fl) (hl:f.length≤20) (hp:∀ k,(f.getD k []).length≤20):Lag FU x0 f 0 Cq Fw=some (cond (f.all fun l=>qt l Cq.length) (.inr ()) (.inl false)):=by
 rw [← qo f [] fun l=>qt l Cq.length]
 refine qm (m:=f.length) (by omega) (fun n j=>Lag n x0 f j Cq Fw) _ (fun n i hi=>?_) fun n=>?_
 ·show Lag (n+1) _ _ _ _ _=_
  have:=hp i
  rw [qLag,dT (show (i:Int) < (f.length:Int) by omega),dT (show (0:Int)≤(i:Int) by omega),up1 (by omega)]
  simp only [cond_true,tN]
  rw [v42_eq _ _ (show (f.getD i []).length≤9223372036854775807 by omega)]
  simp only [qh,qi,cond_true,qr]
 ·show Lag (n+1) _ _ _ _ _=_
  rw [qLag,dF (show ¬ (f.length:Int) < (f.length:Int) by omega)]
  rfl
theorem l24_16 (Cq:List Int) (Fw:Fl) (hl:Fw.length≤20) (hf:∀ i,(Fw.getD i []).length≤20) (hp:∀ i k,((Fw.getD i []).getD k []).length≤20):Lax FU 0 Cq Fw=some (cond (Fw.all (qw Cq.length)) (.inr ()) (.inl false)):=by
 rw [← qo Fw [] (qw Cq.length)]
 refine qm (m:=Fw.length) (by omega) (fun n j=>Lax n j Cq Fw) _ (fun n i hi=>?_) fun n=>?_
 ·show Lax (n+1) _ _ _=_
  rw [qLax,dT (show (i:Int) < (Fw.length:Int) by omega),dT (show (0:Int)≤(i:Int) by omega),up1 (by omega)]
  simp only [cond_true,tN]
  unfold qw
  rw [l24_32 _ _ _ _ (hf i) (hp i)]
  by_cases c1:((Fw.getD i []).length:Int) < 1
  ·rw [dT c1,dF (show ¬ (1≤(Fw.getD i []).length∧(Fw.getD i []).length≤4) by omega)];rfl
  by_cases c2:((Fw.getD i []).length:Int) > 4
  ·rw [dF c1,dT c2,dF (show ¬ (1≤(Fw.getD i []).length∧(Fw.getD i []).length≤4) by omega)];rfl
  rw [dF c1,dF c2,dT (show 1≤(Fw.getD i []).length∧(Fw.getD i []).length≤4 by omega)]
  simp only [cond_true,cond_false]
  cases (Fw.getD i []).all fun l=>qt l Cq.length<;>rfl
 ·show Lax (n+1) _ _ _=_
  rw [qLax,dF (show ¬ (Fw.length:Int) < (Fw.length:Int) by omega)]
  rfl
theorem v24_eq {Cq:List Int} {Fw:Fl} {Rq:List (List Int)} {Pq:List Int} (h:Few Cq Fw Rq Pq):v24 Cq Fw=some (qq Cq Fw):=by
 unfold v24 tv24 qq
 rw [l24_0 Cq Fw h.hc,l24_16 Cq Fw h.hf h.flow h.path]
 by_cases c1:(Cq.length:Int) < 1
 ·rw [dT c1,dF (show ¬ (1≤Cq.length∧Cq.length≤8) by omega)];rfl
 by_cases c2:(Cq.length:Int) > 8
 ·rw [dF c1,dT c2,dF (show ¬ (1≤Cq.length∧Cq.length≤8) by omega)];rfl
 by_cases c3:(Fw.length:Int) < 1
 ·rw [dF c1,dF c2,dT c3,dF (show ¬ (1≤Fw.length∧Fw.length≤8) by omega)];simp
 by_cases c4:(Fw.length:Int) > 8
 ·rw [dF c1,dF c2,dF c3,dT c4,dF (show ¬ (1≤Fw.length∧Fw.length≤8) by omega)];simp
 rw [dF c1,dF c2,dF c3,dF c4,dT (show 1≤Cq.length∧Cq.length≤8 by omega),dT (show 1≤Fw.length∧Fw.length≤8 by omega)]
 simp only [cond_false,Bool.true_and]
 cases qI Cq with
 | false=>rfl
 | true=>cases Fw.all (qw Cq.length)<;>rfl
theorem v19_eq {Cq:List Int} {Fw:Fl} {Rq:List (List Int)} {Pq:List Int} (h:Few Cq Fw Rq Pq):v19 Cq Fw Rq=some (qE Fw Rq):=by
 have hr:=h.hr
 unfold v19 tv19 qE
 rw [qX]
 simp only [qr]
 by_cases c1:Rq.length=Fw.length
 case neg=>rw [dF c1];rfl
 rw [dT c1]
 have hL:LaF FU Rq 0 Cq Fw=some (cond ((List.range Rq.length).all fun i=>cond (decide ((Rq.getD i []).length=(Fw.getD i []).length)) (upto 1000000000 (Rq.getD i [])) false) (.inr ()) (.inl false)):=by
  refine qm (m:=Rq.length) (by omega) (fun n j=>LaF n Rq j Cq Fw) _ (fun n i hi=>?_) fun n=>?_
  ·show LaF (n+1) _ _ _ _=_
   have hl:=h.rate i
   have h16:Lae FU Rq (i:Int) 0 Cq Fw=some (cond (upto 1000000000 (Rq.getD i [])) (.inr ()) (.inl false)):=by
    unfold upto
    rw [← qo (Rq.getD i []) 0 fun n=>decide (0≤n∧n≤1000000000)]
    refine qm (m:=(Rq.getD i []).length) (by omega) (fun n j=>Lae n Rq (i:Int) j Cq Fw) _ (fun n j hj=>?_) fun n=>?_
    ·show Lae (n+1) _ _ _ _ _=_
     rw [qLae,dT (show (0:Int)≤(i:Int) by omega),dT (show (i:Int) < (Rq.length:Int) by omega)]
     simp only [cond_true,tN]
     rw [dT (show (j:Int) < ((Rq.getD i []).length:Int) by omega),dT (show (0:Int)≤(j:Int) by omega),up1 (by omega)]
     simp only [cond_true]
     by_cases c2:(Rq.getD i []).getD j 0 < 0
     ·rw [dT c2,dF (show ¬ (0≤(Rq.getD i []).getD j 0∧(Rq.getD i []).getD j 0≤1000000000) by omega)];rfl
     by_cases c3:(Rq.getD i []).getD j 0 > 1000000000
     ·rw [dF c2,dT c3,dF (show ¬ (0≤(Rq.getD i []).getD j 0∧(Rq.getD i []).getD j 0≤1000000000) by omega)];rfl
     rw [dF c2,dF c3,dT (show 0≤(Rq.getD i []).getD j 0∧(Rq.getD i []).getD j 0≤1000000000 by omega)];rfl
    ·show Lae (n+1) _ _ _ _ _=_
     rw [qLae,dT (show (0:Int)≤(i:Int) by omega),dT (show (i:Int) < (Rq.length:Int) by omega)]
     simp only [cond_true,tN]
     rw [dF (show ¬ ((Rq.getD i []).length:Int) < ((Rq.getD i []).length:Int) by omega)]
     rfl
   rw [qLaF,dT (show (i:Int) < (Rq.length:Int) by omega),dT (show (0:Int)≤(i:Int) by omega),dT (show (i:Int) < (Fw.length:Int) by omega),up1 (by omega)]
   simp only [cond_true,tN]
   rw [qX,h16]
   simp only [qr]
   cases decide ((Rq.getD i []).length=(Fw.getD i []).length) with
   | false=>rfl
   | true=>cases upto 1000000000 (Rq.getD i [])<;>rfl
  ·show LaF (n+1) _ _ _ _=_
   rw [qLaF,dF (show ¬ (Rq.length:Int) < (Rq.length:Int) by omega)]
   rfl
 rw [hL]
 simp only [cond_true,Bool.true_and]
 cases (List.range Rq.length).all fun i=>cond (decide ((Rq.getD i []).length=(Fw.getD i []).length)) (upto 1000000000 (Rq.getD i [])) false<;>rfl
theorem v37_eq (l:List Int) (hl:l.length≤20) (k:Int):v37 l k=some (l.any (·==k)):=by
 unfold v37 tv37
 have h0:=jm (m:=l.length) (by omega) (fun n j=>LaN n l k j) (fun j=>l.getD j 0==k) (fun n j hj=>by
  show LaN (n+1) _ _ _=_
  rw [qLaN,dT (show (j:Int) < (l.length:Int) by omega),dT (show (0:Int)≤(j:Int) by omega),up1 (by omega)]
  simp only [cond_true,tN]) fun n=>by
  show LaN (n+1) _ _ _=_
  rw [qLaN,dF (show ¬ (l.length:Int) < (l.length:Int) by omega)]
  rfl
 rw [qO l 0 fun x=>x==k] at h0
 rw [h0]
 cases l.any fun x=>x==k<;>rfl
section
variable {Cq : List Int} {Fw : Fl} {Rq : List (List Int)} {Pq : List Int} (h : Ok Cq Fw Rq Pq)
include h
theorem pk_on {i t:Nat} (hi:i < Fw.length) (ht:t < (Fw.getD i []).length) (r:Int) (k:Nat):pk (pth Fw i t) r k=cond ((pth Fw i t).any (·==(k:Int))) r 0:=by
 unfold pk
 cases ha:(pth Fw i t).any (·==(k:Int)) with
 | true=>
  rw [← qO (pth Fw i t) 0 fun x=>x==(k:Int)] at ha
  obtain ⟨p,hp,he⟩:=List.any_eq_true.1 ha
  have hp':=List.mem_range.1 hp
  rw [qS hp' (fun j hj hne=>?_),he]
  have he':(pth Fw i t).getD p 0=(k:Int):=by simpa using he
  have hd:(pth Fw i t).getD j 0≠(k:Int):=by
   intro e
   by_cases hlt:j < p
   ·have:=h.inc i t j p hi ht hlt hp';omega
   ·have:=h.inc i t p j hi ht (by omega) hj;omega
  rw [beq_false_of_ne hd];rfl
 | false=>
  rw [qn (g:=fun _=>0) (fun j hj=>?_),qG];rfl
  have:=List.any_eq_false.1 ha _ (qs hj 0)
  rw [Bool.eq_false_iff.2 this];rfl
theorem l39_16 {i:Nat} (hi:i < Fw.length) (k:Nat) (s:Int) (hs:0≤s∧s≤20*(20*(20*1000000000))) :
  Lal FU Rq (k:Int) s (i:Int) 0 Cq Fw=some (s+qd (Fw.getD i []).length fun t=>pk (pth Fw i t) (rt Rq i t) k):=by
 have h4:=(h.sub i hi).2
 have hrl:=h.rli i hi
 have hr:=h.rl
 have:=qz (m:=(Fw.getD i []).length) (by omega) (fun n j (s:Int)=>Lal n Rq (k:Int) s (i:Int) j Cq Fw) (fun j=>s+qd j fun t=>pk (pth Fw i t) (rt Rq i t) k)
  (s+qd (Fw.getD i []).length fun t=>pk (pth Fw i t) (rt Rq i t) k) (fun n j hj=>?_) fun n=>?_
 ·simp only [qd,Int.add_zero] at this
  exact this
 ·show Lal (n+1) _ _ _ _ _ _ _=Lal n _ _ _ _ _ _ _
  have hb:=q8 h (i:=i) (j:=j+1) (by omega) k
  have hb0:=q8 h (i:=i) (j:=j) (by omega) k
  have hh:=(h.hop i j hi hj).2
  have hp:=pk_on h hi hj (rt Rq i j) k
  have hrt:rt Rq i j=(Rq.getD i []).getD j 0:=rfl
  have hrb:=h.rate i j
  rw [qLal,dT (show (0:Int)≤(i:Int) by omega),dT (show (i:Int) < (Fw.length:Int) by omega)]
  simp only [cond_true,tN]
  rw [dT (show (j:Int) < ((Fw.getD i []).length:Int) by omega),dT (show (0:Int)≤(j:Int) by omega),dT (show (i:Int) < (Rq.length:Int) by omega),dT (show (j:Int) < ((Rq.getD i []).length:Int) by omega),v37_eq _ (show (pth Fw i j).length≤20 by omega),up1 (by omega)]
  simp only [cond_true,qh,qi]
  simp only [qd] at hb ⊢
  rw [hp] at hb ⊢
  cases (pth Fw i j).any (·==(k:Int)) with
  | true=>
   simp only [cond_true] at hb ⊢
   rw [ql (by omega) (by omega)]
   congr 1
   omega
  | false=>simp only [cond_false,Int.add_zero]
 ·show Lal (n+1) _ _ _ _ _ _ _=_
  rw [qLal,dT (show (0:Int)≤(i:Int) by omega),dT (show (i:Int) < (Fw.length:Int) by omega)]
  simp only [cond_true,tN]
  rw [dF (show ¬ ((Fw.getD i []).length:Int) < ((Fw.getD i []).length:Int) by omega)]
  rfl
theorem v39_eq (k:Nat):v39 Cq Fw Rq (k:Int)=some (qC Fw Rq k):=by
 have hf:=h.few.hf
 have h0:Laq FU Rq (k:Int) 0 0 Cq Fw=some (qC Fw Rq k):=by
  refine qz (m:=Fw.length) (by omega) (fun n j (s:Int)=>Laq n Rq (k:Int) s j Cq Fw) (fun j=>qd j fun i=>qd (Fw.getD i []).length fun t=>pk (pth Fw i t) (rt Rq i t) k) (qC Fw Rq k) (fun n i hi=>?_) fun n=>?_
  ·show Laq (n+1) _ _ _ _ _ _=Laq n _ _ _ _ _ _
   rw [qLaq,dT (show (i:Int) < (Fw.length:Int) by omega),l39_16 h hi k _ (load_bd h (by omega) k),up1 (by omega)]
   rfl
  ·show Laq (n+1) _ _ _ _ _ _=_
   rw [qLaq,dF (show ¬ (Fw.length:Int) < (Fw.length:Int) by omega)]
   rfl
 unfold v39
 rw [h0];rfl
theorem v20_eq:v20 Cq Fw Rq=some (qu Cq Fw Rq):=by
 have hc:=h.few.hc
 have h0:LaD FU Rq 0 Cq Fw=some (cond (qu Cq Fw Rq) (.inr ()) (.inl false)):=by
  unfold qu
  refine qm (m:=Cq.length) (by omega) (fun n j=>LaD n Rq j Cq Fw) _ (fun n k hk=>?_) fun n=>?_
  ·show LaD (n+1) _ _ _ _=_
   have hcap:=h.cap k
   have w1:wI (1000000*Cq.getD k 0)=1000000*Cq.getD k 0:=ql (by omega) (by omega)
   rw [qLaD,v39_eq h k,dT (show (k:Int) < (Cq.length:Int) by omega),dT (show (0:Int)≤(k:Int) by omega),up1 (by omega)]
   simp only [cond_true,tN,qh,qi,w1]
   by_cases c:qC Fw Rq k≤1000000*Cq.getD k 0
   ·rw [dT c,dF (show ¬ qC Fw Rq k > 1000000*Cq.getD k 0 by omega)];rfl
   ·rw [dF c,dT (show qC Fw Rq k > 1000000*Cq.getD k 0 by omega)];rfl
  ·show LaD (n+1) _ _ _ _=_
   rw [qLaD,dF (show ¬ (Cq.length:Int) < (Cq.length:Int) by omega)]
   rfl
 unfold v20 tv20
 rw [h0]
 cases qu Cq Fw Rq<;>rfl
theorem jh (i:Nat):v21 (Rq.getD i [])=some (qg (Rq.getD i [])):=by
 have hl:=h.few.rate i
 have h0:Lap FU (Rq.getD i []) 0 0=some (qg (Rq.getD i [])):=by
  refine qz (m:=(Rq.getD i []).length) (by omega) (fun n j (s:Int)=>Lap n (Rq.getD i []) s j) (fun j=>qd j fun t=>rt Rq i t) (qg (Rq.getD i [])) (fun n j hj=>?_) fun n=>?_
  ·show Lap (n+1) _ _ _=Lap n _ _ _
   have hb:=jj h (i:=i) (j:=j+1) (by omega)
   have hrt:rt Rq i j=(Rq.getD i []).getD j 0:=rfl
   simp only [qd] at hb ⊢
   rw [qLap,dT (show (j:Int) < ((Rq.getD i []).length:Int) by omega),dT (show (0:Int)≤(j:Int) by omega),up1 (by omega)]
   simp only [cond_true,tN]
   rw [ql (by omega) (by omega)]
  ·show Lap (n+1) _ _ _=_
   rw [qLap,dF (show ¬ ((Rq.getD i []).length:Int) < ((Rq.getD i []).length:Int) by omega)]
   rfl
 unfold v21
 rw [h0];rfl
end
theorem v30_eq {Cq:List Int} {Fw:Fl} {Rq:List (List Int)} {Pq:List Int} (h:Few Cq Fw Rq Pq):v30 Cq Fw Pq=some (qv Cq Pq):=by
 have hp:=h.hp
 have h0:LaH FU Pq 0 Cq Fw=some (cond (upto 1000000000000 Pq) (.inr ()) (.inl false)):=by
  unfold upto
  rw [← qo Pq 0 fun n=>decide (0≤n∧n≤1000000000000)]
  refine qm (m:=Pq.length) (by omega) (fun n j=>LaH n Pq j Cq Fw) _ (fun n j hj=>?_) fun n=>?_
  ·show LaH (n+1) _ _ _ _=_
   rw [qLaH,dT (show (j:Int) < (Pq.length:Int) by omega),dT (show (0:Int)≤(j:Int) by omega),up1 (by omega)]
   simp only [cond_true,tN]
   by_cases c2:Pq.getD j 0 < 0
   ·rw [dT c2,dF (show ¬ (0≤Pq.getD j 0∧Pq.getD j 0≤1000000000000) by omega)];rfl
   by_cases c3:Pq.getD j 0 > 1000000000000
   ·rw [dF c2,dT c3,dF (show ¬ (0≤Pq.getD j 0∧Pq.getD j 0≤1000000000000) by omega)];rfl
   rw [dF c2,dF c3,dT (show 0≤Pq.getD j 0∧Pq.getD j 0≤1000000000000 by omega)];rfl
  ·show LaH (n+1) _ _ _ _=_
   rw [qLaH,dF (show ¬ (Pq.length:Int) < (Pq.length:Int) by omega)]
   rfl
 unfold v30 tv30 qv
 rw [h0]
 cases upto 1000000000000 Pq with
 | false=>rw [Bool.and_false];rfl
 | true=>
  simp only [cond_true,qR,qJ,qh,cond_false,Bool.and_true]
  congr 1
  rw [beq_dec]
  apply decide_eq_decide.2
  omega
section
variable {Cq : List Int} {Fw : Fl} {Rq : List (List Int)} {Pq : List Int} (h : Ok Cq Fw Rq Pq)
include h
theorem jg {i t:Nat} (hi:i < Fw.length) (ht:t < (Fw.getD i []).length):v23 (pth Fw i t) Pq=some (qe (pth Fw i t) Pq):=by
 have hl:=(h.hop i t hi ht).2
 have h0:Lan FU (pth Fw i t) Pq 0 0=some (qe (pth Fw i t) Pq):=by
  refine qz (m:=(pth Fw i t).length) (by omega) (fun n j (s:Int)=>Lan n (pth Fw i t) Pq s j)
   (fun j=>qd j fun x=>Pq.getD (Int.toNat ((pth Fw i t).getD x 0)) 0) (qe (pth Fw i t) Pq) (fun n j hj=>?_) fun n=>?_
  ·show Lan (n+1) _ _ _ _=Lan n _ _ _ _
   have hk:=h.link i t j hi ht hj
   have hpl:=h.pl
   have hb:=q6 h (i:=i) (t:=t) (j:=j+1) (by omega)
   have hs:qd (j+1) (fun x=>Pq.getD (Int.toNat ((pth Fw i t).getD x 0)) 0)=qd j (fun x=>Pq.getD (Int.toNat ((pth Fw i t).getD x 0)) 0)+Pq.getD (Int.toNat ((pth Fw i t).getD j 0)) 0:=rfl
   rw [qLan,dT (show (j:Int) < ((pth Fw i t).length:Int) by omega),dT (show (0:Int)≤(j:Int) by omega),up1 (by omega)]
   simp only [cond_true,tN]
   rw [dT hk.1,dT (show (pth Fw i t).getD j 0 < (Pq.length:Int) by omega),← hs,ql (by omega) (by omega)]
   rfl
  ·show Lan (n+1) _ _ _ _=_
   rw [qLan,dF (show ¬ ((pth Fw i t).length:Int) < ((pth Fw i t).length:Int) by omega)]
   rfl
 unfold v23
 rw [h0];rfl
theorem l40_16 {i:Nat} (hi:i < Fw.length) (hx:1≤qg (Rq.getD i [])) :
  Laj FU Rq Pq (i:Int) (Int.tdiv (1000000000000+qg (Rq.getD i []) - 1) (qg (Rq.getD i []))) 0 Cq Fw=some (cond ((List.range (Fw.getD i []).length).all fun t=>decide (1000000000000≤qe (pth Fw i t) Pq*qg (Rq.getD i []))) (.inr ()) (.inl false)):=by
 have h4:=(h.sub i hi).2
 refine qm (m:=(Fw.getD i []).length) (by omega) (fun n j=>Laj n Rq Pq (i:Int) (Int.tdiv (1000000000000+qg (Rq.getD i []) - 1) (qg (Rq.getD i []))) j Cq Fw) _ (fun n j hj=>?_) fun n=>?_
 ·show Laj (n+1) _ _ _ _ _ _ _=_
  have hp:=qL h (i:=i) (t:=j)
  have hc:=qV (p:=qg (Rq.getD i [])) (x:=qe (pth Fw i j) Pq) (c:=1000000000000) (by omega) hp.1 (by omega)
  rw [Int.mul_comm] at hc
  rw [qLaj,tN,tN,dT (show (0:Int)≤(i:Int) by omega),dT (show (i:Int) < (Fw.length:Int) by omega),dT (show (j:Int) < ((Fw.getD i []).length:Int) by omega),dT (show (0:Int)≤(j:Int) by omega),up1 (by omega),jg h hi hj,qh,qi]
  simp only [cond_true]
  generalize hP:qe (pth Fw i j) Pq=p at*
  generalize hX:qg (Rq.getD i [])=y at*
  by_cases c:p*y < 1000000000000
  ·rw [dT (hc.2 c),dF (show ¬ 1000000000000≤p*y by omega)];rfl
  ·rw [dF (show ¬ _ from fun e=>c (hc.1 e)),dT (show 1000000000000≤p*y by omega)];rfl
 ·show Laj (n+1) _ _ _ _ _ _ _=_
  rw [qLaj,dT (show (0:Int)≤(i:Int) by omega),dT (show (i:Int) < (Fw.length:Int) by omega)]
  simp only [cond_true,tN]
  rw [dF (show ¬ ((Fw.getD i []).length:Int) < ((Fw.getD i []).length:Int) by omega)]
  rfl
theorem v40_eq:v40 Cq Fw Rq Pq=some (qA Cq Fw Rq Pq):=by
 have hf:=h.few.hf
 have hr:=h.rl
 have h0:Lay FU Rq Pq 0 Cq Fw=some (cond (qQ Fw Rq Pq) (.inr ()) (.inl false)):=by
  unfold qQ
  refine qm (m:=Fw.length) (by omega) (fun n j=>Lay n Rq Pq j Cq Fw) _ (fun n i hi=>?_) fun n=>?_
  ·show Lay (n+1) _ _ _ _ _=_
   have hx:=qP h i
   have hl:=h.sub i hi
   have e1:=jh h i
   have e16:=l40_16 h hi
   rw [qLay,tN,dT (show (i:Int) < (Fw.length:Int) by omega),dT (show (0:Int)≤(i:Int) by omega),dT (show (i:Int) < (Rq.length:Int) by omega),up1 (by omega)]
   generalize v21 (Rq.getD i [])=o1 at*
   subst e1
   rw [qh,qi]
   simp only [cond_true]
   by_cases c:qg (Rq.getD i []) < 1
   ·rw [dT c]
    have hz:qg (Rq.getD i [])=0:=by omega
    have:((List.range (Fw.getD i []).length).all fun t=>decide (1000000000000≤qe (pth Fw i t) Pq*qg (Rq.getD i [])))=false:=by
     rw [Bool.eq_false_iff]
     intro ha
     have:=List.all_eq_true.1 ha 0 (List.mem_range.2 (by omega))
     rw [hz,Int.mul_zero] at this
     simp at this
    rw [this];rfl
   ·have w1:wI (1000000000000+qg (Rq.getD i []))=1000000000000+qg (Rq.getD i []):=ql (by omega) (by omega)
    have w2:wI (1000000000000+qg (Rq.getD i []) - 1)=1000000000000+qg (Rq.getD i []) - 1:=ql (by omega) (by omega)
    have hc2:=jc (p:=qg (Rq.getD i [])) (c:=1000000000000) (by omega) (by omega)
    have w3:wI (Int.tdiv (1000000000000+qg (Rq.getD i []) - 1) (qg (Rq.getD i [])))=Int.tdiv (1000000000000+qg (Rq.getD i []) - 1) (qg (Rq.getD i [])):=ql (by omega) (by omega)
    rw [dF c,dT (show qg (Rq.getD i [])≠0 by omega)]
    simp only [cond_true,cond_false,w1,w2,w3]
    rw [e16 (by omega)]
    cases (List.range (Fw.getD i []).length).all fun t=>decide (1000000000000≤qe (pth Fw i t) Pq*qg (Rq.getD i []))<;>rfl
  ·show Lay (n+1) _ _ _ _ _=_
   rw [qLay,dF (show ¬ (Fw.length:Int) < (Fw.length:Int) by omega)]
   rfl
 unfold v40 tv40 qA
 rw [v20_eq h,h0]
 cases qu Cq Fw Rq with
 | false=>rfl
 | true=>cases qQ Fw Rq Pq<;>rfl
theorem v41_eq:v41 Cq Fw Pq=some (qp Cq Pq):=by
 have hp:=h.few.hp
 have hpl:=h.pl
 have h0:Lar FU Pq 0 0 Cq Fw=some (qp Cq Pq):=by
  refine qz (m:=Pq.length) (by omega) (fun n j (s:Int)=>Lar n Pq s j Cq Fw) (fun j=>qd j fun k=>Pq.getD k 0*Cq.getD k 0) (qp Cq Pq) (fun n k hk=>?_) fun n=>?_
  ·show Lar (n+1) _ _ _ _ _=Lar n _ _ _ _ _
   have hb:=qW h (j:=k+1) (by omega)
   have hb0:=qW h (j:=k) (by omega)
   have hs:qd (k+1) (fun k=>Pq.getD k 0*Cq.getD k 0)=qd k (fun k=>Pq.getD k 0*Cq.getD k 0)+Pq.getD k 0*Cq.getD k 0:=rfl
   have hm0:0≤Pq.getD k 0*Cq.getD k 0:=Int.mul_nonneg (h.price k).1 (h.cap k).1
   rw [qLar,dT (show (k:Int) < (Pq.length:Int) by omega),dT (show (0:Int)≤(k:Int) by omega),dT (show (k:Int) < (Cq.length:Int) by omega),up1 (by omega)]
   simp only [cond_true,tN]
   rw [ql (x:=Pq.getD k 0*Cq.getD k 0) (by omega) (by omega),← hs,ql (by omega) (by omega)]
  ·show Lar (n+1) _ _ _ _ _=_
   rw [qLar,dF (show ¬ (Pq.length:Int) < (Pq.length:Int) by omega)]
   rfl
 unfold v41
 rw [h0];rfl
end
theorem v22_eq {Cq:List Int} {Fw:Fl} {Rq:List (List Int)} {Pq:List Int} (hf:Few Cq Fw Rq Pq) (gap:Int):v22 Cq Fw Rq Pq gap=some (qT Cq Fw Rq Pq gap):=by
 unfold v22 tv22 qT gapS
 rw [v24_eq hf,v19_eq hf,v30_eq hf]
 simp only [qh,qi,cond_true,qr]
 cases h1:qq Cq Fw with
 | false=>rfl
 | true=>
  cases h2:qE Fw Rq with
  | false=>rfl
  | true=>
   cases h3:qv Cq Pq with
   | false=>rfl
   | true=>
    have h:=ok_of hf h1 h2 h3
    have hc:=qW h (j:=Pq.length) hf.hp
    have hfl:=hf.hf
    have hc':0≤qp Cq Pq∧qp Cq Pq≤20*(1000000000000*1000):=hc
    simp only [cond_true,Bool.and_self]
    by_cases c1:gap < 0
    ·rw [dT c1]
     cases qA Cq Fw Rq Pq with
     | false=>simp
     | true=>
      by_cases c:max 0 (qp Cq Pq - 1000000*(Fw.length:Int))≤1000000000000
      ·rw [dT c];simp only [cond_true];rw [dF (by omega)]
      ·rw [dF c];simp
    rw [dF c1]
    by_cases c2:gap > 1000000000000
    ·rw [dT c2]
     cases qA Cq Fw Rq Pq with
     | false=>simp
     | true=>
      by_cases c:max 0 (qp Cq Pq - 1000000*(Fw.length:Int))≤1000000000000
      ·rw [dT c];simp only [cond_true,cond_false];rw [dF (by omega)]
      ·rw [dF c];simp
    rw [dF c2,v40_eq h,v41_eq h]
    have w1:wI (1000000*(Fw.length:Int))=1000000*(Fw.length:Int):=ql (by omega) (by omega)
    have w2:wI (1000000*(Fw.length:Int)+gap)=1000000*(Fw.length:Int)+gap:=ql (by omega) (by omega)
    simp only [qh,qi,cond_true,cond_false,w1,w2]
    cases qA Cq Fw Rq Pq with
    | false=>simp
    | true=>
     simp only [cond_true]
     by_cases c:max 0 (qp Cq Pq - 1000000*(Fw.length:Int))≤1000000000000
     ·rw [dT c]
      simp only [cond_true]
      congr 1
      apply decide_eq_decide.2
      constructor
      ·intro hh
       exact ⟨trivial,show max 0 (qp Cq Pq - 1000000*(Fw.length:Int))≤gap by omega,by omega⟩
      ·intro hh
       have hm:max 0 (qp Cq Pq - 1000000*(Fw.length:Int))≤gap:=hh.2.1
       omega
     ·rw [dF c]
      simp only [cond_false]
      rw [dF (show ¬ qp Cq Pq≤1000000*(Fw.length:Int)+gap by omega)]
      simp
theorem gapS_ok {Cq:List Int} {Fw:Fl} {Rq:List (List Int)} {Pq:List Int} (h:(gapS Cq Fw Rq Pq).2=0) :
  qq Cq Fw=true∧qE Fw Rq=true∧qv Cq Pq=true∧qA Cq Fw Rq Pq=true∧(gapS Cq Fw Rq Pq).1=max 0 (qp Cq Pq - 1000000*(Fw.length:Int)):=by
 unfold gapS at*
 cases h1:qq Cq Fw with
 | false=>rw [h1] at h;simp at h
 | true=>
  cases h2:qE Fw Rq with
  | false=>rw [h1,h2] at h;simp at h
  | true=>
   cases h3:qv Cq Pq with
   | false=>rw [h1,h2,h3] at h;simp at h
   | true=>
    cases h4:qA Cq Fw Rq Pq with
    | false=>rw [h1,h2,h3,h4] at h;simp at h
    | true=>
     rw [h1,h2,h3,h4] at h
     simp only [Bool.and_self,cond_true] at h ⊢
     by_cases c:max 0 (qp Cq Pq - 1000000*(Fw.length:Int))≤1000000000000
     ·rw [dT c];simp
     ·rw [dF c] at h;simp at h
section
variable {Cq : List Int} {Fw : Fl} {Rq : List (List Int)} {Pq : List Int} (h : Ok Cq Fw Rq Pq)
include h
end
theorem l11_16 (Rq:List (List Int)) (Cq:List Int) (Fw:Fl) {i:Nat} (hi:i < Fw.length) (hf:(Fw.getD i []).length≤20) :
  Lai FU Rq (i:Int) 0 Cq Fw=some (cond ((Fw.getD i []).all fun l=>decide (l.length≤20)) (.inr ()) (.inl false)):=by
 rw [← qo (Fw.getD i []) [] fun l=>decide (l.length≤20)]
 refine qm (m:=(Fw.getD i []).length) (by omega) (fun n j=>Lai n Rq (i:Int) j Cq Fw) _ (fun n j hj=>?_) fun n=>?_
 ·show Lai (n+1) _ _ _ _ _=_
  rw [qLai,dT (show (0:Int)≤(i:Int) by omega),dT (show (i:Int) < (Fw.length:Int) by omega)]
  simp only [cond_true,tN]
  rw [dT (show (j:Int) < ((Fw.getD i []).length:Int) by omega),dT (show (0:Int)≤(j:Int) by omega),up1 (by omega),dgt]
  simp only [cond_true,qr]
 ·show Lai (n+1) _ _ _ _ _=_
  rw [qLai,dT (show (0:Int)≤(i:Int) by omega),dT (show (i:Int) < (Fw.length:Int) by omega)]
  simp only [cond_true,tN]
  rw [dF (show ¬ ((Fw.getD i []).length:Int) < ((Fw.getD i []).length:Int) by omega)]
  rfl
theorem l11_0 (Rq:List (List Int)) (Cq:List Int) (Fw:Fl) (hl:Fw.length≤20):LaB FU Rq 0 Cq Fw=some (cond (fewF Fw) (.inr ()) (.inl false)):=by
 unfold fewF
 rw [← qo Fw [] fun f=>cond (decide (f.length≤20)) (f.all fun l=>decide (l.length≤20)) false]
 refine qm (m:=Fw.length) (by omega) (fun n j=>LaB n Rq j Cq Fw) _ (fun n i hi=>?_) fun n=>?_
 ·show LaB (n+1) _ _ _ _=_
  rw [qLaB,dT (show (i:Int) < (Fw.length:Int) by omega),dT (show (0:Int)≤(i:Int) by omega),up1 (by omega),dgt]
  simp only [cond_true,tN,qr]
  by_cases h:(Fw.getD i []).length≤20
  ·rw [dT h,l11_16 Rq Cq Fw hi h]
   simp only [cond_true]
   cases (Fw.getD i []).all fun l=>decide (l.length≤20)<;>rfl
  ·rw [dF h];rfl
 ·show LaB (n+1) _ _ _ _=_
  rw [qLaB,dF (show ¬ (Fw.length:Int) < (Fw.length:Int) by omega)]
  rfl
theorem l11_32 (Rq:List (List Int)) (hl:Rq.length≤20):Lav FU Rq 0=some (cond (Rq.all fun l=>decide (l.length≤20)) (.inr ()) (.inl false)):=by
 rw [← qo Rq [] fun l=>decide (l.length≤20)]
 refine qm (m:=Rq.length) (by omega) (fun n j=>Lav n Rq j) _ (fun n i hi=>?_) fun n=>?_
 ·show Lav (n+1) _ _=_
  rw [qLav,dT (show (i:Int) < (Rq.length:Int) by omega),dT (show (0:Int)≤(i:Int) by omega),up1 (by omega),dgt]
  simp only [cond_true,tN,qr]
 ·show Lav (n+1) _ _=_
  rw [qLav,dF (show ¬ (Rq.length:Int) < (Rq.length:Int) by omega)]
  rfl
theorem v11_eq (Cq:List Int) (Fw:Fl) (Rq:List (List Int)) (Pq:List Int):v11 Cq Fw Rq Pq=some (fewS Cq Fw Rq Pq):=by
 unfold v11 tv11 fewS
 simp only [dgt,qr]
 by_cases h1:Cq.length≤20
 case neg=>rw [dF h1];rfl
 by_cases h2:Fw.length≤20
 case neg=>rw [dT h1,dF h2];rfl
 by_cases h3:Rq.length≤20
 case neg=>rw [dT h1,dT h2,dF h3];rfl
 by_cases h4:Pq.length≤20
 case neg=>rw [dT h1,dT h2,dT h3,dF h4];rfl
 rw [dT h1,dT h2,dT h3,dT h4,l11_0 Rq Cq Fw h2,l11_32 Rq h3]
 simp only [cond_true,Bool.true_and]
 cases fewF Fw with
 | false=>rfl
 | true=>cases Rq.all fun l=>decide (l.length≤20)<;>rfl
theorem v7_true (Cq:List Int) (Fw:Fl) (Rq:List (List Int)) (Pq:List Int) (gap flow:Int):v7 Cq Fw Rq Pq gap flow=some true:=by
 have hv:v10=some true:=rfl
 unfold v7 tv7
 rw [v11_eq]
 simp only [qh,qi,cond_true,qr,hv]
 cases hx:fewS Cq Fw Rq Pq with
 | false=>rfl
 | true=>
 have hf:=few_iff hx
 rw [v22_eq hf]
 simp only [cond_true,qh,qi]
 cases hk:qT Cq Fw Rq Pq gap with
 | false=>rfl
 | true=>
 rw [cond_true]
 by_cases c1:flow < 0
 ·rw [qf c1]
 rw [qj c1]
 by_cases c2:flow≥(Fw.length:Int)
 ·rw [qf c2]
 rw [qj c2]
 obtain ⟨i,rfl⟩:∃ i:Nat,flow=(i:Int):=⟨flow.toNat,by omega⟩
 have hi:i < Fw.length:=by omega
 unfold qT at hk
 obtain ⟨h1,h2,h3,h4,h5⟩:=gapS_ok (of_decide_eq_true hk).1
 have hok:=ok_of hf h1 h2 h3
 have hn:=nw_of h1
 have h3':=h3
 unfold qv at h3'
 rw [Bool.and_eq_true] at h3'
 have e12:v12 Cq Fw Pq (i:Int)=some ((btN (Fw.getD i []) Pq (Fw.getD i []).length).1,(btN (Fw.getD i []) Pq (Fw.getD i []).length).2,0):=by
  rw [v12_eq hf]
  unfold bestS askB
  rw [h1,h3'.1,h3'.2,dT (show (0:Int)≤(i:Int)∧(i:Int) < (Fw.length:Int) by omega),tN]
  rfl
 have hsub:=hn.sub i hi
 obtain ⟨b,hb1,hb2,hb3,hb4⟩:=q7 (f:=Fw.getD i []) (l:=Pq) (fun j=>(qL hok (i:=i) (t:=j)).1) ((Fw.getD i []).length - 1)
 rw [show (Fw.getD i []).length - 1+1=(Fw.getD i []).length by omega] at hb1 hb2 hb3
 rw [hb2] at e12
 have e23:∀ t,t < (Fw.getD i []).length→v23 ((Fw.getD i []).getD t []) Pq=some (qe ((Fw.getD i []).getD t []) Pq):=fun t ht=>jg hok hi ht
 have e21:v21 (Rq.getD i [])=some (qg (Rq.getD i [])):=jh hok i
 have hrl:=hok.rl
 unfold qA at h4
 rw [Bool.and_eq_true] at h4
 have hp:=List.all_eq_true.1 (List.all_eq_true.1 h4.2 i (List.mem_range.2 hi)) b (List.mem_range.2 hb1)
 have hp':1000000000000≤qe ((Fw.getD i []).getD b []) Pq*qg (Rq.getD i []):=of_decide_eq_true hp
 have hpb:=qL hok (i:=i) (t:=b)
 have hpb':0≤qe ((Fw.getD i []).getD b []) Pq∧qe ((Fw.getD i []).getD b []) Pq≤20*1000000000000:=hpb
 have hxb:=qP hok i
 generalize hP:qe ((Fw.getD i []).getD b []) Pq=p at*
 have hl0:Lah FU (i:Int) true (b:Int) p 0 Cq Fw Rq Pq gap=some true:=by
  refine qz (m:=(Fw.getD i []).length) (by omega) (fun n j (s:Bool)=>Lah n (i:Int) s (b:Int) p j Cq Fw Rq Pq gap) (fun _=>true) true (fun n t ht=>?_) fun n=>?_
  ·show Lah (n+1) _ _ _ _ _ _ _ _ _ _=Lah n _ _ _ _ _ _ _ _ _ _
   rw [qLah,qf (show (0:Int)≤(i:Int) by omega),qf (show (i:Int) < (Fw.length:Int) by omega)]
   simp only [tN]
   rw [qf (show (t:Int) < ((Fw.getD i []).length:Int) by omega),qf (show (0:Int)≤(t:Int) by omega),e23 t ht,up1 (by omega)]
   have e100:LaZ (i:Int) true (b:Int) p (t:Int) (qe ((Fw.getD i []).getD t []) Pq) Cq Fw Rq Pq gap=some true:=by
    unfold LaZ
    rw [cond_true,qf (show qe ((Fw.getD i []).getD t []) Pq≥p from hb3 t ht)]
    by_cases c:(t:Int)≥(b:Int)
    ·rw [qf c]
    ·rw [qj c,dT (show qe ((Fw.getD i []).getD t []) Pq > p from hb4 t (by omega))]
   simp only [qh,qi,cond_true,e100]
  ·show Lah (n+1) _ _ _ _ _ _ _ _ _ _=_
   rw [qLah,qf (show (0:Int)≤(i:Int) by omega),qf (show (i:Int) < (Fw.length:Int) by omega)]
   simp only [tN]
   rw [qj (show ¬ ((Fw.getD i []).length:Int) < ((Fw.getD i []).length:Int) by omega)]
 have hx1:1≤qg (Rq.getD i []):=by
  apply Int.le_of_not_gt
  intro h0
  have:qg (Rq.getD i [])=0:=by omega
  rw [this,Int.mul_zero] at hp'
  omega
 generalize hX:qg (Rq.getD i [])=x at*
 have hc:=jc (p:=x) (c:=1000000000000) (by omega) (by omega)
 have hge:¬ p < Int.tdiv (1000000000000+x - 1) x:=fun h=>by
  have:=(qV (p:=x) (x:=p) (c:=1000000000000) (by omega) (by omega) (by omega)).1 h
  rw [Int.mul_comm] at this
  omega
 have w1:wI (1000000000000+x)=1000000000000+x:=ql (by omega) (by omega)
 have w2:wI (1000000000000+x - 1)=1000000000000+x - 1:=ql (by omega) (by omega)
 have w3:wI (Int.tdiv (1000000000000+x - 1) x)=Int.tdiv (1000000000000+x - 1) x:=ql (by omega) (by omega)
 have e44:Lbc (i:Int) true Cq Fw Rq Pq gap=some true:=by
  have e12':v12 Cq Fw Pq (i:Int)=some ((b:Int),p,(0:Int)):=e12
  unfold Lbc
  rw [e12',qh,cond_true]
  show cond ((0:Int) != 0) (some false) (cond (decide ((b:Int) < 0)) (some false) (cond (decide ((0:Int)≤(i:Int))) (cond (decide ((i:Int) < (Fw.length:Int))) (cond (decide ((b:Int)≥((Fw.getD i []).length:Int))) (some false)
   (cond (decide ((0:Int)≤(b:Int))) (cond (decide ((b:Int) < ((Fw.getD i []).length:Int))) (cond (ok (v23 ((Fw.getD i []).getD b []) Pq)) (cond (p != val (v23 ((Fw.getD i []).getD b []) Pq)) (some false)
   (cond (ok (Lah FU (i:Int) true (b:Int) p 0 Cq Fw Rq Pq gap)) (cond (decide ((i:Int) < (Rq.length:Int))) (cond (ok (v21 (Rq.getD i []))) (cond (val (Lah FU (i:Int) true (b:Int) p 0 Cq Fw Rq Pq gap)) (cond (decide (val (v21 (Rq.getD i []))≥1)) (cond (decide (val (v21 (Rq.getD i []))≠0))
   (some (decide (p≥wI (Int.tdiv (wI (wI (1000000000000+val (v21 (Rq.getD i []))) - 1)) (val (v21 (Rq.getD i []))))))) none) (some false)) (some false)) none) none) none)) none) none) none)) none) none))=some true
  rw [e23 b hb1,hP,hl0,e21]
  rw [show ((0:Int) != 0)=false from rfl,cond_false,qj (show ¬ (b:Int) < 0 by omega),qf (show (0:Int)≤(i:Int) by omega),qf (show (i:Int) < (Fw.length:Int) by omega),
   qj (show ¬ (b:Int)≥((Fw.getD i []).length:Int) by omega),qf (show (0:Int)≤(b:Int) by omega),qf (show (b:Int) < ((Fw.getD i []).length:Int) by omega)]
  show cond (p != p) (some false) (cond (decide ((i:Int) < (Rq.length:Int))) (cond (decide (x≥1)) (cond (decide (x≠0)) (some (decide (p≥wI (Int.tdiv (wI (wI (1000000000000+x) - 1)) x)))) none) (some false)) none)=some true
  rw [show (p != p)=false from by simp,cond_false,qf (show (i:Int) < (Rq.length:Int) by omega),qf (show x≥1 from hx1),qf (show x≠0 by omega),w1,w2,w3,dT (show p≥Int.tdiv (1000000000000+x - 1) x by omega)]
 rw [e44]
 rfl
end Go.Proofs.Ytpfphfobneehmaa
set_option maxRecDepth 100000
namespace Go.Proofs.Ytpfphfobneehmaa
open Go Go.ChangeShapes Go.WideShapes Go.ChangeAt Go.RowKit Go.AM Go.TM
theorem own0:ownKnob Try.prog.godebug=none:=by kernel_rfl
theorem laid0:laidOutB Try.prog=true:=by kernel_rfl
abbrev taus:List Ty:=[.pair (.list 3 (.int .i64)) (.list 31 (.list 22 (.list 3 (.int .i64)))),.pair (.list 22 (.list 3 (.int .i64))) (.pair (.list 3 (.int .i64)) (.int .i64)),.int .i64]
theorem args0 (x:(List Int×List (List (List Int)))×(List (List Int)×List Int×Int)×Int×Unit):Vg Try.prog Try.f7.params.toList taus x=[.agg [.d 3 (.int .i64) x.1.1,.d 31 (.list 22 (.list 3 (.int .i64))) x.1.2],.agg [.d 22 (.list 3 (.int .i64)) x.2.1.1,.d 3 (.int .i64) x.2.1.2.1,.int .i64 x.2.1.2.2],.sc (.int .i64 x.2.2.1)]:=by
 kernel_rfl
theorem law_run:∀ x:Tup taus,InTup taus x→∃ k H',TM.evF Try.prog (zd base o190 t193) dOk k 7 (Vg Try.prog Try.f7.params.toList taus x) []=some ([.sc (.bool true)],H'):=by
 intro x hx
 have e:=args0 x
 rw [e]
 refine ⟨41,[],?_⟩
 rw [zy (by kernel_rfl),ev7,v7_true _ _ _ _ _ _]
 rfl
theorem jd (os:Os) (started:os.Started) (H:Type) (enc:TypeId×Value→H) :
  ReturnsInHanded {} Try.checked os 7 .any (Rows.multiCheapestSpec.pre6 enc Try.prog Try.f7 Rows.multiCheapestRow.domain false) (Rows.multiCheapestSpec.post enc Try.prog Try.f7 false true false false):=
 law_tm (C:=Try.checked) (τs:=taus) (tb:=4) (base:=base) (O:=o190) (T:=t193) own0 started (by kernel_rfl) Try.func7
  (ChangeSpec.witness6 (enc:=enc) (C:=Try.checked) false ⟨#[],#[.agg #[.slice none 0 0,.slice none 0 0],.agg #[.slice none 0 0,.slice none 0 0,.int .i64 0],.int .i64 0],[]⟩ 8 (by kernel_rfl) (by kernel_rfl) (by kernel_rfl) (by kernel_rfl))
  laid0 (by kernel_rfl) (by kernel_rfl) rfl (by kernel_rfl) names mixed ok193 (by kernel_rfl) (by kernel_rfl)
  (fun ds h=>by
   match ds,h with
   | [_,_,_],_=>rfl)
  law_run
theorem multiCheapest_holds:Rows.MultiCheapestSaid:=
 OpenClaim.holds_of_wide 7 Try.f7 rfl rfl rfl rfl rfl rfl rfl ⟨rfl,rfl,rfl,rfl,rfl⟩ rfl rfl rfl rfl rfl (by kernel_rfl) Try.func7 (by kernel_rfl)
  (of_decide_eq_true (by kernel_rfl)) (by unfold Func.isWrapper;first | (rw [if_pos (by decide +kernel)];kernel_rfl) | (rw [if_neg (by decide +kernel)];exact ⟨rfl,rfl⟩))
  (fun os started H enc _=>jd os started H enc)
end Go.Proofs.Ytpfphfobneehmaa
